import Derived.Test.YtaafkokfdgfabaaGreatP35
import Derived.Test.YtaafkokfdgfabaaGreatP36
import Derived.Test.YtaafkokfdgfabaaGreatP40
import Derived.Test.YtaafkokfdgfabaaGreatP42
set_option maxHeartbeats 8000000
set_option maxRecDepth 100000
set_option linter.unusedVariables false
set_option linter.unusedSimpArgs false
open Bool renaming not_true→Iy,not_false→IB
open List renaming mem_of_mem_take→IE,length_append→IH,length_take→II
open Nat renaming reduceAdd→qq,le_refl→IC
namespace Go.Proofs.YtaafkokfdgfabaaGreat
open Go.RowKit
open Lib (hid)
open Act renaming put→Iz
open BS renaming of_own→IG
open On renaming call→IJ,val→IP
open Sd renaming done→ID,start→IF,plain→IM
open Tryz renaming prog→IA
open Value renaming slice→IN
open Wh renaming start→IK,done→IL
theorem sR(a:aU):bz a a=true:=by simp[bz]
theorem pB{α:Type}{f:α→α→Bool}(h:∀a,f a a=true):∀l:List α,tK f l l=true
 |[]=>rfl
 |a::l=>by rw[tK,h,pB h l];rfl
theorem xr:∀l:List dI,tK ip (l.map i9) l=true
 |[]=>rfl
 |e::l=>by rw[List.map_cons,tK,By,xr l];rfl
theorem sS(f:bf):nO f f=true:=by simp[nO]
theorem xt(f:dE):jT f f=true:=by simp[jT,fD]
theorem sU(h:dq):gR h h=true:=by simp[gR]
theorem xu(s:bA):mu s s=true:=by
 simp[mu,oC,pB sR,pB sU,pB xt]
theorem xv(s:cE)(es:List dI):iZ { s with evs:=es.map i9 } { s with evs:=es }=true:=by
 simp[iZ,sS,xu,xr]
theorem GP{s:cE}(hs:bV s)(h:iL s=true)(hn:s.evs.length≤50):(cg s).length≤11004100:=by
 obtain⟨hb,he⟩:=nD hs h;have h1:=mQ hs hb;have h2:∀l:List dI,(∀e∈l,aP e∧aG e=true)→(l.flatMap cA).length≤l.length*200020:=by
  intro l hl;induction l with
  |nil=>simp
  |cons e l ih =>
   have:=lK (hl e (by simp)).1 (hl e (by simp)).2;have:=ih fun x hx=>hl x (by simp[hx])
   rw[List.flatMap_cons,IH,List.length_cons];omega
 have h3:=h2 _ he;unfold cg;rw[IH];omega
section
variable {w:World} {x y:jY} {xs ys:List (ek×dI)} {s t:cE}
theorem AC(h:fk w w.heap.size x xs s)(hv:iL s=false):Calls IA 11 #[.agg (av x s).toArray] w fun e w'=>e=.returned (.tuple #[.slice none 0 0,.int .i64 1])∧Below w.heap.size w w' :=
 (mr h).mono fun e w' he=>⟨he.2.1 hv,he.1⟩
theorem xB(h:fk w w.heap.size x xs s)(hv:iL s=true)(P:List UInt8)(hP:P=cg s)(n:Nat)(hn:n=P.length):Calls IA 11 #[.agg (av x s).toArray] w fun e w'=>∃A c,e=.returned (.tuple #[.slice A n c,.int .i64 0])∧BS w' w'.heap.size A P∧n≤c∧Below w.heap.size w w':=by
 subst hn hP;exact (mr h).mono fun e w' he=>mR he hv
theorem tP(h:fk w w.heap.size x xs s)(hv:fE s=true)(P:List UInt8)(hP:P=dB s)(n:Nat)(hn:n=P.length):Calls IA 12 #[.agg (av x s).toArray] w fun e w'=>∃A c,e=.returned (.tuple #[.slice A n c,.int .i64 0])∧BS w' w'.heap.size A P∧n≤c∧Below w.heap.size w w':=by
 subst hn hP;exact (kU h).mono fun e w' he=>mR he hv
theorem Ih(hx:fk w w.heap.size x xs s)(hy:fk w w.heap.size y ys t)(h:iZ s t=true):Calls IA 19 #[.agg (av x s).toArray,.agg (av y t).toArray] w fun e w'=>e=.returned (.bool true)∧Below w.heap.size w w':=by
 have:=nX hx hy;rwa [h] at this
theorem fk.take{B:Nat}(h:fk w B x xs s)(k:Nat)(hk:k≤s.evs.length):fk w B x (xs.take k) { s with evs:=s.evs.take k } where
 vs:=h.vs
 cv:=h.cv
 st:=h.st
 sh:=⟨h.sh.conf,h.sh.st,fun e he=>h.sh.evs e (IE he)⟩
 ev:=by show s.evs.take k=_;rw[h.ev,List.map_take]
 evs:=h.evs.take k
 ce:=⟨by show (s.evs.take k).length≤_;have:=h.ce.1;rw[II];omega,by show (s.evs.take k).length≤_;have:=h.ce.2;rw[II];omega⟩
 fr:=fun p hp=>h.fr p (IE hp)
end
theorem EH{x:jY}{xs:List (ek×dI)}{s:cE}{w:World}(h:fk w w.heap.size x xs s)(hv:fE s=false):Calls IA 12 #[.agg (av x s).toArray] w fun e w'=>e=.returned (.tuple #[.slice none 0 0,.int .i64 1])∧Below w.heap.size w w' :=
 (kU h).mono fun e w' he=>⟨he.2.1 hv,he.1⟩
theorem u6(w:World)(x:jY)(xs:List (ek×dI))(s:cE)(h0:jL w w.heap.size x xs s) :
  Calls IA 3 #[.agg (av x s).toArray] w fun e w'=>e=.returned (.bool true)∧Below w.heap.size w w':=by
 obtain⟨W,hW⟩:∃W,W=w.alloc (.cells (av x s).toArray 40):=⟨_,rfl⟩;have HX:Hid (aj W w.heap.size 40 (av x s).toArray):=by rw[hW];exact aj.new w _ _ _ rfl
 have HB:Hid (Below w.heap.size w W):=by rw[hW];exact (Below.refl _ _).alloc (IC _) _
 have HR:=hid (h0.on HB.out);have l0:w.heap.size<W.heap.size:=HX.out.lt;have Hsz:=hid (fp (x:=x) h0.sh);have HW:=hid hW;clear hW h0;go_enter Tryz.func3,Tryz.ntmps3
 go_upto_region 1 with fail
 rw[←HW.out];clear HW;refine IM ?_
 repeat ((first|refine po ?_|refine cl (fun u hu=>nF u) ?_|refine sl (ag HX.out) l0 aH Hsz.out ?_|refine cl (fun u hu=>qe (HR.out.on hu)) ?_|refine pt ?_);simp only[ld,lg,lf,qq,Iy,Bool.false_or])
 refine ID fun w1 hb1=>?_
 replace HB:=hid (HB.out.trans (hb1.mono HB.out.size));replace HX:=hid (HX.out.below hb1 l0);replace HR:=hid (HR.out.on hb1);clear hb1 l0;rcases hf:qv s with _|_
 ·simp only[hf,IB]
  clear hf
  go_wp2_with fail
  refine (nF w1).mono ?_;rintro e w2 ⟨rfl,B⟩;replace HB:=hid (HB.out.trans (B.mono HB.out.size));clear B
  go_wp2
  go_ret
  exact⟨rfl,HB.out⟩
 simp only[hf,Iy];obtain⟨hin,hn,_⟩:=HR.out.few hf;have H1:Hid (Bx w1 w.heap.size x xs s):=⟨HX.out,hin⟩;have Hn:=hid hn;have Hsh:=hid hin.sh;clear hf hin hn HX HR;have R1:=hid (ag H1.out.1);have hb:fE s=true→fE s=true:=id;rcases hbv:fE s with _|_
 ·have hv:iL s=false:=by unfold iL;rw[hbv,Bool.and_false]
  have Hv:=hid hv;have Hb:=hid hbv;clear hv hbv hb
  go_wp2_with ((with_reducible refine aB 40 ?_);refine aa (by rfl) 40 (.tmp 1) rfl w.heap.size 0 rfl (av x s) _ R1.out aH rfl Hsz.out ?_)
  refine (AC H1.out.2 Hv.out).mono ?_;rintro e w2 ⟨rfl,B⟩;replace HB:=hid (HB.out.trans (B.mono HB.out.size));replace H1:=hid (H1.out.on B);clear B R1;have R1:=hid (ag H1.out.1)
  go_wp2_with ((with_reducible refine aB 40 ?_);refine aa (by rfl) 40 (.tmp 1) rfl w.heap.size 0 rfl (av x s) _ R1.out aH rfl Hsz.out ?_)
  refine (EH H1.out.2 Hb.out).mono ?_;rintro e w3 ⟨rfl,B⟩;replace HB:=hid (HB.out.trans (B.mono HB.out.size));replace H1:=hid (H1.out.on B);clear B R1;have R1:=hid (ag H1.out.1);have l1:w.heap.size<w3.heap.size:=H1.out.1.lt;have hv:=Hv.out;have hb:=Hb.out;go_upto_region 5 with fail
  refine IF ?_
  try simp only[Iz]
  repeat ((first|refine sk ?_|refine sl R1.out l1 aH Hsz.out ?_|refine gs R1.out l1 aH Hsz.out ?_|refine cl (fun u hu=>iY (H1.out.on hu).2) ?_|refine cl (fun u hu=>kA (H1.out.on hu).2) ?_|refine gc (fun u hu=>kA (H1.out.on hu).2) ?_|refine gc (fun u hu=>nH (H1.out.on hu).2) ?_|refine pt ?_|refine gp ?_);simp only[ld,lg,lf,qq,hv,hb,bne_self_eq_false])
  refine ID fun w4 hb4=>?_
  replace HB:=hid (HB.out.trans (hb4.mono HB.out.size));replace H1:=hid (H1.out.on hb4);clear hb4 hv hb R1 l1;go_upto_region 7 with fail
  refine IF ?_
  try simp only[Iz]
  repeat ((first|refine sk ?_|refine pt ?_|refine gp ?_);simp only[ld,lg,lf,qq])
  refine ID fun wq hbq=>?_
  replace HB:=hid (HB.out.trans (hbq.mono HB.out.size));replace H1:=hid (H1.out.on hbq);clear hbq;go_upto_region 9 with fail
  refine IF ?_
  try simp only[Iz]
  repeat ((first|refine sk ?_|refine pt ?_|refine gp ?_);simp only[ld,lg,lf,qq])
  refine ID fun wq hbq=>?_
  replace HB:=hid (HB.out.trans (hbq.mono HB.out.size));replace H1:=hid (H1.out.on hbq);clear hbq
  go_wp2
  go_ret
  exact⟨rfl,HB.out⟩
 have Hb:=hid hbv;obtain⟨H,hH⟩:∃P,P=dB s:=⟨_,rfl⟩;obtain⟨nh,hnh⟩:∃n,n=H.length:=⟨_,rfl⟩;have HH:=hid hH;have HNh:=hid hnh;clear hH hnh hbv hb;rcases hv:iL s with _|_
 ·have Hv:=hid hv
  clear hv
  go_wp2_with ((with_reducible refine aB 40 ?_);refine aa (by rfl) 40 (.tmp 1) rfl w.heap.size 0 rfl (av x s) _ R1.out aH rfl Hsz.out ?_)
  refine (AC H1.out.2 Hv.out).mono ?_;rintro e w2 ⟨rfl,B⟩;replace HB:=hid (HB.out.trans (B.mono HB.out.size));replace H1:=hid (H1.out.on B);clear B R1;have R1:=hid (ag H1.out.1)
  go_wp2_with ((with_reducible refine aB 40 ?_);refine aa (by rfl) 40 (.tmp 1) rfl w.heap.size 0 rfl (av x s) _ R1.out aH rfl Hsz.out ?_)
  refine (tP H1.out.2 Hb.out H HH.out nh HNh.out).mono ?_;rintro e w3 ⟨A3,c3,rfl,hbs,hc3,B⟩;replace HB:=hid (HB.out.trans (B.mono HB.out.size));replace H1:=hid (H1.out.on B);have HH2:=hid hbs;clear B R1 hbs;have R1:=hid (ag H1.out.1);have l1:w.heap.size<w3.heap.size:=H1.out.1.lt;have hv:=Hv.out;have hb:=Hb.out;go_upto_region 5 with fail
  refine IF ?_
  try simp only[Iz]
  repeat ((first|refine sk ?_|refine sl R1.out l1 aH Hsz.out ?_|refine gs R1.out l1 aH Hsz.out ?_|refine cl (fun u hu=>iY (H1.out.on hu).2) ?_|refine cl (fun u hu=>kA (H1.out.on hu).2) ?_|refine gc (fun u hu=>kA (H1.out.on hu).2) ?_|refine gc (fun u hu=>nH (H1.out.on hu).2) ?_|refine pt ?_|refine gp ?_);simp only[ld,lg,lf,qq,hv,hb,bne_self_eq_false])
  refine ID fun w4 hb4=>?_
  replace HB:=hid (HB.out.trans (hb4.mono HB.out.size));replace HH2:=hid (HH2.out.on hb4);replace H1:=hid (H1.out.on hb4);clear hb4 hv hb R1 l1;go_upto_region 7 with fail
  refine IF ?_
  try simp only[Iz]
  repeat ((first|refine sk ?_|refine pt ?_|refine gp ?_);simp only[ld,lg,lf,qq])
  refine ID fun wq hbq=>?_
  replace HB:=hid (HB.out.trans (hbq.mono HB.out.size));replace H1:=hid (H1.out.on hbq);replace HH2:=hid (HH2.out.on hbq);clear hbq;go_upto_region 9 with fail
  refine IK fun hH=>?_
  try simp only[Iz]
  have hH:=hH.out;refine tw 0 hH ?_;simp only[ld,lg,lf];refine tw 1 hH ?_;simp only[ld,lg,lf];refine tw 2 hH ?_;simp only[ld,lg,lf];refine tw 3 hH ?_;simp only[ld,lg,lf];refine lw 4 hH (.inl ⟨rfl,fun u hu=>ig rfl rfl (HH2.out.below hu.out) HNh.out⟩) ?_;simp only[ld,lg,lf];refine lw 5 hH (yieldsIf_load_mid rfl _ _ rfl w.heap.size 0 rfl (av x s) _ (fun w' hS i c hc=>(bg hS _ _ H1.out.1.lt).trans (ag H1.out.1 i c hc)) aH rfl Hsz.out) ?_;simp only[ld,lg,lf];refine one 6 (IJ (qi (H1.out.on hH).2 Hb.out) ?_);rintro e wq ⟨Aq,cq,rfl,hownq,hbq⟩;have hHq:=hH.trans (hbq.mono hH.size);rw[←HH.out] at hownq ⊢;refine⟨_,rfl,hHq,?_⟩;simp only[ld,lg,lf];refine one 7 (IP (w':=wq) (fun u hu=>by rw[hu];exact hHq) (fun _=>?_) (hrun:=ig rfl rfl (IG hownq).1 rfl));simp only[ld,lg,lf];clear hownq
  (first|refine tw 8 hHq ?_|refine nw 8 hHq ?_)
  simp only[ld,lg,lf]
  (first|refine tw 9 hHq ?_|refine nw 9 hHq ?_)
  simp only[ld,lg,lf]
  (first|refine tw 10 hHq ?_|refine nw 10 hHq ?_)
  simp only[ld,lg,lf]
  (first|refine tw 11 hHq ?_|refine nw 11 hHq ?_)
  simp only[ld,lg,lf]
  (first|refine tw 12 hHq ?_|refine nw 12 hHq ?_)
  simp only[ld,lg,lf]
  (first|refine tw 13 hHq ?_|refine nw 13 hHq ?_)
  simp only[ld,lg,lf]
  (first|refine tw 14 hHq ?_|refine nw 14 hHq ?_)
  simp only[ld,lg,lf]
  (first|refine tw 15 hHq ?_|refine nw 15 hHq ?_)
  simp only[ld,lg,lf]
  (first|refine tw 16 hHq ?_|refine nw 16 hHq ?_)
  simp only[ld,lg,lf]
  (first|refine tw 17 hHq ?_|refine nw 17 hHq ?_)
  simp only[ld,lg,lf]
  (first|refine tw 18 hHq ?_|refine nw 18 hHq ?_)
  simp only[ld,lg,lf]
  (first|refine tw 19 hHq ?_|refine nw 19 hHq ?_)
  simp only[ld,lg,lf]
  (first|refine tw 20 hHq ?_|refine nw 20 hHq ?_)
  simp only[ld,lg,lf]
  (first|refine tw 21 hHq ?_|refine nw 21 hHq ?_)
  simp only[ld,lg,lf]
  (first|refine tw 22 hHq ?_|refine nw 22 hHq ?_)
  simp only[ld,lg,lf];refine IL ?_;replace HB:=hid (HB.out.trans (hHq.mono HB.out.size));replace H1:=hid (H1.out.on hHq);clear hH hHq hbq
  go_wp2
  go_ret
  exact⟨rfl,HB.out⟩
 have Hv:=hid hv;obtain⟨P,hP⟩:∃P,P=cg s:=⟨_,rfl⟩;obtain⟨n,hn⟩:∃n,n=P.length:=⟨_,rfl⟩;have HP:=hid hP;have HN:=hid hn;clear hv hP hn
 go_wp2_with ((with_reducible refine aB 40 ?_);refine aa (by rfl) 40 (.tmp 1) rfl w.heap.size 0 rfl (av x s) _ R1.out aH rfl Hsz.out ?_)
 refine (xB H1.out.2 Hv.out P HP.out n HN.out).mono ?_;rintro e w2 ⟨A2,c2,rfl,hbs,hc2,B⟩;replace HB:=hid (HB.out.trans (B.mono HB.out.size));replace H1:=hid (H1.out.on B);have HP2:=hid hbs;clear B R1 hbs;have R1:=hid (ag H1.out.1)
 go_wp2_with ((with_reducible refine aB 40 ?_);refine aa (by rfl) 40 (.tmp 1) rfl w.heap.size 0 rfl (av x s) _ R1.out aH rfl Hsz.out ?_)
 refine (tP H1.out.2 Hb.out H HH.out nh HNh.out).mono ?_;rintro e w3 ⟨A3,c3,rfl,hbs,hc3,B⟩;replace HB:=hid (HB.out.trans (B.mono HB.out.size));replace H1:=hid (H1.out.on B);have HH2:=hid hbs;replace HP2:=hid (HP2.out.on B);clear B R1 hbs;have R1:=hid (ag H1.out.1);have l1:w.heap.size<w3.heap.size:=H1.out.1.lt;have hv:=Hv.out;have hb:=Hb.out;go_upto_region 5 with fail
 refine IF ?_
 try simp only[Iz]
 repeat ((first|refine sk ?_|refine sl R1.out l1 aH Hsz.out ?_|refine gs R1.out l1 aH Hsz.out ?_|refine cl (fun u hu=>iY (H1.out.on hu).2) ?_|refine cl (fun u hu=>kA (H1.out.on hu).2) ?_|refine gc (fun u hu=>kA (H1.out.on hu).2) ?_|refine gc (fun u hu=>nH (H1.out.on hu).2) ?_|refine pt ?_|refine gp ?_);simp only[ld,lg,lf,qq,hv,hb,bne_self_eq_false])
 refine ID fun w4 hb4=>?_
 replace HB:=hid (HB.out.trans (hb4.mono HB.out.size));replace HH2:=hid (HH2.out.on hb4);replace HP2:=hid (HP2.out.on hb4);replace H1:=hid (H1.out.on hb4);clear hb4 hv hb R1 l1;go_upto_region 7 with fail
 refine IK fun hH=>?_
 try simp only[Iz]
 have hH:=hH.out;refine tw 0 hH ?_;simp only[ld,lg,lf];refine tw 1 hH ?_;simp only[ld,lg,lf];refine tw 2 hH ?_;simp only[ld,lg,lf];refine tw 3 hH ?_;simp only[ld,lg,lf];refine lw 4 hH (.inl ⟨rfl,fun u hu=>ig rfl rfl (HP2.out.below hu.out) HN.out⟩) ?_;simp only[ld,lg,lf];refine lw 5 hH (yieldsIf_load_mid rfl _ _ rfl w.heap.size 0 rfl (av x s) _ (fun w' hS i c hc=>(bg hS _ _ H1.out.1.lt).trans (ag H1.out.1 i c hc)) aH rfl Hsz.out) ?_;simp only[ld,lg,lf];refine one 6 (IJ (sD (H1.out.on hH).2 Hv.out) ?_);rintro e wq ⟨Aq,cq,rfl,hownq,hbq⟩;have hHq:=hH.trans (hbq.mono hH.size);rw[←HP.out] at hownq ⊢;refine⟨_,rfl,hHq,?_⟩;simp only[ld,lg,lf];refine one 7 (IP (w':=wq) (fun u hu=>by rw[hu];exact hHq) (fun _=>?_) (hrun:=ig rfl rfl (IG hownq).1 rfl));simp only[ld,lg,lf];clear hownq
 (first|refine tw 8 hHq ?_|refine nw 8 hHq ?_)
 simp only[ld,lg,lf]
 (first|refine tw 9 hHq ?_|refine nw 9 hHq ?_)
 simp only[ld,lg,lf]
 (first|refine tw 10 hHq ?_|refine nw 10 hHq ?_)
 simp only[ld,lg,lf]
 (first|refine tw 11 hHq ?_|refine nw 11 hHq ?_)
 simp only[ld,lg,lf]
 (first|refine tw 12 hHq ?_|refine nw 12 hHq ?_)
 simp only[ld,lg,lf]
 (first|refine tw 13 hHq ?_|refine nw 13 hHq ?_)
 simp only[ld,lg,lf]
 (first|refine tw 14 hHq ?_|refine nw 14 hHq ?_)
 simp only[ld,lg,lf]
 (first|refine tw 15 hHq ?_|refine nw 15 hHq ?_)
 simp only[ld,lg,lf]
 (first|refine tw 16 hHq ?_|refine nw 16 hHq ?_)
 simp only[ld,lg,lf]
 (first|refine tw 17 hHq ?_|refine nw 17 hHq ?_)
 simp only[ld,lg,lf]
 (first|refine tw 18 hHq ?_|refine nw 18 hHq ?_)
 simp only[ld,lg,lf]
 (first|refine tw 19 hHq ?_|refine nw 19 hHq ?_)
 simp only[ld,lg,lf]
 (first|refine tw 20 hHq ?_|refine nw 20 hHq ?_)
 simp only[ld,lg,lf]
 (first|refine tw 21 hHq ?_|refine nw 21 hHq ?_)
 simp only[ld,lg,lf]
 (first|refine tw 22 hHq ?_|refine nw 22 hHq ?_)
 simp only[ld,lg,lf];refine IL ?_;replace HB:=hid (HB.out.trans (hHq.mono HB.out.size));replace H1:=hid (H1.out.on hHq);have HQ:=hid hHq;clear hH hHq hbq;replace HH2:=hid (HH2.out.on HQ.out);clear HQ;go_upto_region 9 with fail
 refine IK fun hH=>?_
 try simp only[Iz]
 have hH:=hH.out;refine tw 0 hH ?_;simp only[ld,lg,lf];refine tw 1 hH ?_;simp only[ld,lg,lf];refine tw 2 hH ?_;simp only[ld,lg,lf];refine tw 3 hH ?_;simp only[ld,lg,lf];refine lw 4 hH (.inl ⟨rfl,fun u hu=>ig rfl rfl (HH2.out.below hu.out) HNh.out⟩) ?_;simp only[ld,lg,lf];refine lw 5 hH (yieldsIf_load_mid rfl _ _ rfl w.heap.size 0 rfl (av x s) _ (fun w' hS i c hc=>(bg hS _ _ H1.out.1.lt).trans (ag H1.out.1 i c hc)) aH rfl Hsz.out) ?_;simp only[ld,lg,lf];refine one 6 (IJ (qi (H1.out.on hH).2 Hb.out) ?_);rintro e wq ⟨Aq,cq,rfl,hownq,hbq⟩;have hHq:=hH.trans (hbq.mono hH.size);rw[←HH.out] at hownq ⊢;refine⟨_,rfl,hHq,?_⟩;simp only[ld,lg,lf];refine one 7 (IP (w':=wq) (fun u hu=>by rw[hu];exact hHq) (fun _=>?_) (hrun:=ig rfl rfl (IG hownq).1 rfl));simp only[ld,lg,lf];clear hownq
 (first|refine tw 8 hHq ?_|refine nw 8 hHq ?_)
 simp only[ld,lg,lf]
 (first|refine tw 9 hHq ?_|refine nw 9 hHq ?_)
 simp only[ld,lg,lf]
 (first|refine tw 10 hHq ?_|refine nw 10 hHq ?_)
 simp only[ld,lg,lf]
 (first|refine tw 11 hHq ?_|refine nw 11 hHq ?_)
 simp only[ld,lg,lf]
 (first|refine tw 12 hHq ?_|refine nw 12 hHq ?_)
 simp only[ld,lg,lf]
 (first|refine tw 13 hHq ?_|refine nw 13 hHq ?_)
 simp only[ld,lg,lf]
 (first|refine tw 14 hHq ?_|refine nw 14 hHq ?_)
 simp only[ld,lg,lf]
 (first|refine tw 15 hHq ?_|refine nw 15 hHq ?_)
 simp only[ld,lg,lf]
 (first|refine tw 16 hHq ?_|refine nw 16 hHq ?_)
 simp only[ld,lg,lf]
 (first|refine tw 17 hHq ?_|refine nw 17 hHq ?_)
 simp only[ld,lg,lf]
 (first|refine tw 18 hHq ?_|refine nw 18 hHq ?_)
 simp only[ld,lg,lf]
 (first|refine tw 19 hHq ?_|refine nw 19 hHq ?_)
 simp only[ld,lg,lf]
 (first|refine tw 20 hHq ?_|refine nw 20 hHq ?_)
 simp only[ld,lg,lf]
 (first|refine tw 21 hHq ?_|refine nw 21 hHq ?_)
 simp only[ld,lg,lf]
 (first|refine tw 22 hHq ?_|refine nw 22 hHq ?_)
 simp only[ld,lg,lf];refine IL ?_;replace HB:=hid (HB.out.trans (hHq.mono HB.out.size));replace H1:=hid (H1.out.on hHq);clear hH hHq hbq
 go_wp2
 go_ret
 exact⟨rfl,HB.out⟩
theorem EI{w:World}{base:Nat}{A:Option Addr}{c:Nat}{l:List UInt8}(h:w.ownsRow base 5 1 (.slice A l.length c) l.length (ab l)){k:Nat}(hk:k<l.length)(x:UInt8) :
  ∃g,A=some ⟨g,0,none⟩∧base≤g∧g<w.heap.size∧w.cell? ⟨g,k,none⟩=some (.int .u8 (l[k].toNat:Int))∧w.frozen? ⟨g,k,none⟩=false∧(w.setCell ⟨g,k,none⟩ (.int .u8 (x.toNat:Int))).ownsRow base 5 1 (.slice A (l.set k x).length c) (l.set k x).length (ab (l.set k x)):=by
 obtain⟨g,cap,hv,h2,h3⟩:=h.form (by omega);injection hv with hA hn hc
 subst hA hc;have hcell:=h.cellAt (g:=g) k (by omega);refine⟨g,rfl,h2,h3,?_,h.frozenAt k,?_⟩
 ·rw[hcell,ab,List.getElem?_map,List.getElem?_eq_getElem hk];rfl
 ·have:=(h.stored k (.int .u8 (x.toNat:Int))).1
  rw[List.length_set,show ab (l.set k x)=(ab l).set k (.int .u8 (x.toNat:Int)) by simp[ab,mD,List.map_set]];exact this
theorem eC.apart{w w':World}{base:Nat}{x:jY}{xs:List (ek×dI)}{s:cE}(h:eC w base x xs s){v:Value}(hv:∀k,v.ownBlock=some k→k<base)(hg:w.grownBy w' v.ownBlock):eC w' base x xs s :=
 ⟨⟨jp h.vs.1 hv hg,h.vs.2⟩,h.vl,⟨jp h.st.b hv hg,jp h.st.h hv hg,jp h.st.f hv hg,h.st.ok,h.st.nb,h.st.nh,h.st.nf⟩,h.sh,h.ev,jp h.evs hv hg,h.el,fun p hp=>⟨jp (h.fr p hp).1 hv hg,(h.fr p hp).2⟩⟩
theorem sX(w:World)(x:jY)(xs:List (ek×dI))(s:cE)(h0:jL w w.heap.size x xs s) :
  Calls IA 8 #[.agg (av x s).toArray] w fun e w'=>e=.returned (.bool true)∧Below w.heap.size w w':=by
 obtain⟨i0,hi0,hz0,hz1,hz2⟩:=info_parts bB;obtain⟨W,hW⟩:∃W,W=w.alloc (.cells (av x s).toArray 40):=⟨_,rfl⟩;have HX:Hid (aj W w.heap.size 40 (av x s).toArray):=by rw[hW];exact aj.new w _ _ _ rfl
 have HB:Hid (Below w.heap.size w W):=by rw[hW];exact (Below.refl _ _).alloc (IC _) _
 have HR:=hid (h0.on HB.out);have l0:w.heap.size<W.heap.size:=HX.out.lt;have Hsz:=hid (fp (x:=x) h0.sh);have HW:=hid hW;clear hW h0;go_enter Tryz.func8,Tryz.ntmps8
 go_upto_region 1 with fail
 rw[←HW.out];clear HW;rcases hf:qv s with _|_
 ·refine IM ?_
  repeat ((first|refine sk ?_|refine cl (fun u hu=>nF u) ?_|refine sl (ag HX.out) l0 aH Hsz.out ?_|refine cl (fun u hu=>qe (HR.out.on hu)) ?_|refine pt ?_);simp only[ld,lg,lf,qq,Iy,IB,hf])
  refine ID fun w1 hb1=>?_
  replace HB:=hid (HB.out.trans (hb1.mono HB.out.size));clear hb1 hf
  go_wp2_with fail
  refine (nF w1).mono ?_;rintro e w2 ⟨rfl,B⟩;replace HB:=hid (HB.out.trans (B.mono HB.out.size));clear B
  go_wp2
  go_ret
  exact⟨rfl,HB.out⟩
 obtain⟨hin,hn,_⟩:=HR.out.few hf;have HI:=hid hin;have Hn:=hid hn;have Hsh:=hid hin.sh;refine IM ?_
 repeat ((first|refine sk ?_|refine cl (fun u hu=>nF u) ?_|refine sl (ag HX.out) l0 aH Hsz.out ?_|refine cl (fun u hu=>qe (HR.out.on hu)) ?_|refine cl (fun u hu=>kA (HI.out.on hu)) ?_|refine pt ?_);simp only[ld,lg,lf,qq,Iy,IB,hf])
 refine ID fun w1 hb1=>?_
 replace HB:=hid (HB.out.trans (hb1.mono HB.out.size));have H1:Hid (Bx w1 w.heap.size x xs s):=⟨HX.out.below hb1 l0,hin.on hb1⟩;clear hb1 l0 hf hin hn HX HR HI;rcases hv:iL s with _|_
 ·simp only[hv,IB]
  clear hv
  go_wp2_with fail
  refine (nF w1).mono ?_;rintro e w2 ⟨rfl,B⟩;replace HB:=hid (HB.out.trans (B.mono HB.out.size));clear B
  go_wp2
  go_ret
  exact⟨rfl,HB.out⟩
 simp only[hv,Iy];have Hv:=hid hv;have hle:=GP Hsh.out hv Hn.out;obtain⟨P,hP⟩:∃P,P=cg s:=⟨_,rfl⟩;obtain⟨n,hn⟩:∃n,n=P.length:=⟨_,rfl⟩;obtain⟨S,hS⟩:∃S,S=uU s:=⟨_,rfl⟩;have Hr:Hid (bW P=(S,n,0)):=by show _=_;rw[hn,hP,hS];exact xo Hsh.out hv
 have HSs:Hid (bV S):=by rw[hS];exact⟨Hsh.out.conf,Hsh.out.st,fun e he=>by obtain⟨d,hd,rfl⟩:=List.mem_map.1 he;exact rM (Hsh.out.evs d hd)⟩
 have Heq:Hid (iZ S s=true):=by show _=_;rw[hS];exact xv s s.evs
 rw[←hP,←hn] at hle;have HP:=hid hP;have HN:=hid hn;have R1:=hid (ag H1.out.1);clear hv hP hn hS
 go_wp2_with ((with_reducible refine aB 40 ?_);refine aa (by rfl) 40 (.tmp 1) rfl w.heap.size 0 rfl (av x s) _ R1.out aH rfl Hsz.out ?_)
 refine (xB H1.out.2 Hv.out P HP.out n HN.out).mono ?_;rintro e w2 ⟨A2,c2,rfl,hbs,hc2,B⟩;replace HB:=hid (HB.out.trans (B.mono HB.out.size));replace H1:=hid (H1.out.on B);have HP2:=hid hbs;clear B R1 hbs;have hb2w:w.heap.size≤w2.heap.size:=HB.out.size;have hPl:P.length≤15000000:=by rw[←HN.out];omega
 go_upto_region 5 with (at_builtin;refine ae _ rfl _ _ 43 rfl w2.heap.size 5 i0 (.int .u8 0) 1 Tryz.underlying43 hi0 hz0 hz1 hz2 rfl (.slice (some ⟨w2.heap.size,0,none⟩) 0 0) [] rfl (rf w2 _ _ (IC _) _ rfl) w2.heap.size A2 n c2 P rfl HN.out (HP2.out.below ((Below.refl _ _).alloc (IC _) _)) (by simp;unfold maxLen;omega) (by simp;omega) (by simp) ?_;intro A3 c3 w3 hown hg _)
 have hb3:Below w2.heap.size w2 w3:=((Below.refl _ _).alloc (IC _) _).grown hg (by simp) (fun k hk=>by simp[Value.ownBlock] at hk;omega);have hown3:w3.ownsRow w2.heap.size 5 1 (.slice A3 n c3) n (ab P):=by rw[HN.out];simpa using hown
 have Ho3:=hid hown3;have HB3:=hid hb3
 try rw[List.nil_append]
 try rw[←HN.out]
 have hc3:n≤c3:=jb hown3;have HV3:=hid (IG hown3).1;have Hlt:=hid (fun k hk=>jS hown3 k hk);clear hown hg hb3 hown3 hPl
 go_wp2_with fail
 refine (qw A3 n c3 P w3 HN.out HV3.out (by omega) hc3).mono ?_;rintro e w4 ⟨hb4,x4,xs4,he,ho4⟩;rw[Hr.out] at he ho4;subst he;obtain⟨u5,v5,U5,V5,T5,L5,X5⟩:=xA w4 x4 S HSs.out;have H5:=hid (X5.out xs4 ho4.held);have HO5:=hid (ho4.below L5.out);have hz5:w2.heap.size≤w3.heap.size:=HB3.out.size;have hz6:w3.heap.size≤w4.heap.size:=hb4.size;have hb5:=hb4.trans (L5.out.mono hb4.size);have HB5:=hid (HB3.out.trans (hb5.mono hz5));replace Ho3:=hid (an Ho3.out hb5);clear ho4 hb4 hb5 X5 HV3 Hr HB3;go_upto_region 6 with (first
  |(rw[←U5.out];(with_reducible refine aR 40 ?_);refine wpList_store_mid rfl 40 (.tmp 6) (.tmp 34) rfl w4.heap.size 0 (av x4 S).toArray rfl rfl T5.out (pC HSs.out) (eJ _ _) ?_))
 rw[←V5.out];clear U5 V5 T5 L5
 go_wp2
 go_loopw [9] (fun i wr=>∃(k:Nat) (l:List UInt8),k≤n∧i=.int .i64 (k:Int)∧Hid (n=l.length)∧Hid (wr.ownsRow w2.heap.size 5 1 (.slice A3 n c3) n (ab l))∧Hid (v5.grownBy wr (IN A3 n c3).ownBlock)) (fun i _=>n-(intOf i).toNat)
 case atStart=>exact⟨0,P,by omega,rfl,HN,Ho3,World.grownBy.refl _ _⟩
 case round =>
  obtain⟨k,l,hk,rfl,hll,hO,hgr⟩:=hrel;rename World=>wr
  by_cases hlt:k<n
  ·have hltI:(k:Int)<(n:Int):=by omega
   have hk0:(0:Int)≤(k:Int):=by omega
   have hO1:=hO.out;rw[hll.out] at hO1;obtain⟨gm,hAm,hbg,hgl,hcell,hfz,hO'⟩:=EI hO1 (k:=k) (by rw[←hll.out];exact hlt) 0;rw[List.length_set,←hll.out] at hO';have hgr':v5.grownBy (wr.setCell ⟨gm,k,none⟩ (.int .u8 0)) (IN A3 n c3).ownBlock:=by
    have:=hgr.out;rw[hAm] at this ⊢;exact this.trans (a8 wr ⟨gm,k,none⟩ _)
   have HO9:Hid ((wr.setCell ⟨gm,k,none⟩ (.int .u8 0)).ownsRow w2.heap.size 5 1 (.slice A3 n c3) n (ab (l.set k 0))):=hO';have Hgr':=hid hgr';have Hll:Hid (n=(l.set k 0).length):=by show _=_;rw[List.length_set];exact hll.out
   obtain⟨z,hz⟩:∃z:Int,wr.cell? ⟨gm,k,none⟩=some (.int .u8 z):=⟨_,hcell⟩;clear hcell;clear hO' hgr' hO hgr hO1 hll;rw[hAm] at HO9 Hgr' ⊢
   go_wp2_with fail
   go_roundw
   case rel=>exact⟨k+1,_,by omega,by go_num,Hll,HO9,Hgr'⟩
   case measure=>simp[intOf];omega
  ·have hltI:¬(k:Int)<(n:Int):=by omega
   have hh:Hid (Below w2.heap.size w2 wr):=HB5.out.grown hgr.out HB5.out.size (fun k hk=>(Hlt.out k hk).1);have H1r:=hid (H1.out.on hh.out);have H5r:Hid (Bx wr w4.heap.size x4 xs4 S):=⟨aj.grown H5.out.1 hgr.out (fun e=>by have:=(Hlt.out _ e.symm).2;omega),(HO5.out.apart (fun k hk=>(Hlt.out k hk).2) hgr.out).held⟩;have HPr:=hid (HP2.out.on hh.out);have HBr:=hid (HB.out.trans (hh.out.mono HB.out.size));clear hO hgr hll hh H1 H5 HO5 HP2 HB HB5;have l1:w.heap.size<wr.heap.size:=H1r.out.1.lt;have l5:w4.heap.size<wr.heap.size:=H5r.out.1.lt;go_upto_region 10 with fail
   refine IK fun hH=>?_
   try simp only[Iz]
   have hH:=hH.out;refine lw 0 hH (yieldsIf_load_mid rfl _ _ rfl w4.heap.size 0 rfl (av x4 S) _ (fun w' hS i c hc=>(bg hS _ _ l5).trans (ag H5r.out.1 i c hc)) aH rfl (fp HSs.out)) ?_;simp only[ld,lg,lf];refine lw 1 hH (yieldsIf_load_mid rfl _ _ rfl w.heap.size 0 rfl (av x s) _ (fun w' hS i c hc=>(bg hS _ _ l1).trans (ag H1r.out.1 i c hc)) aH rfl Hsz.out) ?_;simp only[ld,lg,lf];refine one 2 (IJ (Ih (H5r.out.on hH).2 (H1r.out.on hH).2 Heq.out) ?_);rintro e w6 ⟨rfl,hb6⟩;have hH6:=hH.trans (hb6.mono hH.size);refine⟨_,rfl,hH6,?_⟩;simp only[ld,lg,lf];refine tw 3 hH6 ?_;simp only[ld,lg,lf];refine tw 4 hH6 ?_;simp only[ld,lg,lf];refine lw 5 hH6 (.inl ⟨rfl,fun u hu=>ig rfl rfl (HPr.out.below hu.out) HN.out⟩) ?_;simp only[ld,lg,lf];refine lw 6 hH6 (yieldsIf_load_mid rfl _ _ rfl w.heap.size 0 rfl (av x s) _ (fun w' hS i c hc=>(bg hS _ _ l1).trans (ag H1r.out.1 i c hc)) aH rfl Hsz.out) ?_;simp only[ld,lg,lf];refine one 7 (IJ (sD (H1r.out.on hH6).2 Hv.out) ?_);rintro e wq ⟨Aq,cq,rfl,hownq,hbq⟩;have hHq:=hH6.trans (hbq.mono hH6.size);rw[←HP.out] at hownq ⊢;refine⟨_,rfl,hHq,?_⟩;simp only[ld,lg,lf];refine one 8 (IP (w':=wq) (fun u hu=>by rw[hu];exact hHq) (fun _=>?_) (hrun:=ig rfl rfl (IG hownq).1 rfl));simp only[ld,lg,lf];clear hownq;refine tw 9 hHq ?_;simp only[ld,lg,lf];refine tw 10 hHq ?_;simp only[ld,lg,lf];refine tw 11 hHq ?_;simp only[ld,lg,lf];refine IL ?_;have HF:=hid (HBr.out.trans (hHq.mono HBr.out.size));clear hH hH6 hHq hbq hb6
   go_wp2
   go_ret
   exact⟨rfl,HF.out⟩
