import Derived.Test.YtaafkokfdgfabaaGreatP15
set_option maxHeartbeats 8000000
set_option maxRecDepth 100000
set_option linter.unusedVariables false
set_option linter.unusedSimpArgs false
open Bool renaming true_and→qq,false_and→Iy,and_false→Iz,and_eq_true→IA,and_true→IB,and_assoc→IF
open List renaming size_toArray→ID
open Nat renaming le_refl→IH
namespace Go.Proofs.YtaafkokfdgfabaaGreat
open Go.RowKit
open Lib (hid)
open BS renaming nil→IG
open Tryz renaming prog→IC,underlying56→IE
theorem mv{b:aU}(h:bz b dU=true):dM b=true:=by
 simp only[bz,IA,beq_iff_eq] at h;unfold dM;rw[h.1,h.2.2.1];rfl
section
variable {a:ca}
theorem Ez(hk:a.kind=1):bj a=(aV a (bX a)&&decide (a.frame.length≤131072)):=by
 unfold bj;rw[hk,show dh 1 1 4=true from rfl,show ((1:Int) != 2)=true from rfl];rcases hs:aV a (bX a) with _|_
 ·simp
 ·have h:=hs
  unfold bX at h;rw[if_pos hk] at h;simp only[aV,IA,beq_iff_eq] at h;obtain⟨_,_,_,h4,_,h6,h7,_⟩:=h;rw[h4,h7,mv h6];simp[cL]
theorem Cz(hk:a.kind=2)(ho:a.op=1):bj a=(aV a (bX a)&&dM a.back):=by
 unfold bj;rw[hk,ho,show dh 2 1 4=true from rfl,show dh 1 1 5=true from rfl];rcases hs:aV a (bX a) with _|_
 ·simp
 ·have h:=hs
  unfold bX at h;rw[if_neg (by omega),if_pos hk,if_pos ho] at h;simp only[aV,IA,beq_iff_eq] at h;obtain⟨_,h2,_,h4,_,h6,h7,_⟩:=h;rw[h2,h4,h7];simp[cL]
theorem xE(hk:a.kind=2)(ho:a.op≠1):bj a=(aV a (bX a)&&(decide (2≤a.op)&&(decide (a.op≤5)&&decide (a.oname.length≤255)))):=by
 unfold bj;rw[hk,show dh 2 1 4=true from rfl,show ((2:Int) != 2)=false from rfl];have hz:dh a.op 1 5=(decide (2≤a.op)&&decide (a.op≤5)):=by
  unfold dh;by_cases h:2≤a.op
  ·rw[decide_eq_true h,decide_eq_true (show 1≤a.op by omega)]
  ·rw[decide_eq_false h,decide_eq_false (show ¬1≤a.op by omega)]
 rw[hz];rcases hs:aV a (bX a) with _|_
 ·simp
 ·have h:=hs
  unfold bX at h;rw[if_neg (by omega),if_pos hk,if_neg ho] at h;have h5:a.frame=[]∧a.name=[]∧bz a.back dU=true:=by
   split at h
   ·simp only[aV,IA,beq_iff_eq] at h
    exact⟨h.2.1,h.2.2.2.2.2.2.1,h.2.2.2.2.2.1⟩
   ·simp only[aV,IA,beq_iff_eq] at h
    exact⟨h.2.1,h.2.2.2.2.2.2.1,h.2.2.2.2.2.1⟩
  rw[h5.1,h5.2.1,mv h5.2.2];simp[IF]
theorem EA(hk:a.kind=3):bj a=(aV a (bX a)&&decide (a.name.length≤255)):=by
 unfold bj;rw[hk,show dh 3 1 4=true from rfl,show ((3:Int) != 2)=true from rfl];rcases hs:aV a (bX a) with _|_
 ·simp
 ·have h:=hs
  unfold bX at h;rw[if_neg (by omega),if_neg (by omega),if_pos hk] at h;simp only[aV,IA,beq_iff_eq] at h;obtain⟨_,h2,_,h4,_,h6,_,_⟩:=h;rw[h2,h4,mv h6];simp[cL]
theorem EB(hk:a.kind=4):bj a=aV a (bX a):=by
 unfold bj;rw[hk,show dh 4 1 4=true from rfl,show ((4:Int) != 2)=true from rfl];rcases hs:aV a (bX a) with _|_
 ·simp
 ·have h:=hs
  unfold bX at h;rw[if_neg (by omega),if_neg (by omega),if_neg (by omega)] at h;simp only[aV,IA,beq_iff_eq] at h;obtain⟨_,h2,_,h4,_,h6,h7,_⟩:=h;rw[h2,h4,h7,mv h6];simp[cL]
theorem EC(h1:a.kind≠1)(h2:a.kind≠2)(h3:a.kind≠3)(h4:a.kind≠4):bj a=false:=by
 unfold bj;rw[show dh a.kind 1 4=false by
  rcases h:dh a.kind 1 4 with _|_
  ·rfl
  ·rw[bF] at h;omega]
 rfl
end
theorem ke(A:Option Addr)(c:Nat)(a:ca)(A':Option Addr)(c':Nat)(b:ca)(ha0:aA a)(hb0:aA b)(w:World)(hf:BS w w.heap.size A a.frame)(hf':BS w w.heap.size A' b.frame)(r:Bool)(hr:aV a b=r) :
  Calls IC 110 #[.agg (ak A a.frame.length c a).toArray,.agg (ak A' b.frame.length c' b).toArray] w fun e w'=>e=.returned (.bool r)∧Below w.heap.size w w':=by
 subst hr;exact mL A c a A' c' b ha0 hb0 w hf hf'
theorem GW(b:aU)(hb:au b)(w:World)(r:Bool)(hr:dM b=r) :
  Calls IC 136 #[.agg (ah b).toArray] w fun e w'=>e=.returned (.bool r)∧Below w.heap.size w w':=by
 subst hr;exact xp b hb w
structure mS(w wr:World)(A:Option Addr)(c:Nat)(a:ca)(A':Option Addr)(c':Nat)(b:ca):Prop where
 src:aj wr w.heap.size 60 (ak A a.frame.length c a).toArray
 box:aj wr (w.heap.size+1) 60 (ak A' b.frame.length c' b).toArray
 bel:Below w.heap.size w wr
 shape:aA b
section
variable {w wr w':World} {A A' A2:Option Addr} {c c' c2:Nat} {a b b':ca}
theorem mS.boxed(h:mS w wr A c a A' c' b)(hb:aj w' (w.heap.size+1) 60 (ak A2 b'.frame.length c2 b').toArray)(hg:wr.grownBy w' (some (w.heap.size+1)))(hs:aA b'):mS w w' A c a A2 c2 b' :=
 ⟨aj.grown h.src hg (fun e=>by injection e with e;omega),hb,h.bel.grown hg h.bel.size (fun k hk=>by injection hk with hk;omega),hs⟩
theorem mS.set_(h:mS w wr A c a A' c' b)(k:Nat)(u:Value)(e:(ak A' b.frame.length c' b).toArray.setIfInBounds k u=(ak A2 b'.frame.length c2 b').toArray)(hs:aA b'):mS w (wr.setCell ⟨w.heap.size+1,k,none⟩ u) A c a A2 c2 b':=by
 refine h.boxed ?_ (a8 _ ⟨w.heap.size+1,k,none⟩ u) hs;have:=aj.set_ h.box k u;rw[e] at this;exact this
theorem mS.sets(h:mS w wr A c a A' c' b)(k:Nat)(vs:List Value)(e:nI (ak A' b.frame.length c' b).toArray k vs=(ak A2 b'.frame.length c2 b').toArray)(hs:aA b'):mS w (wr.setCells (w.heap.size+1) k vs) A c a A2 c2 b':=by
 refine h.boxed ?_ (aY _ (w.heap.size+1) k vs k (World.grownBy.refl _ _)) hs;have:=aj.setCells vs k h.box;rw[e] at this;exact this
end
theorem ED(A:Option Addr)(n c:Nat)(a:ca)(v:Int):(ak A n c a).toArray.setIfInBounds 2 (.int .i64 v)=(ak A n c { a with op:=v }).toArray:=by
 rw[List.setIfInBounds_toArray];rfl
theorem uY(A:Option Addr)(c:Nat)(a:ca)(ha0:aA a)(w:World)(hf:BS w w.heap.size A a.frame) :
  Calls IC 69 #[.agg (ak A a.frame.length c a).toArray] w fun e w'=>e=.returned (.bool (bj a))∧Below w.heap.size w w':=by
 have ha:=hid ha0;have HF:=hid hf;clear ha0 hf;obtain⟨W0,hW0⟩:∃W,W=w.alloc (.cells (ak A a.frame.length c a).toArray 60):=⟨_,rfl⟩;obtain⟨W2,hW2⟩:∃W,W=W0.alloc (.cells (ak none 0 0 cL).toArray 60):=⟨_,rfl⟩;obtain⟨a1,ha1⟩:∃b:ca,b={ cL with kind:=a.kind }:=⟨_,rfl⟩;obtain⟨W3,hW3⟩:∃W,W=W2.setCells W0.heap.size 0 (ak none 0 0 a1):=⟨_,rfl⟩;have hs0:W0.heap.size=w.heap.size+1:=by rw[hW0];simp
 have hS1:aA a1:=by rw[ha1];exact⟨aE,by show (0:Nat)<18446744073709551616;decide⟩
 have hX0:aj W0 w.heap.size 60 (ak A a.frame.length c a).toArray:=by rw[hW0];exact aj.new w _ _ _ rfl
 have hB0:Below w.heap.size w W0:=by rw[hW0];exact (Below.refl _ _).alloc (IH _) _
 obtain⟨hth,hbx,hbe⟩:=jE W0 W2 W3 60 (ak none 0 0 cL) (ak none 0 0 a1) (by rw[aX hS1,aX bZ]) hW2 hW3;have h3:mS w W3 A c a none 0 a1:=⟨aj.below hX0 hbe hX0.lt,by rw[←hs0,show a1.frame.length=0 by rw[ha1];rfl];exact hbx,hB0.trans (hbe.mono hB0.size),hS1⟩;have d0:=fG hX0;have H3:=hid h3;have Ha1:=hid ha1;have HW0:=hid hW0;rw[lp] at hW2;have HW2:=hid hW2;have HW3:=hid hW3;have Hs0:=hid hs0;have Hth:=hid hth;have Hlit:Hid ((ak none 0 0 a1).toArray=#[.int .i64 a.kind,.slice none 0 0,.int .i64 0,.string ⟨#[]⟩,.bool false,.int .u8 0,.int .u8 0,.int .u8 0,.int .u8 0,.int .u8 0,.int .u8 0,.int .u8 0,.int .u8 0,.int .u8 0,.int .u8 0,.int .u8 0,.int .u8 0,.int .u8 0,.int .u8 0,.int .u8 0,.int .u8 0,.int .i64 0,.int .u8 0,.int .u8 0,.int .u8 0,.int .u8 0,.int .u8 0,.int .u8 0,.float .f64 0,.bool false,.string ⟨#[]⟩,.float .f64 0,.string ⟨#[]⟩,.bool false]):=by show _=_;rw[ha1];rfl
 have Hsz:Hid ((IC.info? 60).map (·.size)=some (ak none 0 0 a1).toArray.size):=bv hS1;clear hW0 hW2 hW3 ha1 hs0 hS1 hX0 hB0 hth hbx hbe h3;go_enter Tryz.func69,Tryz.ntmps69
 go_upto_region 1 with fail
 rw[←HW0.out];go_upto_region 2 with (first
  |(rw[←HW2.out];(with_reducible refine aR 60 ?_);rw[←Hlit.out];refine wpList_store_mid rfl 60 (.tmp 3) (.tmp 7) rfl W0.heap.size 0 (ak none 0 0 a1).toArray rfl rfl Hth.out Hsz.out (eW _ _ _ _) ?_))
 rw[←HW3.out];rw[Hs0.out];clear HW0 HW2 HW3 Hth Hlit Hsz Hs0 d0;have d0:=fG H3.out.src;rcases k1:(a.kind==1) with _|_
 rotate_left
 ·have Hk:Hid (a.kind=1):=by show _=_;simpa using k1
  obtain⟨b,hb⟩:∃b:ca,b={ cL with kind:=a.kind,frame:=a.frame }:=⟨_,rfl⟩;have hSb:aA b:=by rw[hb];exact⟨aE,by show (0:Nat)<18446744073709551616;decide⟩
  have s1:=fu H3.out.src;have dx:=fu H3.out.box;have df:=H3.out.box.frozen 1;obtain⟨W4,hW4⟩:∃W,W=W3.setCell ⟨w.heap.size+1,1,none⟩ (.slice A a.frame.length c):=⟨_,rfl⟩;have H40:mS w W4 A c a A c b:=by
   rw[hW4];refine H3.out.set_ 1 (.slice A a.frame.length c) ?_ hSb;rw[show (ak none a1.frame.length 0 a1).toArray.setIfInBounds 1 (.slice A a.frame.length c)=_ from oe A a.frame.length c a.frame,Ha1.out,hb]
  have H4:=hid H40;have QW4:=hid hW4;have Pb:=hid hb;clear H40 hW4 hb hSb;go_upto_region 4 with fail
  rw[←QW4.out];clear QW4 s1 dx df;have Hbo:Hid (b=bX a):=by show _=_;rw[Pb.out];unfold bX;rw[if_pos Hk.out]
  have Hbf:Hid (b.frame=a.frame):=by show _=_;rw[Pb.out]
  clear d0;obtain⟨s,hsm⟩:∃s,aV a b=s:=⟨_,rfl⟩;have Hsm:=hid hsm;have Hpl:Hid (bj a=(s&&decide (a.frame.length≤131072))):=by show _=_;rw[Ez Hk.out,←Hbo.out,hsm]
  clear hsm;have RX:=hid (ag H4.out.src);have RB:=hid (ag H4.out.box)
  go_wp2_with (first
   |((with_reducible refine aB 60 ?_);refine aa (by rfl) 60 (.tmp 1) rfl w.heap.size 0 rfl (ak A a.frame.length c a) _ RX.out bQ rfl (bv ha.out) ?_)
   |((with_reducible refine aB 60 ?_);refine aa (by rfl) 60 (.tmp 3) rfl (w.heap.size+1) 0 rfl (ak A b.frame.length c b) _ RB.out bQ rfl (bv H4.out.shape) ?_))
  refine (ke A c a A c b ha.out H4.out.shape W4 ((HF.out.below H4.out.bel).more H4.out.bel.size) (by rw[Hbf.out];exact (HF.out.below H4.out.bel).more H4.out.bel.size) s Hsm.out).mono ?_;rintro e w9 ⟨rfl,hb9⟩;have HX9:=hid (aj.below H4.out.src hb9 H4.out.src.lt);have HB9:Hid (Below w.heap.size w w9):=H4.out.bel.trans (hb9.mono H4.out.bel.size);clear hb9 RX RB;have d1:=fu HX9.out;rcases s with _|_
  ·go_wp2
   go_ret
   exact⟨by rw[Hpl.out];first|done|rfl,HB9.out⟩
  ·skip
   by_cases h0:a.frame.length≤131072
   rotate_left
   ·have q:¬((a.frame.length:Int)≤131072):=by omega
    have Hr:Hid (bj a=false):=by show _=_;rw[Hpl.out];simp only[decide_eq_false h0,Iy,Iz,qq]
    clear h0
    go_wp2
    go_ret
    exact⟨by rw[Hr.out];first|done|rfl|(rw[decide_eq_false (show ¬((a.frame.length:Int)≤131072) by omega)];rfl),HB9.out⟩
   have q0:(a.frame.length:Int)≤131072:=by omega
   have Hr:Hid (bj a=true):=by show _=_;rw[Hpl.out];simp only[decide_eq_true h0,IB]
   go_wp2
   go_ret
   exact⟨by rw[Hr.out];first|done|rfl|(rw[decide_eq_true (show (a.frame.length:Int)≤131072 by omega)];rfl),HB9.out⟩
 rcases k2:(a.kind==2) with _|_
 rotate_left
 ·have Hk:Hid (a.kind=2):=by show _=_;simpa using k2
  have d2:=iF H3.out.src;obtain⟨b,hb⟩:∃b:ca,b={ cL with kind:=a.kind,op:=a.op }:=⟨_,rfl⟩;have hSb:aA b:=by rw[hb];exact⟨aE,by show (0:Nat)<18446744073709551616;decide⟩
  have s2:=iF H3.out.src;have dx:=iF H3.out.box;have df:=H3.out.box.frozen 2;obtain⟨W4,hW4⟩:∃W,W=W3.setCell ⟨w.heap.size+1,2,none⟩ (.int .i64 a.op):=⟨_,rfl⟩;have H40:mS w W4 A c a none 0 b:=by
   rw[hW4];refine H3.out.set_ 2 (.int .i64 a.op) ?_ hSb;rw[ED,Ha1.out,hb]
  have H4:=hid H40;have QW4:=hid hW4;have Pb:=hid hb;clear H40 hW4 hb hSb;go_upto_region 8 with fail
  rw[←QW4.out];clear QW4 s2 dx df;clear d2;rcases k3:(a.op==1) with _|_
  rotate_left
  ·obtain⟨b2,hb2⟩:∃b:ca,b={ cL with kind:=a.kind,op:=a.op,back:=a.back }:=⟨_,rfl⟩
   have Ho:Hid (a.op=1):=by show _=_;simpa using k3
   have hS2:aA b2:=by rw[hb2];exact⟨ha.out.back,by show (0:Nat)<18446744073709551616;decide⟩
   have Hbo:Hid (b2=bX a):=by
    show _=_
    rw[hb2];unfold bX;rw[if_neg (by have:=Hk.out;omega),if_pos Hk.out,if_pos Ho.out]
   obtain⟨W5,hW5⟩:∃W,W=W4.setCells (w.heap.size+1) 3 (ah a.back):=⟨_,rfl⟩;have hth:W4.there (w.heap.size+1) 3 (ah a.back).toArray.size:=H4.out.box.there (by rw[ID,ID,bu ha.out.back,aX H4.out.shape];decide);have h5:mS w W5 A c a none 0 b2:=by
    rw[hW5];refine H4.out.sets 3 _ ?_ hS2;rw[pZ H4.out.shape a.back ha.out.back,Pb.out,hb2]
   have Hbf:Hid (b2.frame=[]):=by show _=_;rw[hb2];rfl
   have H5:=hid h5;have HW5:=hid hW5;have Hth:=hid hth;have RB:=hid (iV H4.out.src ha.out);clear hS2 h5 hW5 hth hb2;go_upto_region 10 with (first
    |((with_reducible refine aB 56 ?_);refine aa (by rfl) 56 (.tmp 35) rfl w.heap.size 3 rfl (ah a.back) _ RB.out IE rfl (cM ha.out.back) ?_)
    |((with_reducible refine aR 56 ?_);refine wpList_store_mid rfl 56 (.tmp 38) (.tmp 36) rfl (w.heap.size+1) 3 (ah a.back).toArray rfl rfl Hth.out (cM ha.out.back) (eS _) ?_))
   rw[←HW5.out];clear HW5 Hth RB d0;obtain⟨s,hsm⟩:∃s,aV a b2=s:=⟨_,rfl⟩;obtain⟨t,htl⟩:∃t,dM a.back=t:=⟨_,rfl⟩;have Hsm:=hid hsm;have Htl:=hid htl;have Hpl:Hid (bj a=(s&&t)):=by show _=_;rw[Cz Hk.out Ho.out,←Hbo.out,hsm,htl]
   clear hsm htl;have RX:=hid (ag H5.out.src);have RB:=hid (ag H5.out.box)
   go_wp2_with (first
    |((with_reducible refine aB 60 ?_);refine aa (by rfl) 60 (.tmp 1) rfl w.heap.size 0 rfl (ak A a.frame.length c a) _ RX.out bQ rfl (bv ha.out) ?_)
    |((with_reducible refine aB 60 ?_);refine aa (by rfl) 60 (.tmp 3) rfl (w.heap.size+1) 0 rfl (ak none b2.frame.length 0 b2) _ RB.out bQ rfl (bv H5.out.shape) ?_))
   refine (ke A c a none 0 b2 ha.out H5.out.shape W5 ((HF.out.below H5.out.bel).more H5.out.bel.size) (by rw[Hbf.out];exact IG _ _ _) s Hsm.out).mono ?_;rintro e w9 ⟨rfl,hb9⟩;have HX9:=hid (aj.below H5.out.src hb9 H5.out.src.lt);have HB9:Hid (Below w.heap.size w w9):=H5.out.bel.trans (hb9.mono H5.out.bel.size);clear hb9 RX RB;have RK:=hid (iV HX9.out ha.out);rcases s with _|_
   ·go_wp2
    go_ret
    exact⟨by rw[Hpl.out];first|done|rfl,HB9.out⟩
   ·go_wp2_with (first
     |((with_reducible refine aB 56 ?_);refine aa (by rfl) 56 (.tmp 44) rfl w.heap.size 3 rfl (ah a.back) _ RK.out IE rfl (cM ha.out.back) ?_))
    refine (GW a.back ha.out.back w9 t Htl.out).mono ?_;rintro e wA ⟨rfl,hbA⟩;have HBA:Hid (Below w.heap.size w wA):=HB9.out.trans (hbA.mono HB9.out.size);clear hbA
    go_wp2
    go_ret
    exact⟨by rw[Hpl.out];first|done|rfl,HBA.out⟩
  have Ho:Hid (a.op≠1):=by show _≠_;simpa using k3
  obtain⟨b3,hb3⟩:∃b:ca,b={ cL with kind:=a.kind,op:=a.op,oname:=a.oname }:=⟨_,rfl⟩;have hSb3:aA b3:=by rw[hb3];exact⟨aE,by show (0:Nat)<18446744073709551616;decide⟩
  have s30:=ed H4.out.src ha.out;have dx:=ed H4.out.box H4.out.shape;have df:=H4.out.box.frozen 30;obtain⟨W5,hW5⟩:∃W,W=W4.setCell ⟨w.heap.size+1,30,none⟩ (.string ⟨a.oname.toArray⟩):=⟨_,rfl⟩;have H50:mS w W5 A c a none 0 b3:=by
   rw[hW5];refine H4.out.set_ 30 (.string ⟨a.oname.toArray⟩) ?_ hSb3;rw[mg H4.out.shape a.oname,Pb.out,hb3]
  have H5:=hid H50;have QW5:=hid hW5;have Pb3:=hid hb3;clear H50 hW5 hb3 hSb3;go_upto_region 12 with fail
  rw[←QW5.out];clear QW5 s30 dx df;rcases k4:(a.op==3) with _|_
  rotate_left
  ·obtain⟨b4,hb4⟩:∃b:ca,b={ cL with kind:=a.kind,op:=a.op,oname:=a.oname,owt:=a.owt }:=⟨_,rfl⟩
   have hSb4:aA b4:=by rw[hb4];exact⟨aE,ha.out.owt⟩
   have s31:=kt H5.out.src ha.out;have dx:=kt H5.out.box H5.out.shape;have df:=H5.out.box.frozen 31;obtain⟨W6,hW6⟩:∃W,W=W5.setCell ⟨w.heap.size+1,31,none⟩ (.float .f64 a.owt):=⟨_,rfl⟩;have H60:mS w W6 A c a none 0 b4:=by
    rw[hW6];refine H5.out.set_ 31 (.float .f64 a.owt) ?_ hSb4;rw[rD H5.out.shape a.owt,Pb3.out,hb4]
   have H6:=hid H60;have QW6:=hid hW6;have Pb4:=hid hb4;have hsf:=fun (a:Addr) (m:Mode) (n:Nat) (w:World)=>ic a n m w
   clear H60 hW6 hb4 hSb4;go_upto_region 14 with fail
   rw[←QW6.out];clear QW6 s31 dx df;clear hsf;have Hbo:Hid (b4=bX a):=by
    show _=_
    rw[Pb4.out];unfold bX;rw[if_neg (by have:=Hk.out;omega),if_pos Hk.out,if_neg (by simpa using k3),if_pos (by simpa using k4)]
   have Hbf:Hid (b4.frame=[]):=by show _=_;rw[Pb4.out];rfl
   clear d0;obtain⟨s,hsm⟩:∃s,aV a b4=s:=⟨_,rfl⟩;have Hsm:=hid hsm;have Hpl:Hid (bj a=(s&&(decide (2≤a.op)&&(decide (a.op≤5)&&decide (a.oname.length≤255))))):=by show _=_;rw[xE Hk.out Ho.out,←Hbo.out,hsm]
   clear hsm;have RX:=hid (ag H6.out.src);have RB:=hid (ag H6.out.box)
   go_wp2_with (first
    |((with_reducible refine aB 60 ?_);refine aa (by rfl) 60 (.tmp 1) rfl w.heap.size 0 rfl (ak A a.frame.length c a) _ RX.out bQ rfl (bv ha.out) ?_)
    |((with_reducible refine aB 60 ?_);refine aa (by rfl) 60 (.tmp 3) rfl (w.heap.size+1) 0 rfl (ak none b4.frame.length 0 b4) _ RB.out bQ rfl (bv H6.out.shape) ?_))
   refine (ke A c a none 0 b4 ha.out H6.out.shape W6 ((HF.out.below H6.out.bel).more H6.out.bel.size) (by rw[Hbf.out];exact IG _ _ _) s Hsm.out).mono ?_;rintro e w9 ⟨rfl,hb9⟩;have HX9:=hid (aj.below H6.out.src hb9 H6.out.src.lt);have HB9:Hid (Below w.heap.size w w9):=H6.out.bel.trans (hb9.mono H6.out.bel.size);clear hb9 RX RB;have d1:=ed HX9.out ha.out;rcases s with _|_
   ·go_wp2
    go_ret
    exact⟨by rw[Hpl.out];first|done|rfl,HB9.out⟩
   ·skip
    by_cases h0:2≤a.op
    rotate_left
    ·have q:¬(2≤a.op):=by omega
     have Hr:Hid (bj a=false):=by show _=_;rw[Hpl.out];simp only[decide_eq_false h0,Iy,Iz,qq]
     clear h0
     go_wp2
     go_ret
     exact⟨by rw[Hr.out];first|done|rfl|(rw[decide_eq_false (show ¬(2≤a.op) by omega)];rfl),HB9.out⟩
    have q0:2≤a.op:=by omega
    by_cases h1:a.op≤5
    rotate_left
    ·have q:¬(a.op≤5):=by omega
     have Hr:Hid (bj a=false):=by show _=_;rw[Hpl.out];simp only[decide_eq_true h0,decide_eq_false h1,Iy,Iz,qq]
     clear h1
     go_wp2
     go_ret
     exact⟨by rw[Hr.out];first|done|rfl|(rw[decide_eq_false (show ¬(a.op≤5) by omega)];rfl),HB9.out⟩
    have q1:a.op≤5:=by omega
    by_cases h2:a.oname.length≤255
    rotate_left
    ·have q:¬((a.oname.length:Int)≤255):=by omega
     have Hr:Hid (bj a=false):=by show _=_;rw[Hpl.out];simp only[decide_eq_true h0,decide_eq_true h1,decide_eq_false h2,Iy,Iz,qq]
     clear h2
     go_wp2
     go_ret
     exact⟨by rw[Hr.out];first|done|rfl|(rw[decide_eq_false (show ¬((a.oname.length:Int)≤255) by omega)];rfl),HB9.out⟩
    have q2:(a.oname.length:Int)≤255:=by omega
    have Hr:Hid (bj a=true):=by show _=_;rw[Hpl.out];simp only[decide_eq_true h0,decide_eq_true h1,decide_eq_true h2,IB]
    go_wp2
    go_ret
    exact⟨by rw[Hr.out];first|done|rfl|(rw[decide_eq_true (show (a.oname.length:Int)≤255 by omega)];rfl),HB9.out⟩
  ·have Hbo:Hid (b3=bX a):=by
    show _=_
    rw[Pb3.out];unfold bX;rw[if_neg (by have:=Hk.out;omega),if_pos Hk.out,if_neg (by simpa using k3),if_neg (by simpa using k4)]
   have Hbf:Hid (b3.frame=[]):=by show _=_;rw[Pb3.out];rfl
   clear d0;go_upto_region 14 with fail
   obtain⟨s,hsm⟩:∃s,aV a b3=s:=⟨_,rfl⟩;have Hsm:=hid hsm;have Hpl:Hid (bj a=(s&&(decide (2≤a.op)&&(decide (a.op≤5)&&decide (a.oname.length≤255))))):=by show _=_;rw[xE Hk.out Ho.out,←Hbo.out,hsm]
   clear hsm;have RX:=hid (ag H5.out.src);have RB:=hid (ag H5.out.box)
   go_wp2_with (first
    |((with_reducible refine aB 60 ?_);refine aa (by rfl) 60 (.tmp 1) rfl w.heap.size 0 rfl (ak A a.frame.length c a) _ RX.out bQ rfl (bv ha.out) ?_)
    |((with_reducible refine aB 60 ?_);refine aa (by rfl) 60 (.tmp 3) rfl (w.heap.size+1) 0 rfl (ak none b3.frame.length 0 b3) _ RB.out bQ rfl (bv H5.out.shape) ?_))
   refine (ke A c a none 0 b3 ha.out H5.out.shape W5 ((HF.out.below H5.out.bel).more H5.out.bel.size) (by rw[Hbf.out];exact IG _ _ _) s Hsm.out).mono ?_;rintro e w9 ⟨rfl,hb9⟩;have HX9:=hid (aj.below H5.out.src hb9 H5.out.src.lt);have HB9:Hid (Below w.heap.size w w9):=H5.out.bel.trans (hb9.mono H5.out.bel.size);clear hb9 RX RB;have d1:=ed HX9.out ha.out;rcases s with _|_
   ·go_wp2
    go_ret
    exact⟨by rw[Hpl.out];first|done|rfl,HB9.out⟩
   ·skip
    by_cases h0:2≤a.op
    rotate_left
    ·have q:¬(2≤a.op):=by omega
     have Hr:Hid (bj a=false):=by show _=_;rw[Hpl.out];simp only[decide_eq_false h0,Iy,Iz,qq]
     clear h0
     go_wp2
     go_ret
     exact⟨by rw[Hr.out];first|done|rfl|(rw[decide_eq_false (show ¬(2≤a.op) by omega)];rfl),HB9.out⟩
    have q0:2≤a.op:=by omega
    by_cases h1:a.op≤5
    rotate_left
    ·have q:¬(a.op≤5):=by omega
     have Hr:Hid (bj a=false):=by show _=_;rw[Hpl.out];simp only[decide_eq_true h0,decide_eq_false h1,Iy,Iz,qq]
     clear h1
     go_wp2
     go_ret
     exact⟨by rw[Hr.out];first|done|rfl|(rw[decide_eq_false (show ¬(a.op≤5) by omega)];rfl),HB9.out⟩
    have q1:a.op≤5:=by omega
    by_cases h2:a.oname.length≤255
    rotate_left
    ·have q:¬((a.oname.length:Int)≤255):=by omega
     have Hr:Hid (bj a=false):=by show _=_;rw[Hpl.out];simp only[decide_eq_true h0,decide_eq_true h1,decide_eq_false h2,Iy,Iz,qq]
     clear h2
     go_wp2
     go_ret
     exact⟨by rw[Hr.out];first|done|rfl|(rw[decide_eq_false (show ¬((a.oname.length:Int)≤255) by omega)];rfl),HB9.out⟩
    have q2:(a.oname.length:Int)≤255:=by omega
    have Hr:Hid (bj a=true):=by show _=_;rw[Hpl.out];simp only[decide_eq_true h0,decide_eq_true h1,decide_eq_true h2,IB]
    go_wp2
    go_ret
    exact⟨by rw[Hr.out];first|done|rfl|(rw[decide_eq_true (show (a.oname.length:Int)≤255 by omega)];rfl),HB9.out⟩
 rcases k5:(a.kind==3) with _|_
 rotate_left
 ·have Hk:Hid (a.kind=3):=by show _=_;simpa using k5
  obtain⟨b2,hb2⟩:∃b:ca,b={ cL with kind:=a.kind,name:=a.name }:=⟨_,rfl⟩;have hSb2:aA b2:=by rw[hb2];exact⟨aE,by show (0:Nat)<18446744073709551616;decide⟩
  have s32:=fY H3.out.src ha.out;have dx:=fY H3.out.box H3.out.shape;have df:=H3.out.box.frozen 32;obtain⟨W4,hW4⟩:∃W,W=W3.setCell ⟨w.heap.size+1,32,none⟩ (.string ⟨a.name.toArray⟩):=⟨_,rfl⟩;have H40:mS w W4 A c a none 0 b2:=by
   rw[hW4];refine H3.out.set_ 32 (.string ⟨a.name.toArray⟩) ?_ hSb2;rw[pX H3.out.shape a.name,Ha1.out,hb2]
  have H4:=hid H40;have QW4:=hid hW4;have Pb2:=hid hb2;clear H40 hW4 hb2 hSb2;go_upto_region 17 with fail
  rw[←QW4.out];clear QW4 s32 dx df;obtain⟨b3,hb3⟩:∃b:ca,b={ cL with kind:=a.kind,name:=a.name,well:=a.well }:=⟨_,rfl⟩;have hSb3:aA b3:=by rw[hb3];exact⟨aE,by show (0:Nat)<18446744073709551616;decide⟩
  have s33:=iq H4.out.src ha.out;have dx:=iq H4.out.box H4.out.shape;have df:=H4.out.box.frozen 33;obtain⟨W5,hW5⟩:∃W,W=W4.setCell ⟨w.heap.size+1,33,none⟩ (.bool a.well):=⟨_,rfl⟩;have H50:mS w W5 A c a none 0 b3:=by
   rw[hW5];refine H4.out.set_ 33 (.bool a.well) ?_ hSb3;rw[pY H4.out.shape a.well,Pb2.out,hb3]
  have H5:=hid H50;have QW5:=hid hW5;have Pb3:=hid hb3;clear H50 hW5 hb3 hSb3;go_upto_region 18 with fail
  rw[←QW5.out];clear QW5 s33 dx df;have Hbo:Hid (b3=bX a):=by
   show _=_
   rw[Pb3.out];unfold bX;rw[if_neg (by have:=Hk.out;omega),if_neg (by have:=Hk.out;omega),if_pos Hk.out]
  have Hbf:Hid (b3.frame=[]):=by show _=_;rw[Pb3.out];rfl
  clear d0;obtain⟨s,hsm⟩:∃s,aV a b3=s:=⟨_,rfl⟩;have Hsm:=hid hsm;have Hpl:Hid (bj a=(s&&decide (a.name.length≤255))):=by show _=_;rw[EA Hk.out,←Hbo.out,hsm]
  clear hsm;have RX:=hid (ag H5.out.src);have RB:=hid (ag H5.out.box)
  go_wp2_with (first
   |((with_reducible refine aB 60 ?_);refine aa (by rfl) 60 (.tmp 1) rfl w.heap.size 0 rfl (ak A a.frame.length c a) _ RX.out bQ rfl (bv ha.out) ?_)
   |((with_reducible refine aB 60 ?_);refine aa (by rfl) 60 (.tmp 3) rfl (w.heap.size+1) 0 rfl (ak none b3.frame.length 0 b3) _ RB.out bQ rfl (bv H5.out.shape) ?_))
  refine (ke A c a none 0 b3 ha.out H5.out.shape W5 ((HF.out.below H5.out.bel).more H5.out.bel.size) (by rw[Hbf.out];exact IG _ _ _) s Hsm.out).mono ?_;rintro e w9 ⟨rfl,hb9⟩;have HX9:=hid (aj.below H5.out.src hb9 H5.out.src.lt);have HB9:Hid (Below w.heap.size w w9):=H5.out.bel.trans (hb9.mono H5.out.bel.size);clear hb9 RX RB;have d1:=fY HX9.out ha.out;rcases s with _|_
  ·go_wp2
   go_ret
   exact⟨by rw[Hpl.out];first|done|rfl,HB9.out⟩
  ·skip
   by_cases h0:a.name.length≤255
   rotate_left
   ·have q:¬((a.name.length:Int)≤255):=by omega
    have Hr:Hid (bj a=false):=by show _=_;rw[Hpl.out];simp only[decide_eq_false h0,Iy,Iz,qq]
    clear h0
    go_wp2
    go_ret
    exact⟨by rw[Hr.out];first|done|rfl|(rw[decide_eq_false (show ¬((a.name.length:Int)≤255) by omega)];rfl),HB9.out⟩
   have q0:(a.name.length:Int)≤255:=by omega
   have Hr:Hid (bj a=true):=by show _=_;rw[Hpl.out];simp only[decide_eq_true h0,IB]
   go_wp2
   go_ret
   exact⟨by rw[Hr.out];first|done|rfl|(rw[decide_eq_true (show (a.name.length:Int)≤255 by omega)];rfl),HB9.out⟩
 rcases k6:(a.kind==4) with _|_
 ·have Hr:Hid (bj a=false):=EC (by simpa using k1) (by simpa using k2) (by simpa using k5) (by simpa using k6)
  go_wp2
  go_ret
  exact⟨by rw[Hr.out];first|done|rfl,H3.out.bel⟩
 have Hk:Hid (a.kind=4):=by show _=_;simpa using k6
 have Hbo:Hid (a1=bX a):=by
  show _=_
  rw[Ha1.out];unfold bX;rw[if_neg (by have:=Hk.out;omega),if_neg (by have:=Hk.out;omega),if_neg (by have:=Hk.out;omega)]
 have Hbf:Hid (a1.frame=[]):=by show _=_;rw[Ha1.out];rfl
 obtain⟨s,hsm⟩:∃s,aV a a1=s:=⟨_,rfl⟩;have Hsm:=hid hsm;have Hpl:Hid (bj a=s):=by show _=_;rw[EB Hk.out,←Hbo.out,hsm]
 clear hsm;have RX:=hid (ag H3.out.src);have RB:=hid (ag H3.out.box)
 go_wp2_with (first
  |((with_reducible refine aB 60 ?_);refine aa (by rfl) 60 (.tmp 1) rfl w.heap.size 0 rfl (ak A a.frame.length c a) _ RX.out bQ rfl (bv ha.out) ?_)
  |((with_reducible refine aB 60 ?_);refine aa (by rfl) 60 (.tmp 3) rfl (w.heap.size+1) 0 rfl (ak none a1.frame.length 0 a1) _ RB.out bQ rfl (bv H3.out.shape) ?_))
 refine (ke A c a none 0 a1 ha.out H3.out.shape W3 ((HF.out.below H3.out.bel).more H3.out.bel.size) (by rw[Hbf.out];exact IG _ _ _) s Hsm.out).mono ?_;rintro e w9 ⟨rfl,hb9⟩;have HX9:=hid (aj.below H3.out.src hb9 H3.out.src.lt);have HB9:Hid (Below w.heap.size w w9):=H3.out.bel.trans (hb9.mono H3.out.bel.size);clear hb9 RX RB;rcases s with _|_
 ·go_wp2
  go_ret
  exact⟨by rw[Hpl.out];first|done|rfl,HB9.out⟩
 ·go_wp2
  go_ret
  exact⟨by rw[Hpl.out];first|done|rfl,HB9.out⟩
theorem FR(A:Option Addr)(n c:Nat)(a:ca)(ha0:aA a)(hn:n=a.frame.length)(w:World)(hf:BS w w.heap.size A a.frame)(r:Bool)(hr:bj a=r) :
  Calls IC 69 #[.agg (ak A n c a).toArray] w fun e w'=>e=.returned (.bool r)∧Below w.heap.size w w':=by
 subst hr hn;exact uY A c a ha0 w hf
theorem ez(e:dI):aG e=(bj e.act&&(decide (0≤e.o.err)&&(decide (e.o.err≤9)&&(decide (0≤e.o.reason)&&(decide (e.o.reason≤10)&&(decide (0≤e.o.version)&&(decide (e.o.version≤1099511627776)&&(decide (e.o.name.length≤255)&&(decide (e.o.out.length=0)&&(decide (0≤e.len)&&decide (e.len≤262144))))))))))):=by
 unfold aG dh;simp only[IF]
theorem sW(A:Option Addr)(c:Nat)(A2:Option Addr)(c2:Nat)(e:dI)(hs0:aP e)(w:World)(hf0:BS w w.heap.size A e.act.frame) :
  Calls IC 35 #[.agg (bh A e.act.frame.length c A2 e.o.out.length c2 e).toArray] w fun x w'=>x=.returned (.bool (aG e))∧Below w.heap.size w w':=by
 have hs:=hid hs0;obtain⟨W0,hW⟩:∃W,W=w.alloc (.cells (bh A e.act.frame.length c A2 e.o.out.length c2 e).toArray 65):=⟨_,rfl⟩;have H1:Hid (aj W0 w.heap.size 65 (bh A e.act.frame.length c A2 e.o.out.length c2 e).toArray):=by rw[hW];exact aj.new w _ _ _ rfl
 have Bw:Hid (Below w.heap.size w W0):=by rw[hW];exact (Below.refl _ _).alloc (IH _) _
 have Hf:=hid ((hf0.below Bw.out).more Bw.out.size);have HW:=hid hW;clear hW hs0 hf0;go_enter Tryz.func35,Tryz.ntmps35
 go_upto_region 1 with fail
 rw[←HW.out];clear HW;have RO:=hid (pV H1.out hs.out);obtain⟨x1,hx1⟩:∃W,W=W0.alloc (.cells (cD none 0 0 qz).toArray 62):=⟨_,rfl⟩;obtain⟨y1,hy1⟩:∃W,W=x1.setCells W0.heap.size 0 (cD A2 e.o.out.length c2 e.o):=⟨_,rfl⟩;obtain⟨hth1,hbx1,hbe1⟩:=jE W0 x1 y1 62 (cD none 0 0 qz) (cD A2 e.o.out.length c2 e.o) rfl hx1 hy1;rw[mJ] at hx1;have HX1:=hid hx1;have HY1:=hid hy1;have Hth1:=hid hth1;have Hbe1:=hid hbe1;have H3n:=hid hbx1;clear hx1 hy1 hth1 hbx1 hbe1;have R1:=hid (ag H1.out);go_upto_region 2 with (first
  |((with_reducible refine aB 65 ?_);refine aa (by rfl) 65 (.tmp 1) rfl w.heap.size 0 rfl (bh A e.act.frame.length c A2 e.o.out.length c2 e) _ R1.out eh rfl (ll hs.out) ?_)
  |(rw[←HX1.out];(with_reducible refine aR 62 ?_);refine wpList_store_mid rfl 62 (.tmp 3) (.tmp 5) rfl W0.heap.size 0 (cD A2 e.o.out.length c2 e.o).toArray rfl rfl Hth1.out jN (lP _ _ _ _) ?_)
  |((with_reducible refine aB 62 ?_);refine aa (by rfl) 62 (.tmp 4) rfl w.heap.size 34 rfl (cD A2 e.o.out.length c2 e.o) _ RO.out Tryz.underlying62 rfl jN ?_))
 clear R1;rw[←HY1.out];clear HX1 HY1 Hth1;have H1':=hid (aj.below H1.out Hbe1.out H1.out.lt);clear H1;have H1:=H1';clear H1';have Hf':=hid ((Hf.out.below Hbe1.out).more Hbe1.out.size);clear Hf;have Hf:=Hf';clear Hf';have Bw':Hid (Below w.heap.size w y1):=Bw.out.trans (Hbe1.out.mono Bw.out.size);clear Bw;have Bw:=Bw';clear Bw';have H3:=H3n;clear H3n Hbe1;clear RO;have RA:=hid (ob H1.out hs.out);obtain⟨p,hp⟩:∃p,bj e.act=p:=⟨_,rfl⟩;have Hp:=hid hp;clear hp
 go_wp2_with (first
  |((with_reducible refine aB 60 ?_);refine aa (by rfl) 60 (.tmp 6) rfl w.heap.size 0 rfl (ak A e.act.frame.length c e.act) _ RA.out bQ rfl (bv hs.out.act) ?_))
 clear RA;refine (FR A _ c e.act hs.out.act rfl y1 Hf.out p Hp.out).mono ?_;rintro e w5 ⟨rfl,hb2⟩;have Hb2:=hid hb2;clear hb2;have H1':=hid (aj.below H1.out Hb2.out H1.out.lt);clear H1;have H1:=H1';clear H1';have H3':=hid (aj.below H3.out Hb2.out H3.out.lt);clear H3;have H3:=H3';clear H3';have Hf':=hid ((Hf.out.below Hb2.out).more Hb2.out.size);clear Hf;have Hf:=Hf';clear Hf';have Bw':Hid (Below w.heap.size w w5):=Bw.out.trans (Hb2.out.mono Bw.out.size);clear Bw;have Bw:=Bw';clear Bw';clear Hb2;rcases p with _|_
 ·have Hr:Hid (aG e=false):=by show _=_;rw[ez,Hp.out,Iy]
  go_wp2
  go_ret
  exact⟨by rw[Hr.out];first|done|rfl,Bw.out⟩
 have d0:=jf H3.out;have d1:=eN H3.out;have d2:=dZ H3.out;have d3:=gW H3.out;have d4:=ku H3.out;have d5:=je H1.out hs.out;have HB:=Bw;by_cases h0:0≤e.o.err
 rotate_left
 ·have q0:¬(0≤e.o.err):=by omega
  have Hr:Hid (aG e=false):=by show _=_;rw[ez,Hp.out,qq];simp only[decide_eq_false h0,Iy,Iz,qq]
  clear h0
  go_wp2
  go_ret
  exact⟨by rw[Hr.out];first|done|rfl|(rw[decide_eq_false (show ¬(0≤e.o.err) by omega)];rfl),HB.out⟩
 have q0:0≤e.o.err:=by omega
 by_cases h1:e.o.err≤9
 rotate_left
 ·have q1:¬(e.o.err≤9):=by omega
  have Hr:Hid (aG e=false):=by show _=_;rw[ez,Hp.out,qq];simp only[decide_eq_true h0,decide_eq_false h1,Iy,Iz,qq]
  clear h0 h1
  go_wp2
  go_ret
  exact⟨by rw[Hr.out];first|done|rfl|(rw[decide_eq_false (show ¬(e.o.err≤9) by omega)];rfl),HB.out⟩
 have q1:e.o.err≤9:=by omega
 by_cases h2:0≤e.o.reason
 rotate_left
 ·have q2:¬(0≤e.o.reason):=by omega
  have Hr:Hid (aG e=false):=by show _=_;rw[ez,Hp.out,qq];simp only[decide_eq_true h0,decide_eq_true h1,decide_eq_false h2,Iy,Iz,qq]
  clear h0 h1 h2
  go_wp2
  go_ret
  exact⟨by rw[Hr.out];first|done|rfl|(rw[decide_eq_false (show ¬(0≤e.o.reason) by omega)];rfl),HB.out⟩
 have q2:0≤e.o.reason:=by omega
 by_cases h3:e.o.reason≤10
 rotate_left
 ·have q3:¬(e.o.reason≤10):=by omega
  have Hr:Hid (aG e=false):=by show _=_;rw[ez,Hp.out,qq];simp only[decide_eq_true h0,decide_eq_true h1,decide_eq_true h2,decide_eq_false h3,Iy,Iz,qq]
  clear h0 h1 h2 h3
  go_wp2
  go_ret
  exact⟨by rw[Hr.out];first|done|rfl|(rw[decide_eq_false (show ¬(e.o.reason≤10) by omega)];rfl),HB.out⟩
 have q3:e.o.reason≤10:=by omega
 by_cases h4:0≤e.o.version
 rotate_left
 ·have q4:¬(0≤e.o.version):=by omega
  have Hr:Hid (aG e=false):=by show _=_;rw[ez,Hp.out,qq];simp only[decide_eq_true h0,decide_eq_true h1,decide_eq_true h2,decide_eq_true h3,decide_eq_false h4,Iy,Iz,qq]
  clear h0 h1 h2 h3 h4
  go_wp2
  go_ret
  exact⟨by rw[Hr.out];first|done|rfl|(rw[decide_eq_false (show ¬(0≤e.o.version) by omega)];rfl),HB.out⟩
 have q4:0≤e.o.version:=by omega
 by_cases h5:e.o.version≤1099511627776
 rotate_left
 ·have q5:¬(e.o.version≤1099511627776):=by omega
  have Hr:Hid (aG e=false):=by show _=_;rw[ez,Hp.out,qq];simp only[decide_eq_true h0,decide_eq_true h1,decide_eq_true h2,decide_eq_true h3,decide_eq_true h4,decide_eq_false h5,Iy,Iz,qq]
  clear h0 h1 h2 h3 h4 h5
  go_wp2
  go_ret
  exact⟨by rw[Hr.out];first|done|rfl|(rw[decide_eq_false (show ¬(e.o.version≤1099511627776) by omega)];rfl),HB.out⟩
 have q5:e.o.version≤1099511627776:=by omega
 by_cases h6:e.o.name.length≤255
 rotate_left
 ·have q6:¬((e.o.name.length:Int)≤255):=by omega
  have Hr:Hid (aG e=false):=by show _=_;rw[ez,Hp.out,qq];simp only[decide_eq_true h0,decide_eq_true h1,decide_eq_true h2,decide_eq_true h3,decide_eq_true h4,decide_eq_true h5,decide_eq_false h6,Iy,Iz,qq]
  clear h0 h1 h2 h3 h4 h5 h6
  go_wp2
  go_ret
  exact⟨by rw[Hr.out];first|done|rfl|(rw[decide_eq_false (show ¬((e.o.name.length:Int)≤255) by omega)];rfl),HB.out⟩
 have q6:(e.o.name.length:Int)≤255:=by omega
 by_cases h7:e.o.out.length=0
 rotate_left
 ·have q7:¬((e.o.out.length:Int)=0):=by omega
  have qb:((e.o.out.length:Int)==0)=false:=beq_eq_false_iff_ne.2 (by omega);have Hr:Hid (aG e=false):=by show _=_;rw[ez,Hp.out,qq];simp only[decide_eq_true h0,decide_eq_true h1,decide_eq_true h2,decide_eq_true h3,decide_eq_true h4,decide_eq_true h5,decide_eq_true h6,decide_eq_false h7,Iy,Iz,qq]
  clear h0 h1 h2 h3 h4 h5 h6 h7
  go_wp2
  go_ret
  exact⟨by rw[Hr.out];first|done|rfl|(rw[decide_eq_false (show ¬((e.o.out.length:Int)=0) by omega)];rfl),HB.out⟩
 have q7:(e.o.out.length:Int)=0:=by omega
 have qb:((e.o.out.length:Int)==0)=true:=by rw[q7];rfl
 by_cases h8:0≤e.len
 rotate_left
 ·have q8:¬(0≤e.len):=by omega
  have Hr:Hid (aG e=false):=by show _=_;rw[ez,Hp.out,qq];simp only[decide_eq_true h0,decide_eq_true h1,decide_eq_true h2,decide_eq_true h3,decide_eq_true h4,decide_eq_true h5,decide_eq_true h6,decide_eq_true h7,decide_eq_false h8,Iy,Iz,qq]
  clear h0 h1 h2 h3 h4 h5 h6 h7 h8
  go_wp2
  go_ret
  exact⟨by rw[Hr.out];first|done|rfl|(rw[decide_eq_false (show ¬(0≤e.len) by omega)];rfl),HB.out⟩
 have q8:0≤e.len:=by omega
 by_cases h9:e.len≤262144
 rotate_left
 ·have q9:¬(e.len≤262144):=by omega
  have Hr:Hid (aG e=false):=by show _=_;rw[ez,Hp.out,qq];simp only[decide_eq_true h0,decide_eq_true h1,decide_eq_true h2,decide_eq_true h3,decide_eq_true h4,decide_eq_true h5,decide_eq_true h6,decide_eq_true h7,decide_eq_true h8,decide_eq_false h9,Iy,Iz,qq]
  clear h0 h1 h2 h3 h4 h5 h6 h7 h8 h9
  go_wp2
  go_ret
  exact⟨by rw[Hr.out];first|done|rfl|(rw[decide_eq_false (show ¬(e.len≤262144) by omega)];rfl),HB.out⟩
 have q9:e.len≤262144:=by omega
 have Hr:Hid (aG e=true):=by show _=_;rw[ez,Hp.out,qq];simp only[decide_eq_true h0,decide_eq_true h1,decide_eq_true h2,decide_eq_true h3,decide_eq_true h4,decide_eq_true h5,decide_eq_true h6,decide_eq_true h7,decide_eq_true h8,decide_eq_true h9,IB]
 clear h0 h1 h2 h3 h4 h5 h6 h7 h8 h9
 go_wp2
 go_ret
 exact⟨by rw[Hr.out];first|done|rfl|(rw[decide_eq_true (show e.len≤262144 by omega)];rfl),HB.out⟩
