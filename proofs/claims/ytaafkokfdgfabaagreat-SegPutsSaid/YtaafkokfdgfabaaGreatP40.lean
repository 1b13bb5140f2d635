import Derived.Test.YtaafkokfdgfabaaGreatP25
import Derived.Test.YtaafkokfdgfabaaGreatP29
import Derived.Test.YtaafkokfdgfabaaGreatP31
import Derived.Test.YtaafkokfdgfabaaGreatP33
import Derived.Test.YtaafkokfdgfabaaGreatP35
import Derived.Test.YtaafkokfdgfabaaGreatP37
import Derived.Test.YtaafkokfdgfabaaGreatP38
import Derived.Test.YtaafkokfdgfabaaGreatP39
set_option maxHeartbeats 8000000
set_option maxRecDepth 100000
set_option linter.unusedVariables false
set_option linter.unusedSimpArgs false
open Bool renaming not_false→ID,not_true→IF,and_eq_true→IH,or_eq_false_iff→IP,false_eq→IV,true_and→IW
open List renaming getElem?_eq_getElem→qq,mem_of_getElem?→IB,getElem_mem→IC,take_add_one→IK,take_of_length_le→IL,getElem?_toArray→IN,getElem?_take→IR,getElem?_map→IT,size_toArray→IU
open Nat renaming reduceAdd→Iy,lt_of_lt_of_le→Iz,le_refl→II,lt_or_ge→IS
namespace Go.Proofs.YtaafkokfdgfabaaGreat
open Go.RowKit
open Lib (hid)
open Act renaming put→IM
open Region renaming wanted→IQ
open Sd renaming done→IE,plain→IG,start→IJ,step→IX
open Tryz renaming prog→IA
theorem cv{ops:Array Oper}{Q:Exit→Act→World→Prop}{W:World}{k:Nat}{a:Act}{o:Oper}{d:Tmp}{x:Operand}{A:Option Addr}{n c:Nat}{l:List UInt8}(hb:BS W W.heap.size A l)(hn:n=l.length)(h:Sd IA ops Q W (k+1) { a with tmps:=a.tmps.setIfInBounds d (.string ⟨l.toArray⟩) })(hi:ops[k]?=some o:=by rfl)(hd:o.dst=some d:=by rfl)(hw:IQ o (yielded ops a.tmps)=true:=by rfl)(ho:o.op=.convert 43 9 x:=by rfl)(hx:a.eval x=.slice A n c:=by rfl):Sd IA ops Q W k a :=
 IX (.inl ⟨hw,fun w hS=>by rw[ig ho hx (hb.below hS) hn];exact⟨rfl,hS⟩⟩) (by rw[hd];exact h) hi
theorem Ew{o:Oper}{a:Act}{t tz:TypeId}{x y:Operand}{p q:List UInt8}{w:World}(ho:o.op=.binOp .add t x y tz)(hx:a.eval x=.string ⟨p.toArray⟩)(hy:a.eval y=.string ⟨q.toArray⟩)(hl:p.length+q.length≤9223372036854775807):(execOp a.eval o).run IA w=.ok (.value (.string ⟨(p++q).toArray⟩)) w:=by
 have h1:=run_string_add_sum (P:=IA) (w:=w) ⟨p.toArray⟩ ⟨q.toArray⟩ (by simpa[ByteArray.size] using hl);unfold execOp;simp only[ho,hx,hy];rw[←oE];go_simp
theorem sa{ops:Array Oper}{Q:Exit→Act→World→Prop}{W:World}{k:Nat}{a:Act}{o:Oper}{d:Tmp}{t tz:TypeId}{x y:Operand}{p q:List UInt8}(hl:p.length+q.length≤9223372036854775807)(h:Sd IA ops Q W (k+1) { a with tmps:=a.tmps.setIfInBounds d (.string ⟨(p++q).toArray⟩) })(hi:ops[k]?=some o:=by rfl)(hd:o.dst=some d:=by rfl)(hw:IQ o (yielded ops a.tmps)=true:=by rfl)(ho:o.op=.binOp .add t x y tz:=by rfl)(hx:a.eval x=.string ⟨p.toArray⟩:=by rfl)(hy:a.eval y=.string ⟨q.toArray⟩:=by rfl):Sd IA ops Q W k a :=
 IX (.inl ⟨hw,fun w hS=>by rw[Ew ho hx hy hl];exact⟨rfl,hS⟩⟩) (by rw[hd];exact h) hi
theorem nF(w:World):Calls IA 9 #[] w fun e w'=>e=.returned (.bool true)∧Below w.heap.size w w':=by
 obtain⟨P,hP⟩:∃P,P=cg kb:=⟨_,rfl⟩;obtain⟨H,hH⟩:∃P,P=dB kb:=⟨_,rfl⟩;obtain⟨V,hV⟩:∃P,P=cA nM:=⟨_,rfl⟩;obtain⟨n,hn⟩:∃n,n=P.length:=⟨_,rfl⟩;obtain⟨nh,hnh⟩:∃n,n=H.length:=⟨_,rfl⟩;obtain⟨nv,hnv⟩:∃n,n=V.length:=⟨_,rfl⟩;have hl:n=nh+nv∧5≤nv∧n≤15000000:=by rw[hn,hnh,hnv,hP,hH,hV];exact AB
 obtain⟨S4,hS4⟩:∃s,s=kb:=⟨_,rfl⟩;obtain⟨S5,hS5⟩:∃s,s=dS:=⟨_,rfl⟩;obtain⟨S6,hS6⟩:∃s,s={ kb with evs:=[] }:=⟨_,rfl⟩;have Hr1:Hid (bW P=(S4,n,0)):=by show _=_;rw[hn,hP,hS4];exact Ep
 have Hr0:Hid (bW []=(S5,0,2)):=by show _=_;rw[hS5];exact Er
 have Hs4:Hid (bV S4):=by rw[hS4];exact gZ
 have Hs5:Hid (bV S5):=by rw[hS5];exact dP
 have Hs6:Hid (bV S6):=by rw[hS6];exact⟨xz,jm,by simp⟩
 have He6:Hid (S6.evs=[]):=by show _=_;rw[hS6]
 have HS4:=hid hS4;have Hr2:Hid (bW (P.take (n-1))=(S6,nh,2)):=by show _=_;rw[hn,hnh,hP,hH,hS6];exact FM
 have Hcat:Hid (P=H++V):=by show _=_;rw[hP,hH,hV];show dB kb++(cA nM++[])=_;rw[List.append_nil]
 have Hl9:Hid (H.length+V.length≤9223372036854775807):=by show _≤_;rw[←hnh,←hnv];omega
 have HP:=hid hP;have HH:=hid hH;have HV:=hid hV;have Hn:=hid hn;have Hnh:=hid hnh;have Hnv:=hid hnv;have n1:1≤n:=by omega
 have Hl:=hid hl;clear hP hH hV hn hnh hnv hl hS4 hS5 hS6;go_enter Tryz.func9,Tryz.ntmps9
 go_wp2_with fail
 refine (En w).mono ?_;rintro e w1 ⟨A1,S,xs,rfl,hS,hin,hxs,B⟩;have Hs:Hid (bV S):=by rw[hS];exact gZ
 have HS:=hid hS;have Hxs:=hid hxs;have HB:=hid B;obtain⟨u1,v1,U1,V1,T1,L1,X1⟩:=xA w1 (xW A1) S Hs.out;have H1:=hid (X1.out xs hin);clear hS hxs B hin X1;go_upto_region 2 with (first
  |(rw[←U1.out];(with_reducible refine aR 40 ?_);refine wpList_store_mid rfl 40 (.tmp 1) (.tmp 29) rfl w1.heap.size 0 (av (xW A1) S).toArray rfl rfl T1.out (pC Hs.out) (eJ _ _) ?_))
 rw[←V1.out];replace HB:=hid (HB.out.trans (L1.out.mono HB.out.size));clear U1 V1 T1 L1;have R1:=hid (ag H1.out.1)
 go_wp2_with (first
  |((with_reducible refine aB 40 ?_);refine aa (by rfl) 40 (.tmp 1) rfl w1.heap.size 0 rfl (av (xW A1) S) _ R1.out aH rfl (fp Hs.out) ?_))
 refine (Iq _ xs S HS.out n P HP.out Hn.out v1 H1.out.2).mono ?_;rintro e w2 ⟨A2,c2,rfl,hbs,hc2,B⟩;have HP2:=hid hbs;replace H1:=hid (H1.out.on B);replace HB:=hid (HB.out.trans (B.mono HB.out.size));clear hbs B R1
 go_wp2_with fail
 refine (Et A2 n c2 P w2 Hn.out HP2.out Hl.out.2.2 hc2 S4 n 0 n 0 Hr1.out rfl rfl).mono ?_;rintro e w3 ⟨x4,xs4,rfl,hin,B⟩;replace H1:=hid (H1.out.on B);replace HP2:=hid (HP2.out.on B);replace HB:=hid (HB.out.trans (B.mono HB.out.size));obtain⟨u4,v4,U4,V4,T4,L4,X4⟩:=xA w3 x4 S4 Hs4.out;have H4:=hid (X4.out _ hin);replace H1:=hid (H1.out.on L4.out);replace HP2:=hid (HP2.out.on L4.out);replace HB:=hid (HB.out.trans (L4.out.mono HB.out.size));clear hin B X4;go_upto_region 4 with (first
  |(rw[←U4.out];(with_reducible refine aR 40 ?_);refine wpList_store_mid rfl 40 (.tmp 4) (.tmp 38) rfl w3.heap.size 0 (av x4 S4).toArray rfl rfl T4.out (pC Hs4.out) (eJ _ _) ?_))
 rw[←V4.out];clear U4 V4 T4 L4;have R1:=hid (ag H1.out.1)
 go_wp2_with (first
  |((with_reducible refine aB 40 ?_);refine aa (by rfl) 40 (.tmp 1) rfl w1.heap.size 0 rfl (av (xW A1) S) _ R1.out aH rfl (fp Hs.out) ?_))
 refine (If _ xs S HS.out nh H HH.out Hnh.out v4 H1.out.2).mono ?_;rintro e w5 ⟨A5,c5,rfl,hbs,hc5,B⟩;have HH5:=hid hbs;replace H1:=hid (H1.out.on B);replace HP2:=hid (HP2.out.on B);replace H4:=hid (H4.out.on B);replace HB:=hid (HB.out.trans (B.mono HB.out.size));clear hbs B R1;have e1:w5.cell? ⟨w1.heap.size,73,none⟩=some (.slice A1 1 1):=by have:=mq Hs.out H1.out.1;rw[HS.out] at this;exact this
 obtain⟨b1,o1,hA1,hb1,hc1⟩:=H1.out.2.evs (by rw[Hxs.out];decide);have R2:=hid (hc1 0 (⟨none,0,none,0⟩,nM) (by rw[Hxs.out];rfl));have hA1':A1=some ⟨b1,o1,none⟩:=hA1;rw[hA1'] at e1;clear hA1 hA1' hc1;go_upto_region 5 with fail
 go_wp2_with (first
  |((with_reducible refine aB 65 ?_);refine aa (by rfl) 65 (.tmp 49) rfl b1 o1 rfl (ky (⟨none,0,none,0⟩,nM)) _ R2.out eh rfl (kz js) ?_))
 refine (GV nv V HV.out Hnv.out w5).mono ?_;rintro e w6 ⟨A6,c6,rfl,hbs,hc6,B⟩;have HV6:=hid hbs;replace H1:=hid (H1.out.on B);replace HP2:=hid (HP2.out.on B);replace H4:=hid (H4.out.on B);replace HH5:=hid (HH5.out.on B);replace HB:=hid (HB.out.trans (B.mono HB.out.size));clear hbs B R2 e1 hb1
 go_wp2_with (first
  |((with_reducible refine AA 40 ?_);refine j6 rfl 40 _ rfl _ _ zq rfl ?_))
 refine (Ir w6).mono ?_;rintro e w7 ⟨rfl,B⟩;replace H1:=hid (H1.out.on B);replace HP2:=hid (HP2.out.on B);replace H4:=hid (H4.out.on B);replace HH5:=hid (HH5.out.on B);replace HV6:=hid (HV6.out.on B);replace HB:=hid (HB.out.trans (B.mono HB.out.size));clear B
 go_wp2_with fail
 refine (Et none 0 0 [] w7 rfl (BS.nil _ _ _) (by decide) (II _) S5 0 2 0 2 Hr0.out rfl rfl).mono ?_;rintro e w8 ⟨x8,xs8,rfl,hin,B⟩;replace H1:=hid (H1.out.on B);replace HP2:=hid (HP2.out.on B);replace H4:=hid (H4.out.on B);replace HH5:=hid (HH5.out.on B);replace HV6:=hid (HV6.out.on B);replace HB:=hid (HB.out.trans (B.mono HB.out.size));obtain⟨u8,v8,U8,V8,T8,L8,X8⟩:=xA w8 x8 S5 Hs5.out;have H8:=hid (X8.out _ hin);replace H1:=hid (H1.out.on L8.out);replace HP2:=hid (HP2.out.on L8.out);replace H4:=hid (H4.out.on L8.out);replace HH5:=hid (HH5.out.on L8.out);replace HV6:=hid (HV6.out.on L8.out);replace HB:=hid (HB.out.trans (L8.out.mono HB.out.size));clear hin B X8 H8;go_upto_region 8 with (first
  |(rw[←U8.out];(with_reducible refine aR 40 ?_);refine wpList_store_mid rfl 40 (.tmp 13) (.tmp 61) rfl w8.heap.size 0 (av x8 S5).toArray rfl rfl T8.out (pC Hs5.out) (eJ _ _) ?_))
 rw[←V8.out];clear U8 V8 T8 L8;obtain⟨m,hm⟩:∃m,m=n-1:=⟨_,rfl⟩;have hmx:max (0:Int) (wrap64 ((n:Int)-1))=(m:Int):=by
  have h1:=Hl.out.2.2;rw[show wrap64 ((n:Int)-1)=(n:Int)-1 by unfold wrap64;omega];omega
 have hmc:(m:Int)≤(c2:Int):=by omega
 have hm0:(0:Int)≤(m:Int):=by omega
 have Hm:Hid (m=(P.take m).length∧m≤15000000∧m≤c2):=⟨by rw[List.length_take,←Hn.out];omega,by have:=Hl.out.2.2;omega,by omega⟩;have Hr6:Hid (bW (P.take m)=(S6,nh,2)):=by show _=_;rw[hm];exact Hr2.out
 clear hm n1 hc2
 go_wp2_with fail
 refine (Et A2 m c2 (P.take m) v8 Hm.out.1 (HP2.out.take m) Hm.out.2.1 Hm.out.2.2 S6 nh 2 nh 2 Hr6.out rfl rfl).mono ?_;rintro e w9 ⟨x9,xs9,rfl,hin,B⟩;replace H1:=hid (H1.out.on B);replace HP2:=hid (HP2.out.on B);replace H4:=hid (H4.out.on B);replace HH5:=hid (HH5.out.on B);replace HV6:=hid (HV6.out.on B);replace HB:=hid (HB.out.trans (B.mono HB.out.size));obtain⟨u9,v9,U9,V9,T9,L9,X9⟩:=xA w9 x9 S6 Hs6.out;have H9:=hid (X9.out _ hin);replace H1:=hid (H1.out.on L9.out);replace HP2:=hid (HP2.out.on L9.out);replace H4:=hid (H4.out.on L9.out);replace HH5:=hid (HH5.out.on L9.out);replace HV6:=hid (HV6.out.on L9.out);replace HB:=hid (HB.out.trans (L9.out.mono HB.out.size));clear hin B X9 hmx hmc hm0 Hm Hr6;go_upto_region 9 with (first
  |(rw[←U9.out];(with_reducible refine aR 40 ?_);refine wpList_store_mid rfl 40 (.tmp 16) (.tmp 72) rfl w9.heap.size 0 (av x9 S6).toArray rfl rfl T9.out (pC Hs6.out) (eJ _ _) ?_))
 rw[←V9.out];clear U9 V9 T9 L9
 go_wp2_with fail
 refine (FO v9).mono ?_;rintro e w10 ⟨rfl,B⟩;replace H1:=hid (H1.out.on B);replace HP2:=hid (HP2.out.on B);replace H4:=hid (H4.out.on B);replace HH5:=hid (HH5.out.on B);replace HV6:=hid (HV6.out.on B);replace H9:=hid (H9.out.on B);replace HB:=hid (HB.out.trans (B.mono HB.out.size));clear B
 go_wp2_with fail
 refine (Ev w10).mono ?_;rintro e w11 ⟨rfl,B⟩;replace H1:=hid (H1.out.on B);replace HP2:=hid (HP2.out.on B);replace H4:=hid (H4.out.on B);replace HH5:=hid (HH5.out.on B);replace HV6:=hid (HV6.out.on B);replace H9:=hid (H9.out.on B);replace HB:=hid (HB.out.trans (B.mono HB.out.size));clear B
 go_wp2_with fail
 refine (FP w11).mono ?_;rintro e w12 ⟨rfl,B⟩;replace H1:=hid (H1.out.on B);replace HP2:=hid (HP2.out.on B);replace H4:=hid (H4.out.on B);replace HH5:=hid (HH5.out.on B);replace HV6:=hid (HV6.out.on B);replace H9:=hid (H9.out.on B);replace HB:=hid (HB.out.trans (B.mono HB.out.size));clear B
 go_wp2_with fail
 refine (FQ w12).mono ?_;rintro e w13 ⟨rfl,B⟩;replace H1:=hid (H1.out.on B);replace HP2:=hid (HP2.out.on B);replace H4:=hid (H4.out.on B);replace HH5:=hid (HH5.out.on B);replace HV6:=hid (HV6.out.on B);replace H9:=hid (H9.out.on B);replace HB:=hid (HB.out.trans (B.mono HB.out.size));clear B;have e1:w13.cell? ⟨w9.heap.size,73,none⟩=some (.slice x9.e 0 x9.ce):=by have:=mq Hs6.out H9.out.1;rw[He6.out] at this;exact this
 have l1:w1.heap.size<w13.heap.size:=H1.out.1.lt;have l4:w3.heap.size<w13.heap.size:=H4.out.1.lt;have l9:w9.heap.size<w13.heap.size:=H9.out.1.lt;go_upto_region 13 with fail
 refine IG ?_
 repeat ((first
  |refine pa ?_
  |refine sl (ag H1.out.1) l1 aH (fp Hs.out) ?_
  |refine sl (ag H4.out.1) l4 aH (fp Hs4.out) ?_
  |refine cl (fun u hu=>Ig HS.out HS4.out (H1.out.on hu).2 (H4.out.on hu).2) ?_
  |refine cl (fun u hu=>Eu HS.out (H1.out.on hu).2) ?_
  |refine cv HP2.out Hn.out ?_|refine cv HH5.out Hnh.out ?_|refine cv HV6.out Hnv.out ?_
  |refine pt ?_);simp only[ld,lg,lf,Iy,Bool.and_self,oE,←Hcat.out,beq_self_eq_true])
 refine sa (Hl9.out) ?_;simp only[ld,lg,lf,Iy,←Hcat.out]
 repeat ((first|refine pa ?_|refine cl (fun u hu=>Eu HS.out (H1.out.on hu).2) ?_|refine sl (ag H1.out.1) l1 aH (fp Hs.out) ?_|refine pt ?_);simp only[ld,lg,lf,Iy,Bool.and_self,beq_self_eq_true])
 refine IE fun w2 hb2=>?_
 have Hb2:=hid (HB.out.trans (hb2.mono HB.out.size));clear hb2
 go_wp2
 go_ret
 exact⟨rfl,Hb2.out⟩
section
variable {ops:Array Oper} {Q:Exit→Act→World→Prop} {W:World} {a:Act} {o:Oper} {k:Nat} {d:Tmp}
theorem ee{t tz:TypeId}{x y:Operand}{xs ys:Array Value}{r:Bool}(he:∀w,(Op.equalIn 10000 t (.agg xs) (.agg ys)).run IA w=.ok r w)(hm:IA.eqGuardType IA.depth t=false)(h:Sd IA ops Q W (k+1) { a with tmps:=a.tmps.setIfInBounds d (.bool r) })(hi:ops[k]?=some o:=by rfl)(hd:o.dst=some d:=by rfl)(ho:o.op=.binOp .eql t x y tz:=by rfl)
  (hw:IQ o (yielded ops a.tmps)=true:=by rfl) (hx:a.eval x=.agg xs:=by rfl) (hy:a.eval y=.agg ys:=by rfl):Sd IA ops Q W k a :=
 IX (.inl ⟨hw,fun w hS=>by
  have e:(execOp a.eval o).run IA w=.ok (.value (.bool r)) w:=by
   unfold execOp;simp only[ho,hx,hy,Sem.run_bind,run_eqGuard_agg w _ _ _ _ _ _ hm,Result.andThen_ok,run_eql_struct,he,Sem.run_pure]
  rw[e];exact⟨rfl,hS⟩⟩) (by rw[hd];exact h) hi
end
theorem Is(e:Bool)(x y p q n m:Int):(decide (x<y)||decide (p<q)||decide (n<m)||e)=!(decide (y≤x)&&(decide (q≤p)&&(decide (m≤n)&&!e))):=by
 have:=Ic false e x y p q n m;simpa using this
theorem tV{f:dE}(h:cy f.key){w:World}{g o:Nat}(hb:w.rangeAt g o (aw f)):w.rangeAt g o (aM f.key):=fun j v hj=>hb j v (by
 unfold aw;rw[List.getElem?_append_left (by rcases IS j (aM f.key).length with h|h<;>first|exact h|(rw[List.getElem?_eq_none h] at hj;cases hj))];exact hj)
theorem Ey(A:Option Addr)(n c:Nat)(f:bf)(x:nJ)(s:bA)(hf:ao f)(w:World)(hn:n=f.vips.length)(hnc:n≤c)(hv:VS w w.heap.size A f.vips)(hl:n≤1000000)(hst:md w w.heap.size x s) :
  Calls IA 36 #[iT A n c f,.agg (cU x s).toArray] w fun e w'=>e=.returned (.bool (k7 f s))∧Below w.heap.size w w':=by
 subst hn;unfold iT;obtain⟨xb,cb,xh,ch,xf,cf⟩:=x;obtain⟨W1,hW1⟩:∃W,W=w.alloc (.cells (am A f.vips.length c f).toArray 29):=⟨_,rfl⟩;obtain⟨W,hW⟩:∃W,W=W1.alloc (.cells (cU ⟨xb,cb,xh,ch,xf,cf⟩ s).toArray 37):=⟨_,rfl⟩;have X1:aj W1 w.heap.size 29 (am A f.vips.length c f).toArray:=by rw[hW1];exact aj.new w _ _ _ rfl
 have B1:Below W1.heap.size W1 W:=by rw[hW];exact (Below.refl _ _).alloc (II _) _
 have HX:=hid (X1.below B1 X1.lt);have HY:Hid (aj W (w.heap.size+1) 37 (cU ⟨xb,cb,xh,ch,xf,cf⟩ s).toArray):=by rw[hW];exact aj.new W1 _ _ _ (by rw[hW1];simp)
 have HB:Hid (Below w.heap.size w W):=by
  have:Below w.heap.size w W1:=by rw[hW1];exact (Below.refl _ _).alloc (II _) _
  exact this.trans (B1.mono this.size)
 have HV:=hid ((hv.below HB.out).more HB.out.size);have HS:=hid (hst.on HB.out);have Hf:=hid hf;have a1:W.cell? ⟨w.heap.size,2,none⟩=some (.int .i64 f.room):=HX.out.cell 2;have b0:W.cell? ⟨w.heap.size+1,1,none⟩=some (.slice xb s.pool.backs.length cb):=HY.out.cell 1;have b1:W.cell? ⟨w.heap.size+1,2,none⟩=some (.slice xh s.healths.length ch):=HY.out.cell 2;have b2:W.cell? ⟨w.heap.size+1,3,none⟩=some (.slice xf s.flows.length cf):=HY.out.cell 3;have b3:W.cell? ⟨w.heap.size+1,4,none⟩=some (.int .i64 s.tick):=HY.out.cell 4;have b4:W.cell? ⟨w.heap.size+1,5,none⟩=some (.int .i64 s.no):=HY.out.cell 5;have HW1:=hid hW1;have HW:=hid hW;have l0:w.heap.size<W.heap.size:=HX.out.lt;have l1:w.heap.size+1<W.heap.size:=HY.out.lt;have Hcz:Hid ((IA.info? 29).map (·.size)=some (am A f.vips.length c f).length):=by show _=_;rw[dD Hf.out];exact cB
 have HPool:=hid (fun w h=>tT xb s.pool.backs.length cb s.pool HS.out.ok.backs HS.out.nb w rfl HS.out.cb.1 ((HS.out.held.backs.below h).more h.size) HS.out.cb.2);have Hcnt:=hid HS.out.ok.count;clear hW hW1 X1 B1 hv hst hf;go_enter Tryz.func36,Tryz.ntmps36
 go_upto_region 1 with fail
 rw[←HW1.out,←HW.out];clear HW HW1;obtain⟨T1,hT1⟩:∃T,T=(!aQ f||!bU s.pool||((s.healths.length:Int) != (s.pool.backs.length:Int))||decide (f.room<(s.flows.length:Int))):=⟨_,rfl⟩;refine IG ?_
 repeat ((first|refine po ?_|refine sl (ag HX.out) l0 dV Hcz.out ?_|refine gs (nz HY.out) l1 jn ka ?_|refine cl (fun w h=>uX A f.vips.length c f Hf.out w rfl ((HV.out.below h).more h.size) hl) ?_|refine gc (fun w h=>HPool.out w h) ?_|refine gp ?_|refine pt ?_);simp only[ld,lg,lf,Iy])
 refine IE fun w2 hb2=>?_
 have Hb2:=hid hb2;have Hw2:=hid (HB.out.trans (hb2.mono HB.out.size));rw[←hT1];have HT1:=hid hT1;clear hb2 hT1;rcases T1 with _|_
 rotate_left
 ·have Hr:Hid (k7 f s=false):=mo fun h=>by
   have:=HT1.out;rw[h.conf,h.pool,h.hlen,decide_eq_false (by have:=h.flen;omega)] at this;simp at this
  go_wp2
  go_ret
  exact⟨by rw[Hr.out];rfl,Hw2.out⟩
 have Hq1:Hid (aQ f=true∧bU s.pool=true∧s.healths.length=s.pool.backs.length∧(s.flows.length:Int)≤f.room):=by
  have:=HT1.out;simp at this;exact⟨this.1.1.1,this.1.1.2,by have:=this.1.2;omega,this.2⟩
 clear HT1 HPool;go_upto_region 3 with fail
 obtain⟨T2,hT2⟩:∃T,T=(decide (s.tick<0)||decide (1099511627776<s.tick)||decide (s.no<0)||decide (1152921504606846976<s.no)):=⟨_,rfl⟩;refine Sd.plain' Hb2.out ?_
 repeat ((first|refine po ?_|refine gp ?_|refine pt ?_);simp only[ld,lg,lf,Iy])
 refine IE fun w3 hb3=>?_
 clear Hb2 Hw2;have Hb3:=hid hb3;have Hw3:=hid (HB.out.trans (hb3.mono HB.out.size));rw[←hT2];have HT2:=hid hT2;clear hb3 hT2;rcases T2 with _|_
 rotate_left
 ·have Hr:Hid (k7 f s=false):=mo fun h=>by
   have:=HT2.out;rw[decide_eq_false (by have:=h.tick;omega),decide_eq_false (by have:=h.tick;omega),decide_eq_false (by have:=h.no;omega),decide_eq_false (by have:=h.no;omega)] at this;simp at this
  go_wp2
  go_ret
  exact⟨by rw[Hr.out];rfl,Hw3.out⟩
 have Hq2:Hid ((0≤s.tick∧s.tick≤1099511627776)∧(0≤s.no∧s.no≤1152921504606846976)):=by
  have:=HT2.out;simp only[IV,IP,decide_eq_false_iff_not] at this;exact⟨by omega,by omega⟩
 clear HT2
 go_wp2
 go_loopw [5] (fun i wr=>∃k:Nat,k≤11∧i=.int .i64 (k:Int)∧Hid (Below W.heap.size W wr)∧Hid ((s.count.take k).all (fun n=>dh n 0 1152921504606846976)=true)) (fun i _=>11-(intOf i).toNat)
 case atStart=>exact⟨0,by omega,rfl,Hb3,rfl⟩
 case round =>
  obtain⟨k,hk,rfl,hbel,hat⟩:=hrel;rename World=>wr
  by_cases hlt:k<11
  ·have hltI:(k:Int)<11:=by omega
   have hk0:(0:Int)≤(k:Int):=by omega
   obtain⟨x,hx⟩:∃x,s.count[k]?=some x:=⟨_,qq (by rw[Hcnt.out];omega)⟩;have c0:wr.cell? ⟨w.heap.size+1,6+k,none⟩=some (.int .i64 x):=(bg hbel.out _ _ l1).trans (lG HY.out k _ (by rw[IT,hx];rfl));have m1:w.heap.size+1<wr.heap.size:=Iz l1 hbel.out.size;have Hin:Hid ((decide (x<0)||decide (1152921504606846976<x))=!dh x 0 1152921504606846976):=by
    show _=_
    unfold dh;rw[show decide (x<0)=!decide (0≤x) by rw[←decide_not];exact decide_eq_decide.2 (by omega),show decide (1152921504606846976<x)=!decide (x≤1152921504606846976) by rw[←decide_not];exact decide_eq_decide.2 (by omega)];cases decide (0≤x)<;>cases decide (x≤1152921504606846976)<;>rfl
   have Hno:Hid (dh x 0 1152921504606846976=false→k7 f s=false):=fun h=>mo fun g=>by
    have:=List.all_eq_true.1 g.count x (IB hx);rw[h] at this;cases this
   have Hyes:Hid (dh x 0 1152921504606846976=true→(s.count.take (k+1)).all (fun n=>dh n 0 1152921504606846976)=true):=fun h=>by
    rw[IK,hx,List.all_append,hat.out];simp[h]
   clear hx hat;go_upto_region 8 with fail
   obtain⟨T,hT⟩:∃T,T=(decide (x<0)||decide (1152921504606846976<x)):=⟨_,rfl⟩;refine IG ?_
   repeat ((first|refine po ?_|refine gp ?_|refine pt ?_);simp only[ld,lg,lf,Iy])
   refine IE fun w4 hb4=>?_
   have Hb4:=hid (hbel.out.trans (hb4.mono hbel.out.size));have Hw4:=hid (HB.out.trans (Hb4.out.mono HB.out.size));rw[←hT];rw[Hin.out] at hT;clear hb4 hbel;rcases hv:dh x 0 1152921504606846976 with _|_
   ·rw[hv] at hT
    subst hT;have Hr:=hid (Hno.out hv);clear hv
    go_wp2
    go_ret
    exact⟨by rw[Hr.out];rfl,Hw4.out⟩
   ·rw[hv] at hT
    subst hT;have Hy:=hid (Hyes.out hv);clear hv
    go_wp2
    go_roundw
    case rel=>exact⟨k+1,by omega,by go_num,Hb4,Hy⟩
    case measure=>simp[intOf];omega
  have hltI:¬(k:Int)<11:=by omega
  have Hq3:Hid (s.count.all (fun n=>dh n 0 1152921504606846976)=true):=by
   have h:=hat.out;rw[IL (by rw[Hcnt.out];omega)] at h;exact h
  have Hb3:=hid hbel.out;clear hat hbel hlt
  go_wp2
  go_loopw [6] (fun i wr=>∃k:Nat,k≤s.healths.length∧i=.int .i64 (k:Int)∧Hid (Below W.heap.size W wr)∧Hid (∀j,j<k→dY f s j=true)) (fun i _=>s.healths.length-(intOf i).toNat)
  case atStart=>exact⟨0,by omega,rfl,Hb3,fun j hj=>by omega⟩
  case round =>
   obtain⟨k,hk,rfl,hbel,hat⟩:=hrel;rename World=>wr
   have hl1:=HS.out.ch.2;have r1:=(bg hbel.out _ 2 l1).trans b1;have m1w:w.heap.size+1<wr.heap.size:=Iz l1 hbel.out.size;by_cases hlt:k<s.healths.length
   ·have hltI:(k:Int)<(s.healths.length:Int):=by omega
    have hk0:(0:Int)≤(k:Int):=by omega
    have hkb:k<s.pool.backs.length:=by have:=Hq1.out.2.2.1;omega
    have hkbI:(k:Int)<(s.pool.backs.length:Int):=by omega
    obtain⟨hb,ho,hA,hbB,hc⟩:=(HS.out.held.healths.below hbel.out) (by omega);obtain⟨bb,bo,hA2,hbB2,hc2⟩:=(HS.out.held.backs) (by omega);simp only at hA hA2;subst hA hA2;obtain⟨y,hy⟩:∃y,y=s.healths[k]:=⟨_,rfl⟩;obtain⟨z,hz⟩:∃z,z=s.pool.backs[k]:=⟨_,rfl⟩;have Hrg:=hid (hc k y (by rw[qq hlt,hy]));have Hnm:=hid (hc2 k z (by rw[qq hkb,hz]) 0 _ rfl);have Hat0:Hid (dY f s k=(y.name==z.name&&(decide (0≤y.run)&&decide (y.run<(if y.down then f.rise else f.fall))))):=by
     show _=_
     unfold dY;rw[qq hlt,qq hkb,←hy,←hz]
    have Hyes:Hid (dY f s k=true→∀j,j<k+1→dY f s j=true):=fun h j hj=>by
     rcases IS j k with h1|h1
     ·exact hat.out j h1
     ·obtain rfl:j=k:=by omega
      exact h
    have Hno:dY f s k=false→Hid (k7 f s=false):=fun h=>mo fun g=>by have:=g.hs k hlt;rw[h] at this;cases this
    clear hc hc2 hy hz hat;obtain⟨x1,y1,X1,Y1,T1,B1,L1⟩:=ei wr 115 (aF j5) (aF y) rfl;rw[iJ] at X1;have HB1:Hid (Below W.heap.size W y1):=hbel.out.trans (L1.out.mono hbel.out.size);go_upto_region 14 with (first
     |((with_reducible refine aB 115 ?_);refine aa (by rfl) 115 (.tmp 82) rfl hb (ho+k*3) rfl (aF y) _ Hrg.out dQ rfl (dG y) ?_)
     |(rw[←X1.out];(with_reducible refine aR 115 ?_);refine wpList_store_mid rfl 115 (.tmp 7) (.tmp 83) rfl wr.heap.size 0 (aF y).toArray rfl rfl T1.out (by rw[IU];exact dG y) (gL _) ?_))
    rw[←Y1.out];have HXy:=hid (HX.out.below HB1.out HX.out.lt);have HYy:=hid (HY.out.below HB1.out HY.out.lt);have e1:y1.cell? ⟨w.heap.size,9,none⟩=some (.int .i64 f.rise):=by rw[HXy.out.cell,IN];exact iE Hf.out 0
    have e2:y1.cell? ⟨w.heap.size,10,none⟩=some (.int .i64 f.fall):=by rw[HXy.out.cell,IN];exact iE Hf.out 1
    have e3:y1.cell? ⟨wr.heap.size,0,none⟩=some (.string ⟨y.name.toArray⟩):=B1.out.cell 0;have e4:y1.cell? ⟨wr.heap.size,1,none⟩=some (.bool y.down):=B1.out.cell 1;have e5:y1.cell? ⟨wr.heap.size,2,none⟩=some (.int .i64 y.run):=B1.out.cell 2;have e6:y1.cell? ⟨w.heap.size+1,1,none⟩=some (.slice (some ⟨bb,bo,none⟩) s.pool.backs.length cb):=HYy.out.cell 1;have e7:y1.cell? ⟨bb,bo+k*27,none⟩=some (.string ⟨z.name.toArray⟩):=(bg HB1.out _ _ hbB2).trans Hnm.out;have m0:w.heap.size<y1.heap.size:=HXy.out.lt;have m1:w.heap.size+1<y1.heap.size:=HYy.out.lt;have m2:wr.heap.size<y1.heap.size:=B1.out.lt;have m3:bb<y1.heap.size:=Iz hbB2 HB1.out.size;have Hsz:=hid HB1.out.size;have Hll:=hid HS.out.cb.2;clear X1 Y1 T1 Hrg hbel Hnm b0 b1 b2 b3 b4 r1 a1;rcases hdn:y.down with _|_
    all_goals
     rw[hdn] at e4 Hat0;simp only[if_true,Bool.false_eq_true,if_false] at Hat0;clear hdn;refine IJ ?_;simp only[IM]
     repeat ((first|refine po ?_|refine sk ?_|refine pt ?_|refine gp ?_);simp only[ld,lg,lf,Iy,IF,ID])
     first
      |(obtain⟨T3,hT3⟩:∃T,T=(!(y.name==z.name)||decide (y.run<0)||decide (f.fall≤y.run)):=⟨_,rfl⟩;rw[←hT3])
      |(obtain⟨T3,hT3⟩:∃T,T=(!(y.name==z.name)||decide (y.run<0)||decide (f.rise≤y.run)||false):=⟨_,rfl⟩;rw[←hT3];rw[Bool.or_false] at hT3)
      |(obtain⟨T3,hT3⟩:∃T,T=(!(y.name==z.name)||decide (y.run<0)||decide (f.rise≤y.run)):=⟨_,rfl⟩;rw[←hT3])
     rw[Ie,←Hat0.out] at hT3;refine IE fun w4 hb4=>?_
     have Hb4:=hid (HB1.out.trans (hb4.mono HB1.out.size));have Hw4:=hid (HB.out.trans (Hb4.out.mono HB.out.size));clear hb4;rcases hv:dY f s k with _|_
     ·rw[hv] at hT3
      subst hT3;have Hr:=Hno hv;clear hv
      go_wp2
      go_ret
      exact⟨by rw[Hr.out];rfl,Hw4.out⟩
     ·rw[hv] at hT3
      subst hT3;have Hy:=hid (Hyes.out hv);clear hv
      go_wp2
      go_roundw
      case rel=>exact⟨k+1,by omega,by go_num,Hb4,Hy⟩
      case measure=>simp[intOf];omega
   ·have hltI:¬(k:Int)<(s.healths.length:Int):=by omega
    have Hhs:Hid (∀j,j<s.healths.length→dY f s j=true):=fun j hj=>hat.out j (by omega)
    have Hb5:=hid hbel.out;clear hat hbel
    go_wp2
    go_loopw [8] (fun i wr=>∃k:Nat,k≤s.flows.length∧i=.int .i64 (k:Int)∧Hid (Below W.heap.size W wr)∧Hid (∀j,j<k→fh s j=true)) (fun i _=>s.flows.length-(intOf i).toNat)
    case atStart=>exact⟨0,by omega,rfl,Hb5,fun j hj=>by omega⟩
    case round =>
     obtain⟨k,hk,rfl,hbel,hat⟩:=hrel;rename World=>wr
     have hl1:=HS.out.cf.2;have r2:=(bg hbel.out _ 3 l1).trans b2;have m1w:w.heap.size+1<wr.heap.size:=Iz l1 hbel.out.size;by_cases hlt:k<s.flows.length
     ·have hltI:(k:Int)<(s.flows.length:Int):=by omega
      have hk0:(0:Int)≤(k:Int):=by omega
      obtain⟨fb,fo,hA,hbB,hc⟩:=(HS.out.held.flows) (by omega);simp only at hA;subst hA;obtain⟨y,hy⟩:∃y,y=s.flows[k]:=⟨_,rfl⟩;have hyk:s.flows[k]?=some y:=by rw[qq hlt,hy]
      have Hyo:=hid (HS.out.ok.flows y (by rw[hy];exact IC hlt));have Hyn:=hid (HS.out.nf y (by rw[hy];exact IC hlt));have Hrg:Hid (wr.rangeAt fb (fo+k*41) (aw y)):=fun i c hi=>(bg hbel.out _ _ hbB).trans (hc k y hyk i c hi)
      have Hc:=hid hc;have Hat0:Hid (fh s k=(du y&&(decide (y.seen≤s.tick)&&(decide (1≤y.no)&&(decide (y.no≤s.no)&&(!((s.flows.take k).any fun g=>fD g.key y.key)&&(decide (k=0)||(match s.flows[k-1]? with|some g=>fQ g y|none=>true)))))))):=by
       show _=_
       unfold fh;rw[hyk];rfl
      have Hyes:Hid (fh s k=true→∀j,j<k+1→fh s j=true):=fun h j hj=>by
       rcases IS j k with h1|h1
       ·exact hat.out j h1
       ·obtain rfl:j=k:=by omega
        exact h
      have Hno:fh s k=false→Hid (k7 f s=false):=fun h=>mo fun g=>by have:=g.fs k hlt;rw[h] at this;cases this
      obtain⟨x1,y1,X1,Y1,T1,B1,L1⟩:=ei wr 120 (aw jX) (aw y) (by rw[ib Hyo.out];rfl);rw[jo] at X1;have HB1:Hid (Below W.heap.size W y1):=hbel.out.trans (L1.out.mono hbel.out.size);have Hfz:=hid (iu Hyo.out);clear hc hy hyk;go_upto_region 20 with (first
       |((with_reducible refine aB 120 ?_);refine aa (by rfl) 120 (.tmp 132) rfl fb (fo+k*41) rfl (aw y) _ Hrg.out bI rfl Hfz.out ?_)
       |(rw[←X1.out];(with_reducible refine aR 120 ?_);refine wpList_store_mid rfl 120 (.tmp 9) (.tmp 133) rfl wr.heap.size 0 (aw y).toArray rfl rfl T1.out (by rw[IU];exact Hfz.out) (ij _) ?_))
      rw[←Y1.out];have HYy:=hid (HY.out.below HB1.out HY.out.lt);have e1:y1.cell? ⟨wr.heap.size,39,none⟩=some (.int .i64 y.seen):=cj Hyo.out B1.out 2;have e2:y1.cell? ⟨wr.heap.size,40,none⟩=some (.int .i64 y.no):=cj Hyo.out B1.out 3;have e3:y1.cell? ⟨w.heap.size+1,3,none⟩=some (.slice (some ⟨fb,fo,none⟩) s.flows.length cf):=HYy.out.cell 3;have e4:y1.cell? ⟨w.heap.size+1,4,none⟩=some (.int .i64 s.tick):=HYy.out.cell 4;have e5:y1.cell? ⟨w.heap.size+1,5,none⟩=some (.int .i64 s.no):=HYy.out.cell 5;have m1:w.heap.size+1<y1.heap.size:=HYy.out.lt;have m2:wr.heap.size<y1.heap.size:=B1.out.lt;have m3:fb<y1.heap.size:=Iz hbB HB1.out.size;clear X1 Y1 T1 Hrg hbel r2;refine IJ ?_;simp only[IM];rcases hf:du y with _|_
      ·have Hr:=Hno (by rw[Hat0.out,hf];rfl)
       repeat ((first|refine sk ?_|refine sl (ag B1.out) m2 bI Hfz.out ?_|refine cl (fun w _=>nG y Hyo.out Hyn.out w) ?_|refine pt ?_);simp only[ld,lg,lf,Iy,hf,ID])
       refine IE fun w4 hb4=>?_
       have Hw4:=hid (HB.out.trans ((HB1.out.trans (hb4.mono HB1.out.size)).mono HB.out.size));clear hb4 hf
       go_wp2
       go_ret
       exact⟨by rw[Hr.out];rfl,Hw4.out⟩
      ·have Hfl:=hid hf
       have Hkn:Hid (dC y.key=true):=by show _=_;simp only[du,IH] at hf;exact hf.1
       obtain⟨E,T4,hT4,hE⟩:∃E T4:Bool,T4=(decide (s.tick<y.seen)||decide (y.no<1)||decide (s.no<y.no)||E)∧(!E)=(decide (k=0)||(match s.flows[k-1]? with|some g=>fQ g y|none=>true)):=⟨!(decide (k=0)||(match s.flows[k-1]? with|some g=>fQ g y|none=>true)),_,rfl,by rw[Bool.not_not]⟩;have Hfin:Hid (fh s k=(!T4&&!((s.flows.take k).any fun g=>fD g.key y.key))):=by
        show _=_
        rw[hT4,Is,Hat0.out,hf,←hE];cases decide (y.seen≤s.tick)<;>cases decide (1≤y.no)<;>cases decide (y.no≤s.no)<;>cases ((s.flows.take k).any fun g=>fD g.key y.key)<;>cases E<;>rfl
       have HT4:=hid hT4;have HE:=hid hE;clear hT4 hE;by_cases hk1:k=0
       ·obtain rfl:E=false:=by have:=HE.out;simp[hk1] at this;exact this
        have hk2:decide (0<k)=false:=by simp[hk1]
        clear hk1
        repeat ((first|refine sk ?_|refine po ?_|refine sl (ag B1.out) m2 bI Hfz.out ?_|refine cl (fun w _=>nG y Hyo.out Hyn.out w) ?_|refine pt ?_|refine gp ?_);simp only[ld,lg,lf,Iy,hf,IF,hk2])
        refine IE fun w4 hb4=>?_
        rw[←HT4.out];have Hb4:=hid (HB1.out.trans (hb4.mono HB1.out.size));have Hw4:=hid (HB.out.trans (Hb4.out.mono HB.out.size));have Hx4:=hid (B1.out.below hb4 m2);clear hb4 hf HT4 HE;rcases T4 with _|_
        rotate_left
        ·have Hr:=Hno (by rw[Hfin.out];rfl)
         clear Hfin
         go_wp2
         go_ret
         exact⟨by rw[Hr.out];rfl,Hw4.out⟩
        have Hq:=Hfin.out;rw[ID,IW] at Hq;have Hfin:=hid Hq;clear Hq e1 e2 e3 e4 e5 m1 m2 m3
        go_wp2
        go_loopw [10] (fun i wr'=>∃m:Nat,m≤k∧i=.int .i64 (m:Int)∧Hid (Below w4.heap.size w4 wr')∧Hid (((s.flows.take m).any fun g=>fD g.key y.key)=false)) (fun i _=>k-(intOf i).toNat)
        case atStart=>exact⟨0,by omega,rfl,Below.refl _ _,rfl⟩
        case round =>
         obtain⟨m,hm,rfl,hbel,hany⟩:=hrel;rename World=>wr'
         by_cases hlm:m<k
         ·have hlmI:(m:Int)<(k:Int):=by omega
          have hm0:(0:Int)≤(m:Int):=by omega
          have hm1:m<s.flows.length:=by omega
          have hm1I:(m:Int)<(s.flows.length:Int):=by omega
          obtain⟨q,hq⟩:∃q,s.flows[m]?=some q:=⟨_,qq hm1⟩;have Hqo:=hid (HS.out.ok.flows q (IB hq));have hold:∀b o,b<W.heap.size→wr'.cell? ⟨b,o,none⟩=W.cell? ⟨b,o,none⟩:=bg (Hb4.out.trans (hbel.out.mono Hb4.out.size));have Hqr:Hid (wr'.rangeAt fb (fo+m*41) (aM q.key)):=tV Hqo.out (fun i c hi=>(hold _ _ hbB).trans (Hc.out m q hq i c hi));have q3:wr'.cell? ⟨w.heap.size+1,3,none⟩=some (.slice (some ⟨fb,fo,none⟩) s.flows.length cf):=(hold _ _ l1).trans b2;have Hx5:=hid (Hx4.out.below hbel.out Hx4.out.lt);have n1:w.heap.size+1<wr'.heap.size:=by have:=Hb4.out.size;have:=hbel.out.size;omega
          have n2:wr.heap.size<wr'.heap.size:=Hx5.out.lt;have n3:fb<wr'.heap.size:=by have:=Hb4.out.size;have:=hbel.out.size;omega
          have Hnot:Hid (fD q.key y.key=true→fh s k=false):=fun h=>by
           rw[Hfin.out,List.any_eq_true.2 ⟨q,?_,h⟩]
           ·rfl
           ·exact IB (i:=m) (by rw[IR,if_pos hlm];exact hq)
          have Hgo:Hid (fD q.key y.key=false→((s.flows.take (m+1)).any fun g=>fD g.key y.key)=false):=fun h=>by
           rw[IK,hq,List.any_append,hany.out];simp[h]
          clear hq hany hold;go_upto_region 25 with fail
          refine IJ ?_
          try simp only[IM]
          repeat ((first|refine sl Hqr.out n3 cI (gK Hqo.out) ?_|refine sl (fR Hyo.out Hx5.out) n2 cI (gK Hyo.out) ?_|refine ee (fun w=>si 9996 q.key y.key Hqo.out Hyo.out w) (by kernel_rfl) ?_|refine pt ?_);simp only[ld,lg,lf,Iy])
          refine IE fun w5 hb5=>?_
          have Hb5:=hid (hbel.out.trans (hb5.mono hbel.out.size));have Hw5:=hid (HB.out.trans ((Hb4.out.trans (Hb5.out.mono Hb4.out.size)).mono HB.out.size));clear hb5 hbel;rcases hv:fD q.key y.key with _|_
          ·have Hg:=hid (Hgo.out hv)
           clear hv
           go_wp2
           go_roundw
           case rel=>exact⟨m+1,by omega,by go_num,Hb5,Hg⟩
           case measure=>simp[intOf];omega
          ·have Hr:=Hno (Hnot.out hv)
           clear hv
           go_wp2
           go_ret
           exact⟨by rw[Hr.out];rfl,Hw5.out⟩
         ·have hmk:m=k:=by omega
          subst hmk;have hlmI:¬(m:Int)<(m:Int):=by omega
          have Hy:Hid (∀j,j<m+1→fh s j=true):=Hyes.out (by rw[Hfin.out,hany.out];rfl);have Hb5:=hid (Hb4.out.trans (hbel.out.mono Hb4.out.size));clear hany hbel Hfin
          go_wp2
          go_roundw
          case rel=>exact⟨m+1,by omega,by go_num,Hb5,Hy⟩
          case measure=>simp[intOf];omega
       obtain⟨j,hj⟩:∃j,k=j+1:=⟨k-1,by omega⟩;obtain⟨z,hz⟩:∃z,s.flows[j]?=some z:=⟨_,qq (by omega)⟩;obtain rfl:E=!fQ z y:=by have:=HE.out;simp[hk1,show k-1=j by omega,hz] at this;rw[←this]
       have hk2:decide (0<k)=true:=by simp;omega
       have hzm:z∈s.flows:=IB hz;have Hzo:=hid (HS.out.ok.flows z hzm);have hzf:du z=true:=by
        have:=hat.out j (by omega);unfold fh at this;rw[hz] at this;simp only[IH] at this;exact this.1
       have Hz1:Hid (dC z.key=true∧(0≤z.no∧z.no≤1152921504606846976)):=by show _∧_;simp only[du,IH,bF] at hzf;exact⟨hzf.1,hzf.2.2.2.2⟩
       have Hy1:Hid (0≤y.no∧y.no≤1152921504606846976):=by show _∧_;have:=Hfl.out;simp only[du,IH,bF] at this;exact this.2.2.2.2
       have Hzr:Hid (y1.rangeAt fb (fo+j*41) (aw z)):=fun i c hi=>(bg HB1.out _ _ hbB).trans (Hc.out j z hz i c hi)
       have Hold:=hid (zx z y Hzo.out Hyo.out Hz1.out.1 Hkn.out);have j1:(0:Int)≤(j:Int):=by omega
       have j2:(j:Int)<(s.flows.length:Int):=by omega
       have jw:IntKind.i64.wrap ((k:Int)-1)=(j:Int):=by rw[show (k:Int)-1=(j:Int) by omega];exact IntWalk.i64_in _ (by omega)
       clear hz hzm hzf hj hk1
       repeat ((first|refine sk ?_|refine po ?_|refine sl (ag B1.out) m2 bI Hfz.out ?_|refine cl (fun w _=>nG y Hyo.out Hyn.out w) ?_|refine gs Hzr.out m3 bI (iu Hzo.out) ?_|refine gs (ag B1.out) m2 bI Hfz.out ?_|refine gc (fun w _=>Hold.out w) ?_|refine pt ?_|refine gp ?_);simp only[ld,lg,lf,Iy,hf,IF,hk2,jw])
       clear jw;refine IE fun w4 hb4=>?_
       rw[←HT4.out];have Hb4:=hid (HB1.out.trans (hb4.mono HB1.out.size));have Hw4:=hid (HB.out.trans (Hb4.out.mono HB.out.size));have Hx4:=hid (B1.out.below hb4 m2);clear hb4 hf HT4 HE;rcases T4 with _|_
       rotate_left
       ·have Hr:=Hno (by rw[Hfin.out];rfl)
        clear Hfin
        go_wp2
        go_ret
        exact⟨by rw[Hr.out];rfl,Hw4.out⟩
       have Hq:=Hfin.out;rw[ID,IW] at Hq;have Hfin:=hid Hq;clear Hq e1 e2 e3 e4 e5 m1 m2 m3
       go_wp2
       go_loopw [10] (fun i wr'=>∃m:Nat,m≤k∧i=.int .i64 (m:Int)∧Hid (Below w4.heap.size w4 wr')∧Hid (((s.flows.take m).any fun g=>fD g.key y.key)=false)) (fun i _=>k-(intOf i).toNat)
       case atStart=>exact⟨0,by omega,rfl,Below.refl _ _,rfl⟩
       case round =>
        obtain⟨m,hm,rfl,hbel,hany⟩:=hrel;rename World=>wr'
        by_cases hlm:m<k
        ·have hlmI:(m:Int)<(k:Int):=by omega
         have hm0:(0:Int)≤(m:Int):=by omega
         have hm1:m<s.flows.length:=by omega
         have hm1I:(m:Int)<(s.flows.length:Int):=by omega
         obtain⟨q,hq⟩:∃q,s.flows[m]?=some q:=⟨_,qq hm1⟩;have Hqo:=hid (HS.out.ok.flows q (IB hq));have hold:∀b o,b<W.heap.size→wr'.cell? ⟨b,o,none⟩=W.cell? ⟨b,o,none⟩:=bg (Hb4.out.trans (hbel.out.mono Hb4.out.size));have Hqr:Hid (wr'.rangeAt fb (fo+m*41) (aM q.key)):=tV Hqo.out (fun i c hi=>(hold _ _ hbB).trans (Hc.out m q hq i c hi));have q3:wr'.cell? ⟨w.heap.size+1,3,none⟩=some (.slice (some ⟨fb,fo,none⟩) s.flows.length cf):=(hold _ _ l1).trans b2;have Hx5:=hid (Hx4.out.below hbel.out Hx4.out.lt);have n1:w.heap.size+1<wr'.heap.size:=by have:=Hb4.out.size;have:=hbel.out.size;omega
         have n2:wr.heap.size<wr'.heap.size:=Hx5.out.lt;have n3:fb<wr'.heap.size:=by have:=Hb4.out.size;have:=hbel.out.size;omega
         have Hnot:Hid (fD q.key y.key=true→fh s k=false):=fun h=>by
          rw[Hfin.out,List.any_eq_true.2 ⟨q,?_,h⟩]
          ·rfl
          ·exact IB (i:=m) (by rw[IR,if_pos hlm];exact hq)
         have Hgo:Hid (fD q.key y.key=false→((s.flows.take (m+1)).any fun g=>fD g.key y.key)=false):=fun h=>by
          rw[IK,hq,List.any_append,hany.out];simp[h]
         clear hq hany hold;go_upto_region 25 with fail
         refine IJ ?_
         try simp only[IM]
         repeat ((first|refine sl Hqr.out n3 cI (gK Hqo.out) ?_|refine sl (fR Hyo.out Hx5.out) n2 cI (gK Hyo.out) ?_|refine ee (fun w=>si 9996 q.key y.key Hqo.out Hyo.out w) (by kernel_rfl) ?_|refine pt ?_);simp only[ld,lg,lf,Iy])
         refine IE fun w5 hb5=>?_
         have Hb5:=hid (hbel.out.trans (hb5.mono hbel.out.size));have Hw5:=hid (HB.out.trans ((Hb4.out.trans (Hb5.out.mono Hb4.out.size)).mono HB.out.size));clear hb5 hbel;rcases hv:fD q.key y.key with _|_
         ·have Hg:=hid (Hgo.out hv)
          clear hv
          go_wp2
          go_roundw
          case rel=>exact⟨m+1,by omega,by go_num,Hb5,Hg⟩
          case measure=>simp[intOf];omega
         ·have Hr:=Hno (Hnot.out hv)
          clear hv
          go_wp2
          go_ret
          exact⟨by rw[Hr.out];rfl,Hw5.out⟩
        ·have hmk:m=k:=by omega
         subst hmk;have hlmI:¬(m:Int)<(m:Int):=by omega
         have Hy:Hid (∀j,j<m+1→fh s j=true):=Hyes.out (by rw[Hfin.out,hany.out];rfl);have Hb5:=hid (Hb4.out.trans (hbel.out.mono Hb4.out.size));clear hany hbel Hfin
         go_wp2
         go_roundw
         case rel=>exact⟨m+1,by omega,by go_num,Hb5,Hy⟩
         case measure=>simp[intOf];omega
     ·have hltI:¬(k:Int)<(s.flows.length:Int):=by omega
      have Hr:Hid (k7 f s=true):=mn.2 ⟨Hq1.out.1,Hq1.out.2.1,Hq1.out.2.2.1,Hq1.out.2.2.2,Hq2.out.1,Hq2.out.2,Hq3.out,Hhs.out,fun i hi=>hat.out i (by omega)⟩;have Hw:=hid (HB.out.trans (hbel.out.mono HB.out.size));clear hat hbel
      go_wp2
      go_ret
      exact⟨by rw[Hr.out];rfl,Hw.out⟩
theorem qY(n m:Int)(w:World):Calls IA 74 #[.int .i64 n,.int .i64 m] w fun e w'=>e=.returned (.bool (dh n 0 m))∧Below w.heap.size w w':=by
 go_enter Tryz.func74,Tryz.ntmps74
 go_upto_region 1 with fail
 refine IG ?_
 repeat ((first|refine pa ?_|refine pt ?_|refine gp ?_);simp only[ld,lg,lf,Iy])
 refine IE fun w2 hb2=>?_
 have Hb2:=hid hb2;clear hb2
 go_wp2
 go_ret
 exact⟨rfl,Hb2.out⟩
theorem CA(x:nJ)(s:bA)(w:World)(hst:md w w.heap.size x s) :
  Calls IA 37 #[.agg (cU x s).toArray] w fun e w'=>e=.returned (.bool (eM s))∧Below w.heap.size w w':=by
 obtain⟨xb,cb,xh,ch,xf,cf⟩:=x;obtain⟨W,hW⟩:∃W,W=w.alloc (.cells (cU ⟨xb,cb,xh,ch,xf,cf⟩ s).toArray 37):=⟨_,rfl⟩;have HY:Hid (aj W w.heap.size 37 (cU ⟨xb,cb,xh,ch,xf,cf⟩ s).toArray):=by rw[hW];exact aj.new w _ _ _ rfl
 have HB:Hid (Below w.heap.size w W):=by rw[hW];exact (Below.refl _ _).alloc (II _) _
 have HS:=hid (hst.on HB.out);have b1:W.cell? ⟨w.heap.size,2,none⟩=some (.slice xh s.healths.length ch):=HY.out.cell 2;have b2:W.cell? ⟨w.heap.size,3,none⟩=some (.slice xf s.flows.length cf):=HY.out.cell 3;have b3:W.cell? ⟨w.heap.size,4,none⟩=some (.int .i64 s.tick):=HY.out.cell 4;have b4:W.cell? ⟨w.heap.size,5,none⟩=some (.int .i64 s.no):=HY.out.cell 5;have HW:=hid hW;have l1:w.heap.size<W.heap.size:=HY.out.lt;have HPool:=hid (fun w h=>tT xb s.pool.backs.length cb s.pool HS.out.ok.backs HS.out.nb w rfl HS.out.cb.1 ((HS.out.held.backs.below h).more h.size) HS.out.cb.2);have Hcnt:=hid HS.out.ok.count;clear hW hst;go_enter Tryz.func37,Tryz.ntmps37
 go_upto_region 1 with fail
 rw[←HW.out];clear HW;obtain⟨T1,hT1⟩:∃T,T=(!bU s.pool||decide (1024<(s.healths.length:Int))||decide (4096<(s.flows.length:Int))||!dh s.tick 0 1099511627776||!dh s.no 0 1152921504606846976):=⟨_,rfl⟩;refine IG ?_
 repeat ((first|refine po ?_|refine sl (nz HY.out) l1 jn ka ?_|refine cl (fun w h=>HPool.out w h) ?_|refine gc (fun w h=>qY s.tick 1099511627776 w) ?_|refine gc (fun w h=>qY s.no 1152921504606846976 w) ?_|refine pt ?_|refine gp ?_);simp only[ld,lg,lf,Iy])
 refine IE fun w2 hb2=>?_
 have Hb2:=hid hb2;have Hw2:=hid (HB.out.trans (hb2.mono HB.out.size));rw[←hT1];have HT1:=hid hT1;clear hb2 hT1;rcases T1 with _|_
 rotate_left
 ·have Hr:=kR (s:=s) fun h=>by
   have:=HT1.out;rw[h.pool,h.tick,h.no,decide_eq_false (by have:=h.hl;omega),decide_eq_false (by have:=h.fl;omega)] at this;simp at this
  go_wp2
  go_ret
  exact⟨by rw[Hr.out];rfl,Hw2.out⟩
 have Hq1:Hid (bU s.pool=true∧s.healths.length≤1024∧s.flows.length≤4096∧dh s.tick 0 1099511627776=true∧dh s.no 0 1152921504606846976=true):=by
  have:=HT1.out;simp only[IV,IP,decide_eq_false_iff_not,Bool.not_eq_false'] at this;exact⟨this.1.1.1.1,by omega,by omega,this.1.2,this.2⟩
 clear HT1 HPool b3 b4
 go_wp2
 go_loopw [3] (fun i wr=>∃k:Nat,k≤11∧i=.int .i64 (k:Int)∧Hid (Below W.heap.size W wr)∧Hid (∀j (hj:j<s.count.length),j<k→dh s.count[j] 0 1152921504606846976=true)) (fun i _=>11-(intOf i).toNat)
 case atStart=>exact⟨0,by omega,rfl,Hb2,fun j hj h=>by omega⟩
 case round =>
  obtain⟨k,hk,rfl,hbel,hat⟩:=hrel;rename World=>wr
  by_cases hlt:k<11
  ·have hltI:(k:Int)<11:=by omega
   have hk0:(0:Int)≤(k:Int):=by omega
   have hkl:k<s.count.length:=by rw[Hcnt.out];exact hlt
   obtain⟨n,hn⟩:∃n,n=s.count[k]:=⟨_,rfl⟩;have c0:wr.cell? ⟨w.heap.size,6+k,none⟩=some (.int .i64 n):=(bg hbel.out _ _ l1).trans (lG HY.out k _ (by rw[IT,qq hkl,hn];rfl));have m1:w.heap.size<wr.heap.size:=Iz l1 hbel.out.size;have Hyes:=hid (fun h=>lH (p:=fun n=>dh n 0 1152921504606846976=true) hat.out hkl hn h);have Hno:dh n 0 1152921504606846976=false→Hid (eM s=false):=fun h=>kR fun g=>by have:=g.count n (by rw[hn];exact IC hkl);rw[h] at this;cases this
   clear hn hkl hat
   go_wp2_with fail
   refine (qY n 1152921504606846976 wr).mono ?_;rintro e w4 ⟨rfl,hb4⟩;have Hb4:=hid (hbel.out.trans (hb4.mono hbel.out.size));have Hw4:=hid (HB.out.trans (Hb4.out.mono HB.out.size));clear hb4;rcases hv:dh n 0 1152921504606846976 with _|_
   ·have Hr:=Hno hv
    clear hv
    go_wp2
    go_ret
    exact⟨by rw[Hr.out];rfl,Hw4.out⟩
   ·have Hy:=hid (Hyes.out hv)
    clear hv
    go_wp2
    go_roundw
    case rel=>exact⟨k+1,by omega,by go_num,Hb4,Hy⟩
    case measure=>simp[intOf];omega
  ·have hltI:¬(k:Int)<11:=by omega
   have Hct:Hid (∀n∈s.count,dh n 0 1152921504606846976=true):=qa (p:=fun n=>dh n 0 1152921504606846976=true) hat.out (by rw[Hcnt.out];omega);clear hat
   go_wp2
   go_loopw [4] (fun i wr=>∃k:Nat,k≤s.healths.length∧i=.int .i64 (k:Int)∧Hid (Below W.heap.size W wr)∧Hid (∀j (hj:j<s.healths.length),j<k→dW s.healths[j]=true)) (fun i _=>s.healths.length-(intOf i).toNat)
   case atStart=>exact⟨0,by omega,rfl,hbel,fun j hj h=>by omega⟩
   case round =>
    obtain⟨k,hk,rfl,hbel,hat⟩:=hrel;rename World=>wr
    have hl1:=HS.out.ch.2;have r1:=(bg hbel.out _ 2 l1).trans b1;have m1:w.heap.size<wr.heap.size:=Iz l1 hbel.out.size;by_cases hlt:k<s.healths.length
    ·have hltI:(k:Int)<(s.healths.length:Int):=by omega
     have hk0:(0:Int)≤(k:Int):=by omega
     obtain⟨hb,ho,hA,hbB,hc⟩:=(HS.out.held.healths.below hbel.out) (by omega);simp only at hA;subst hA;obtain⟨y,hy⟩:∃y,y=s.healths[k]:=⟨_,rfl⟩;have hyk:s.healths[k]?=some y:=by rw[qq hlt,hy]
     have Hnl:=hid (HS.out.nh y (by rw[hy];exact IC hlt));have Hyes:=hid (fun h=>lH (p:=fun h=>dW h=true) hat.out hlt hy h);have Hno:dW y=false→Hid (eM s=false):=fun h=>kR fun g=>by have:=g.hs y (by rw[hy];exact IC hlt);rw[h] at this;cases this
     have e3:wr.cell? ⟨hb,ho+k*3,none⟩=some (.string ⟨y.name.toArray⟩):=hc k y hyk 0 _ rfl;have e5:wr.cell? ⟨hb,ho+k*3+2,none⟩=some (.int .i64 y.run):=hc k y hyk 2 _ rfl;have m2:hb<wr.heap.size:=Iz hbB hbel.out.size;have Hfin:Hid ((decide (255<(y.name.length:Int))||!dh y.run 0 99)=!dW y):=by
      show _=_
      unfold dW;rw[show decide (255<(y.name.length:Int))=!decide (y.name.length≤255) by rw[←decide_not];exact decide_eq_decide.2 (by omega),Bool.not_and]
     clear hc hy hyk hat;go_upto_region 11 with fail
     first|refine IG ?_|refine IJ ?_
     try simp only[IM]
     repeat ((first|refine po ?_|refine gc (fun w _=>qY y.run 99 w) ?_|refine pt ?_|refine gp ?_);simp only[ld,lg,lf,Iy])
     refine IE fun w4 hb4=>?_
     rw[Hfin.out];have Hb4:=hid (hbel.out.trans (hb4.mono hbel.out.size));have Hw4:=hid (HB.out.trans (Hb4.out.mono HB.out.size));clear hb4;rcases hv:dW y with _|_
     ·have Hr:=Hno hv
      clear hv
      go_wp2
      go_ret
      exact⟨by rw[Hr.out];rfl,Hw4.out⟩
     ·have Hy:=hid (Hyes.out hv)
      clear hv
      go_wp2
      go_roundw
      case rel=>exact⟨k+1,by omega,by go_num,Hb4,Hy⟩
      case measure=>simp[intOf];omega
    ·have hltI:¬(k:Int)<(s.healths.length:Int):=by omega
     have Hhs:Hid (∀h∈s.healths,dW h=true):=qa (p:=fun h=>dW h=true) hat.out (by omega);clear hat
     go_wp2
     go_loopw [5] (fun i wr=>∃k:Nat,k≤s.flows.length∧i=.int .i64 (k:Int)∧Hid (Below W.heap.size W wr)∧Hid (∀j (hj:j<s.flows.length),j<k→du s.flows[j]=true)) (fun i _=>s.flows.length-(intOf i).toNat)
     case atStart=>exact⟨0,by omega,rfl,hbel,fun j hj h=>by omega⟩
     case round =>
      obtain⟨k,hk,rfl,hbel,hat⟩:=hrel;rename World=>wr
      have hl2:=HS.out.cf.2;have r2:=(bg hbel.out _ 3 l1).trans b2;have m1:w.heap.size<wr.heap.size:=Iz l1 hbel.out.size;by_cases hlt:k<s.flows.length
      ·have hltI:(k:Int)<(s.flows.length:Int):=by omega
       have hk0:(0:Int)≤(k:Int):=by omega
       obtain⟨hb,ho,hA,hbB,hc⟩:=(HS.out.held.flows.below hbel.out) (by omega);simp only at hA;subst hA;obtain⟨y,hy⟩:∃y,y=s.flows[k]:=⟨_,rfl⟩;have Hrg:=hid (hc k y (by rw[qq hlt,hy]));have Hyo:=hid (HS.out.ok.flows y (by rw[hy];exact IC hlt));have Hyn:=hid (HS.out.nf y (by rw[hy];exact IC hlt));have Hyes:=hid (fun h=>lH (p:=fun h=>du h=true) hat.out hlt hy h);have Hno:du y=false→Hid (eM s=false):=fun h=>kR fun g=>by have:=g.fs y (by rw[hy];exact IC hlt);rw[h] at this;cases this
       have Hfz:=hid (iu Hyo.out);have m2:hb<wr.heap.size:=Iz hbB hbel.out.size;clear hc hy hat;go_upto_region 16 with fail
       first|refine IG ?_|refine IJ ?_
       try simp only[IM]
       repeat ((first|refine sl Hrg.out m2 bI Hfz.out ?_|refine cl (fun w _=>nG y Hyo.out Hyn.out w) ?_|refine pt ?_);simp only[ld,lg,lf,Iy])
       refine IE fun w4 hb4=>?_
       have Hb4:=hid (hbel.out.trans (hb4.mono hbel.out.size));have Hw4:=hid (HB.out.trans (Hb4.out.mono HB.out.size));clear hb4;rcases hv:du y with _|_
       ·have Hr:=Hno hv
        simp only[hv,ID,IF];clear hv
        go_wp2
        go_ret
        exact⟨by rw[Hr.out];rfl,Hw4.out⟩
       ·have Hy:=hid (Hyes.out hv)
        simp only[hv,ID,IF];clear hv
        go_wp2
        go_roundw
        case rel=>exact⟨k+1,by omega,by go_num,Hb4,Hy⟩
        case measure=>simp[intOf];omega
      ·have hltI:¬(k:Int)<(s.flows.length:Int):=by omega
       have Hfs:Hid (∀h∈s.flows,du h=true):=qa (p:=fun h=>du h=true) hat.out (by omega);have Hr:Hid (eM s=true):=pq.2 ⟨Hq1.out.1,Hq1.out.2.1,Hq1.out.2.2.1,Hq1.out.2.2.2.1,Hq1.out.2.2.2.2,Hct.out,Hhs.out,Hfs.out⟩;clear hat
       go_wp2
       go_ret
       exact⟨by rw[Hr.out];rfl,HB.out.trans (hbel.out.mono HB.out.size)⟩
theorem nH{x:jY}{xs:List (ek×dI)}{s:cE}{w:World}(h:fk w w.heap.size x xs s) :
  Calls IA 15 #[.agg (av x s).toArray] w fun e w'=>e=.returned (.bool (fE s))∧Below w.heap.size w w':=by
 obtain⟨W,hW⟩:∃W,W=w.alloc (.cells (av x s).toArray 40):=⟨_,rfl⟩;have HY:Hid (aj W w.heap.size 40 (av x s).toArray):=by rw[hW];exact aj.new w _ _ _ rfl
 have HB:Hid (Below w.heap.size w W):=by rw[hW];exact (Below.refl _ _).alloc (II _) _
 have HS:=hid (h.on HB.out);have HW:=hid hW;have l1:w.heap.size<W.heap.size:=HY.out.lt;have Hsh:=hid h.sh;have b0:W.cell? ⟨w.heap.size,54,none⟩=some (zv s.first):=fx Hsh.out HY.out 0;have b1:W.cell? ⟨w.heap.size,55,none⟩=some (zv s.lost):=fx Hsh.out HY.out 1;unfold zv at b0 b1;clear hW h;go_enter Tryz.func15,Tryz.ntmps15
 go_upto_region 1 with fail
 rw[←HW.out];clear HW;obtain⟨T,hT⟩:∃T,T=(k7 s.conf s.st&&eM s.st&&decide (0≤s.first)&&decide (s.first≤1152921504606846976)&&decide (0≤s.lost)&&decide (s.lost≤s.first)):=⟨_,rfl⟩
 first|refine IG ?_|refine IJ ?_
 repeat ((first|refine pa ?_|refine sl (jK Hsh.out HY.out) l1 dV (by rw[dD Hsh.out.conf];exact cB) ?_|refine sl (k8 Hsh.out HY.out) l1 eB (kS Hsh.out.st) ?_|refine gs (k8 Hsh.out HY.out) l1 eB (kS Hsh.out.st) ?_|refine cl (fun u hu=>Ey x.v s.conf.vips.length x.cv s.conf x.st s.st Hsh.out.conf u rfl HS.out.cv.1 ((HS.out.on hu).vs) HS.out.cv.2 (HS.out.on hu).st) ?_|refine gc (fun u hu=>CA x.st s.st u (HS.out.on hu).st) ?_|refine gp ?_|refine pt ?_);simp only[ld,lg,lf,Iy])
 rw[←hT];refine IE fun w2 hb2=>?_
 have Hb2:=hid (HB.out.trans (hb2.mono HB.out.size));have HT:Hid (fE s=T):=by show _=_;rw[hT];unfold fE dh;simp only[Bool.and_assoc]
 clear hb2 hT
 go_wp2
 go_ret
 exact⟨by rw[HT.out];rfl,Hb2.out⟩
theorem kA{x:jY}{xs:List (ek×dI)}{s:cE}{w:World}(h:fk w w.heap.size x xs s) :
  Calls IA 14 #[.agg (av x s).toArray] w fun e w'=>e=.returned (.bool (iL s))∧Below w.heap.size w w':=by
 obtain⟨W,hW⟩:∃W,W=w.alloc (.cells (av x s).toArray 40):=⟨_,rfl⟩;have HY:Hid (aj W w.heap.size 40 (av x s).toArray):=by rw[hW];exact aj.new w _ _ _ rfl
 have HB:Hid (Below w.heap.size w W):=by rw[hW];exact (Below.refl _ _).alloc (II _) _
 have HS:=hid (h.on HB.out);have HW:=hid hW;have l1:w.heap.size<W.heap.size:=HY.out.lt;obtain⟨n,hn⟩:∃n,n=s.evs.length:=⟨_,rfl⟩;have hnx:Hid (n=xs.length):=by show _=_;rw[hn,h.len]
 have b0:W.cell? ⟨w.heap.size,73,none⟩=some (.slice x.e n x.ce):=by rw[hn];exact mq h.sh HY.out
 have hn1:n≤x.ce:=by rw[hn];exact h.ce.1
 have hn2:n≤1000000:=by rw[hn];exact h.ce.2
 have Hsz:=hid (fp (x:=x) h.sh);have Hsb:Hid (iL s=(xs.all (fun p=>aG p.2)&&fE s)):=by show _=_;unfold iL;rw[h.ev,List.all_map];rfl
 clear hW h hn;go_enter Tryz.func14,Tryz.ntmps14
 go_upto_region 1 with fail
 rw[←HW.out];clear HW
 go_wp2
 go_loopw [3] (fun i wr=>∃k:Nat,k≤n∧i=.int .i64 (k:Int)∧Hid (Below W.heap.size W wr)∧Hid ((xs.take k).all (fun p=>aG p.2)=true)) (fun i _=>n-(intOf i).toNat)
 case atStart=>exact⟨0,by omega,rfl,Below.refl _ _,by simp[Hid]⟩
 case round =>
  obtain⟨k,hk,rfl,hbel,hat⟩:=hrel;rename World=>wr
  have r0:=(bg hbel.out _ 73 l1).trans b0;have m1:w.heap.size<wr.heap.size:=Iz l1 hbel.out.size;by_cases hlt:k<n
  ·have hltI:(k:Int)<(n:Int):=by omega
   have hk0:(0:Int)≤(k:Int):=by omega
   obtain⟨b,o,hA,hbB,hc⟩:=(HS.out.evs.below hbel.out) (by rw[←hnx.out];omega);obtain⟨p,hp⟩:∃p,xs[k]?=some p:=⟨_,qq (by rw[←hnx.out];exact hlt)⟩;have hpm:p∈xs:=IB hp;have Hrg:=hid (hc k p hp);have Hps:=hid (HS.out.shp hpm);have Hz:=hid (kz (p:=p) Hps.out);have hfr:=(HS.out.on hbel.out).fr p hpm;have Hfr:=hid hfr.1;have Hat:Hid (aG p.2=true→(xs.take (k+1)).all (fun p=>aG p.2)=true):=fun hr=>r7 hat.out hp hr
   have Hno:Hid (aG p.2=false→iL s=false):=fun hr=>by
    rw[Hsb.out,List.all_eq_false.2 ⟨p,hpm,by simp[hr]⟩];rfl
   have m2:b<wr.heap.size:=Iz hbB hbel.out.size;rw[hA] at r0;clear hc hp hpm hfr hat hA b0;go_upto_region 4 with fail
   first|refine IG ?_|refine IJ ?_
   try simp only[IM]
   repeat ((first|refine sl Hrg.out m2 eh Hz.out ?_|refine cl (fun u hu=>sW p.1.f p.1.cf p.1.o p.1.co p.2 Hps.out u ((Hfr.out.below hu).more hu.size)) ?_|refine pt ?_);simp only[ld,lg,lf,Iy])
   refine IE fun w2 hb2=>?_
   have Hb2:=hid (hbel.out.trans (hb2.mono hbel.out.size));clear hb2 hbel Hrg;rcases hv:aG p.2 with _|_
   ·have Hr:=hid (Hno.out hv)
    simp only[hv,ID,IF];clear hv
    go_wp2
    go_ret
    exact⟨by rw[Hr.out];rfl,HB.out.trans (Hb2.out.mono HB.out.size)⟩
   ·have Hr:=hid (Hat.out hv)
    simp only[hv,ID,IF];clear hv
    go_wp2
    go_roundw
    case rel=>exact⟨k+1,by omega,by go_num,Hb2,Hr⟩
    case measure=>simp[intOf];omega
  ·have hltI:¬(k:Int)<(n:Int):=by omega
   have Hall:Hid (xs.all (fun p=>aG p.2)=true):=by
    show _=_
    have:=hat.out;rw[IL (by rw[←hnx.out];omega)] at this;exact this
   have Hyr:=hid (HY.out.below hbel.out l1);have l2:w.heap.size<wr.heap.size:=Hyr.out.lt;clear b0 hat;go_upto_region 6 with fail
   first|refine IG ?_|refine IJ ?_
   try simp only[IM]
   repeat ((first|refine sl (ag Hyr.out) l2 aH Hsz.out ?_|refine cl (fun u hu=>nH ((HS.out.on hbel.out).on hu)) ?_|refine pt ?_);simp only[ld,lg,lf,Iy])
   refine IE fun w2 hb2=>?_
   have Hb2:=hid (HB.out.trans ((hbel.out.trans (hb2.mono hbel.out.size)).mono HB.out.size));clear hb2
   go_wp2
   go_ret
   exact⟨by rw[Hsb.out,Hall.out];rfl,Hb2.out⟩
