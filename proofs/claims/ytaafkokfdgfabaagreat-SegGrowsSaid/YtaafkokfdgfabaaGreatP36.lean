import Derived.Test.YtaafkokfdgfabaaGreatP31
import Derived.Test.YtaafkokfdgfabaaGreatP35
set_option maxHeartbeats 8000000
namespace Go.Proofs.YtaafkokfdgfabaaGreat
open Go.RowKit
set_option linter.unusedVariables false
set_option linter.unusedSimpArgs false
theorem cv {ops:Array Oper} {Q:Exit→Act→World→Prop} {W:World} {k:Nat} {a:Act} {o:Oper} {d:Tmp} {x:Operand} {A:Option Addr} {n c:Nat} {l:List UInt8} (hb:BS W W.heap.size A l) (hn:n=l.length) (h:Sd Tryz.prog ops Q W (k + 1) { a with tmps:=a.tmps.setIfInBounds d (.string ⟨l.toArray⟩) }) (hi:ops[k]?=some o:=by rfl) (hd:o.dst=some d:=by rfl) (hw:Region.wanted o (yielded ops a.tmps)=true:=by rfl) (ho:o.op=.convert 43 9 x:=by rfl) (hx:a.eval x=.slice A n c:=by rfl):Sd Tryz.prog ops Q W k a :=
 Sd.step (.inl ⟨hw,fun w hS=>by rw [ut ho hx (hb.below hS) hn];exact ⟨rfl,hS⟩⟩) (by rw [hd];exact h) hi
theorem DN {o:Oper} {a:Act} {t tz:TypeId} {x y:Operand} {p q:List UInt8} {w:World} (ho:o.op=.binOp .add t x y tz) (hx:a.eval x=.string ⟨p.toArray⟩) (hy:a.eval y=.string ⟨q.toArray⟩) (hl:p.length + q.length≤9223372036854775807):(execOp a.eval o).run Tryz.prog w=.ok (.value (.string ⟨(p ++ q).toArray⟩)) w:=by
 have h1:=run_string_add_sum (P:=Tryz.prog) (w:=w) ⟨p.toArray⟩ ⟨q.toArray⟩ (by simpa [ByteArray.size] using hl);unfold execOp;simp only [ho,hx,hy];rw [←jK];go_simp
theorem sa {ops:Array Oper} {Q:Exit→Act→World→Prop} {W:World} {k:Nat} {a:Act} {o:Oper} {d:Tmp} {t tz:TypeId} {x y:Operand} {p q:List UInt8} (hl:p.length + q.length≤9223372036854775807) (h:Sd Tryz.prog ops Q W (k + 1) { a with tmps:=a.tmps.setIfInBounds d (.string ⟨(p ++ q).toArray⟩) }) (hi:ops[k]?=some o:=by rfl) (hd:o.dst=some d:=by rfl) (hw:Region.wanted o (yielded ops a.tmps)=true:=by rfl) (ho:o.op=.binOp .add t x y tz:=by rfl) (hx:a.eval x=.string ⟨p.toArray⟩:=by rfl) (hy:a.eval y=.string ⟨q.toArray⟩:=by rfl):Sd Tryz.prog ops Q W k a :=
 Sd.step (.inl ⟨hw,fun w hS=>by rw [DN ho hx hy hl];exact ⟨rfl,hS⟩⟩) (by rw [hd];exact h) hi
set_option maxRecDepth 100000 in
theorem ir (w:World):Calls Tryz.prog 9 #[] w fun e w'=>e=.returned (.bool true)∧Below w.heap.size w w':=by
 obtain ⟨P,hP⟩:∃ P,P=bA jp:=⟨_,rfl⟩
 obtain ⟨H,hH⟩:∃ P,P=cj jp:=⟨_,rfl⟩
 obtain ⟨V,hV⟩:∃ P,P=bC mK:=⟨_,rfl⟩
 obtain ⟨n,hn⟩:∃ n,n=P.length:=⟨_,rfl⟩
 obtain ⟨nh,hnh⟩:∃ n,n=H.length:=⟨_,rfl⟩
 obtain ⟨nv,hnv⟩:∃ n,n=V.length:=⟨_,rfl⟩
 have hl:n=nh + nv∧5≤nv∧n≤15000000:=by rw [hn,hnh,hnv,hP,hH,hV];exact zD
 obtain ⟨S4,hS4⟩:∃ s,s=jp:=⟨_,rfl⟩
 obtain ⟨S5,hS5⟩:∃ s,s=cM:=⟨_,rfl⟩
 obtain ⟨S6,hS6⟩:∃ s,s={ jp with evs:=[] }:=⟨_,rfl⟩
 have Hr1:Hid (aR P=(S4,n,0)):=by show _=_;rw [hn,hP,hS4];exact DI
 have Hr0:Hid (aR []=(S5,0,2)):=by show _=_;rw [hS5];exact DJ
 have Hs4:Hid (bf S4):=by rw [hS4];exact ga
 have Hs5:Hid (bf S5):=by rw [hS5];exact cZ
 have Hs6:Hid (bf S6):=by rw [hS6];exact ⟨vK,gX,by simp⟩
 have He6:Hid (S6.evs=[]):=by show _=_;rw [hS6]
 have HS4:=Lib.hid hS4;have Hr2:Hid (aR (P.take (n - 1))=(S6,nh,2)):=by show _=_;rw [hn,hnh,hP,hH,hS6];exact EN
 have Hcat:Hid (P=H ++ V):=by show _=_;rw [hP,hH,hV];show cj jp ++ (bC mK ++ [])=_;rw [List.append_nil]
 have Hl9:Hid (H.length + V.length≤9223372036854775807):=by show _≤_;rw [←hnh,←hnv];omega
 have HP:=Lib.hid hP;have HH:=Lib.hid hH;have HV:=Lib.hid hV;have Hn:=Lib.hid hn;have Hnh:=Lib.hid hnh;have Hnv:=Lib.hid hnv;have n1:1≤n:=by omega
 have Hl:=Lib.hid hl;clear hP hH hV hn hnh hnv hl hS4 hS5 hS6;go_enter Tryz.func9,Tryz.ntmps9
 go_wp2_with fail
 refine (DG w).mono ?_;rintro e w1 ⟨A1,S,xs,rfl,hS,hin,hxs,B⟩;have Hs:Hid (bf S):=by rw [hS];exact ga
 have HS:=Lib.hid hS;have Hxs:=Lib.hid hxs;have HB:=Lib.hid B;obtain ⟨u1,v1,U1,V1,T1,L1,X1⟩:=lL w1 (xW A1) S Hs.out;have H1:=Lib.hid (X1.out xs hin);clear hS hxs B hin X1;go_upto_region 2 with (first
  | (rw [←U1.out];(with_reducible refine aM 40 ?_);refine wpList_store_mid rfl 40 (.tmp 1) (.tmp 29) rfl w1.heap.size 0 (ar (xW A1) S).toArray rfl rfl T1.out (gH Hs.out) (cQ _ _) ?_))
 rw [←V1.out];replace HB:=Lib.hid (HB.out.trans (L1.out.mono HB.out.size));clear U1 V1 T1 L1;have R1:=Lib.hid (ae H1.out.1)
 go_wp2_with (first
  | ((with_reducible refine aE 40 ?_);refine aa (by rfl) 40 (.tmp 1) rfl w1.heap.size 0 rfl (ar (xW A1) S) _ R1.out az rfl (dl Hs.out) ?_))
 refine (GB _ xs S HS.out n P HP.out Hn.out v1 H1.out.2).mono ?_;rintro e w2 ⟨A2,c2,rfl,hbs,hc2,B⟩;have HP2:=Lib.hid hbs;replace H1:=Lib.hid (H1.out.on B);replace HB:=Lib.hid (HB.out.trans (B.mono HB.out.size));clear hbs B R1
 go_wp2_with fail
 refine (oK A2 n c2 P w2 Hn.out HP2.out Hl.out.2.2 hc2 S4 n 0 n 0 Hr1.out rfl rfl).mono ?_;rintro e w3 ⟨x4,xs4,rfl,hin,B⟩;replace H1:=Lib.hid (H1.out.on B);replace HP2:=Lib.hid (HP2.out.on B);replace HB:=Lib.hid (HB.out.trans (B.mono HB.out.size));obtain ⟨u4,v4,U4,V4,T4,L4,X4⟩:=lL w3 x4 S4 Hs4.out;have H4:=Lib.hid (X4.out _ hin);replace H1:=Lib.hid (H1.out.on L4.out);replace HP2:=Lib.hid (HP2.out.on L4.out);replace HB:=Lib.hid (HB.out.trans (L4.out.mono HB.out.size));clear hin B X4;go_upto_region 4 with (first
  | (rw [←U4.out];(with_reducible refine aM 40 ?_);refine wpList_store_mid rfl 40 (.tmp 4) (.tmp 38) rfl w3.heap.size 0 (ar x4 S4).toArray rfl rfl T4.out (gH Hs4.out) (cQ _ _) ?_))
 rw [←V4.out];clear U4 V4 T4 L4;have R1:=Lib.hid (ae H1.out.1)
 go_wp2_with (first
  | ((with_reducible refine aE 40 ?_);refine aa (by rfl) 40 (.tmp 1) rfl w1.heap.size 0 rfl (ar (xW A1) S) _ R1.out az rfl (dl Hs.out) ?_))
 refine (Gq _ xs S HS.out nh H HH.out Hnh.out v4 H1.out.2).mono ?_;rintro e w5 ⟨A5,c5,rfl,hbs,hc5,B⟩;have HH5:=Lib.hid hbs;replace H1:=Lib.hid (H1.out.on B);replace HP2:=Lib.hid (HP2.out.on B);replace H4:=Lib.hid (H4.out.on B);replace HB:=Lib.hid (HB.out.trans (B.mono HB.out.size));clear hbs B R1;have e1:w5.cell? ⟨w1.heap.size,73,none⟩=some (.slice A1 1 1):=by have:=ip Hs.out H1.out.1;rw [HS.out] at this;exact this
 obtain ⟨b1,o1,hA1,hb1,hc1⟩:=H1.out.2.evs (by rw [Hxs.out];decide);have R2:=Lib.hid (hc1 0 (⟨none,0,none,0⟩,mK) (by rw [Hxs.out];rfl));have hA1':A1=some ⟨b1,o1,none⟩:=hA1;rw [hA1'] at e1;clear hA1 hA1' hc1;go_upto_region 5 with fail
 go_wp2_with (first
  | ((with_reducible refine aE 65 ?_);refine aa (by rfl) 65 (.tmp 49) rfl b1 o1 rfl (eJ (⟨none,0,none,0⟩,mK)) _ R2.out dz rfl (jL iG) ?_))
 refine (FW nv V HV.out Hnv.out w5).mono ?_;rintro e w6 ⟨A6,c6,rfl,hbs,hc6,B⟩;have HV6:=Lib.hid hbs;replace H1:=Lib.hid (H1.out.on B);replace HP2:=Lib.hid (HP2.out.on B);replace H4:=Lib.hid (H4.out.on B);replace HH5:=Lib.hid (HH5.out.on B);replace HB:=Lib.hid (HB.out.trans (B.mono HB.out.size));clear hbs B R2 e1 hb1
 go_wp2_with (first
  | ((with_reducible refine vL 40 ?_);refine iq rfl 40 _ rfl _ _ rg rfl ?_))
 refine (GC w6).mono ?_;rintro e w7 ⟨rfl,B⟩;replace H1:=Lib.hid (H1.out.on B);replace HP2:=Lib.hid (HP2.out.on B);replace H4:=Lib.hid (H4.out.on B);replace HH5:=Lib.hid (HH5.out.on B);replace HV6:=Lib.hid (HV6.out.on B);replace HB:=Lib.hid (HB.out.trans (B.mono HB.out.size));clear B
 go_wp2_with fail
 refine (oK none 0 0 [] w7 rfl (BS.nil _ _ _) (by decide) (Nat.le_refl _) S5 0 2 0 2 Hr0.out rfl rfl).mono ?_;rintro e w8 ⟨x8,xs8,rfl,hin,B⟩;replace H1:=Lib.hid (H1.out.on B);replace HP2:=Lib.hid (HP2.out.on B);replace H4:=Lib.hid (H4.out.on B);replace HH5:=Lib.hid (HH5.out.on B);replace HV6:=Lib.hid (HV6.out.on B);replace HB:=Lib.hid (HB.out.trans (B.mono HB.out.size));obtain ⟨u8,v8,U8,V8,T8,L8,X8⟩:=lL w8 x8 S5 Hs5.out;have H8:=Lib.hid (X8.out _ hin);replace H1:=Lib.hid (H1.out.on L8.out);replace HP2:=Lib.hid (HP2.out.on L8.out);replace H4:=Lib.hid (H4.out.on L8.out);replace HH5:=Lib.hid (HH5.out.on L8.out);replace HV6:=Lib.hid (HV6.out.on L8.out);replace HB:=Lib.hid (HB.out.trans (L8.out.mono HB.out.size));clear hin B X8 H8;go_upto_region 8 with (first
  | (rw [←U8.out];(with_reducible refine aM 40 ?_);refine wpList_store_mid rfl 40 (.tmp 13) (.tmp 61) rfl w8.heap.size 0 (ar x8 S5).toArray rfl rfl T8.out (gH Hs5.out) (cQ _ _) ?_))
 rw [←V8.out];clear U8 V8 T8 L8;obtain ⟨m,hm⟩:∃ m,m=n - 1:=⟨_,rfl⟩
 have hmx:max (0:Int) (wrap64 ((n:Int) - 1))=(m:Int):=by
  have h1:=Hl.out.2.2;rw [show wrap64 ((n:Int) - 1)=(n:Int) - 1 by unfold wrap64;omega];omega
 have hmc:(m:Int)≤(c2:Int):=by omega
 have hm0:(0:Int)≤(m:Int):=by omega
 have Hm:Hid (m=(P.take m).length∧m≤15000000∧m≤c2):=⟨by rw [List.length_take,←Hn.out];omega,by have:=Hl.out.2.2;omega,by omega⟩
 have Hr6:Hid (aR (P.take m)=(S6,nh,2)):=by show _=_;rw [hm];exact Hr2.out
 clear hm n1 hc2
 go_wp2_with fail
 refine (oK A2 m c2 (P.take m) v8 Hm.out.1 (HP2.out.take m) Hm.out.2.1 Hm.out.2.2 S6 nh 2 nh 2 Hr6.out rfl rfl).mono ?_;rintro e w9 ⟨x9,xs9,rfl,hin,B⟩;replace H1:=Lib.hid (H1.out.on B);replace HP2:=Lib.hid (HP2.out.on B);replace H4:=Lib.hid (H4.out.on B);replace HH5:=Lib.hid (HH5.out.on B);replace HV6:=Lib.hid (HV6.out.on B);replace HB:=Lib.hid (HB.out.trans (B.mono HB.out.size));obtain ⟨u9,v9,U9,V9,T9,L9,X9⟩:=lL w9 x9 S6 Hs6.out;have H9:=Lib.hid (X9.out _ hin);replace H1:=Lib.hid (H1.out.on L9.out);replace HP2:=Lib.hid (HP2.out.on L9.out);replace H4:=Lib.hid (H4.out.on L9.out);replace HH5:=Lib.hid (HH5.out.on L9.out);replace HV6:=Lib.hid (HV6.out.on L9.out);replace HB:=Lib.hid (HB.out.trans (L9.out.mono HB.out.size));clear hin B X9 hmx hmc hm0 Hm Hr6;go_upto_region 9 with (first
  | (rw [←U9.out];(with_reducible refine aM 40 ?_);refine wpList_store_mid rfl 40 (.tmp 16) (.tmp 72) rfl w9.heap.size 0 (ar x9 S6).toArray rfl rfl T9.out (gH Hs6.out) (cQ _ _) ?_))
 rw [←V9.out];clear U9 V9 T9 L9
 go_wp2_with fail
 refine (EP v9).mono ?_;rintro e w10 ⟨rfl,B⟩;replace H1:=Lib.hid (H1.out.on B);replace HP2:=Lib.hid (HP2.out.on B);replace H4:=Lib.hid (H4.out.on B);replace HH5:=Lib.hid (HH5.out.on B);replace HV6:=Lib.hid (HV6.out.on B);replace H9:=Lib.hid (H9.out.on B);replace HB:=Lib.hid (HB.out.trans (B.mono HB.out.size));clear B
 go_wp2_with fail
 refine (DM w10).mono ?_;rintro e w11 ⟨rfl,B⟩;replace H1:=Lib.hid (H1.out.on B);replace HP2:=Lib.hid (HP2.out.on B);replace H4:=Lib.hid (H4.out.on B);replace HH5:=Lib.hid (HH5.out.on B);replace HV6:=Lib.hid (HV6.out.on B);replace H9:=Lib.hid (H9.out.on B);replace HB:=Lib.hid (HB.out.trans (B.mono HB.out.size));clear B
 go_wp2_with fail
 refine (EQ w11).mono ?_;rintro e w12 ⟨rfl,B⟩;replace H1:=Lib.hid (H1.out.on B);replace HP2:=Lib.hid (HP2.out.on B);replace H4:=Lib.hid (H4.out.on B);replace HH5:=Lib.hid (HH5.out.on B);replace HV6:=Lib.hid (HV6.out.on B);replace H9:=Lib.hid (H9.out.on B);replace HB:=Lib.hid (HB.out.trans (B.mono HB.out.size));clear B
 go_wp2_with fail
 refine (ER w12).mono ?_;rintro e w13 ⟨rfl,B⟩;replace H1:=Lib.hid (H1.out.on B);replace HP2:=Lib.hid (HP2.out.on B);replace H4:=Lib.hid (H4.out.on B);replace HH5:=Lib.hid (HH5.out.on B);replace HV6:=Lib.hid (HV6.out.on B);replace H9:=Lib.hid (H9.out.on B);replace HB:=Lib.hid (HB.out.trans (B.mono HB.out.size));clear B;have e1:w13.cell? ⟨w9.heap.size,73,none⟩=some (.slice x9.e 0 x9.ce):=by have:=ip Hs6.out H9.out.1;rw [He6.out] at this;exact this
 have l1:w1.heap.size<w13.heap.size:=H1.out.1.lt;have l4:w3.heap.size<w13.heap.size:=H4.out.1.lt;have l9:w9.heap.size<w13.heap.size:=H9.out.1.lt;go_upto_region 13 with fail
 refine Sd.plain ?_
 repeat ((first
  | refine pa ?_
  | refine sl (ae H1.out.1) l1 az (dl Hs.out) ?_
  | refine sl (ae H4.out.1) l4 az (dl Hs4.out) ?_
  | refine cl (fun u hu=>Gr HS.out HS4.out (H1.out.on hu).2 (H4.out.on hu).2) ?_
  | refine cl (fun u hu=>DL HS.out (H1.out.on hu).2) ?_
  | refine cv HP2.out Hn.out ?_ | refine cv HH5.out Hnh.out ?_ | refine cv HV6.out Hnv.out ?_
  | refine pt ?_);simp only [ld,lg,lf,Nat.reduceAdd,Bool.and_self,jK,←Hcat.out,beq_self_eq_true])
 refine sa (Hl9.out) ?_;simp only [ld,lg,lf,Nat.reduceAdd,←Hcat.out]
 repeat ((first | refine pa ?_ | refine cl (fun u hu=>DL HS.out (H1.out.on hu).2) ?_ | refine sl (ae H1.out.1) l1 az (dl Hs.out) ?_ | refine pt ?_);simp only [ld,lg,lf,Nat.reduceAdd,Bool.and_self,beq_self_eq_true])
 refine Sd.done fun w2 hb2=>?_
 have Hb2:=Lib.hid (HB.out.trans (hb2.mono HB.out.size));clear hb2
 go_wp2
 go_ret
 exact ⟨rfl,Hb2.out⟩
end Go.Proofs.YtaafkokfdgfabaaGreat
namespace Go.Proofs.YtaafkokfdgfabaaGreat
open Go.RowKit
set_option linter.unusedVariables false
set_option linter.unusedSimpArgs false
theorem ES {n k:Int} {X:List UInt8} (h:eN n k=(X,true)):iw X=(n.toNat,k.toNat,true)∧(n.toNat:Int)=n∧(k.toNat:Int)=k∧X.length=10:=by
 unfold eN at h;split at h
 ·rename_i hc
  simp only [Prod.mk.injEq,and_true] at h;subst h;refine ⟨A0 hc.1 hc.2.1 hc.2.2,by omega,by omega,?_⟩;rw [List.length_append,jJ,Dr]
 ·simp at h
set_option maxRecDepth 100000 in
theorem rD (a0 a1:Int) (a2:ByteArray) (w0:(Lit.int .i64 a0).wf=true) (w1:(Lit.int .i64 a1).wf=true) (w2:a2.size≤maxLen) (w:World) :
  Calls Tryz.prog 7 #[.int .i64 a0,.int .i64 a1,.string a2] w fun e w'=>e=.returned (.bool true)∧Below w.heap.size w w':=by
 obtain ⟨l,hl⟩:∃ l:List UInt8,a2=⟨l.toArray⟩:=⟨a2.data.toList,by cases a2;simp⟩
 have Hl:=Lib.hid hl;have hsz:Hid (a2.size=l.length):=by show _=_;rw [hl];show l.toArray.size=_;simp
 clear hl w0 w1 w2;by_cases h200:200<a2.size
 ·have hI:(200:Int)<((a2.size:Nat):Int):=by omega
  go_enter Tryz.func7,Tryz.ntmps7
  go_wp2_with fail
  refine (ir w).mono ?_;rintro e u1 ⟨rfl,B1⟩;have HB:=Lib.hid B1;clear B1
  go_wp2_with fail
  refine (ir u1).mono ?_;rintro e u2 ⟨rfl,B1⟩;have HB2:=Lib.hid (HB.out.trans (B1.mono HB.out.size));clear B1 HB
  go_wp2_with fail
  go_ret
  exact ⟨rfl,HB2.out⟩
 have hI:((a2.size:Nat):Int)≤200:=by omega
 have hln:Hid (l.length≤200):=by show _≤_;have:=hsz.out;omega
 clear h200;rcases hn:eN a0 a1 with ⟨X,ok⟩
 obtain ⟨SX,hSX⟩:∃ S,S=(⟨X.toArray⟩:ByteArray):=⟨_,rfl⟩
 have HN:Hid (∀ u,Calls Tryz.prog 21 #[.int .i64 a0,.int .i64 a1] u fun e w'=>e=.returned (.tuple #[.string SX,.bool ok])∧Below u.heap.size u w'):=fun u=>by
  have:=me a0 a1 u;rwa [hn,←hSX] at this
 have HR:Hid (∀ u,Calls Tryz.prog 22 #[.int .i64 a0,.int .i64 a1] u fun e w'=>e=.returned (.tuple #[.string SX,.bool ok])∧Below u.heap.size u w'):=fun u=>by
  have:=pG a0 a1 u;rwa [hn,←hSX] at this
 have HX:Hid (ok=true→∀ u,Calls Tryz.prog 23 #[.string SX] u fun e w'=>e=.returned (.tuple #[.int .i64 a0,.int .i64 a1,.bool true])∧Below u.heap.size u w'):=fun h u=>by
  subst h;obtain ⟨h1,h2,h3,h4⟩:=ES hn;have:=gC X (by omega) u;rwa [h1,←hSX,h2,h3] at this
 clear hn hSX;go_enter Tryz.func7,Tryz.ntmps7
 go_wp2_with fail
 refine (ir w).mono ?_;rintro e u1 ⟨rfl,B1⟩;have HB:=Lib.hid B1;clear B1
 go_wp2_with fail
 refine (HN.out u1).mono ?_;rintro e u2 ⟨rfl,B1⟩;replace HB:=Lib.hid (HB.out.trans (B1.mono HB.out.size));clear B1
 go_wp2_with fail
 refine (HR.out u2).mono ?_;rintro e u3 ⟨rfl,B1⟩;replace HB:=Lib.hid (HB.out.trans (B1.mono HB.out.size));clear B1;go_upto_region 7 with fail
 have KN:Hid ((∃ m k:Nat,∀ u,(Calls Tryz.prog 23 #[.string a2] u fun e w'=>e=.returned (.tuple #[.int .i64 (m:Int),.int .i64 (k:Int),.bool true])∧Below u.heap.size u w')∧Calls Tryz.prog 22 #[.int .i64 (m:Int),.int .i64 (k:Int)] u fun e w'=>e=.returned (.tuple #[.string a2,.bool true])∧Below u.heap.size u w') ∨
   (∀ u,(Calls Tryz.prog 23 #[.string a2] u fun e w'=>e=.returned (.tuple #[.int .i64 0,.int .i64 0,.bool false])∧Below u.heap.size u w')∧(a2.size=10→Calls Tryz.prog 24 #[.string a2] u fun e w'=>e=.returned (.bool false)∧u=w'))):=by
  rcases xP l with ⟨t,k,hk,h1,h2,h3,h4⟩ | ⟨h1,h2⟩
  ·refine .inl ⟨fZ t,k,fun u=>⟨?_,?_⟩⟩
   ·have:=gC l (by have:=hln.out;omega) u
    rwa [h4,←Hl.out] at this
   ·have:=pG (fZ t:Int) (k:Int) u
    rwa [ED hk h2 h3,←h1,←Hl.out] at this
  ·refine .inr fun u=>⟨?_,fun h10=>?_⟩
   ·have:=gC l (by have:=hln.out;omega) u
    rwa [h1,←Hl.out] at this
   ·have hl10:l.length=10:=by rw [←hsz.out];exact h10
    have:=Be l hl10 u;rwa [h2 hl10,←Hl.out] at this
 clear HN HR Hl hsz hln;rcases ok with _ | _
 ·clear HX
  obtain ⟨v,hv⟩:∃ v,v=u3:=⟨_,rfl⟩
  subst hv;go_upto_region 11 with fail
  rcases KN.out with ⟨m,k,hK⟩ | hK
  ·have HK:=Lib.hid hK
   clear hK KN
   go_wp2_with fail
   refine ((HK.out v).1).mono ?_;rintro e v1 ⟨rfl,B1⟩;replace HB:=Lib.hid (HB.out.trans (B1.mono HB.out.size));clear B1
   go_wp2_with fail
   refine ((HK.out v1).2).mono ?_;rintro e v2 ⟨rfl,B1⟩;replace HB:=Lib.hid (HB.out.trans (B1.mono HB.out.size));clear B1
   go_wp2_with fail
   go_ret
   exact ⟨rfl,HB.out⟩
  ·have HK:=Lib.hid hK
   clear hK KN
   go_wp2_with fail
   refine ((HK.out v).1).mono ?_;rintro e v1 ⟨rfl,B1⟩;replace HB:=Lib.hid (HB.out.trans (B1.mono HB.out.size));clear B1;by_cases h10:a2.size=10
   ·have HK2:=Lib.hid ((HK.out v1).2 h10)
    have hq:(((a2.size:Nat):Int) != 10)=false:=by simp;omega
    clear h10 HK
    go_wp2_with fail
    refine HK2.out.mono ?_;rintro e _ ⟨rfl,rfl⟩
    go_wp2_with fail
    go_ret
    exact ⟨rfl,HB.out⟩
   ·have hq:(((a2.size:Nat):Int) != 10)=true:=by simp;omega
    clear h10 HK
    go_wp2_with fail
    go_ret
    exact ⟨rfl,HB.out⟩
 ·go_wp2_with fail
  refine (HX.out trivial u3).mono ?_;rintro e v ⟨rfl,B1⟩;replace HB:=Lib.hid (HB.out.trans (B1.mono HB.out.size));clear B1 HX;go_upto_region 11 with fail
  rcases KN.out with ⟨m,k,hK⟩ | hK
  ·have HK:=Lib.hid hK
   clear hK KN
   go_wp2_with fail
   refine ((HK.out v).1).mono ?_;rintro e v1 ⟨rfl,B1⟩;replace HB:=Lib.hid (HB.out.trans (B1.mono HB.out.size));clear B1
   go_wp2_with fail
   refine ((HK.out v1).2).mono ?_;rintro e v2 ⟨rfl,B1⟩;replace HB:=Lib.hid (HB.out.trans (B1.mono HB.out.size));clear B1
   go_wp2_with fail
   go_ret
   exact ⟨rfl,HB.out⟩
  ·have HK:=Lib.hid hK
   clear hK KN
   go_wp2_with fail
   refine ((HK.out v).1).mono ?_;rintro e v1 ⟨rfl,B1⟩;replace HB:=Lib.hid (HB.out.trans (B1.mono HB.out.size));clear B1;by_cases h10:a2.size=10
   ·have HK2:=Lib.hid ((HK.out v1).2 h10)
    have hq:(((a2.size:Nat):Int) != 10)=false:=by simp;omega
    clear h10 HK
    go_wp2_with fail
    refine HK2.out.mono ?_;rintro e _ ⟨rfl,rfl⟩
    go_wp2_with fail
    go_ret
    exact ⟨rfl,HB.out⟩
   ·have hq:(((a2.size:Nat):Int) != 10)=true:=by simp;omega
    clear h10 HK
    go_wp2_with fail
    go_ret
    exact ⟨rfl,HB.out⟩
end Go.Proofs.YtaafkokfdgfabaaGreat
