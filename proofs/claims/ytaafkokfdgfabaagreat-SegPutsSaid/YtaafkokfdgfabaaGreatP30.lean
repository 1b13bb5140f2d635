import Derived.Test.YtaafkokfdgfabaaGreatP17
import Derived.Test.YtaafkokfdgfabaaGreatP19
import Derived.Test.YtaafkokfdgfabaaGreatP29
set_option maxHeartbeats 8000000
set_option maxRecDepth 100000
set_option linter.unusedVariables false
set_option linter.unusedSimpArgs false
open And renaming intro→IE
open Array renaming setIfInBounds_comm→IJ
open Bool renaming and_eq_true→IB,eq_iff_iff→IS,false_eq_true→IU
open List renaming length_append→qq,size_toArray→IA,append_assoc→IG,mem_of_mem_take→IH,replicate→II,getElem?_eq_getElem→IK,take_of_length_le→IR,mem_of_getElem?→IT,length_take→IW
open Nat renaming le_refl→Iz,le_trans→IF,lt_of_lt_of_le→IV
namespace Go.Proofs.YtaafkokfdgfabaaGreat
open Go.RowKit
open Lib (hid)
open BS renaming of_own→IL
open NR renaming new→IX
open Region renaming wanted→ID,ready→IP
open Tryz renaming prog→Iy,underlying43→IC,underlying5→IM,underlying9→IN
open Value renaming int→IY
open Wh renaming done→IQ
theorem eB:Iy.underlying 37=some (.struct (Iy.fieldsOf 37)):=by kernel_rfl
theorem Fv:(Iy.info? 37).map (·.size)=some 17:=by kernel_rfl
theorem kS{x:nJ}{s:bA}(h:iU s):(Iy.info? 37).map (·.size)=some (cU x s).length:=by rw[l8 h];exact Fv
theorem Am{l:List Int}(h:∀n∈l,0≤n∧n≤1152921504606846976):∃m:List Nat,l=m.map (fun (n:Nat)=>(n:Int))∧l.map Int.toNat=m∧∀n∈m,n≤1152921504606846976:=by
 refine⟨l.map Int.toNat,?_,rfl,?_⟩
 ·rw[List.map_map]
  conv=>lhs;rw[←List.map_id l]
  refine List.map_congr_left fun n hn=>?_
  have:=h n hn;show n=((n.toNat:Nat):Int)
  omega
 ·intro n hn
  obtain⟨z,hz,rfl⟩:=List.mem_map.1 hn;have:=h z hz;omega
theorem GU.box{B:Nat}{w w':World}{g:Nat}{t:TypeId}{cs:Array Value}(h:GU B w w')(hb:aj w g t cs)(ht:t≠5):∀o,w'.cell? ⟨g,o,none⟩=w.cell? ⟨g,o,none⟩:=fun o=>by rw[(h.blk hb ht).cell,hb.cell]
theorem BW(d:Bool):ea d=aC (if d then 1 else 0):=by rcases d<;>rw[io]<;>decide
theorem tG{h:dq}(hr:dW h=true):(aL h).length≤400:=by
 simp only[dW,IB,decide_eq_true_eq,bF] at hr;have h1:=aO (n:=h.name.length) (by omega);have h2:=aO (n:=h.run.toNat) (by omega);have h3:=cP h.down;simp only[aL,bw,qq];omega
theorem jB{t:fL}(h:cy t):(aZ t).length=38:=by
 have h1:=h.src;have h2:=h.dst;unfold aS at h1 h2;simp[aZ,h1,h2,az]
theorem Fw{f:dE}(hk:cy f.key)(hr:du f=true):(bR f).length≤200:=by
 simp only[du,IB,bF] at hr;have h0:=jl hr.2.1;have h1:=aO (n:=f.name.length) (by omega);have h2:=aO (n:=f.state.toNat) (by omega);have h3:=aO (n:=f.seen.toNat) (by omega);have h4:=aO (n:=f.no.toNat) (by omega);simp only[bR,bw,qq,jB hk];omega
theorem GI{ops:Array Oper}{Q:Exit→Act→World→Prop}{B:Nat}{y1 w:World}{listed:Array Bool}{a:Act}{fuel di dj dk n:Nat}(i j k:Nat){oi oj ok:Oper}{yi yk:Array Operand}{ti tk:Array TypeId}
  (A:Option Addr) (c:Nat) (m x:List UInt8) (ns:List Nat) (hS:GU B y1 w) (hB:B≤w.heap.size) (hown:w.ownsRow B 5 1 (.slice A m.length c) m.length (ab m)) (hx:x.length≤1000000) (hm:m.length≤900000000) (hn:n=ns.length) (hl:n≤1000) (hns:∀n∈ns,n<9223372036854775808)
  (h:∀(w':World) (v1 v2:Value) (A':Option Addr) (c':Nat),GU B y1 w'→w'.ownsRow B 5 1 (.slice A' (m++(bw x++aJ ns)).length c') (m++(bw x++aJ ns)).length (ab (m++(bw x++aJ ns))) →
   Wz Iy ops Q (fun v=>GU B y1 v) fuel (((listed.setIfInBounds i true).setIfInBounds j true).setIfInBounds k true) { a with tmps:=((a.tmps.setIfInBounds di v1).setIfInBounds dj v2).setIfInBounds dk (.slice A' (m++(bw x++aJ ns)).length c') } w')
  (hi:ops[i]?=some oi:=by rfl) (hj:ops[j]?=some oj:=by rfl) (hk:ops[k]?=some ok:=by rfl) (hdi:oi.dst=some di:=by rfl) (hdj:oj.dst=some dj:=by rfl) (hdk:ok.dst=some dk:=by rfl)
  (gi:oi.guard=none:=by rfl) (gj:oj.guard=none:=by rfl) (gk:ok.guard=none:=by rfl)
  (hij:i≠j:=by decide) (hd:di≠dj:=by decide)
  (ho:oi.op=.call { callee:=.value (.func 65),args:=yi,argTypes:=ti }:=by rfl) (hok:ok.op=.call { callee:=.value (.func 63),args:=yk,argTypes:=tk }:=by rfl)
  (hx0:∀v,yi.toList.map (Act.eval { a with tmps:=a.tmps.setIfInBounds dj v })=[.slice A m.length c,.string ⟨x.toArray⟩]:=by (intro v;rfl)) (hx1:yi.toList.map a.eval=[.slice A m.length c,.string ⟨x.toArray⟩]:=by rfl)
  (hx2:∀u v,yk.toList.map (Act.eval { a with tmps:=(a.tmps.setIfInBounds di u).setIfInBounds dj v })=[u,v]:=by (intro u v;rfl))
  (hb:∀w:World,(execOp a.eval oj).run Iy w=.ok (.value (.slice (some ⟨w.heap.size,0,none⟩) n n)) (w.alloc (.cells (ns.map fun (n:Nat)=>IY .i64 (n:Int)).toArray 3)):=by (intro w;go_simp;first|done|exact rfl))
  (hb1:∀u (w:World),(execOp (Act.eval { a with tmps:=a.tmps.setIfInBounds di u }) oj).run Iy w=.ok (.value (.slice (some ⟨w.heap.size,0,none⟩) n n)) (w.alloc (.cells (ns.map fun (n:Nat)=>IY .i64 (n:Int)).toArray 3)):=by (intro u w;go_simp;first|done|exact rfl))
  (r0:IP .any ops listed=[i,j]:=by kernel_rfl) (r1:IP .any ops (listed.setIfInBounds i true)=[j]:=by kernel_rfl) (r2:IP .any ops (listed.setIfInBounds j true)=[i]:=by kernel_rfl) (r3:IP .any ops ((listed.setIfInBounds i true).setIfInBounds j true)=[k]:=by kernel_rfl)
  (f1:pW Iy 65=true:=by kernel_rfl) (f2:pW Iy 63=true:=by kernel_rfl):Wz Iy ops Q (fun v=>GU B y1 v) (fuel+1+1+1) listed a w:=by
 have wi:∀(t:Array Value),ID oi (yielded ops t)=true:=fun t=>by unfold ID;rw[gi]
 have wj:∀(t:Array Value),ID oj (yielded ops t)=true:=fun t=>by unfold ID;rw[gj]
 have wk:∀(t:Array Value),ID ok (yielded ops t)=true:=fun t=>by unfold ID;rw[gk]
 have hlm:(m++bw x).length≤1000000000:=by have:=aO (n:=x.length) (by omega);rw[bw,qq,qq];omega
 have tail:∀(g:Nat) (u:World) (A':Option Addr) (c':Nat),GU B y1 u→B≤u.heap.size→NR u g 0 ns→u.ownsRow B 5 1 (.slice A' (m++bw x).length c') (m++bw x).length (ab (m++bw x)) →
   Wz Iy ops Q (fun v=>GU B y1 v) (fuel+1) ((listed.setIfInBounds i true).setIfInBounds j true) { a with tmps:=(a.tmps.setIfInBounds di (.slice A' (m++bw x).length c')).setIfInBounds dj (.slice (some ⟨g,0,none⟩) n n) } u:=by
  intro g u A' c' hu hBu hN ho';refine one k (On.call (fU B A' c' (m++bw x) g 0 n n ns u hBu ho' hn hN hl hns hlm) ?_ hk hdk (wk _) hok (hx2 _ _) f2) r3;rintro e w2 ⟨A2,c2,rfl,hown2,hg2⟩;rw[IG] at hown2 ⊢;exact⟨_,rfl,hu.trans hg2,h w2 _ _ A2 c2 (hu.trans hg2) hown2⟩
 refine In i j ?_ ?_ r0
 ·refine On.call (tF B A c m x w hB hown hx hm) ?_ hi hdi (wi _) ho hx1 f1
  rintro e w2 ⟨A2,c2,rfl,hown2,hg2⟩;have hB2:=IF hB hg2.size;refine⟨_,rfl,hS.trans hg2,one j (On.val (fun u hu=>by rw[hu];exact (hS.trans hg2).trans (GU.alloc _ _)) (fun hu=>?_) hj hdj (wj _) (hb1 _ _)) r1⟩;exact tail _ _ _ _ hu (IF hB2 (GU.alloc (B:=B) w2 _).size) (IX w2 ns _ rfl) (an hown2 ((Below.refl _ _).alloc (Iz _) _))
 ·refine On.val (fun u hu=>by rw[hu];exact hS.trans (GU.alloc _ _)) (fun hu=>?_) hj hdj (wj _) (hb _)
  refine one i (On.call (tF B A c m x _ (IF hB (GU.alloc (B:=B) w _).size) (an hown ((Below.refl _ _).alloc (Iz _) _)) hx hm) ?_ hi hdi (wi _) ho (hx0 _) f1) r2;rintro e w2 ⟨A2,c2,rfl,hown2,hg2⟩;refine⟨_,rfl,hu.trans hg2,?_⟩;show Wz Iy ops Q _ _ ((listed.setIfInBounds j true).setIfInBounds i true) { a with tmps:=(a.tmps.setIfInBounds dj _).setIfInBounds di _ } w2
  rw[IJ _ _ (Ne.symm hij),IJ _ _ (Ne.symm hd)];exact tail _ _ _ _ (hu.trans hg2) (IF (IF hB (GU.alloc (B:=B) w _).size) hg2.size) ((IX w ns _ rfl).gu hg2) hown2
theorem wM(x:nJ)(s:bA)(w:World)(hst:md w w.heap.size x s) :
  Calls Iy 32 #[.agg (cU x s).toArray] w (ix w (eM s) (eF s)):=by
 obtain⟨i0,hi0,hz0,hz1,hz2⟩:=info_parts bB;obtain⟨W,hW⟩:∃W,W=w.alloc (.cells (cU x s).toArray 37):=⟨_,rfl⟩;have HY:Hid (aj W w.heap.size 37 (cU x s).toArray):=by rw[hW];exact aj.new w _ _ _ rfl
 have HB:Hid (Below w.heap.size w W):=by rw[hW];exact (Below.refl _ _).alloc (Iz _) _
 have HS:=hid (hst.on HB.out);have HW:=hid hW;have l1:w.heap.size<W.heap.size:=HY.out.lt;clear hW hst;go_enter Tryz.func32,Tryz.ntmps32
 go_upto_region 1 with fail
 rw[←HW.out];clear HW;refine Sd.plain ?_
 repeat ((first|refine sl (ag HY.out) l1 eB (kS HS.out.ok) ?_|refine cl (fun w h=>jA x s w (HS.out.on h)) ?_|refine pt ?_);simp only[ld,lg,lf,Nat.reduceAdd])
 refine Sd.done fun w2 hb2=>?_
 have Hb2:=hid hb2;have Hw2:=hid (HB.out.trans (hb2.mono HB.out.size));clear hb2;obtain⟨v,hv⟩:∃v,eM s=v:=⟨_,rfl⟩;have Hv:=hid hv;rw[hv];rcases v with _|_
 ·clear hv
  go_wp2
  go_ret2
  exact⟨Hw2.out,fun _=>rfl,fun h=>Bool.noConfusion (Hv.out.symm.trans h)⟩
 have hR:=pi hv;have Hq:=hid (pq.1 hv);clear hv;obtain⟨tk,htk⟩:∃n:Nat,s.tick=(n:Int):=⟨s.tick.toNat,by have:=hR.tick;omega⟩;obtain⟨no,hno⟩:∃n:Nat,s.no=(n:Int):=⟨s.no.toNat,by have:=hR.no;omega⟩;obtain⟨ver,hver⟩:∃n:Nat,s.pool.version=(n:Int):=⟨s.pool.version.toNat,by have:=hR.ver;omega⟩;obtain⟨cn,hcn,hcn2,hcn3⟩:=Am hR.count;have tkl:tk≤1099511627776:=by have:=hR.tick;omega
 have nol:no≤1152921504606846976:=by have:=hR.no;omega
 have vel:ver≤1099511627776:=by have:=hR.ver;omega
 have hcl:cn.length=11:=by rw[←hcn2,List.length_map];exact HS.out.ok.count
 have Hnums:Hid (eF s=aJ [tk,no]++(aJ cn++(aJ [ver]++(eV aD s.pool.backs++(eV aL s.healths++eV bR s.flows))))):=by
  show _=_
  unfold eF iy;rw[htk,hno,hver,hcn2];simp[aJ,fW]
 have b3:W.cell? ⟨w.heap.size,4,none⟩=some (.int .i64 (tk:Int)):=by have:=HY.out.cell 4;rw[this];show some (zv s.tick)=_;rw[htk];rfl
 have b4:W.cell? ⟨w.heap.size,5,none⟩=some (.int .i64 (no:Int)):=by have:=HY.out.cell 5;rw[this];show some (zv s.no)=_;rw[hno];rfl
 have b0:W.cell? ⟨w.heap.size,0,none⟩=some (.int .i64 (ver:Int)):=by have:=HY.out.cell 0;rw[this];show some (zv s.pool.version)=_;rw[hver];rfl
 have b1:W.cell? ⟨w.heap.size,1,none⟩=some (.slice x.b s.pool.backs.length x.cb):=HY.out.cell 1;have b5:W.cell? ⟨w.heap.size,2,none⟩=some (.slice x.h s.healths.length x.ch):=HY.out.cell 2;have b6:W.cell? ⟨w.heap.size,3,none⟩=some (.slice x.f s.flows.length x.cf):=HY.out.cell 3;have HCn:Hid (NR W w.heap.size 6 cn):=by
  refine⟨_,37,by decide,HY.out,fun j n hj=>?_⟩;rw[List.getElem?_toArray,cU,show 6+j=j+6 by omega];show (s.count.map zv)[j]?=_
  rw[hcn,List.map_map,List.getElem?_map,hj];rfl
 have Hcl:=hid hcl;have Hcn3:=hid hcn3;have HR:=hid hR;clear htk hno hver hcn hcn2 hcn3 hcl hR;have r3:=(bg Hb2.out _ 4 l1).trans b3;have r4:=(bg Hb2.out _ 5 l1).trans b4
 go_wp2_with fail
 obtain⟨V1,hV1⟩:∃V,V=w2.alloc (.cells #[.int .i64 (tk:Int),.int .i64 (no:Int)] 3):=⟨_,rfl⟩;rw[←hV1];have N1:NR V1 w2.heap.size 0 [tk,no]:=by rw[hV1];exact IX w2 [tk,no] _ rfl
 have G1:Hid (Below W.heap.size W V1):=by rw[hV1];exact Hb2.out.alloc Hb2.out.size _
 refine (fU W.heap.size none 0 [] w2.heap.size 0 2 2 [tk,no] V1 G1.out.size (World.ownsRow_nil _ _ _ _) rfl N1 (by decide) (by simp;omega) (by simp)).mono ?_;rintro e w3 ⟨A3,c3,rfl,hown3,hg3⟩;obtain⟨m3,hm3⟩:∃m,m=aJ [tk,no]:=⟨_,rfl⟩;have Hm3:=hid hm3;rw[←hm3,List.nil_append] at hown3 ⊢;clear hm3 hV1 N1 r3 r4;have HW3:=hid (G1.out.trans (hg3.below G1.out.size));clear G1 hg3 Hb2 Hw2;have Ho3:=hid hown3;have N3:NR w3 w.heap.size 6 cn:=HCn.out.gu (B:=0) (GU.of_below HW3.out);have hm3l:m3.length≤20:=by
  rw[Hm3.out];exact gX [tk,no] (by simp;omega)
 clear hown3
 go_wp2_with fail
 refine (fU W.heap.size A3 c3 m3 w.heap.size 6 11 11 cn w3 HW3.out.size Ho3.out Hcl.out.symm N3 (by decide) (fun n hn=>by have:=Hcn3.out n hn;omega) (by omega)).mono ?_;rintro e w4 ⟨A4,c4,rfl,hown4,hg4⟩;obtain⟨m4,hm4⟩:∃m,m=m3++aJ cn:=⟨_,rfl⟩;have Hm4:=hid hm4;have hm4l:m4.length≤130:=by
  have:=gX cn (fun n hn=>by have:=Hcn3.out n hn;omega);rw[hm4,qq];have:=Hcl.out;omega
 rw[←hm4] at hown4 ⊢;have HW4:=hid (HW3.out.trans (hg4.below HW3.out.size));have Ho4:=hid hown4;clear hm4 hown4 hg4 HW3 Ho3 N3 hm3l;go_upto_region 5 with fail
 refine Wh.start' HW4.out fun hH=>?_
 have hH:=hH.out;refine tw 0 hH ?_;simp only[ld,lg,lf];refine tw 1 hH ?_;simp only[ld,lg,lf];refine tw 2 hH ?_;simp only[ld,lg,lf];refine tw 3 hH ?_;simp only[ld,lg,lf];refine tw 6 hH ?_;simp only[ld,lg,lf];refine tw 7 hH ?_;simp only[ld,lg,lf];refine tw 8 hH ?_;simp only[ld,lg,lf];obtain⟨V5,hV5⟩:∃V,V=w4.drew.alloc (.cells #[.int .i64 (ver:Int)] 3):=⟨_,rfl⟩;have hb5:Below w4.heap.size w4 V5:=by rw[hV5];exact (Below.refl _ _).drew.alloc (Iz _) _
 have hH5:=hH.trans (show Below W.heap.size w4.drew V5 by rw[hV5];exact (Below.refl _ _).alloc hH.size _);have N5:NR V5 w4.drew.heap.size 0 [ver]:=by rw[hV5];exact IX w4.drew [ver] _ rfl
 refine one 4 (On.val (w':=V5) (fun u hu=>by rw[hu];exact hH5) (fun hH5=>?_) (hrun:=by rw[hV5];go_simp;exact rfl));simp only[ld,lg,lf];refine one 5 (On.call (fU W.heap.size A4 c4 m4 w4.drew.heap.size 0 1 1 [ver] V5 hH5.out.size (an Ho4.out hb5) rfl N5 (by decide) (by simp;omega) (by omega)) ?_);rintro e w5 ⟨A5,c5,rfl,hown5,hg5⟩;have hH6:=hH5.out.trans (hg5.below hH5.out.size);refine⟨_,rfl,hH6,?_⟩;obtain⟨m5,hm5⟩:∃m,m=m4++aJ [ver]:=⟨_,rfl⟩;have Hm5:=hid hm5;have hm5l:m5.length≤140:=by
  have:=gX [ver] (by simp;omega);rw[hm5,qq];simp at this ⊢;omega
 rw[←hm5] at hown5 ⊢;clear hm5 hV5;simp only[ld,lg,lf];refine one 9 (On.call (uE W.heap.size A5 c5 m5 x.b s.pool.backs.length x.cb s.pool.backs w5 hH6.size hown5 (by omega) rfl (HS.out.held.backs.below hH6) HS.out.cb.1 HR.out.bl HS.out.ok.backs fun b hb=>nu (HR.out.backs b hb)) ?_);rintro e w6 ⟨A6,c6,rfl,hown6,hg6⟩;have hH7:=hH6.trans (hg6.below hH6.size);refine⟨_,rfl,hH7,?_⟩;simp only[ld,lg,lf];refine tw 10 hH7 ?_;simp only[ld,lg,lf];refine IQ ?_;obtain⟨m6,hm6⟩:∃m,m=m5++eV aD s.pool.backs:=⟨_,rfl⟩;have Hm6:=hid hm6;have hm6l:m6.length≤3000000:=by
  have h1:=dR (enc:=aD) (N:=2000) s.pool.backs fun b hb=>gx (HS.out.ok.backs b hb) (by have:=nu (HR.out.backs b hb);simp only[dM,IB,decide_eq_true_eq] at this;omega)
  have h2:=aO (n:=s.pool.backs.length) (by have:=HR.out.bl;omega);have h3:=HR.out.bl;rw[hm6,qq,eV,qq];omega
 rw[←qq,←hm6];rw[←hm6] at hown6;have HW6:=hid hH7;have Ho6:=hid hown6;clear hm6 hown6 hg6 hH7 hH6 hown5 hg5 hm5l N5 hH5 hb5 hH HW4 Ho4 hm4l;have a5:=(bg HW6.out w.heap.size 2 l1).trans b5
 go_wp2_with fail
 obtain⟨V6,hV6⟩:∃V,V=w6.alloc (.cells #[.int .i64 (s.healths.length:Int)] 3):=⟨_,rfl⟩;rw[←hV6];have N6:NR V6 w6.heap.size 0 [s.healths.length]:=by rw[hV6];exact IX w6 [s.healths.length] _ rfl
 have G6:Below W.heap.size W V6:=by rw[hV6];exact HW6.out.alloc HW6.out.size _
 have hb6:Below w6.heap.size w6 V6:=by rw[hV6];exact (Below.refl _ _).alloc (Iz _) _
 refine (fU W.heap.size A6 c6 m6 w6.heap.size 0 1 1 [s.healths.length] V6 G6.size (an Ho6.out hb6) rfl N6 (by decide) (by have:=HR.out.hl;simp;omega) (by omega)).mono ?_;rintro e w7 ⟨A7,c7,rfl,hown7,hg7⟩;obtain⟨m7,hm7⟩:∃m,m=m6++aJ [s.healths.length]:=⟨_,rfl⟩;have Hm7:=hid hm7;have hm7l:m7.length≤3000010:=by
  have:=gX [s.healths.length] (by have:=HR.out.hl;simp;omega);rw[hm7,qq];simp at this ⊢;omega
 rw[←hm7] at hown7 ⊢;have HW7:=hid (G6.trans (hg7.below G6.size));have Ho7:=hid hown7;obtain⟨L,hL⟩:∃L,L=m7.length:=⟨_,rfl⟩;have HL:=hid hL;rw[←hL] at hm7l;clear hm7 hown7 hg7 hV6 N6 G6 hb6 HW6 Ho6 a5 hL hm6l;have a5:=(bg HW7.out w.heap.size 2 l1).trans b5
 go_wp2
 go_loopw [4,42] (fun v i wr=>∃(k:Nat) (l:List UInt8) (A':Option Addr) (c':Nat),k≤s.healths.length∧i=.int .i64 (k:Int)∧v=.slice A' l.length c'∧Hid (wr.ownsRow W.heap.size 5 1 (.slice A' l.length c') l.length (ab l))∧Hid (Below W.heap.size W wr)∧Hid (l=m7++(s.healths.take k).flatMap aL)) (fun _ i _=>s.healths.length-(intOf i).toNat)
 case atStart=>exact⟨0,m7,A7,c7,by omega,rfl,rfl,Ho7,HW7,by simp[Hid]⟩
 case round =>
  obtain⟨k,l,A',c',hk,rfl,rfl,hown,hg,hlv⟩:=hrel;rename World=>wr
  by_cases hlt:k<s.healths.length
  ·have hltI:(k:Int)<(s.healths.length:Int):=by omega
   have hk0:(0:Int)≤(k:Int):=by omega
   have hcl:=HR.out.hl;obtain⟨b,o,hxh,hbB,hc⟩:=(HS.out.held.healths.below hg.out) (by omega);obtain⟨y,hy⟩:∃x,s.healths[k]?=some x:=⟨_,IK hlt⟩;have hym:y∈s.healths:=IT hy;have Hrg:=hid (hc k y hy);have hch:=HS.out.ch.1;have hyr:=HR.out.healths y hym;simp only[dW,IB,decide_eq_true_eq,bF] at hyr;have Hst:Hid (l++aL y=m7++(s.healths.take (k+1)).flatMap aL):=by show _=_;rw[gM _ s.healths hy,hlv.out,IG]
   clear hc hy hym;rw[hxh];clear hxh;obtain⟨x1,y1,X1,Y1,T1,B1,L1⟩:=ei wr 115 (aF j5) (aF y) rfl;rw[iJ] at X1;have hBw:=hg.out.size;have HB1:Hid (Below W.heap.size W y1):=hg.out.trans (L1.out.mono hg.out.size);have Ho1:=hid (an hown.out L1.out);go_upto_region 10 with (first
    |((with_reducible refine aB 115 ?_);refine aa (by rfl) 115 (.tmp 44) rfl b (o+k*3) rfl (aF y) _ Hrg.out dQ rfl (dG y) ?_)
    |(rw[←X1.out];(with_reducible refine aR 115 ?_);refine wpList_store_mid rfl 115 (.tmp 6) (.tmp 45) rfl wr.heap.size 0 (aF y).toArray rfl rfl T1.out (by rw[IA];exact dG y) (gL _) ?_))
   rw[←Y1.out];have e3:y1.cell? ⟨wr.heap.size,0,none⟩=some (.string ⟨y.name.toArray⟩):=B1.out.cell 0;have e4:y1.cell? ⟨wr.heap.size,1,none⟩=some (.bool y.down):=B1.out.cell 1;obtain⟨rn,hrn⟩:∃n:Nat,y.run=(n:Int):=⟨y.run.toNat,by omega⟩;have e5:y1.cell? ⟨wr.heap.size,2,none⟩=some (.int .i64 (rn:Int)):=by have:=B1.out.cell 2;rw[this];show some (zv y.run)=_;rw[hrn];rfl
   have rnl:rn≤99:=by omega
   have hdn:(if y.down then (1:Nat) else 0)≤1:=by split<;>omega
   obtain⟨fl,hfl⟩:∃n,n=(if y.down then (1:Nat) else 0):=⟨_,rfl⟩;have Hyb:Hid (aL y=bw y.name++aJ [fl,rn]):=by
    show _=_
    unfold aL;rw[hrn,hfl];rw[BW];simp[aJ]
   have Hny:Hid (y.name.length≤1000000):=by show _≤_;omega
   have Hlb:Hid (l.length≤900000000):=by
    have h1:=dR (enc:=aL) (N:=400) (s.healths.take k) fun z hz=>tG (HR.out.healths z (IH hz))
    have h2:(s.healths.take k).length≤1024:=by rw[IW];have:=HR.out.hl;omega
    show _≤_
    rw[hlv.out,qq,←HL.out];omega
   have Hlt:Hid ((l++bw y.name).length≤1000000000):=by show _≤_;have:=Hny.out;have:=Hlb.out;have:=aO (n:=y.name.length) (by omega);rw[bw,qq,qq];omega
   clear X1 Y1 T1 Hrg hown hg;rcases hd:y.down with _|_
   ·rw[hd] at e4 hfl
    simp only[IU,if_false,if_true] at hfl;subst hfl;go_upto_region 13 with fail
    have hK:∀v,GU W.heap.size y1 v→∀o,v.cell? ⟨wr.heap.size,o,none⟩=y1.cell? ⟨wr.heap.size,o,none⟩:=fun v h=>h.box B1.out (by decide)
    refine Wz.start (S:=fun v=>GU W.heap.size y1 v) (GU.drew _) fun hH=>?_
    refine zt 0 hK hH ?_;simp only[ld,lg,lf];refine zt 1 hK hH ?_;simp only[ld,lg,lf];refine zt 2 hK hH ?_;simp only[ld,lg,lf];refine zt 4 hK hH ?_;simp only[ld,lg,lf];refine zt 5 hK hH ?_;simp only[ld,lg,lf];refine zt 6 hK hH ?_;simp only[ld,lg,lf];refine GI 3 7 8 A' c' l y.name [0,rn] hH HB1.out.size (an Ho1.out (Below.refl y1.heap.size y1).drew) Hny.out Hlb.out rfl (by simp) (by simp;omega) ?_;intro wu v1 v2 Au cu hgu hownu;rw[←Hyb.out] at hownu ⊢;have Hou:=hid hownu;have Hgu:=hid hgu;clear hownu hgu;simp only[ld,lg,lf];refine zt 9 hK Hgu.out ?_;simp only[ld,lg,lf];refine IQ ?_;have Hbu:Hid (Below W.heap.size W wu):=HB1.out.trans (Hgu.out.below HB1.out.size)
    go_wp2
    go_roundw
    case rel=>exact⟨k+1,l++aL y,Au,cu,by omega,by go_num,by simp,Hou,Hbu,Hst⟩
    case measure=>simp[intOf];omega
   ·rw[hd] at e4 hfl
    simp only[IU,if_false,if_true] at hfl;subst hfl;go_upto_region 13 with fail
    have hK:∀v,GU W.heap.size y1 v→∀o,v.cell? ⟨wr.heap.size,o,none⟩=y1.cell? ⟨wr.heap.size,o,none⟩:=fun v h=>h.box B1.out (by decide)
    refine Wz.start (S:=fun v=>GU W.heap.size y1 v) (GU.drew _) fun hH=>?_
    refine zt 0 hK hH ?_;simp only[ld,lg,lf];refine zt 1 hK hH ?_;simp only[ld,lg,lf];refine zt 2 hK hH ?_;simp only[ld,lg,lf];refine zt 4 hK hH ?_;simp only[ld,lg,lf];refine zt 5 hK hH ?_;simp only[ld,lg,lf];refine zt 6 hK hH ?_;simp only[ld,lg,lf];refine GI 3 7 8 A' c' l y.name [1,rn] hH HB1.out.size (an Ho1.out (Below.refl y1.heap.size y1).drew) Hny.out Hlb.out rfl (by simp) (by simp;omega) ?_;intro wu v1 v2 Au cu hgu hownu;rw[←Hyb.out] at hownu ⊢;have Hou:=hid hownu;have Hgu:=hid hgu;clear hownu hgu;simp only[ld,lg,lf];refine zt 9 hK Hgu.out ?_;simp only[ld,lg,lf];refine IQ ?_;have Hbu:Hid (Below W.heap.size W wu):=HB1.out.trans (Hgu.out.below HB1.out.size)
    go_wp2
    go_roundw
    case rel=>exact⟨k+1,l++aL y,Au,cu,by omega,by go_num,by simp,Hou,Hbu,Hst⟩
    case measure=>simp[intOf];omega
  ·have hltI:¬(k:Int)<(s.healths.length:Int):=by omega
   obtain⟨m8,hm8⟩:∃m,m=m7++s.healths.flatMap aL:=⟨_,rfl⟩;have He:Hid (l=m8):=by show _=_;rw[hm8,hlv.out,IR (by omega)]
   have Hm8:=hid hm8;have hm8l:m8.length≤4000000:=by
    have h1:=dR (enc:=aL) (N:=400) s.healths fun z hz=>tG (HR.out.healths z hz)
    have h3:=HR.out.hl;rw[hm8,qq,←HL.out];omega
   obtain rfl:=He.out;clear hm8 He hlv;have a6:=(bg hg.out w.heap.size 3 l1).trans b6;have hgz:=hg.out.size
   go_wp2_with fail
   obtain⟨V8,hV8⟩:∃V,V=wr.alloc (.cells #[.int .i64 (s.flows.length:Int)] 3):=⟨_,rfl⟩;rw[←hV8];have N8:NR V8 wr.heap.size 0 [s.flows.length]:=by rw[hV8];exact IX wr [s.flows.length] _ rfl
   have G8:Below W.heap.size W V8:=by rw[hV8];exact hg.out.alloc hg.out.size _
   have hb8:Below wr.heap.size wr V8:=by rw[hV8];exact (Below.refl _ _).alloc (Iz _) _
   have hfl:=HR.out.fl;refine (fU W.heap.size A' c' l wr.heap.size 0 1 1 [s.flows.length] V8 G8.size (an hown.out hb8) rfl N8 (by decide) (by simp;omega) (by omega)).mono ?_;rintro e w9 ⟨A9,c9,rfl,hown9,hg9⟩;obtain⟨m9,hm9⟩:∃m,m=l++aJ [s.flows.length]:=⟨_,rfl⟩;have Hm9:=hid hm9;have hm9l:m9.length≤4000010:=by
    have:=gX [s.flows.length] (by simp;omega);rw[hm9,qq];simp at this ⊢;omega
   rw[←hm9] at hown9 ⊢;have HW9:=hid (G8.trans (hg9.below G8.size));have Ho9:=hid hown9;obtain⟨L9,hL9⟩:∃L,L=m9.length:=⟨_,rfl⟩;have HL9:=hid hL9;rw[←hL9] at hm9l;clear hm9 hown9 hg9 hV8 N8 G8 hb8 a6 hL9 hm8l hown hg hgz;have a6:=(bg HW9.out w.heap.size 3 l1).trans b6
   go_wp2
   go_loopw [4,67] (fun v i wr=>∃(k:Nat) (l:List UInt8) (A':Option Addr) (c':Nat),k≤s.flows.length∧i=.int .i64 (k:Int)∧v=.slice A' l.length c'∧Hid (wr.ownsRow W.heap.size 5 1 (.slice A' l.length c') l.length (ab l))∧Hid (Below W.heap.size W wr)∧Hid (l=m9++(s.flows.take k).flatMap bR)) (fun _ i _=>s.flows.length-(intOf i).toNat)
   case atStart=>exact⟨0,m9,A9,c9,by omega,rfl,rfl,Ho9,HW9,by simp[Hid]⟩
   case round =>
    obtain⟨k2,l2,A2,c2,hk2,rfl,rfl,hown,hg,hlv⟩:=hrel;rename World=>wq
    by_cases hlt2:k2<s.flows.length
    ·have hltJ:(k2:Int)<(s.flows.length:Int):=by omega
     have hk02:(0:Int)≤(k2:Int):=by omega
     obtain⟨b,o,hxf,hbB,hc⟩:=(HS.out.held.flows.below hg.out) (by omega);obtain⟨y,hy⟩:∃x,s.flows[k2]?=some x:=⟨_,IK hlt2⟩;have hym:y∈s.flows:=IT hy;have Hrg:=hid (hc k2 y hy);have hcf:=HS.out.cf.1;have hyr:=HR.out.flows y hym;have hyk:=HS.out.ok.flows y hym;have Hyk:=hid hyk;have hkn:dC y.key=true:=by simp only[du,IB] at hyr;exact hyr.1
     have hnl:y.name.length≤24:=by simp only[du,IB] at hyr;exact jl hyr.2.1
     simp only[du,IB,bF] at hyr;obtain⟨f1,hf1⟩:∃n:Nat,y.state=(n:Int):=⟨y.state.toNat,by omega⟩;obtain⟨f2,hf2⟩:∃n:Nat,y.seen=(n:Int):=⟨y.seen.toNat,by omega⟩;obtain⟨f3,hf3⟩:∃n:Nat,y.no=(n:Int):=⟨y.no.toNat,by omega⟩;have hf1l:f1≤5:=by omega
     have hf2l:f2≤1099511627776:=by omega
     have hf3l:f3≤1152921504606846976:=by omega
     have Hst:Hid (l2++aZ y.key++(bw y.name++aJ [f1,f2,f3])=m9++(s.flows.take (k2+1)).flatMap bR):=by
      show _=_
      rw[gM _ s.flows hy,hlv.out,IG,IG];simp[bR,aJ,hf1,hf2,hf3]
     have Htl:=hid (jB hyk);have Hlb:Hid (l2.length≤10000000):=by
      have h1:=dR (enc:=bR) (N:=200) (s.flows.take k2) fun z hz=>Fw (HS.out.ok.flows z (IH hz)) (HR.out.flows z (IH hz))
      have h2:(s.flows.take k2).length≤4096:=by rw[IW];have:=HR.out.fl;omega
      show _≤_
      rw[hlv.out,qq,←HL9.out];omega
     have Hfz:=hid (iu hyk);have hfl4:=HR.out.fl;clear hc hy hym hyr;rw[hxf];clear hxf;obtain⟨x1,y1,X1,Y1,T1,B1,L1⟩:=ei wq 120 (aw jX) (aw y) (by rw[ib hyk];rfl);rw[jo] at X1;have HB1:Hid (Below W.heap.size W y1):=hg.out.trans (L1.out.mono hg.out.size);have Ho1:=hid (an hown.out L1.out);go_upto_region 19 with (first
      |((with_reducible refine aB 120 ?_);refine aa (by rfl) 120 (.tmp 69) rfl b (o+k2*41) rfl (aw y) _ Hrg.out bI rfl Hfz.out ?_)
      |(rw[←X1.out];(with_reducible refine aR 120 ?_);refine wpList_store_mid rfl 120 (.tmp 9) (.tmp 70) rfl wq.heap.size 0 (aw y).toArray rfl rfl T1.out (by rw[IA];exact Hfz.out) (ij _) ?_))
     rw[←Y1.out];have hBy:W.heap.size≤y1.heap.size:=HB1.out.size;have HBq:Hid (wq.heap.size<y1.heap.size):=B1.out.lt;clear X1 Y1 T1 Hrg hown hg
     go_wp2_with ((with_reducible refine aB 118 ?_);refine aa (by rfl) 118 (.tmp 72) rfl wq.heap.size 0 rfl (aM y.key) _ (fR Hyk.out B1.out) cI rfl (gK Hyk.out) ?_)
     refine (mm y.key Hyk.out hkn y1).mono ?_;rintro e w2 ⟨A3,c3,rfl,hown3,hb3⟩;have ho2:=hid (an Ho1.out hb3);have HB2:=hid (IL hown3).1;have Hg2:Hid (GU W.heap.size y1 w2):=GU.of_below hb3;have hB2:W.heap.size≤w2.heap.size:=IF hBy hb3.size;obtain⟨tb,htb⟩:∃t,t=aZ y.key:=⟨_,rfl⟩;have Htb:=hid htb;rw[←htb] at Htl HB2 Hst ⊢;have htl:tb.length≤38:=Nat.le_of_eq Htl.out;have hlb:=Hlb.out;clear hown3 hb3 htb;go_upto_region 20 with (at_builtin;refine ae _ rfl _ _ 43 rfl W.heap.size 5 i0 (.int .u8 0) 1 IC hi0 hz0 hz1 hz2 rfl (.slice A2 l2.length c2) l2 rfl ho2.out _ A3 _ c3 tb rfl rfl HB2.out (by unfold maxLen;omega) (by omega) hB2 ?_;intro A4 c4 w4 hown4 hg4 _)
     have Hg4:Hid (GU W.heap.size y1 w4):=Hg2.out.trans (GU.of_grown ho2.out hg4);have Ho4:=hid hown4;have HB4:Hid (W.heap.size≤w4.heap.size):=IF hBy Hg4.out.size;have Hl4:Hid ((l2++tb).length≤900000000):=by show _≤_;rw[qq];omega
     clear hown4 hg4 ho2 Hg2 HB2;obtain⟨l3,hl3⟩:∃l,l=l2++tb:=⟨_,rfl⟩;rw[←qq,←hl3];rw[←hl3] at Ho4 Hl4 Hst;clear hl3 htl hlb;have B4:=Hg4.out.blk B1.out (by decide);have e4:w4.cell? ⟨wq.heap.size,37,none⟩=some (.string ⟨y.name.toArray⟩):=cj Hyk.out B4 0;have e5:w4.cell? ⟨wq.heap.size,38,none⟩=some (.int .i64 (f1:Int)):=by rw[cj Hyk.out B4 1];show some (zv y.state)=_;rw[hf1];rfl
     have e6:w4.cell? ⟨wq.heap.size,39,none⟩=some (.int .i64 (f2:Int)):=by rw[cj Hyk.out B4 2];show some (zv y.seen)=_;rw[hf2];rfl
     have e7:w4.cell? ⟨wq.heap.size,40,none⟩=some (.int .i64 (f3:Int)):=by rw[cj Hyk.out B4 3];show some (zv y.no)=_;rw[hf3];rfl
     have HW4:Hid (Below W.heap.size W w4):=HB1.out.trans (Hg4.out.below hBy);clear hf1 hf2 hf3;have hK:∀v,GU W.heap.size w4 v→∀o,v.cell? ⟨wq.heap.size,o,none⟩=w4.cell? ⟨wq.heap.size,o,none⟩:=fun v h=>h.box B4 (by decide)
     refine Wz.start (S:=fun v=>GU W.heap.size w4 v) (GU.drew _) fun hH=>?_
     refine zt 0 hK hH ?_;simp only[ld,lg,lf];refine zt 1 hK hH ?_;simp only[ld,lg,lf];refine zt 2 hK hH ?_;simp only[ld,lg,lf];refine zt 4 hK hH ?_;simp only[ld,lg,lf];refine zt 5 hK hH ?_;simp only[ld,lg,lf];refine zt 6 hK hH ?_;simp only[ld,lg,lf];refine zt 7 hK hH ?_;simp only[ld,lg,lf];refine zt 8 hK hH ?_;simp only[ld,lg,lf];refine zt 9 hK hH ?_;simp only[ld,lg,lf];refine GI 3 10 11 A4 c4 l3 y.name [f1,f2,f3] hH HB4.out (an Ho4.out (Below.refl w4.heap.size w4).drew) (by omega) Hl4.out rfl (by simp) (by simp;omega) ?_;intro wu v1 v2 Au cu hgu hownu;rw[Hst.out] at hownu ⊢;have Hou:=hid hownu;have Hgu:=hid hgu;clear hownu hgu;simp only[ld,lg,lf];refine zt 12 hK Hgu.out ?_;simp only[ld,lg,lf];refine IQ ?_;have Hbu:Hid (Below W.heap.size W wu):=HW4.out.trans (Hgu.out.below HW4.out.size)
     go_wp2
     go_roundw
     case rel=>exact⟨k2+1,_,Au,cu,by omega,by go_num,by simp,Hou,Hbu,hid rfl⟩
     case measure=>simp[intOf];omega
    ·have hltJ:¬(k2:Int)<(s.flows.length:Int):=by omega
     have He:Hid (l2=eF s):=by
      show _=_
      rw[Hnums.out,hlv.out,IR (by omega),Hm9.out,Hm8.out,Hm7.out,Hm6.out,Hm5.out,Hm4.out,Hm3.out];simp[eV,aJ]
     obtain rfl:=He.out;clear He
     go_wp2
     go_ret2
     exact⟨HB.out.trans (hg.out.mono HB.out.size),fun h=>Bool.noConfusion (Hv.out.symm.trans h),fun _=>⟨A2,c2,rfl,bP hown.out HB.out.size⟩⟩
def wN(w:World)(base g:Nat)(l:List UInt8)(v:Value)(s:St)(e:Ending)(w':World):Prop :=
 e=.returned v∧eY w' base g l s∧em l s∧w.grownBy w' (some g)
theorem gN{base g:Nat}{l:List UInt8}{s:St}{w:World}(h:eY w base g l s)(hs:em l s)(hl:l.length≤1000000000) :
  Calls Iy 94 #[.pointer (some ⟨g,0,none⟩)] w (wN w base g l (.int .i64 ((fS l s).2:Int)) (fS l s).1):=by
 have H:=hid h;have Hs:=hid hs;clear h hs;go_enter Tryz.func94,Tryz.ntmps94
 go_wp2_with fail
 refine (j8 base g l s w H.out Hs.out hl).mono ?_;rintro e w2 ⟨rfl,hr,hg⟩;have Hr:=hid hr;have Hg:=hid hg;clear hr hg
 go_wp2_with fail
 rw[show min ((g9 l s).2:Int) 1152921504606846977=((fS l s).2:Int) by unfold fS;simp only;omega];go_ret
 exact⟨rfl,Hr.out,kM Hs.out,Hg.out⟩
theorem ga{w:World}{k:Nat}{t:TypeId}{cs0:Array Value}{cs:List Value}(h:aj w k t cs0)(hl:cs.length=cs0.size):∃W,Hid (W=w.setCells k 0 cs)∧Hid (w.there k 0 cs.toArray.size)∧Hid (aj W k t cs.toArray)∧Hid (w.grownBy W (some k)):=by
 refine⟨_,rfl,h.there (by rw[IA,hl];omega),?_,aY w k 0 cs 0 (World.grownBy.refl _ _)⟩;have:=aj.setCells cs 0 h;have e:cs0=cs0.toList.toArray:=by simp
 rw[e,bn (by simpa using hl)] at this;exact this
theorem yS{base g:Nat}{l:List UInt8}{s:St}{w:World}(h:eY w base g l s)(hs:em l s)(hl:l.length≤1000000000) :
  Calls Iy 98 #[.pointer (some ⟨g,0,none⟩)] w (wN w base g l (.tuple #[.agg (aF (gz l s).2.1).toArray,.bool (gz l s).2.2]) (gz l s).1):=by
 obtain⟨W,hW⟩:∃W,W=w.alloc (.cells (aF j5).toArray 115):=⟨_,rfl⟩;have hY:aj W w.heap.size 115 (aF j5).toArray:=by rw[hW];exact aj.new w _ _ _ rfl
 have HB:Hid (Below w.heap.size w W):=by rw[hW];exact (Below.refl _ _).alloc (Iz _) _
 have Hgl:=hid h.lt;have H:=hid (h.below HB.out);have Hs:=hid hs;obtain⟨s1,x,h1⟩:∃s1 x,cF l s 255=(s1,x):=⟨_,_,rfl⟩;obtain⟨s2,n2,h2⟩:∃s2 n,aT l s1 1 true=(s2,n):=⟨_,_,rfl⟩;obtain⟨s3,n3,h3⟩:∃s3 n,fS l s2=(s3,n):=⟨_,_,rfl⟩;have hQ:gz l s=(s3,{ name:=x,down:=n2==1,run:=(n3:Int) },decide (n2≤1)):=by unfold gz;simp only[h1,h2,h3]
 rw[hQ];have Hn1:=hid (kv base g l s W 255 H.out hs hl (by decide));have ok1:=j3 hs 255;rw[h1] at Hn1 ok1;have ok2:=cK ok1 1 true;rw[h2] at ok2;have ok3:=kM ok2;rw[h3] at ok3;have H2:=hid h2;have H3:=hid h3;have HW:=hid hW;have Hok:=hid (IE ok1 (IE ok2 ok3));clear h1 h2 h3 hQ hs h ok1 ok2 ok3 hW;go_enter Tryz.func98,Tryz.ntmps98
 go_upto_region 1 with fail
 rw[show w.alloc (.cells #[.string ⟨#[]⟩,.bool false,.int .i64 0] 115)=W from HW.out.symm];clear HW
 go_wp2_with fail
 refine Hn1.out.mono ?_;rintro e w2 ⟨A,c,rfl,hown,hR,hg⟩;have hcv:=bJ (P:=Iy) 43 9 5 IC IM IN w2 _ A x (IL hown).1 _ c rfl;have HR:=hid hR;have Hg:=hid hg;clear hR hg hown;go_upto_region 2 with fail
 obtain⟨W3,hW3⟩:∃W,W=w2.alloc (.cells #[.string ⟨x.toArray⟩,.bool false,.int .i64 0] 115):=⟨_,rfl⟩;rw[←hW3];have hB3:Below w2.heap.size w2 W3:=by rw[hW3];exact (Below.refl _ _).alloc (Iz _) _
 have hX3:aj W3 w2.heap.size 115 #[.string ⟨x.toArray⟩,.bool false,.int .i64 0]:=by rw[hW3];exact aj.new w2 _ _ _ rfl
 have hY3:=(hY.grown Hg.out (by have:=Hgl.out;simp;omega)).below hB3 (IV hY.lt Hg.out.size);have hlt:w.heap.size<w2.heap.size:=IV hY.lt Hg.out.size;have Hg3:Hid (W.grownBy W3 (some g)):=aq Hg.out (bE hB3);have Hn2:=hid (cV base g l s1 W3 1 true (HR.out.below hB3) Hok.out.1 hl);rw[H2.out] at Hn2;have HlB:Hid (W.heap.size≤w2.heap.size):=Hg.out.size;have HX3:=hid hX3;have HY3:=hid hY3;clear hB3 hX3 hY3 HR Hg hW3 hcv Hn1 H hY
 go_wp2_with fail
 refine Hn2.out.mono ?_;rintro e w4 ⟨rfl,hR,hg⟩;have Hn3:=hid (gN hR Hok.out.2.1 hl);rw[H3.out] at Hn3;have Hg4:=hid (aq Hg3.out hg);have HX4:=hid (HX3.out.grown hg (by have:=Hgl.out;simp;omega));have HY4:=hid (HY3.out.grown hg (by have:=Hgl.out;simp;omega));clear hR hg Hg3 HX3 HY3 Hn2
 go_wp2_with fail
 refine Hn3.out.mono ?_;rintro e w5 ⟨rfl,hR,_,hg⟩;have Hg5:=hid (aq Hg4.out hg);have hX:=HX4.out.grown hg (by have:=Hgl.out;simp;omega);have hY:=HY4.out.grown hg (by have:=Hgl.out;simp;omega);have HR:=hid hR;have c0:w5.cell? ⟨w2.heap.size,0,none⟩=some (.string ⟨x.toArray⟩):=hX.cell 0;have c1:w5.cell? ⟨w2.heap.size,1,none⟩=some (.bool false):=hX.cell 1;have c2:w5.cell? ⟨w2.heap.size,2,none⟩=some (.int .i64 0):=hX.cell 2;have d0:w5.cell? ⟨w.heap.size,0,none⟩=some (.string ⟨#[]⟩):=hY.cell 0;have d1:w5.cell? ⟨w.heap.size,1,none⟩=some (.bool false):=hY.cell 1;have d2:w5.cell? ⟨w.heap.size,2,none⟩=some (.int .i64 0):=hY.cell 2;have f1:=hX.frozen 1;have f2:=fun v=>(hX.set_ 1 v).frozen 2
 obtain⟨W6,hW6⟩:∃W,W=(w5.setCell ⟨w2.heap.size,1,none⟩ (.bool ((n2:Int)==1))).setCell ⟨w2.heap.size,2,none⟩ (.int .i64 (n3:Int)):=⟨_,rfl⟩;have hG6:w5.grownBy W6 (some w2.heap.size):=by rw[hW6];exact aq (a8 _ _ _) (a8 _ _ _)
 have HX6:Hid (aj W6 w2.heap.size 115 (aF { name:=x,down:=n2==1,run:=(n3:Int) }).toArray):=by
  rw[hW6];have:=(hX.set_ 1 (.bool ((n2:Int)==1))).set_ 2 (.int .i64 (n3:Int));have e:(n2==1)=((n2:Int)==1):=by rw[IS];simp;omega
  show aj _ _ _ #[_,.bool (n2==1),.int .i64 (n3:Int)]
  rw[e];exact this
 have HY6:=hid (hY.grown hG6 (by simp;omega));have HR6:=hid (HR.out.off hG6 hX (by decide) (by decide));have Hg6:Hid (W.grownBy W6 (some g)):=cG (k:=w2.heap.size) Hg5.out (by have:=HlB.out;omega) hG6;clear hR hg Hg4 HX4 HY4 Hn3 hX hY hG6;go_upto_region 4 with fail
 rw[←hW6];clear hW6 c0 c1 c2 d0 d1 d2 f1 f2 HR;obtain⟨W7,hW7,T7,B7,G7⟩:=ga (cs:=aF { name:=x,down:=n2==1,run:=(n3:Int) }) HY6.out rfl;have Hz:=dG { name:=x,down:=n2==1,run:=(n3:Int) };have RF:=hid (ag HX6.out)
 go_wp2_with (first
  |((with_reducible refine aB 115 ?_);refine aa (by rfl) 115 (.tmp 4) rfl w2.heap.size 0 rfl _ _ RF.out dQ rfl Hz ?_)
  |((with_reducible refine aR 115 ?_);refine wpList_store_mid rfl 115 (.tmp 2) (.tmp 18) rfl w.heap.size 0 (aF { name:=x,down:=n2==1,run:=(n3:Int) }).toArray rfl rfl T7.out Hz (gL _) ?_))
 rw[←hW7.out];rw[show decide ((n2:Int)≤1)=decide (n2≤1) from decide_eq_decide.2 (by omega)];refine bodyPost_ret (v:=.tuple #[.agg (aF { name:=x,down:=n2==1,run:=(n3:Int) }).toArray,.bool (decide (n2≤1))]) (aN (P:=Iy) (p:=2) (u:=3) rfl _ _ w.heap.size _ _ _ _ rfl B7.out dQ rfl Hz) rfl ?_;exact⟨rfl,HR6.out.off G7.out HY6.out (by decide) (by decide),Hok.out.2.2,cG (k:=w.heap.size) (aq (bE HB.out) Hg6.out) (Iz _) G7.out⟩
theorem GJ(l:List UInt8)(s:St):(aT l s 1 true).2≤255:=by
 have h:=ju l s 0 1;unfold aT;rw[if_neg (by decide)];show ja (fd l s 0 1).2 true≤255
 match hx:(fd l s 0 1).2,h with
 |[],_=>decide
 |[c],_=>rw[dF];have:=c.toNat_lt;omega
theorem D9(l:List UInt8)(s:St):(aT l s 2 true).2≤65535:=by
 have h:=ju l s 0 2;unfold aT;rw[if_neg (by decide)];show ja (fd l s 0 2).2 true≤65535
 match hx:(fd l s 0 2).2,h with
 |[],_=>decide
 |[c],_=>rw[dF];have:=c.toNat_lt;omega
 |[c,d],_=>rw[lz];have:=c.toNat_lt;have:=d.toNat_lt;omega
def yT:fL:=⟨dy,dy,0,0,0⟩
theorem wP:(aM yT).toArray=(#[.bool false,.int .u8 0,.int .u8 0,.int .u8 0,.int .u8 0,.int .u8 0,.int .u8 0,.int .u8 0,.int .u8 0,.int .u8 0,.int .u8 0,.int .u8 0,.int .u8 0,.int .u8 0,.int .u8 0,.int .u8 0,.int .u8 0,.bool false,.int .u8 0,.int .u8 0,.int .u8 0,.int .u8 0,.int .u8 0,.int .u8 0,.int .u8 0,.int .u8 0,.int .u8 0,.int .u8 0,.int .u8 0,.int .u8 0,.int .u8 0,.int .u8 0,.int .u8 0,.int .u8 0,.int .i64 0,.int .i64 0,.int .i64 0]:Array Value):=rfl
theorem uF(k:fL):(aM k).toArray.all (·.oneCell')=true:=all_oneCell_toArray (by
 intro u hu;simp only[aM,ai,List.mem_cons,List.mem_append,List.cons_append,List.not_mem_nil,or_false] at hu;rcases hu with rfl|(hu|rfl|hu|rfl|rfl|rfl)
 all_goals first|rfl|exact eP _ u hu)
theorem mp{w:World}{b n:Nat}{t:TypeId}{cs pre post:List Value}{u:Value}(h:aj w b t cs.toArray)(hcs:cs=pre++u::post)(hn:pre.length=n) :
  w.cell? ⟨b,n,none⟩=some u∧w.frozen? ⟨b,n,none⟩=false∧∀v,aj (w.setCell ⟨b,n,none⟩ v) b t (pre++v::post).toArray:=by
 subst hcs hn;refine⟨by rw[h.cell];simp,h.frozen _,fun v=>?_⟩;have:=h.set_ pre.length v;simpa using this
def An(c d:Bool)(x y:List UInt8)(p q r:Int):List Value:=aM { src:=(c,x),dst:=(d,y),proto:=p,sport:=q,dport:=r }
theorem oz(x y:List UInt8)(c d:Bool)(p q r:Int):An c d x y p q r=[] ++ .bool c::(ab x++(.bool d::(ab y++[zv p,zv q,zv r])))∧An c d x y p q r=(.bool c::ab x) ++ .bool d::(ab y++[zv p,zv q,zv r]) ∧
  An c d x y p q r=(.bool c::(ab x ++ .bool d::ab y))++zv p::[zv q,zv r]∧An c d x y p q r=(.bool c::(ab x ++ .bool d::ab y++[zv p]))++zv q::[zv r]∧An c d x y p q r=(.bool c::(ab x ++ .bool d::ab y++[zv p,zv q]))++zv r::[]:=by
 simp[An,aM,ai]
theorem BZ{base g:Nat}{l:List UInt8}{s:St}{w:World}(h:eY w base g l s)(hs:em l s)(hl:l.length≤1000000000) :
  Calls Iy 155 #[.pointer (some ⟨g,0,none⟩)] w (wN w base g l (.tuple #[.agg (aM (p6 l s).2.1).toArray,.bool (p6 l s).2.2]) (p6 l s).1):=by
 obtain⟨W1,hW1⟩:∃W,W=w.alloc (.cells (aM yT).toArray 118):=⟨_,rfl⟩;obtain⟨W,hW⟩:∃W,W=W1.alloc (.cells (aM yT).toArray 118):=⟨_,rfl⟩;have hX1:aj W1 w.heap.size 118 (aM yT).toArray:=by rw[hW1];exact aj.new w _ _ _ rfl
 have hY:aj W w.heap.size 118 (aM yT).toArray:=by rw[hW];exact hX1.alloc _
 have hX:aj W (w.heap.size+1) 118 (aM yT).toArray:=by rw[hW];exact aj.new W1 _ _ _ (by rw[hW1];simp)
 have HB:Hid (Below w.heap.size w W):=by rw[hW,hW1];exact ((Below.refl _ _).alloc (Iz _) _).alloc (by simp) _
 obtain⟨bx,hbx⟩:∃b,b=w.heap.size+1:=⟨_,rfl⟩;rw[←hbx] at hX;have Hgl:=hid h.lt;have H:=hid (h.below HB.out);have Hs:=hid hs;obtain⟨s1,n1,h1⟩:∃u n,aT l s 1 true=(u,n):=⟨_,_,rfl⟩;obtain⟨s2,x,h2⟩:∃u z,bG l s1 16=(u,z):=⟨_,_,rfl⟩;obtain⟨s3,y,h3⟩:∃u z,bG l s2 16=(u,z):=⟨_,_,rfl⟩;obtain⟨s4,n4,h4⟩:∃u n,aT l s3 1 true=(u,n):=⟨_,_,rfl⟩;obtain⟨s5,n5,h5⟩:∃u n,aT l s4 2 true=(u,n):=⟨_,_,rfl⟩;obtain⟨s6,n6,h6⟩:∃u n,aT l s5 2 true=(u,n):=⟨_,_,rfl⟩;have hQ:p6 l s=(s6,{ src:=(n1==6,ej x 16),dst:=(n1==6,ej y 16),proto:=(n4:Int),sport:=(n5:Int),dport:=(n6:Int) },n1==6||n1==4):=by unfold p6;simp only[h1,h2,h3,h4,h5,h6]
 rw[hQ];have ok1:=cK hs 1 true;rw[h1] at ok1;have ok2:=dX ok1 16;rw[h2] at ok2;have ok3:=dX ok2 16;rw[h3] at ok3;have ok4:=cK ok3 1 true;rw[h4] at ok4;have ok5:=cK ok4 2 true;rw[h5] at ok5;have ok6:=cK ok5 2 true;rw[h6] at ok6;have Lx:=hid (ii (n:=16) h2);have Ly:=hid (ii (n:=16) h3);have N4:n4≤255:=by have:=GJ l s3;rw[h4] at this;exact this
 have N5:n5≤65535:=by have:=D9 l s4;rw[h5] at this;exact this
 have N6:n6≤65535:=by have:=D9 l s5;rw[h6] at this;exact this
 have Hok:=hid (IE ok1 (IE ok2 (IE ok3 (IE ok4 (IE ok5 ok6)))));have H1:=hid h1;have H2:=hid h2;have H3:=hid h3;have H4:=hid h4;have H5:=hid h5;have H6:=hid h6;have Hbx:=hid hbx;have hbw:bx≠g:=by have:=h.lt;omega
 have hww:w.heap.size≠g:=by have:=h.lt;omega
 have hwb:w.heap.size≠bx:=by omega
 rw[wP] at hW1 hW;have HW1:=hid hW1;have HW:=hid hW;have HX:=hid hX;have HY:=hid hY;clear h1 h2 h3 h4 h5 h6 hQ hs h ok1 ok2 ok3 ok4 ok5 ok6 hW hW1 hX1 hX hY hbx;go_enter Tryz.func155,Tryz.ntmps155
 go_upto_region 2 with fail
 rw[←HW1.out,←HW.out,←Hbx.out];clear HW HW1
 go_wp2_with fail
 refine (cV base g l s W 1 true H.out Hs.out hl).mono ?_;rw[H1.out];rintro e w2 ⟨rfl,hR,hg⟩;have hX:=HX.out.grown hg (by simpa using hbw);have HY2:=hid (HY.out.grown hg (by simpa using hww));have Hg2:=hid hg;have HR2:=hid hR;obtain⟨six,hsix⟩:∃b,b=(n1==6):=⟨_,rfl⟩;obtain⟨c0,f0,k0⟩:=mp (n:=0) hX (oz _ _ _ _ _ _ _).1 rfl;have c1:w2.cell? ⟨bx,17,none⟩=some (.bool false):=hX.cell 17;have f1:=fun v=>(k0 v).frozen 17
 obtain⟨W3,hW3⟩:∃W,W=(w2.setCell ⟨bx,0,none⟩ (.bool ((n1:Int)==6))).setCell ⟨bx,17,none⟩ (.bool ((n1:Int)==6)):=⟨_,rfl⟩;have e6:((n1:Int)==6)=(n1==6):=by rw[IS];simp;omega
 have hX3:aj W3 bx 118 (An (n1==6) (n1==6) (II 16 0) (II 16 0) 0 0 0).toArray:=by
  rw[hW3,e6];exact (mp (n:=17) (k0 (.bool (n1==6))) (oz _ _ _ _ _ _ _).2.1 rfl).2.2 (.bool (n1==6))
 have hg3:w2.grownBy W3 (some bx):=by rw[hW3];exact aq (a8 _ _ _) (a8 _ _ _)
 have HX3:=hid hX3;have HY3:=hid (HY2.out.grown hg3 (by simpa using hwb));have HR3:=hid (hR.off hg3 hX (by decide) (by decide));have Hg3:Hid (w.grownBy W3 (some g)):=cG (k:=bx) (aq (bE HB.out) hg) (by rw[Hbx.out];omega) hg3;have E6:=hid e6;clear hR hg HX HY hX H k0 hX3 hg3 e6 HY2 HB;go_upto_region 4 with fail
 rw[←hW3];clear hW3 c0 c1 f0 f1;refine Wz.start (S:=fun _=>True) trivial fun hH=>?_
 refine zt (K:=fun _=>True) 0 (fun _ h=>h) hH ?_;simp only[ld,lg,lf];refine zt (K:=fun _=>True) 1 (fun _ h=>h) hH ?_;simp only[ld,lg,lf];refine zt (K:=fun _=>True) 2 (fun _ h=>h) hH ?_;simp only[ld,lg,lf];refine zt (K:=fun _=>True) 3 (fun _ h=>h) hH ?_;simp only[ld,lg,lf];refine one 4 (On.call (ew base g l s1 W3.drew 16 HR3.out.drew Hok.out.1 hl (by decide)) ?_);rw[H2.out];rintro e w4 ⟨A,c,rfl,hown,hR,hg⟩;refine⟨_,rfl,trivial,?_⟩;simp only[ld,lg,lf];have hX4:=(HX3.out.below (Below.refl W3.heap.size W3).drew HX3.out.lt).grown hg (by simpa using hbw);have hY4:=(HY3.out.below (Below.refl W3.heap.size W3).drew HY3.out.lt).grown hg (by simpa using hww);have hg4:=aq (aq Hg3.out (mV W3 (some g))) hg;refine one 5 (On.op fun K hK=>?_);refine jJ (.tmp 18) (.tmp 20) 43 43 rfl 5 IC nq bx 1 16 16 A c x rfl rfl _ (IL hown).1 Lx.out 118 (fun x=>An (n1==6) (n1==6) x (II 16 0) 0 0 0) [.bool (n1==6)] (.bool (n1==6)::(ab (II 16 0)++[zv 0,zv 0,zv 0])) (fun b=>by simp[An,aM,ai]) rfl hX4 ?_;intro w5 z hX5 hg5;refine hK.out _ _ trivial (fun _=>?_);simp only[ld,lg,lf];refine IQ ?_;have HX5:=hid hX5;have HY5:=hid (hY4.grown hg5 (by simpa using hwb));have HR5:=hid (hR.off hg5 hX4 (by decide) (by decide));have hle:w.heap.size<w4.heap.size:=hY4.lt;have Hg5:Hid (w.grownBy w5 (some g)):=cG (k:=bx) hg4 (by rw[Hbx.out];omega) hg5;clear hK K hX5 hg5 hg4 hX4 hY4 hR hg hown HX3 HY3 HR3 Hg3 hH hle;go_upto_region 5 with fail
 refine Wz.start (S:=fun _=>True) trivial fun hH=>?_
 refine zt (K:=fun _=>True) 0 (fun _ h=>h) hH ?_;simp only[ld,lg,lf];refine zt (K:=fun _=>True) 1 (fun _ h=>h) hH ?_;simp only[ld,lg,lf];refine zt (K:=fun _=>True) 2 (fun _ h=>h) hH ?_;simp only[ld,lg,lf];refine zt (K:=fun _=>True) 3 (fun _ h=>h) hH ?_;simp only[ld,lg,lf];refine one 4 (On.call (ew base g l s2 w5.drew 16 HR5.out.drew Hok.out.2.1 hl (by decide)) ?_);rw[H3.out];rintro e w6 ⟨A6,c6,rfl,hown,hR,hg⟩;refine⟨_,rfl,trivial,?_⟩;simp only[ld,lg,lf];have hX6:=(HX5.out.below (Below.refl w5.heap.size w5).drew HX5.out.lt).grown hg (by simpa using hbw);have hY6:=(HY5.out.below (Below.refl w5.heap.size w5).drew HY5.out.lt).grown hg (by simpa using hww);have hg6:=aq (aq Hg5.out (mV w5 (some g))) hg;refine one 5 (On.op fun K hK=>?_);refine jJ (.tmp 24) (.tmp 26) 43 43 rfl 5 IC nq bx 18 16 16 A6 c6 y rfl rfl _ (IL hown).1 Ly.out 118 (fun y=>An (n1==6) (n1==6) (ej x 16) y 0 0 0) (.bool (n1==6)::(ab (ej x 16)++[.bool (n1==6)])) [zv 0,zv 0,zv 0] (fun b=>by simp[An,aM,ai]) (by simp[ap,eX Lx.out]) hX6 ?_;intro w7 z2 hX7 hg7;refine hK.out _ _ trivial (fun _=>?_);simp only[ld,lg,lf];refine IQ ?_;have HX7:=hid hX7;have HY7:=hid (hY6.grown hg7 (by simpa using hwb));have HR7:=hid (hR.off hg7 hX6 (by decide) (by decide));have hle:w.heap.size<w6.heap.size:=hY6.lt;have Hg7:Hid (w.grownBy w7 (some g)):=cG (k:=bx) hg6 (by rw[Hbx.out];omega) hg7;clear hK K hX7 hg7 hg6 hX6 hY6 hR hg hown HX5 HY5 HR5 Hg5 hH hle
 go_wp2_with fail
 refine (cV base g l s3 w7 1 true HR7.out Hok.out.2.2.1 hl).mono ?_;rw[H4.out];rintro e w8 ⟨rfl,hR,hg⟩;have lpx:(ab (ej x 16)).length=16:=by rw[ap,eX Lx.out]
 have lpy:(ab (ej y 16)).length=16:=by rw[ap,eX Ly.out]
 have hX8:=HX7.out.grown hg (by simpa using hbw);obtain⟨c0,f0,k0⟩:=mp (n:=34) hX8 (oz _ _ _ _ _ _ _).2.2.1 (by simp[lpx,lpy]);obtain⟨W9,hW9⟩:∃W,W=w8.setCell ⟨bx,34,none⟩ (.int .i64 (n4:Int)):=⟨_,rfl⟩;have HX9:Hid (aj W9 bx 118 (An (n1==6) (n1==6) (ej x 16) (ej y 16) (n4:Int) 0 0).toArray):=by
  rw[hW9,(oz _ _ _ _ _ _ _).2.2.1];exact k0 _
 have hg9:w8.grownBy W9 (some bx):=by rw[hW9];exact a8 _ _ _
 have HY9:=hid ((HY7.out.grown hg (by simpa using hww)).grown hg9 (by simpa using hwb));have HR9:=hid (hR.off hg9 hX8 (by decide) (by decide));have hle:w.heap.size<w7.heap.size:=HY7.out.lt;have Hg9:Hid (w.grownBy W9 (some g)):=cG (k:=bx) (aq Hg7.out hg) (by rw[Hbx.out];omega) hg9;clear hg9 hX8 k0 hR hg HX7 HY7 HR7 Hg7 hle lpx lpy;go_upto_region 7 with fail
 rw[←hW9];clear hW9 c0 f0
 go_wp2_with fail
 refine (cV base g l s4 W9 2 true HR9.out Hok.out.2.2.2.1 hl).mono ?_;rw[H5.out];rintro e w10 ⟨rfl,hR,hg⟩;have HX10:=hid (HX9.out.grown hg (by simpa using hbw));have HY10:=hid (HY9.out.grown hg (by simpa using hww));have HR10:=hid hR;have Hg10:=hid (aq Hg9.out hg);clear hR hg HX9 HY9 HR9 Hg9
 go_wp2_with fail
 refine (cV base g l s5 w10 2 true HR10.out Hok.out.2.2.2.2.1 hl).mono ?_;rw[H6.out];rintro e w11 ⟨rfl,hR,hg⟩;have lpx:(ab (ej x 16)).length=16:=by rw[ap,eX Lx.out]
 have lpy:(ab (ej y 16)).length=16:=by rw[ap,eX Ly.out]
 have hX11:=HX10.out.grown hg (by simpa using hbw);obtain⟨c0,f0,k0⟩:=mp (n:=35) hX11 (oz _ _ _ _ _ _ _).2.2.2.1 (by simp[lpx,lpy]);have e36:∀v,(.bool (n1==6)::(ab (ej x 16) ++ .bool (n1==6)::ab (ej y 16)++[zv n4])++v::[zv 0]:List Value)=(.bool (n1==6)::(ab (ej x 16) ++ .bool (n1==6)::ab (ej y 16)++[zv n4,v]))++zv 0::[]:=fun v=>by simp
 have k1:=fun v=>mp (n:=36) (k0 v) (e36 v) (by simp[lpx,lpy])
 have c1:=((mp (n:=36) hX11 (oz _ _ _ _ _ _ _).2.2.2.2 (by simp[lpx,lpy])).1);have f1:=fun v=>(k1 v).2.1
 obtain⟨W12,hW12⟩:∃W,W=(w11.setCell ⟨bx,35,none⟩ (.int .i64 (n5:Int))).setCell ⟨bx,36,none⟩ (.int .i64 (n6:Int)):=⟨_,rfl⟩;have HX12:Hid (aj W12 bx 118 (An (n1==6) (n1==6) (ej x 16) (ej y 16) (n4:Int) (n5:Int) (n6:Int)).toArray):=by
  rw[hW12,(oz _ _ _ _ _ _ _).2.2.2.2];exact (k1 _).2.2 _
 have hg12:w11.grownBy W12 (some bx):=by rw[hW12];exact aq (a8 _ _ _) (a8 _ _ _)
 have HY12:=hid ((HY10.out.grown hg (by simpa using hww)).grown hg12 (by simpa using hwb));have HR12:=hid (hR.off hg12 hX11 (by decide) (by decide));have hle:w.heap.size<w10.heap.size:=HY10.out.lt;have Hg12:Hid (w.grownBy W12 (some g)):=cG (k:=bx) (aq Hg10.out hg) (by rw[Hbx.out];omega) hg12;have hT:cy { src:=(n1==6,ej x 16),dst:=(n1==6,ej y 16),proto:=(n4:Int),sport:=(n5:Int),dport:=(n6:Int) }:=⟨eX Lx.out,eX Ly.out⟩;have HT:=hid hT;clear hg12 hX11 k0 k1 e36 hR hg HX10 HY10 HR10 Hg10 hle lpx lpy hT;go_upto_region 8 with fail
 rw[←hW12];clear hW12 c0 f0 c1 f1;obtain⟨tv,htv⟩:∃t:fL,t={ src:=(n1==6,ej x 16),dst:=(n1==6,ej y 16),proto:=(n4:Int),sport:=(n5:Int),dport:=(n6:Int) }:=⟨_,rfl⟩;rw[show An (n1==6) (n1==6) (ej x 16) (ej y 16) (n4:Int) (n5:Int) (n6:Int)=aM tv by rw[htv];rfl] at HX12;rw[←htv] at HT ⊢;have Hz:=hid (gK HT.out);obtain⟨W13,hW13,T13,B13,G13⟩:=ga (cs:=aM tv) HY12.out (by rw[fX HT.out];rfl);have RF:=hid (ag HX12.out);have Htv:=hid htv;clear HX12 htv;have e4:((n1:Int)==6||(n1:Int)==4)=(n1==6||n1==4):=by rw[IS];simp;omega
 have E4:=hid e4;clear e4;by_cases d6:(n1:Int)=6
 ·have Hd:Hid ((n1==6||n1==4)=true):=by show _=_;rw[←E4.out,d6];rfl
  go_wp2_with (first
   |((with_reducible refine aB 118 ?_);refine aa (by rfl) 118 (.tmp 4) rfl bx 0 rfl _ _ RF.out cI rfl Hz.out ?_)
   |((with_reducible refine aR 118 ?_);refine wpList_store_mid rfl 118 (.tmp 2) (.tmp 40) rfl w.heap.size 0 (aM tv).toArray rfl rfl T13.out Hz.out (uF _) ?_))
  rw[←hW13.out,←Htv.out,Hd.out];refine bodyPost_ret (v:=.tuple #[.agg (aM tv).toArray,.bool true]) (aN (P:=Iy) (p:=2) (u:=3) rfl _ _ w.heap.size _ _ _ _ rfl B13.out cI rfl Hz.out) rfl ?_;exact⟨rfl,HR12.out.off G13.out HY12.out (by decide) (by decide),Hok.out.2.2.2.2.2,cG (k:=w.heap.size) Hg12.out (Iz _) G13.out⟩
 ·go_wp2_with (first
   |((with_reducible refine aB 118 ?_);refine aa (by rfl) 118 (.tmp 4) rfl bx 0 rfl _ _ RF.out cI rfl Hz.out ?_)
   |((with_reducible refine aR 118 ?_);refine wpList_store_mid rfl 118 (.tmp 2) (.tmp 40) rfl w.heap.size 0 (aM tv).toArray rfl rfl T13.out Hz.out (uF _) ?_))
  rw[←hW13.out,←Htv.out,E4.out];refine bodyPost_ret (v:=.tuple #[.agg (aM tv).toArray,.bool (n1==6||n1==4)]) (aN (P:=Iy) (p:=2) (u:=3) rfl _ _ w.heap.size _ _ _ _ rfl B13.out cI rfl Hz.out) rfl ?_;exact⟨rfl,HR12.out.off G13.out HY12.out (by decide) (by decide),Hok.out.2.2.2.2.2,cG (k:=w.heap.size) Hg12.out (Iz _) G13.out⟩
theorem On.op0{P:Program}{ops:Array Oper}{Q:Exit→Act→World→Prop}{S:World→Prop}{w:World}{a:Act}{o:Oper}{fuel:Nat}{listed:Array Bool}{i:Nat}
  (h:∀K:Act→World→Prop,Shut (∀v w',S w'→(S w'→Wz P ops Q S fuel (listed.setIfInBounds i true) a w')→K (a.put o.dst v) w')→Oper.wp P o a w K Q)
  (hi:ops[i]?=some o:=by rfl) (hd:o.dst=none:=by rfl) (hw:ID o (yielded ops a.tmps)=true:=by rfl):On P ops Q S fuel listed a w i :=
 wpOp_step hi fun K hK=>by
  rw[if_pos hw];exact h K fun v w hS hW=>hK _ w ⟨hS,by rw[hd];exact hW hS⟩
theorem Wz.weak{P:Program}{ops:Array Oper}{Q:Exit→Act→World→Prop}{S S':World→Prop}(hS:∀w,S' w→S w):∀(fuel:Nat) {listed:Array Bool} {a:Act} {w:World},Wz P ops Q S' fuel listed a w→Wz P ops Q S fuel listed a w
 |0,_,_,_,h=>h
 |f+1,_,_,_,h=>⟨h.1,fun i hi=>wpOp_mono (fun a' w' h'=>⟨hS _ h'.1,Wz.weak hS f h'.2⟩) (h.2 i hi)⟩
theorem qu{P:Program}{o:Oper}{a:Act}{ty:TypeId}{ps:Array (Nat×Operand)}{cells:Array Value}(w:World)(ho:o.op=.build ty ps)(hc:P.built ty (ps.toList.map fun (i,x)=>(i,a.eval x))=some cells):(execOp a.eval o).run P w=.ok (.value (.agg cells)) w:=by
 unfold execOp;simp only[ho,Sem.run_bind,run_build w ty _ cells (show P.built ty (ps.map fun (i,x)=>(i,a.eval x)).toList=some cells by rw[Array.toList_map];exact hc),Result.andThen_ok,Sem.run_pure]
theorem qS(k:fL)(x:List UInt8)(p q r:Int):aw ⟨k,x,p,q,r⟩=(aM k++[sv x])++zv p::[zv q,zv r]∧aw ⟨k,x,p,q,r⟩=(aM k++[sv x,zv p])++zv q::[zv r]∧aw ⟨k,x,p,q,r⟩=(aM k++[sv x,zv p,zv q])++zv r::[]:=by
 simp[aw]
theorem B0(parts:List (Nat×Value)):Iy.built 120 parts=Instr.fill (fun i=>(#[(0,37),(37,1),(38,1),(39,1),(40,1)]:Array (Nat×Nat))[i]?) (aw jX).toArray parts:=by kernel_rfl
theorem rY{k:fL}(hk:cy k)(x:List UInt8):Iy.built 120 [(0,.agg (aM k).toArray),(1,sv x)]=some (aw ⟨k,x,0,0,0⟩).toArray:=by
 have h1:=fX hk;have h0:(aw jX).length=41:=rfl;rw[B0,rK _ _ _ 0 _ _ (by rw[h1];rfl) (by rw[h1,IA,h0];decide),iC _ _ _ (by rw[h1,h0];decide),h1];have e1:List.take 0 (aw jX)++(aM k++List.drop (0+37) (aw jX))=aM k++[.string ⟨#[]⟩,.int .i64 0,.int .i64 0,.int .i64 0]:=rfl;rw[e1];have e2:∀(cs:Array Value),cs.size=41→Instr.fill (fun i=>(#[(0,37),(37,1),(38,1),(39,1),(40,1)]:Array (Nat×Nat))[i]?) cs [(1,sv x)]=some (cs.setIfInBounds 37 (sv x)):=by
  intro cs hcs;simp[Instr.fill,sv,Value.cells,hcs]
 rw[e2 _ (by simp[h1])];have e3:(aM k++([.string ⟨#[]⟩,.int .i64 0,.int .i64 0,.int .i64 0]:List Value)).set 37 (sv x)=aw ⟨k,x,0,0,0⟩:=by
  have h2:(aM k++([.string ⟨#[]⟩,.int .i64 0,.int .i64 0,.int .i64 0]:List Value)).set (aM k).length (sv x)=aM k++[sv x,.int .i64 0,.int .i64 0,.int .i64 0]:=by simp
  rw[h1] at h2;exact h2
 simp[e3]
theorem Fx{base g:Nat}{l:List UInt8}{s:St}{w:World}(h:eY w base g l s)(hs:em l s)(hl:l.length≤1000000000) :
  Calls Iy 100 #[.pointer (some ⟨g,0,none⟩)] w (wN w base g l (.tuple #[.agg (aw (jV l s).2.1).toArray,.bool (jV l s).2.2]) (jV l s).1):=by
 obtain⟨W,hW⟩:∃W,W=w.alloc (.cells (aw jX).toArray 120):=⟨_,rfl⟩;have hY:aj W w.heap.size 120 (aw jX).toArray:=by rw[hW];exact aj.new w _ _ _ rfl
 have HB:Hid (Below w.heap.size w W):=by rw[hW];exact (Below.refl _ _).alloc (Iz _) _
 have H:=hid (h.below HB.out);have Hs:=hid hs;have hsh:=tu l s;obtain⟨s1,tv,ok,h1⟩:∃u t b,p6 l s=(u,t,b):=⟨_,_,_,rfl⟩;obtain⟨s2,x,h2⟩:∃u z,cF l s1 255=(u,z):=⟨_,_,rfl⟩;obtain⟨s3,n3,h3⟩:∃u n,fS l s2=(u,n):=⟨_,_,rfl⟩;obtain⟨s4,n4,h4⟩:∃u n,fS l s3=(u,n):=⟨_,_,rfl⟩;obtain⟨s5,n5,h5⟩:∃u n,fS l s4=(u,n):=⟨_,_,rfl⟩;have hQ:jV l s=(s5,⟨tv,x,(n3:Int),(n4:Int),(n5:Int)⟩,ok):=by unfold jV;simp only[h1,h2,h3,h4,h5]
 rw[hQ];have ok1:=Gy hs;rw[h1] at ok1 hsh;have ok2:=j3 ok1 255;rw[h2] at ok2;have ok3:=kM ok2;rw[h3] at ok3;have ok4:=kM ok3;rw[h4] at ok4;have ok5:=kM ok4;rw[h5] at ok5;have Hok:=hid (IE ok1 (IE ok2 (IE ok3 (IE ok4 ok5))));have H1:=hid h1;have H2:=hid h2;have H3:=hid h3;have H4:=hid h4;have H5:=hid h5;have Hsh:=hid hsh;have hgw:=h.lt;have hww:w.heap.size≠g:=by omega
 have HY:=hid hY;have Hfs:Hid (∀p q r,(aw ⟨tv,x,p,q,r⟩).length=41):=fun p q r=>ib hsh
 have Ht37:=hid (fX hsh);rw[jo] at hW;have HW:=hid hW;clear h1 h2 h3 h4 h5 hQ hs h ok1 ok2 ok3 ok4 ok5 hW hY hsh;go_enter Tryz.func100,Tryz.ntmps100
 go_upto_region 1 with fail
 rw[←HW.out];clear HW
 go_wp2_with fail
 refine (BZ H.out Hs.out hl).mono ?_;rw[H1.out];rintro e w2 ⟨rfl,hR,_,hg⟩;have HY2:=hid (HY.out.grown hg (by simpa using hww));have Hz:=hid (gK Hsh.out);obtain⟨x3,w3,X3,Y3,T3,B3,L3⟩:=ei w2 118 (aM yT) (aM tv) (by rw[fX Hsh.out];rfl);rw[wP] at X3;have HY3:=hid (HY2.out.below L3.out HY2.out.lt);have HR3:=hid (hR.below L3.out);have Hg3:=hid (aq hg (bE L3.out));have hgw3:w2.heap.size≠g:=by have:=HY2.out.lt;omega
 have hwt:w.heap.size≠w2.heap.size:=by have:=HY2.out.lt;omega
 clear hR hg HY HY2 H;go_upto_region 2 with (first
  |(rw[←X3.out];(with_reducible refine aR 118 ?_);refine wpList_store_mid rfl 118 (.tmp 4) (.tmp 10) rfl w2.heap.size 0 (aM tv).toArray rfl rfl T3.out (by rw[IA];exact Hz.out) (uF _) ?_))
 rw[←Y3.out];clear X3 Y3 T3;obtain⟨bt,hbt⟩:∃b,b=w2.heap.size:=⟨_,rfl⟩;rw[←hbt] at B3 hgw3 hwt ⊢;have hd3:=(Below.refl w3.heap.size w3).drew;have hX3:=B3.out.below hd3 B3.out.lt;refine Wz.start (S:=fun v=>aj v bt 118 (aM tv).toArray) hX3 fun hH=>?_
 refine lw 0 hH (yieldsIf_load_mid rfl _ _ rfl bt 0 rfl (aM tv) _ (fun v hv=>ag hv) cI rfl Hz.out) ?_;simp only[ld,lg,lf];refine zt (K:=fun _=>True) 1 (fun _ _=>trivial) hH ?_;simp only[ld,lg,lf];have hlt3:=HY3.out.lt;refine In 2 5 ?_ ?_;refine On.call (kv base g l s1 w3.drew 255 (HR3.out.below hd3) Hok.out.1 hl (by decide)) ?_;rw[H2.out];rintro e u ⟨A,c,rfl,hown,hR,hg⟩;have hX4:=hX3.grown hg (by simpa using hgw3);refine⟨_,rfl,hX4,?_⟩;simp only[ld,lg,lf];have hbs:=(IL hown).1;refine Wz.weak (S':=fun v=>aj v bt 118 (aM tv).toArray∧BS v u.heap.size A x) (fun _ h=>h.1) _ ?_;refine zt (K:=fun v=>BS v u.heap.size A x) 3 (fun _ h=>h.2) ⟨hX4,hbs⟩ ?_ (hy:=fun v hv=>by have hcv:=bJ (P:=Iy) 43 9 5 IC IM IN v _ A x hv _ c rfl;go_simp;exact rfl);simp only[ld,lg,lf];refine zt (K:=fun _=>True) (v:=.agg (aw ⟨tv,x,0,0,0⟩).toArray) 4 (fun _ _=>trivial) ⟨hX4,hbs⟩ ?_ (hy:=fun v _=>qu v rfl (rY Hsh.out x));simp only[ld,lg,lf];obtain⟨x7,w7,X7,Y7,T7,B7,L7⟩:=ei u 120 (aw jX) (aw ⟨tv,x,0,0,0⟩) (by rw[Hfs.out];rfl);have hb7:Below u.heap.size u x7:=by rw[X7.out];exact (Below.refl _ _).alloc (Iz _) _
 have hs7:aj x7 bt 118 (aM tv).toArray∧BS x7 u.heap.size A x:=⟨hX4.below hb7 hX4.lt,hbs.below hb7⟩;refine one 5 (On.val (w':=x7) (fun q hq=>by rw[hq];exact hs7) (fun _=>?_) (hrun:=by rw[X7.out];go_simp;exact⟨rfl,rfl⟩));simp only[ld,lg,lf];refine one 6 (On.op0 fun K hK=>?_);refine wp_store_mid 120 _ _ rfl u.heap.size 0 (aw ⟨tv,x,0,0,0⟩).toArray rfl rfl T7.out (by rw[IA,Hfs.out];exact ny) (ij _) ?_;rw[←Y7.out];refine hK.out _ _ ⟨hX4.below L7.out hX4.lt,hbs.below L7.out⟩ (fun _=>?_);clear hK K;refine IQ ?_;have HR7:=hid (hR.below L7.out);have hY4:=(HY3.out.below hd3 HY3.out.lt).grown hg (by simpa using hww);have HY7:=hid (hY4.below L7.out hY4.lt);have Hg7:Hid (w.grownBy w7 (some g)):=aq (aq (aq (bE HB.out) Hg3.out) (mV w3 (some g))) (aq hg (bE L7.out));obtain⟨gb,hgb⟩:∃b,b=u.heap.size:=⟨_,rfl⟩;have hg1:gb≠g:=by have:=hY4.lt;omega
 have hg2:w.heap.size≠gb:=by have:=hY4.lt;omega
 have hg3:w.heap.size≤gb:=by have:=hY4.lt;omega
 rw[←hgb] at B7 ⊢;clear X7 Y7 T7 L7 hb7 hs7 hbs hR hg hown hX4 hgb hY4 HY3 HR3 Hg3 hd3 hX3 hH B3 HB Hz hlt3 hwt hgw3;rotate_left
 obtain⟨x4,hx4⟩:∃v,v=w3.drew.alloc (.cells (aw jX).toArray 120):=⟨_,rfl⟩;have hb4:Below w3.heap.size w3 x4:=by rw[hx4];exact hd3.alloc (Iz _) _
 have hX4:=B3.out.below hb4 B3.out.lt;have hZ4:aj x4 w3.heap.size 120 (aw jX).toArray:=by rw[hx4];exact aj.new _ _ _ _ rfl
 refine On.val (w':=x4) (fun q hq=>by rw[hq];exact hX4) (fun _=>?_) (hrun:=by rw[hx4];go_simp;exact⟨rfl,rfl⟩);simp only[ld,lg,lf];refine one 2 (On.call (kv base g l s1 x4 255 (HR3.out.below hb4) Hok.out.1 hl (by decide)) ?_);rw[H2.out];rintro e u ⟨A,c,rfl,hown,hR,hg⟩;have hX5:=hX4.grown hg (by simpa using hgw3);have hZ5:=hZ4.grown hg (by have:=B3.out.lt;have:=HY3.out.lt;simp;omega);refine⟨_,rfl,hX5,?_⟩;simp only[ld,lg,lf];have hcv:=bJ (P:=Iy) 43 9 5 IC IM IN u _ A x (IL hown).1 _ c rfl;refine one 3 (On.val (w':=u) (fun q hq=>by rw[hq];exact hX5) (fun _=>?_) (hrun:=by go_simp;exact rfl));simp only[ld,lg,lf];refine one 4 (On.val (w':=u) (v:=.agg (aw ⟨tv,x,0,0,0⟩).toArray) (fun q hq=>by rw[hq];exact hX5) (fun _=>?_) (hrun:=qu u rfl (rY Hsh.out x)));simp only[ld,lg,lf];obtain⟨w7,Y7,T7,B7,G7⟩:=ga (cs:=aw ⟨tv,x,0,0,0⟩) hZ5 (by rw[Hfs.out];rfl);refine one 6 (On.op0 fun K hK=>?_);refine wp_store_mid 120 _ _ rfl w3.heap.size 0 (aw ⟨tv,x,0,0,0⟩).toArray rfl rfl T7.out (by rw[IA,Hfs.out];exact ny) (ij _) ?_;rw[←Y7.out];refine hK.out _ _ (hX5.grown G7.out (by have:=B3.out.lt;simp;omega)) (fun _=>?_);clear hK K;refine IQ ?_;have HR7:=hid (hR.off G7.out hZ5 (by decide) (by decide));have hY4:=(HY3.out.below hb4 HY3.out.lt).grown hg (by simpa using hww);have HY7:=hid (hY4.grown G7.out (by have:=HY3.out.lt;simp;omega));have hgx:w.grownBy u (some g):=aq (aq (aq (bE HB.out) Hg3.out) (bE hb4)) hg;obtain⟨gb,hgb⟩:∃b,b=w3.heap.size:=⟨_,rfl⟩;have hg1:gb≠g:=by have:=HY3.out.lt;omega
 have hg2:w.heap.size≠gb:=by have:=HY3.out.lt;omega
 have hg3:w.heap.size≤gb:=by have:=HY3.out.lt;omega
 rw[←hgb] at B7 G7 ⊢;have Hg7:Hid (w.grownBy w7 (some g)):=cG (k:=gb) hgx hg3 G7.out;clear Y7 T7 G7 hcv hR hg hown hX4 hX5 hZ4 hZ5 hgb hY4 HY3 HR3 Hg3 hd3 hX3 hH B3 HB Hz hb4 hx4 hgx hlt3 hwt hgw3
 all_goals
  go_wp2_with fail
  refine (gN HR7.out Hok.out.2.1 hl).mono ?_;rw[H3.out];rintro e w8 ⟨rfl,hR,_,hg⟩;have B8:=hid (B7.out.grown hg (by simpa using hg1));have HY8:=hid (HY7.out.grown hg (by simpa using hww));have Hg8:=hid (aq Hg7.out hg);have HR8:=hid hR;clear hR hg B7 HY7 Hg7 HR7
  go_wp2_with fail
  refine (gN HR8.out Hok.out.2.2.1 hl).mono ?_;rw[H4.out];rintro e w9 ⟨rfl,hR,_,hg⟩;have B9:=hid (B8.out.grown hg (by simpa using hg1));have HY9:=hid (HY8.out.grown hg (by simpa using hww));have Hg9:=hid (aq Hg8.out hg);have HR9:=hid hR;clear hR hg B8 HY8 Hg8 HR8
  go_wp2_with fail
  refine (gN HR9.out Hok.out.2.2.2.1 hl).mono ?_;rw[H5.out];rintro e wa ⟨rfl,hR,_,hg⟩;have hBa:=B9.out.grown hg (by simpa using hg1);obtain⟨c0,f0,k0⟩:=mp (n:=38) hBa (qS tv x 0 0 0).1 (by simp[Ht37.out]);have e39:∀v,((aM tv++[sv x])++v::[zv 0,zv 0]:List Value)=(aM tv++[sv x,v])++zv 0::[zv 0]:=fun v=>by simp
  have k1:=fun v=>mp (n:=39) (k0 v) (e39 v) (by simp[Ht37.out])
  have e40:∀u v,((aM tv++[sv x,u])++v::[zv 0]:List Value)=(aM tv++[sv x,u,v])++zv 0::[]:=fun u v=>by simp
  have k2:=fun u v=>mp (n:=40) ((k1 u).2.2 v) (e40 u v) (by simp[Ht37.out])
  have c1:=(mp (n:=39) hBa (qS tv x 0 0 0).2.1 (by simp[Ht37.out])).1;have c2:=(mp (n:=40) hBa (qS tv x 0 0 0).2.2 (by simp[Ht37.out])).1;have f1:=fun v=>(k1 v).2.1
  have f2:=fun u v=>(k2 u v).2.1
  obtain⟨wb,hwb⟩:∃W,W=((wa.setCell ⟨gb,38,none⟩ (.int .i64 (n3:Int))).setCell ⟨gb,39,none⟩ (.int .i64 (n4:Int))).setCell ⟨gb,40,none⟩ (.int .i64 (n5:Int)):=⟨_,rfl⟩;have Bb:Hid (aj wb gb 120 (aw ⟨tv,x,(n3:Int),(n4:Int),(n5:Int)⟩).toArray):=by
   rw[hwb,(qS _ _ _ _ _).2.2];exact (k2 _ _).2.2 _
  have hgb:wa.grownBy wb (some gb):=by rw[hwb];exact aq (aq (a8 _ _ _) (a8 _ _ _)) (a8 _ _ _)
  have HYb:=hid ((HY9.out.grown hg (by simpa using hww)).grown hgb (by simpa using hg2));have HRb:=hid (hR.off hgb hBa (by decide) (by decide));have Hgb:Hid (w.grownBy wb (some g)):=cG (k:=gb) (aq Hg9.out hg) hg3 hgb;clear hR hg hgb k0 k1 k2 e39 e40 B9 HY9 Hg9 HR9 hBa;go_upto_region 4 with fail
  rw[←hwb];clear hwb c0 c1 c2 f0 f1 f2;obtain⟨fv,hfv⟩:∃f:dE,f=⟨tv,x,(n3:Int),(n4:Int),(n5:Int)⟩:=⟨_,rfl⟩;have Hfv:=hid hfv;rw[←hfv] at Bb;have Hzf:Hid ((Iy.info? 120).map (·.size)=some (aw fv).length):=by show _=_;rw[hfv,Hfs.out];exact ny
  obtain⟨wc,Yc,Tc,Bc,Gc⟩:=ga (cs:=aw fv) HYb.out (by rw[hfv,Hfs.out];rfl);have RF:=hid (ag Bb.out);clear hfv
  go_wp2_with (first
   |((with_reducible refine aB 120 ?_);refine aa (by rfl) 120 (.tmp 6) rfl gb 0 rfl _ _ RF.out bI rfl Hzf.out ?_)
   |((with_reducible refine aR 120 ?_);refine wpList_store_mid rfl 120 (.tmp 2) (.tmp 26) rfl w.heap.size 0 (aw fv).toArray rfl rfl Tc.out Hzf.out (ij _) ?_))
  rw[←Yc.out,←Hfv.out];refine bodyPost_ret (v:=.tuple #[.agg (aw fv).toArray,.bool ok]) (aN (P:=Iy) (p:=2) (u:=3) rfl _ _ w.heap.size _ _ _ _ rfl Bc.out bI rfl Hzf.out) rfl ?_;exact⟨rfl,HRb.out.off Gc.out HYb.out (by decide) (by decide),Hok.out.2.2.2.2,cG (k:=w.heap.size) Hgb.out (Iz _) Gc.out⟩
