import Derived.Test.YtaafkokfdgfabaaGreatP35
import Derived.Test.YtaafkokfdgfabaaGreatP36
import Derived.Test.YtaafkokfdgfabaaGreatP37
set_option maxHeartbeats 8000000
namespace Go.Proofs.YtaafkokfdgfabaaGreat
open Go.RowKit
set_option linter.unusedVariables false
set_option linter.unusedSimpArgs false
theorem rE (a:aU):bw a a=true:=by simp [bw]
theorem oM {α:Type} {f:α→α→Bool} (h:∀ a,f a a=true):∀ l:List α,sr f l l=true
 | []=>rfl
 | a :: l=>by rw [sr,h,oM h l];rfl
theorem vN:∀ l:List da,sr gF (l.map fG) l=true
 | []=>rfl
 | e :: l=>by rw [List.map_cons,sr,Aw,vN l];rfl
theorem rF (f:bc):mN f f=true:=by simp [mN]
theorem vO (f:dD):i9 f f=true:=by simp [i9,jG]
theorem rG (h:cN):fV h h=true:=by simp [fV]
theorem vP (s:bh):lB s s=true:=by
 simp [lB,nD,oM rE,oM rG,oM vO]
theorem j8 (s:bT) (es:List da):eV { s with evs:=es.map fG } { s with evs:=es }=true:=by
 simp [eV,rF,vP,vN]
theorem yu {s:bT} (hs:bf s) (h:i7 s=true) (hn:s.evs.length≤50):(bA s).length≤11004100:=by
 obtain ⟨hb,he⟩:=ji hs h;have h1:=oI hs hb;have h2:∀ l:List da,(∀ e ∈ l,aB e∧aL e=true)→(l.flatMap bC).length≤l.length * 200020:=by
  intro l hl;induction l with
  | nil=>simp
  | cons e l ih =>
   have:=kN (hl e (by simp)).1 (hl e (by simp)).2;have:=ih fun x hx=>hl x (by simp [hx])
   rw [List.flatMap_cons,List.length_append,List.length_cons];omega
 have h3:=h2 _ he;unfold bA;rw [List.length_append];omega
theorem ET {s:bT} (hs:bf s) (h:i7 s=true) {e:da} (he:aB e) (hr:aL e=true):aR (bA s ++ bC e)=({ s with evs:=(s.evs ++ [e]).map fG },(bA s).length + (bC e).length,0):=by
 rw [rf hs h];have h1:=Di [e] (fun x hx=>by
  obtain rfl:x=e:=by simpa using hx
  exact ⟨he,hr⟩) []
 simp only [List.flatMap_cons,List.flatMap_nil,List.append_nil,oD,Nat.add_zero,List.map_cons,List.map_nil] at h1;rw [h1];simp
end Go.Proofs.YtaafkokfdgfabaaGreat
namespace Go.Proofs.YtaafkokfdgfabaaGreat
open Go.RowKit
set_option linter.unusedVariables false
set_option linter.unusedSimpArgs false
section
variable {w:World} {x y:jM} {xs ys:List (dL × da)} {s t:bT}
theorem tV (h:eF w w.heap.size x xs s) (hv:i7 s=false):Calls Tryz.prog 11 #[.agg (ar x s).toArray] w fun e w'=>e=.returned (.tuple #[.slice none 0 0,.int .i64 1])∧Below w.heap.size w w' :=
 (lz h).mono fun e w' he=>⟨he.2.1 hv,he.1⟩
theorem oN (h:eF w w.heap.size x xs s) (hv:i7 s=true) (P:List UInt8) (hP:P=bA s) (n:Nat) (hn:n=P.length):Calls Tryz.prog 11 #[.agg (ar x s).toArray] w fun e w'=>∃ A c,e=.returned (.tuple #[.slice A n c,.int .i64 0])∧BS w' w'.heap.size A P∧n≤c∧Below w.heap.size w w':=by
 subst hn hP;exact (lz h).mono fun e w' he=>kR he hv
theorem BH (h:eF w w.heap.size x xs s) (hv:gY s=true) (P:List UInt8) (hP:P=cj s) (n:Nat) (hn:n=P.length):Calls Tryz.prog 12 #[.agg (ar x s).toArray] w fun e w'=>∃ A c,e=.returned (.tuple #[.slice A n c,.int .i64 0])∧BS w' w'.heap.size A P∧n≤c∧Below w.heap.size w w':=by
 subst hn hP;exact (j6 h).mono fun e w' he=>kR he hv
theorem BI (h:eF w w.heap.size x xs s):Calls Tryz.prog 12 #[.agg (ar x s).toArray] w fun e w'=>∃ A n c z,e=.returned (.tuple #[.slice A n c,.int .i64 z])∧Below w.heap.size w w' :=
 (j6 h).mono fun e w' he=>by
  rcases hv:gY s with _ | _
  ·exact ⟨_,_,_,_,he.2.1 hv,he.1⟩
  ·obtain ⟨A,c,h1,_⟩:=he.2.2 hv
   exact ⟨_,_,_,_,h1,he.1⟩
theorem rk (p:dL × da) (hp:aB p.2) (hf:BS w w.heap.size p.1.f p.2.act.frame) (hv:aL p.2=true) (n:Nat) (P:List UInt8) (hP:P=bC p.2) (hn:n=P.length):Calls Tryz.prog 20 #[.agg (eJ p).toArray] w fun e w'=>∃ A c,e=.returned (.tuple #[.slice A n c,.int .i64 0])∧BS w' w'.heap.size A P∧n≤c∧Below w.heap.size w w':=by
 subst hn hP;exact (jh p hp w hf).mono fun e w' he=>kR he hv
theorem sE (hx:eF w w.heap.size x xs s) (hy:eF w w.heap.size y ys t) (h:eV s t=true):Calls Tryz.prog 19 #[.agg (ar x s).toArray,.agg (ar y t).toArray] w fun e w'=>e=.returned (.bool true)∧Below w.heap.size w w':=by
 have:=mW hx hy;rwa [h] at this
theorem eF.take {B:Nat} (h:eF w B x xs s) (k:Nat) (hk:k≤s.evs.length):eF w B x (xs.take k) { s with evs:=s.evs.take k } where
 vs:=h.vs
 cv:=h.cv
 st:=h.st
 sh:=⟨h.sh.conf,h.sh.st,fun e he=>h.sh.evs e (List.mem_of_mem_take he)⟩
 ev:=by show s.evs.take k=_;rw [h.ev,List.map_take]
 evs:=h.evs.take k
 ce:=⟨by show (s.evs.take k).length≤_;have:=h.ce.1;rw [List.length_take];omega,by show (s.evs.take k).length≤_;have:=h.ce.2;rw [List.length_take];omega⟩
 fr:=fun p hp=>h.fr p (List.mem_of_mem_take hp)
theorem nE {g:Nat} {T:TypeId} (hs:bf s) (hb:ah w g T (ar x s).toArray) (A:Option Addr) (c:Nat) (es:List da) (n:Nat) (hn:n=es.length) :
  ah (w.setCell ⟨g,73,none⟩ (.slice A n c)) g T (ar { x with e:=A,ce:=c } { s with evs:=es }).toArray:=by
 subst hn;have h1:=dH (A:=x.v) (n:=s.conf.vips.length) (c:=x.cv) hs.conf;have h2:=kb (x:=x.st) hs.st;obtain ⟨a,b,k⟩:=kK (n:=73) (pre:=aj x.v s.conf.vips.length x.cv s.conf ++ (zv s.first :: zv s.lost :: dh x.st s.st)) (u:=.slice x.e s.evs.length x.ce) (post:=[]) hb (by simp [ar]) (by simp [h1,h2]);have e:ar { x with e:=A,ce:=c } { s with evs:=es }=(aj x.v s.conf.vips.length x.cv s.conf ++ (zv s.first :: zv s.lost :: dh x.st s.st)) ++ .slice A es.length c :: []:=by simp [ar]
 rw [e];exact k _
end
theorem bz {ops:Array Oper} {Q:Exit→Act→World→Prop} {W:World} {k:Nat} {a:Act} {o:Oper} {d:Tmp} (h:Sd Tryz.prog ops Q W (k + 1) { a with tmps:=a.tmps.setIfInBounds d (.agg (ar dX cM).toArray) }) (hi:ops[k]?=some o:=by rfl) (hd:o.dst=some d:=by rfl) (hw:Region.wanted o (yielded ops a.tmps)=true:=by rfl) (ho:o.op=.build 40 #[]:=by rfl):Sd Tryz.prog ops Q W k a :=
 Sd.step (.inl ⟨hw,fun w hS=>by rw [md w ho (cells:=(ar dX cM).toArray) rg];exact ⟨rfl,hS⟩⟩) (by rw [hd];exact h) hi
end Go.Proofs.YtaafkokfdgfabaaGreat
namespace Go.Proofs.YtaafkokfdgfabaaGreat
open Go.RowKit
set_option linter.unusedVariables false
set_option linter.unusedSimpArgs false
set_option maxRecDepth 100000 in
theorem tW (w:World) (x:jM) (xs:List (dL × da)) (s:bT) (h0:gE w w.heap.size x xs s) (fy:Int) (hwf:(Lit.int .u16 fy).wf=true) :
  Calls Tryz.prog 5 #[.agg (ar x s).toArray,.int .u16 fy] w fun e w'=>e=.returned (.bool true)∧Below w.heap.size w w':=by
 have hcut:0≤fy∧fy≤65535:=by
  simp [Lit.wf,IntKind.min,IntKind.max,IntKind.bits,IntKind.signed] at hwf;omega
 obtain ⟨W,hW⟩:∃ W,W=w.alloc (.cells (ar x s).toArray 40):=⟨_,rfl⟩
 have HX:Hid (ah W w.heap.size 40 (ar x s).toArray):=by rw [hW];exact ah.new w _ _ _ rfl
 have HB:Hid (Below w.heap.size w W):=by rw [hW];exact (Below.refl _ _).alloc (Nat.le_refl _) _
 have HR:=Lib.hid (h0.on HB.out);have l0:w.heap.size<W.heap.size:=HX.out.lt;have Hsz:=Lib.hid (dl (x:=x) h0.sh);have HW:=Lib.hid hW;have Hcut:=Lib.hid hcut;clear hW h0 hcut hwf;go_enter Tryz.func5,Tryz.ntmps5
 go_upto_region 1 with fail
 rw [←HW.out];clear HW;refine Sd.plain ?_
 repeat ((first | refine po ?_ | refine cl (fun u hu=>ir u) ?_ | refine sl (ae HX.out) l0 az Hsz.out ?_ | refine cl (fun u hu=>mI (HR.out.on hu)) ?_ | refine pt ?_);simp only [ld,lg,lf,Nat.reduceAdd,Bool.not_true,Bool.false_or])
 refine Sd.done fun w1 hb1=>?_
 replace HB:=Lib.hid (HB.out.trans (hb1.mono HB.out.size));replace HX:=Lib.hid (HX.out.below hb1 l0);replace HR:=Lib.hid (HR.out.on hb1);clear hb1 l0;rcases hf:mX s with _ | _
 ·simp only [hf,Bool.not_false]
  clear hf
  go_wp2_with fail
  refine (ir w1).mono ?_;rintro e w2 ⟨rfl,B⟩;replace HB:=Lib.hid (HB.out.trans (B.mono HB.out.size));clear B
  go_wp2
  go_ret
  exact ⟨rfl,HB.out⟩
 simp only [hf,Bool.not_true];obtain ⟨hin,hn,_⟩:=HR.out.few hf;have H1:Hid (Bx w1 w.heap.size x xs s):=⟨HX.out,hin⟩
 have Hn:=Lib.hid hn;have Hsh:=Lib.hid hin.sh;clear hf hin hn HX HR;have R1:=Lib.hid (ae H1.out.1);rcases hv:i7 s with _ | _
 ·have Hv:=Lib.hid hv
  clear hv
  go_wp2_with ((with_reducible refine aE 40 ?_);refine aa (by rfl) 40 (.tmp 2) rfl w.heap.size 0 rfl (ar x s) _ R1.out az rfl Hsz.out ?_)
  refine (tV H1.out.2 Hv.out).mono ?_;rintro e w2 ⟨rfl,B⟩;replace HB:=Lib.hid (HB.out.trans (B.mono HB.out.size));replace H1:=Lib.hid (H1.out.on B);clear B R1;have R1:=Lib.hid (ae H1.out.1)
  go_wp2_with ((with_reducible refine aE 40 ?_);refine aa (by rfl) 40 (.tmp 2) rfl w.heap.size 0 rfl (ar x s) _ R1.out az rfl Hsz.out ?_)
  refine (BI H1.out.2).mono ?_;rintro e w3 ⟨A3,n3,c3,z3,rfl,B⟩;replace HB:=Lib.hid (HB.out.trans (B.mono HB.out.size));clear B R1 H1
  go_wp2
  go_ret
  exact ⟨rfl,HB.out⟩
 have Hv:=Lib.hid hv;have hbare:=(ji Hsh.out hv).1;have hle:=yu Hsh.out hv Hn.out;have hpl:(bA s).length=(cj s).length + (s.evs.flatMap bC).length:=by unfold bA;rw [List.length_append]
 obtain ⟨P,hP⟩:∃ P,P=bA s:=⟨_,rfl⟩
 obtain ⟨H,hH⟩:∃ P,P=cj s:=⟨_,rfl⟩
 have hh:0<H.length:=by rw [hH];unfold cj;rw [List.length_append,cP];omega
 obtain ⟨n,hn⟩:∃ n,n=P.length:=⟨_,rfl⟩
 obtain ⟨nh,hnh⟩:∃ n,n=H.length:=⟨_,rfl⟩
 rw [←hnh] at hh;rw [←hP,←hn] at hle;rw [←hP,←hH,←hn,←hnh] at hpl;have hn0:0<n:=by omega
 have HP:=Lib.hid hP;have HH:=Lib.hid hH;have HN:=Lib.hid hn;have HNh:=Lib.hid hnh;have Hpl:=Lib.hid hpl;have Hbare:=Lib.hid hbare;clear hv hbare hP hH hn hnh hpl
 go_wp2_with ((with_reducible refine aE 40 ?_);refine aa (by rfl) 40 (.tmp 2) rfl w.heap.size 0 rfl (ar x s) _ R1.out az rfl Hsz.out ?_)
 refine (oN H1.out.2 Hv.out P HP.out n HN.out).mono ?_;rintro e w2 ⟨A2,c2,rfl,hbs,hc2,B⟩;replace HB:=Lib.hid (HB.out.trans (B.mono HB.out.size));replace H1:=Lib.hid (H1.out.on B);have HP2:=Lib.hid hbs;clear B R1 hbs;have R1:=Lib.hid (ae H1.out.1)
 go_wp2_with ((with_reducible refine aE 40 ?_);refine aa (by rfl) 40 (.tmp 2) rfl w.heap.size 0 rfl (ar x s) _ R1.out az rfl Hsz.out ?_)
 refine (BH H1.out.2 Hbare.out H HH.out nh HNh.out).mono ?_;rintro e w3 ⟨A3,c3,rfl,hbs,hc3,B⟩;replace HB:=Lib.hid (HB.out.trans (B.mono HB.out.size));replace H1:=Lib.hid (H1.out.on B);replace HP2:=Lib.hid (HP2.out.on B);clear B R1 hbs Hbare;obtain ⟨j,hj⟩:∃ j,j=fy.toNat % n:=⟨_,rfl⟩
 have hjn:j<n:=by rw [hj];exact Nat.mod_lt _ hn0
 have hlen0:((n:Int) == 0)=false:=beq_eq_false_iff_ne.2 (by omega);have hmod:(wrap64 fy).tmod (n:Int)=(j:Int):=by
  have h1:=Hcut.out;have e:wrap64 fy=((fy.toNat:Nat):Int):=by unfold wrap64;omega
  rw [e,hj,Int.tmod_eq_emod_of_nonneg (by omega)];rfl
 have hcj:(j:Int)≤(c2:Int):=by omega
 have hj0:(0:Int)≤(j:Int):=by omega
 have Hmod:=Lib.hid hmod;clear hj hmod;go_upto_region 8 with fail
 rw [Hmod.out];have Hjt:Hid (j=(P.take j).length):=by show _=_;rw [List.length_take,←HN.out];omega
 clear Hmod Hcut hlen0;by_cases hjh:j<nh
 ·have hjI:(j:Int)<(nh:Int):=by omega
  have Hr:Hid (aR (P.take j)=(cM,0,2)):=by
   show _=_
   rw [HP.out];unfold bA;exact Bz Hsh.out (ji Hsh.out Hv.out).1 _ (by rw [←HH.out,←HNh.out];exact hjh)
  obtain ⟨S,hS⟩:∃ S,S=cM:=⟨_,rfl⟩
  rw [←hS] at Hr;have HSs:Hid (bf S):=by rw [hS];exact cZ
  have He:Hid (eV S cM=true):=by show _=_;rw [hS];decide +kernel
  clear hS
  go_wp2_with fail
  refine (oK A2 j c2 (P.take j) w3 Hjt.out (HP2.out.take j) (by omega) (by omega) S 0 2 0 2 Hr.out rfl rfl).mono ?_;rintro e w4 ⟨x4,xs4,rfl,hin,B⟩;obtain ⟨u4,v4,U4,V4,T4,L4,X4⟩:=lL w4 x4 S HSs.out;have H4:=Lib.hid (X4.out _ hin);have hB:=B.trans (L4.out.mono B.size);replace HB:=Lib.hid (HB.out.trans (hB.mono HB.out.size));clear hin B hB X4;go_upto_region 10 with (first
   | (rw [←U4.out];(with_reducible refine aM 40 ?_);refine wpList_store_mid rfl 40 (.tmp 10) (.tmp 59) rfl w4.heap.size 0 (ar x4 S).toArray rfl rfl T4.out (gH HSs.out) (cQ _ _) ?_))
  rw [←V4.out];clear U4 V4 T4 L4;have l4:w4.heap.size<v4.heap.size:=H4.out.1.lt;refine Sd.plain ?_
  try simp only [Act.put]
  repeat ((first | refine pa ?_ | refine sl (ae H4.out.1) l4 az (dl HSs.out) ?_ | refine bz ?_ | refine cl (fun u hu=>sE (H4.out.on hu).2 (ee.zero u u.heap.size).held He.out) ?_ | refine pt ?_);simp only [ld,lg,lf,Nat.reduceAdd,Bool.and_self,beq_self_eq_true])
  refine Sd.done fun w5 hb5=>?_
  replace HB:=Lib.hid (HB.out.trans (hb5.mono HB.out.size));clear hb5
  go_wp2
  go_ret
  exact ⟨rfl,HB.out⟩
 obtain ⟨k,hk1,hk2,hk3,hk4⟩:=sw Hsh.out Hv.out (j:=j) (by rw [←HH.out,←HNh.out];omega) (by rw [←HP.out,←HN.out];exact hjn);obtain ⟨at0,hat0⟩:∃ a,a=(cj s).length + ((s.evs.take k).flatMap bC).length:=⟨_,rfl⟩
 rw [←hat0] at hk2 hk4;obtain ⟨S,hS⟩:∃ S:bT,S={ s with evs:=(s.evs.take k).map fG }:=⟨_,rfl⟩
 obtain ⟨g,hg⟩:∃ g,g=if j=at0 then 0 else 2:=⟨_,rfl⟩
 rw [←hS,←hg,←HP.out] at hk4;obtain ⟨zg,hzg⟩:∃ z:Int,(g:Int)=z:=⟨_,rfl⟩
 have HG:Hid ((zg=0∧j=at0)∨(zg=2∧¬ j=at0)):=by
  by_cases h:j=at0
  ·rw [if_pos h] at hg;exact .inl ⟨by rw [←hzg,hg];rfl,h⟩
  ·rw [if_neg h] at hg;exact .inr ⟨by rw [←hzg,hg];rfl,h⟩
 have Hzg:=Lib.hid hzg;clear hg hzg;have HSs:Hid (bf S):=by rw [hS];exact ⟨Hsh.out.conf,Hsh.out.st,fun e he=>by obtain ⟨d,hd,rfl⟩:=List.mem_map.1 he;exact nq (Hsh.out.evs d (List.mem_of_mem_take hd))⟩
 have He:Hid (eV S { s with evs:=s.evs.take k }=true):=by show _=_;rw [hS];exact j8 s (s.evs.take k)
 have Hr:=Lib.hid hk4;have Hat:=Lib.hid hat0;have Hlt:Hid (∀ i,i≤k→nh + ((s.evs.take i).flatMap bC).length≤at0):=fun i hi=>by
  rw [hat0,←HH.out,←HNh.out];have e:s.evs.take k=s.evs.take i ++ (s.evs.take k).drop i:=by
   have:=(List.take_append_drop i (s.evs.take k)).symm;rwa [List.take_take,Nat.min_eq_left hi] at this
  rw [e,List.flatMap_append,List.length_append];omega
 have Hgt:Hid (j<nh + ((s.evs.take (k + 1)).flatMap bC).length):=by show _<_;rw [HNh.out,HH.out];exact hk3
 clear hk3 hk4 hat0 hS;have hjI:¬ (j:Int)<(nh:Int):=by omega
 go_wp2_with fail
 refine (oK A2 j c2 (P.take j) w3 Hjt.out (HP2.out.take j) (by omega) (by omega) S at0 g at0 zg Hr.out rfl Hzg.out).mono ?_;rintro e w4 ⟨x4,xs4,rfl,hin,B⟩;obtain ⟨u4,v4,U4,V4,T4,L4,X4⟩:=lL w4 x4 S HSs.out;have H4:=Lib.hid (X4.out _ hin);have hB:=B.trans (L4.out.mono B.size);replace HB:=Lib.hid (HB.out.trans (hB.mono HB.out.size));replace H1:=Lib.hid (H1.out.on hB);clear hin B hB X4 HP2 Hjt;go_upto_region 9 with (first
  | (rw [←U4.out];(with_reducible refine aM 40 ?_);refine wpList_store_mid rfl 40 (.tmp 10) (.tmp 59) rfl w4.heap.size 0 (ar x4 S).toArray rfl rfl T4.out (gH HSs.out) (cQ _ _) ?_))
 rw [←V4.out];clear U4 V4 T4 L4;have hev:s.evs.length=xs.length:=by rw [H1.out.2.ev,List.length_map]
 obtain ⟨N,hN⟩:∃ N,N=s.evs.length:=⟨_,rfl⟩
 have hcell:v4.cell? ⟨w.heap.size,73,none⟩=some (.slice x.e N x.ce):=by rw [hN];exact ip Hsh.out H1.out.1
 have hkN:k<N:=by rw [hN];exact hk1
 have HNx:Hid (N=xs.length):=by show _=_;rw [hN,hev]
 have hNc:N≤x.ce:=by rw [hN];exact H1.out.2.ce.1
 have hN50:N≤50:=by rw [hN];exact Hn.out
 have l0:w.heap.size<v4.heap.size:=H1.out.1.lt;have l4:w4.heap.size<v4.heap.size:=H4.out.1.lt;have HNs:=Lib.hid hN;clear hN hev hk1
 go_wp2
 go_loopw [13,14,15,16] (fun a i r e wr=>∃ q m:Nat,q≤k∧i=.int .i64 (q:Int)∧a=.int .i64 (m:Int)∧Hid (m=nh + ((s.evs.take q).flatMap bC).length)∧Hid (Below v4.heap.size v4 wr)) (fun _ i _ _ _=>N - (intOf i).toNat)
 case atStart=>exact ⟨0,nh,by omega,rfl,rfl,by simp [Hid],Below.refl _ _⟩
 case round =>
  obtain ⟨q,m,hq,rfl,rfl,hm,hbel⟩:=hrel;rename World=>wr
  have hqN:q<N:=by omega
  have hqI:(q:Int)<(N:Int):=by omega
  have hq0:(0:Int)≤(q:Int):=by omega
  have e1:=(dc hbel.out _ 73 l0).trans hcell;have H1r:=Lib.hid (H1.out.on hbel.out);obtain ⟨b,o,hA,hbB,hc⟩:=H1r.out.2.evs (by rw [←HNx.out];omega);obtain ⟨p,hp⟩:∃ p,xs[q]?=some p:=⟨_,List.getElem?_eq_getElem (by rw [←HNx.out];exact hqN)⟩
  have hpm:p ∈ xs:=List.mem_of_getElem? hp;have hpe:s.evs[q]?=some p.2:=by rw [H1.out.2.ev,List.getElem?_map,hp];rfl
  have Hrg:=Lib.hid (hc q p hp);have Hps:Hid (aB p.2):=Hsh.out.evs _ (List.mem_of_getElem? hpe);have Hz:=Lib.hid (jL (p:=p) Hps.out);have Hpr:Hid (aL p.2=true):=((ji Hsh.out Hv.out).2 _ (List.mem_of_getElem? hpe)).2;have Hfr:=Lib.hid (H1r.out.2.fr p hpm).1;have hrl:=kN Hps.out Hpr.out;obtain ⟨R,hR⟩:∃ R,R=bC p.2:=⟨_,rfl⟩
  obtain ⟨nr,hnr⟩:∃ n,n=R.length:=⟨_,rfl⟩
  rw [←hR,←hnr] at hrl;have HR:=Lib.hid hR;have Hnr:=Lib.hid hnr;have hnext:nh + ((s.evs.take (q + 1)).flatMap bC).length=m + nr:=by
   rw [List.take_add_one,hpe,List.flatMap_append,List.length_append,hnr,hR,hm.out];simp;omega
  have Hnext:=Lib.hid hnext;have hmj:m≤at0:=by rw [hm.out];exact Hlt.out q hq
  rw [hA] at e1;clear hc hp hpm hpe hA hR hnr hnext
  go_wp2_with ((with_reducible refine aE 65 ?_);refine aa (by rfl) 65 (.tmp 88) rfl b (o + q * 42) rfl (eJ p) _ Hrg.out dz rfl Hz.out ?_)
  refine (rk p Hps.out Hfr.out Hpr.out nr R HR.out Hnr.out).mono ?_;rintro e w5 ⟨A5,c5,rfl,hbs,hc5,B⟩;have Hb5:=Lib.hid (hbel.out.trans (B.mono hbel.out.size));clear B hbs hbel e1 Hrg Hfr;by_cases hqk:q<k
  ·have hgo:m + nr≤j:=by
    have:=Hlt.out (q + 1) (by omega);rw [Hnext.out] at this;omega
   have hgoI:¬ (j:Int)<(m:Int) + (nr:Int):=by omega
   have Hm2:Hid (m + nr=nh + ((s.evs.take (q + 1)).flatMap bC).length):=Hnext.out.symm;clear Hlt Hgt
   go_wp2
   go_roundw
   case rel=>exact ⟨q + 1,m + nr,by omega,by go_num,by go_num,Hm2,Hb5⟩
   case measure=>simp [intOf];omega
  ·obtain rfl:q=k:=by omega
   have hstop:j<m + nr:=by
    have:=Hgt.out;rw [Hnext.out] at this;exact this
   have hstopI:(j:Int)<(m:Int) + (nr:Int):=by omega
   have hma:m=at0:=by rw [hm.out,HNh.out,HH.out];exact Hat.out.symm
   subst hma;have H1w:=Lib.hid (H1.out.on Hb5.out);obtain ⟨u7,v7,U7,V7,T7,L7,X7⟩:=lL w5 x s Hsh.out;have H7:=Lib.hid (X7.out xs H1w.out.2);have R1:=Lib.hid (ae H1w.out.1);have Hin:=Lib.hid (H1w.out.2.take q (by rw [←HNs.out];omega));have H1v:=Lib.hid (H1w.out.on L7.out);clear Hlt Hgt Hnext H1 H1r hcell;go_upto_region 19 with (first
    | ((with_reducible refine aE 40 ?_);refine aa (by rfl) 40 (.tmp 2) rfl w.heap.size 0 rfl (ar x s) _ R1.out az rfl Hsz.out ?_)
    | (rw [←U7.out];(with_reducible refine aM 40 ?_);refine wpList_store_mid rfl 40 (.tmp 17) (.tmp 105) rfl w5.heap.size 0 (ar x s).toArray rfl rfl T7.out (gH Hsh.out) (cQ _ _) ?_))
   rw [←V7.out];have c73:v7.cell? ⟨w.heap.size,73,none⟩=some (.slice x.e N x.ce):=by rw [HNs.out];exact ip Hsh.out H1v.out.1
   have s73:v7.cell? ⟨w5.heap.size,73,none⟩=some (.slice x.e N x.ce):=by rw [HNs.out];exact ip Hsh.out H7.out.1
   have f73:v7.frozen? ⟨w5.heap.size,73,none⟩=false:=H7.out.1.frozen 73;have hqc:(q:Int)≤(x.ce:Int):=by omega
   have hqN:(q:Int)≤(N:Int):=by omega
   obtain ⟨v8,hv8⟩:∃ v,v=v7.setCell ⟨w5.heap.size,73,none⟩ (.slice x.e q x.ce):=⟨_,rfl⟩
   have HB8:Hid (Below w5.heap.size w5 v8):=by rw [hv8];exact L7.out.setCell (Nat.le_refl _) _
   have Hwant:Hid (ah v8 w5.heap.size 40 (ar x { s with evs:=s.evs.take q }).toArray):=by
    rw [hv8];exact nE Hsh.out H7.out.1 x.e x.ce (s.evs.take q) q (by rw [List.length_take,←HNs.out];omega)
   have Hv8:=Lib.hid hv8;clear U7 V7 T7 L7 X7 R1 hv8;go_upto_region 20 with fail
   rw [←Hv8.out];have hbv:=Hb5.out.trans (HB8.out.mono Hb5.out.size);have H4v:=Lib.hid (H4.out.on hbv);have Hin8:=Lib.hid (Hin.out.on HB8.out);replace HB:=Lib.hid (HB.out.trans (hbv.mono HB.out.size));have l4:w4.heap.size<v8.heap.size:=H4v.out.1.lt;have l5:w5.heap.size<v8.heap.size:=Hwant.out.lt;have Hsz2:Hid ((Tryz.prog.info? 40).map (·.size)=some (ar x { s with evs:=s.evs.take q }).length):=dl Hin.out.sh;clear hbv Hv8 c73 s73 f73 H4 H1w H1v H7 Hin HB8;rcases HG.out with ⟨rfl,hja⟩ | ⟨rfl,hja⟩
   all_goals
    first | (have hje:((m:Int) == (j:Int))=true:=by simp;omega) | (have hje:((m:Int) == (j:Int))=false:=beq_eq_false_iff_ne.2 (by omega))
    clear hja;refine Sd.plain ?_
    try simp only [Act.put]
    repeat ((first | refine sl (ae H4v.out.1) l4 az (dl HSs.out) ?_ | refine sl (ae Hwant.out) l5 az Hsz2.out ?_ | refine cl (fun u hu=>sE (H4v.out.on hu).2 (Hin8.out.on hu) He.out) ?_ | refine pt ?_ | refine sk ?_);simp only [ld,lg,lf,Nat.reduceAdd,Bool.and_self,beq_self_eq_true,hje])
    refine Sd.done fun w9 hb9=>?_
    have HB9:=Lib.hid (HB.out.trans (hb9.mono HB.out.size));clear hb9
    go_wp2
    go_ret
    exact ⟨rfl,HB9.out⟩
end Go.Proofs.YtaafkokfdgfabaaGreat
namespace Go.Proofs.YtaafkokfdgfabaaGreat
open Go.RowKit
set_option linter.unusedVariables false
set_option linter.unusedSimpArgs false
set_option maxRecDepth 100000 in
theorem tX (w:World) (x:jM) (xs:List (dL × da)) (s:bT) (h0:gE w w.heap.size x xs s) (A:Option Addr) (n c:Nat) (l:List UInt8) (hn:n=l.length) (hc:n≤c) (hm:n≤maxLen) (hl:BS w w.heap.size A l) :
  Calls Tryz.prog 4 #[.agg (ar x s).toArray,.slice A n c] w fun e w'=>e=.returned (.bool true)∧Below w.heap.size w w':=by
 obtain ⟨W,hW⟩:∃ W,W=w.alloc (.cells (ar x s).toArray 40):=⟨_,rfl⟩
 have HX:Hid (ah W w.heap.size 40 (ar x s).toArray):=by rw [hW];exact ah.new w _ _ _ rfl
 have HB:Hid (Below w.heap.size w W):=by rw [hW];exact (Below.refl _ _).alloc (Nat.le_refl _) _
 have HR:=Lib.hid (h0.on HB.out);have HL:=Lib.hid (hl.on HB.out);have l0:w.heap.size<W.heap.size:=HX.out.lt;have Hsz:=Lib.hid (dl (x:=x) h0.sh);have HW:=Lib.hid hW;have Hn:=Lib.hid hn;clear hW h0 hl hn hm;go_enter Tryz.func4,Tryz.ntmps4
 go_upto_region 1 with fail
 rw [←HW.out];clear HW;obtain ⟨T,hT⟩:∃ T,T=(!mX s || decide ((40000:Int)<(n:Int))):=⟨_,rfl⟩
 refine Sd.plain ?_
 repeat ((first | refine po ?_ | refine cl (fun u hu=>ir u) ?_ | refine sl (ae HX.out) l0 az Hsz.out ?_ | refine cl (fun u hu=>mI (HR.out.on hu)) ?_ | refine gp ?_ | refine pt ?_);simp only [ld,lg,lf,Nat.reduceAdd,Bool.not_true,Bool.false_or])
 rw [←hT];refine Sd.done fun w1 hb1=>?_
 replace HB:=Lib.hid (HB.out.trans (hb1.mono HB.out.size));replace HX:=Lib.hid (HX.out.below hb1 l0);replace HR:=Lib.hid (HR.out.on hb1);replace HL:=Lib.hid (HL.out.on hb1);have HT:=Lib.hid hT;clear hb1 l0 hT;rcases T with _ | _
 rotate_left
 ·clear HT
  go_wp2_with fail
  refine (ir w1).mono ?_;rintro e w2 ⟨rfl,B⟩;replace HB:=Lib.hid (HB.out.trans (B.mono HB.out.size));clear B
  go_wp2
  go_ret
  exact ⟨rfl,HB.out⟩
 have hT:=HT.out.symm;simp only [Bool.or_eq_false_iff,Bool.not_eq_false',decide_eq_false_iff_not] at hT;obtain ⟨hf,h4⟩:=hT;have h4:n≤40000:=by omega
 obtain ⟨hin,hnn,_⟩:=HR.out.few hf;have H1:Hid (Bx w1 w.heap.size x xs s):=⟨HX.out,hin⟩
 have Hnn:=Lib.hid hnn;have Hsh:=Lib.hid hin.sh;clear hf hin hnn HX HR HT;have R1:=Lib.hid (ae H1.out.1);rcases hv:i7 s with _ | _
 have Hv:=Lib.hid hv;clear hv
 go_wp2_with ((with_reducible refine aE 40 ?_);refine aa (by rfl) 40 (.tmp 2) rfl w.heap.size 0 rfl (ar x s) _ R1.out az rfl Hsz.out ?_)
 refine (tV H1.out.2 Hv.out).mono ?_;rintro e w2 ⟨rfl,B⟩;replace HB:=Lib.hid (HB.out.trans (B.mono HB.out.size));replace H1:=Lib.hid (H1.out.on B);replace HL:=Lib.hid (HL.out.on B);clear B R1 H1;go_upto_region 8 with fail
 rotate_left
 have Hv:=Lib.hid hv;have hle:=yu Hsh.out hv Hnn.out;obtain ⟨P,hP⟩:∃ P,P=bA s:=⟨_,rfl⟩
 obtain ⟨m,hm⟩:∃ n,n=P.length:=⟨_,rfl⟩
 obtain ⟨S,hS⟩:∃ S,S=lC s:=⟨_,rfl⟩
 have Hr:Hid (aR P=(S,m,0)):=by show _=_;rw [hm,hP,hS];exact vI Hsh.out hv
 have HSs:Hid (bf S):=by rw [hS];exact ⟨Hsh.out.conf,Hsh.out.st,fun e he=>by obtain ⟨d,hd,rfl⟩:=List.mem_map.1 he;exact nq (Hsh.out.evs d hd)⟩
 have Heq:Hid (eV S s=true):=by show _=_;rw [hS];exact j8 s s.evs
 rw [←hP,←hm] at hle;have HP:=Lib.hid hP;have HM:=Lib.hid hm;clear hv hP hm hS
 go_wp2_with ((with_reducible refine aE 40 ?_);refine aa (by rfl) 40 (.tmp 2) rfl w.heap.size 0 rfl (ar x s) _ R1.out az rfl Hsz.out ?_)
 refine (oN H1.out.2 Hv.out P HP.out m HM.out).mono ?_;rintro e w2 ⟨A2,c2,rfl,hbs,hc2,B⟩;replace HB:=Lib.hid (HB.out.trans (B.mono HB.out.size));replace H1:=Lib.hid (H1.out.on B);replace HL:=Lib.hid (HL.out.on B);have HP2:=Lib.hid hbs;clear B R1 hbs
 go_wp2_with fail
 refine (oK A2 m c2 P w2 HM.out HP2.out (by omega) hc2 S m 0 m 0 Hr.out rfl rfl).mono ?_;rintro e w3 ⟨x3,xs3,rfl,hin,B⟩;obtain ⟨u3,v3,U3,V3,T3,L3,X3⟩:=lL w3 x3 S HSs.out;have H3:=Lib.hid (X3.out _ hin);have hB:=B.trans (L3.out.mono B.size);replace HB:=Lib.hid (HB.out.trans (hB.mono HB.out.size));replace H1:=Lib.hid (H1.out.on hB);replace HL:=Lib.hid (HL.out.on hB);clear hin B hB X3;go_upto_region 6 with (first
  | (rw [←U3.out];(with_reducible refine aM 40 ?_);refine wpList_store_mid rfl 40 (.tmp 7) (.tmp 38) rfl w3.heap.size 0 (ar x3 S).toArray rfl rfl T3.out (gH HSs.out) (cQ _ _) ?_))
 rw [←V3.out];clear U3 V3 T3 L3;have l1:w.heap.size<v3.heap.size:=H1.out.1.lt;have l3:w3.heap.size<v3.heap.size:=H3.out.1.lt;refine Sd.plain ?_
 try simp only [Act.put]
 repeat ((first | refine po ?_ | refine sl (ae H1.out.1) l1 az Hsz.out ?_ | refine sl (ae H3.out.1) l3 az (dl HSs.out) ?_ | refine cl (fun u hu=>sE (H3.out.on hu).2 (H1.out.on hu).2 Heq.out) ?_ | refine pt ?_);simp only [ld,lg,lf,Nat.reduceAdd,Bool.not_true,Bool.false_or,bne_self_eq_false,Bool.or_self])
 refine Sd.done fun w4 hb4=>?_
 replace HB:=Lib.hid (HB.out.trans (hb4.mono HB.out.size));replace H1:=Lib.hid (H1.out.on hb4);replace HL:=Lib.hid (HL.out.on hb4);clear hb4 HP2 HM HP H1 H3 Heq HSs Hr;obtain ⟨w2,hw2⟩:∃ u,u=w4:=⟨_,rfl⟩
 subst hw2;go_upto_region 8 with fail
 all_goals
  have ho:=DF l;obtain ⟨⟨S,m,f⟩,hr⟩:∃ q,q=aR l:=⟨_,rfl⟩
  rw [←hr] at ho;have Hr:=Lib.hid hr.symm;have Ho:=Lib.hid ho;clear hr ho
  go_wp2_with fail
  refine (oK A n c l w2 Hn.out HL.out (by omega) hc S m f m f Hr.out rfl rfl).mono ?_;rintro e w3 ⟨x3,xs3,rfl,hin,B⟩;have HSs:=Lib.hid hin.sh;obtain ⟨u3,v3,U3,V3,T3,L3,X3⟩:=lL w3 x3 S HSs.out;have H3:=Lib.hid (X3.out _ hin);have hB:=B.trans (L3.out.mono B.size);replace HB:=Lib.hid (HB.out.trans (hB.mono HB.out.size));replace HL:=Lib.hid (HL.out.on hB);clear hin B hB X3;go_upto_region 9 with (first
   | (rw [←U3.out];(with_reducible refine aM 40 ?_);refine wpList_store_mid rfl 40 (.tmp 10) (.tmp 58) rfl w3.heap.size 0 (ar x3 S).toArray rfl rfl T3.out (gH HSs.out) (cQ _ _) ?_))
  rw [←V3.out];clear U3 V3 T3 L3;have l3:w3.heap.size<v3.heap.size:=H3.out.1.lt;rcases Ho.out with ⟨h0,hS⟩ | ⟨h1,h2,h3,h5⟩
  ·try simp only at h0 hS
   have hm0:(m:Int)=0:=by omega
   have He:Hid (eV S cM=true):=by show _=_;rw [hS];decide +kernel
   clear h0 hS;go_upto_region 10 with fail
   refine Sd.plain ?_
   try simp only [Act.put]
   repeat ((first | refine sl (ae H3.out.1) l3 az (dl HSs.out) ?_ | refine bz ?_ | refine cl (fun u hu=>sE (H3.out.on hu).2 (ee.zero u u.heap.size).held He.out) ?_ | refine pt ?_);simp only [ld,lg,lf,Nat.reduceAdd])
   refine Sd.done fun w4 hb4=>?_
   replace HB:=Lib.hid (HB.out.trans (hb4.mono HB.out.size));clear hb4
   go_wp2
   go_ret
   exact ⟨rfl,HB.out⟩
  ·try simp only at h1 h2 h3 h5
   have hm0:¬ (m:Int)=0:=by omega
   have R3:=Lib.hid (ae H3.out.1);obtain ⟨Q,hQ⟩:∃ Q,Q=l.take m:=⟨_,rfl⟩
   have Hv:=Lib.hid h3;have HQ:Hid (Q=bA S):=by show _=_;rw [hQ];exact h5
   have Hm:Hid (m=Q.length):=by show _=_;rw [hQ,List.length_take];omega
   have HT2:Hid (BS v3 v3.heap.size A Q):=by rw [hQ];exact HL.out.take m
   have hmn:(m:Int)≤(n:Int):=by rw [Hn.out];omega
   have hmc:(m:Int)≤(c:Int):=by omega
   clear h1 h2 h3 h5 hQ
   go_wp2_with ((with_reducible refine aE 40 ?_);refine aa (by rfl) 40 (.tmp 10) rfl w3.heap.size 0 rfl (ar x3 S) _ R3.out az rfl (dl HSs.out) ?_)
   refine (oN H3.out.2 Hv.out Q HQ.out m Hm.out).mono ?_;rintro e w4 ⟨A4,c4,rfl,hbs,hc4,B⟩;replace HB:=Lib.hid (HB.out.trans (B.mono HB.out.size));replace H3:=Lib.hid (H3.out.on B);replace HT2:=Lib.hid (HT2.out.on B);have HP4:=Lib.hid hbs;have l4:w3.heap.size<w4.heap.size:=H3.out.1.lt;clear B R3 hbs l3;have Hrt:Hid (∀ u,Below w4.heap.size w4 u→Calls Tryz.prog 13 #[.agg (ar x3 S).toArray] u fun e w'=>e=.returned (.bool true)∧Below u.heap.size u w'):=fun u hu=>by
    have:=jg (H3.out.on hu).2;rwa [Hv.out] at this
   go_upto_region 12 with fail
   refine Sd.start ?_
   try simp only [Act.put]
   repeat ((first | refine sl (ae H3.out.1) l4 az (dl HSs.out) ?_ | refine cl Hrt.out ?_ | refine cv HP4.out Hm.out ?_ | refine cv HT2.out Hm.out ?_ | refine pt ?_);simp only [ld,lg,lf,Nat.reduceAdd,beq_self_eq_true,Bool.and_self])
   refine Sd.done fun w5 hb5=>?_
   replace HB:=Lib.hid (HB.out.trans (hb5.mono HB.out.size));clear hb5
   go_wp2
   go_ret
   exact ⟨rfl,HB.out⟩
end Go.Proofs.YtaafkokfdgfabaaGreat
namespace Go.Proofs.YtaafkokfdgfabaaGreat
open Go.RowKit
set_option linter.unusedVariables false
set_option linter.unusedSimpArgs false
theorem sF {α:Type} {f:α→List Value} {sz:Nat} {w:World}:∀ (l:List α) (b o:Nat),(∀ v ∈ l,(f v).length=sz)→(∀ j v,l[j]?=some v→w.rangeAt b (o + j * sz) (f v))→w.rangeAt b o (cA f l)
 | [],_,_,_,_=>fun j u h=>by simp [cA] at h
 | v :: vs,b,o,hl,h=>fun j u hj=>by
  have hv:=hl v (by simp);rw [cA,List.flatMap_cons] at hj;by_cases hlt:j<(f v).length
  ·rw [List.getElem?_append_left hlt] at hj
   have:=h 0 v rfl j u hj;rwa [Nat.zero_mul,Nat.add_zero] at this
  ·rw [List.getElem?_append_right (by omega)] at hj
   have:=sF vs b (o + sz) (fun x hx=>hl x (by simp [hx])) (fun i x hi=>by
    have:=h (i + 1) x (by simpa using hi);rwa [show o + (i + 1) * sz=o + sz + i * sz by rw [Nat.add_mul,Nat.one_mul];omega] at this) (j - (f v).length) u hj
   rwa [show o + sz + (j - (f v).length)=o + j by omega] at this
section
variable {P:Program} {α:Type} {f:α→List Value} {sz:Nat} {w:World}
theorem pJ (base:Nat) (t ty e:TypeId) (i:TypeInfo) (z:Value) (bytes:Nat) (ht:P.underlying t=some (.slice e)) (hi:P.info? e=some i) (hz:i.zero=some z) (hsize:i.size=sz) (hby:i.bytes=bytes) (hzs:z.cells.size=sz) (hp:0<sz)
  (v:Value) (n:Nat) (xs:List Value) (hown:w.ownsRow base e sz v n xs) (B:Nat) (A:Option Addr) (c:Nat) (l:List α) (hr:RW f sz w B A l) (hf:∀ v ∈ l,(f v).length=sz∧(f v).toArray.all (·.oneCell')=true)
  (h63:n + l.length≤maxLen) (hbytes:(n + l.length) * bytes≤140737488355328) (hbase:base≤w.heap.size) :
  ∃ v' w',(Builtin.append_ #[t,t] ty #[v,.slice A l.length c]).run P w=.ok v' w'∧w'.ownsRow base e sz v' (n + l.length) (xs ++ cA f l)∧w.grownBy w' v.ownBlock:=by
 rcases A with _ | ad
 ·have hl:l=[]:=List.eq_nil_of_length_eq_zero (by
   rcases Nat.eq_zero_or_pos l.length with h | h
   ·exact h
   ·obtain ⟨b,o,e,_⟩:=hr h
    cases e)
  subst hl;exact ⟨v,w,jO w base t ty e i sz ht hi v _ _ hown c,by simpa [cA] using hown,World.grownBy.refl w _⟩
 ·have hlen:(cA f l).length=l.length * sz:=zV (P:=fun v=>v ∈ l) (fun v hv=>(hf v hv).1) (fun v hv=>hv)
  have hcells:∀ j u,(cA f l)[j]?=some u→w.cell? (ad.add j)=some u:=fun j u hu=>by
   rcases Nat.eq_zero_or_pos l.length with h0 | h0
   ·obtain rfl:l=[]:=List.eq_nil_of_length_eq_zero h0
    simp [cA] at hu
   ·obtain ⟨b,o,e,_,hc⟩:=hr h0
    injection e with e
    subst e;rw [Go.WideShapes.add_plain];exact sF l b o (fun v hv=>(hf v hv).1) hc j u hu
  obtain ⟨v',w',h1,h2,h3,_,_⟩:=run_append_own_at (P:=P) w base t ty e i z sz bytes ht hi hz hsize hby hzs hp v n xs hown ad l.length c (cA f l) hlen hcells (fun u hu=>by
   obtain ⟨y,hy,hu⟩:=List.mem_flatMap.1 hu;exact Array.all_eq_true_iff_forall_mem.1 (hf y hy).2 u (by simpa using hu)) h63 hbytes hbase
  exact ⟨v',w',h1,h2,h3⟩
theorem iu {o:Oper} {a:Act} {K:Act→World→Prop} {Q:Exit→Act→World→Prop} (s x:Operand) (t:TypeId) (ho:o.op=.call { callee:=.builtin .append,args:=#[s,x],argTypes:=#[t,t] })
  (base:Nat) (e:TypeId) (i:TypeInfo) (z:Value) (bytes:Nat) (ht:P.underlying t=some (.slice e)) (hi:P.info? e=some i) (hz:i.zero=some z) (hsize:i.size=sz) (hby:i.bytes=bytes) (hzs:z.cells.size=sz) (hp:0<sz)
  (v:Value) (n:Nat) (xs:List Value) (hs:a.eval s=v) (hown:w.ownsRow base e sz v n xs) (B:Nat) (A:Option Addr) (m c:Nat) (l:List α) (hx:a.eval x=.slice A m c) (hm:m=l.length) (hr:RW f sz w B A l) (hf:∀ v ∈ l,(f v).length=sz∧(f v).toArray.all (·.oneCell')=true)
  (h63:n + l.length≤maxLen) (hbytes:(n + l.length) * bytes≤140737488355328) (hbase:base≤w.heap.size)
  (h:∀ A' c' w',w'.ownsRow base e sz (.slice A' (n + l.length) c') (n + l.length) (xs ++ cA f l)→w.grownBy w' v.ownBlock→K (a.put o.dst (.slice A' (n + l.length) c')) w'):o.wp P a w K Q:=by
 subst hm;obtain ⟨v',w',hrun,h2,h3⟩:=pJ (P:=P) base t o.type e i z bytes ht hi hz hsize hby hzs hp v n xs hown B A c l hr hf h63 hbytes hbase;unfold Oper.wp execOp;simp only [ho,resolve,invoke,builtin,Sem.run_bind,Sem.run_pure,Result.andThen_ok,List.map_toArray,List.map_cons,List.map_nil,hs,hx,hrun];obtain ⟨A',c',rfl,_⟩:=cE h2;exact h A' c' w' h2 h3
theorem On.st {ops:Array Oper} {Q:Exit→Act→World→Prop} {S:World→Prop} {a:Act} {o:Oper} {fuel:Nat} {listed:Array Bool} {i:Nat} {w':World} (hS:S w') (h:S w'→Wz P ops Q S fuel (listed.setIfInBounds i true) a w') (hi:ops[i]?=some o:=by rfl) (hd:o.dst=none:=by rfl) (hw:Region.wanted o (yielded ops a.tmps)=true:=by rfl)
  (hrun:(execOp a.eval o).run P w=.ok .skip w'):On P ops Q S fuel listed a w i :=
 wpOp_step hi fun K hK=>by
  rw [if_pos hw];unfold Oper.wp;rw [hrun];exact hK _ _ ⟨hS,by rw [hd];exact h hS⟩
end
theorem nF {P:Program} {o:Oper} {a:Act} (w:World) (t e:TypeId) (x:Operand) (ho:o.op=.buildSlice t 1 #[(0,x)]) (cs:List Value) (hx:a.eval x=.agg cs.toArray)
  (hu:P.underlying t=some (.slice e)) (hsz:(P.info? e).map (·.size)=some cs.length) (hz:((P.info? e).bind (·.zero)).isSome=true) (hp:0<cs.length) (hs:cs.length≤1000) :
  (execOp a.eval o).run P w=.ok (.value (.slice (some ⟨w.heap.size,0,none⟩) 1 1)) (w.alloc (.cells cs.toArray e)):=by
 cases hie:P.info? e with
 | none=>simp [hie] at hsz
 | some ie =>
  simp only [hie,Option.map_some,Option.some.injEq,Option.bind_some] at hsz hz;obtain ⟨z,hzz⟩:=Option.isSome_iff_exists.1 hz;have hf:Instr.fill (fun i=>some (i * ie.size,ie.size)) ((Array.range (1 * ie.size)).map (z.cells[·% z.cells.size]!)) (#[(0,x)].map fun (i,x)=>(i,a.eval x)).toList=some cs.toArray:=by
   simp only [List.map_toArray,List.map_cons,List.map_nil,hx];rw [ot _ _ _ 0 _ _ (by simp [hsz]) (by simp [hsz])];obtain ⟨L,hL,hLs⟩:∃ L:List Value,(Array.range (1 * ie.size)).map (fun i=>z.cells[i % z.cells.size]!)=L.toArray∧cs.length=L.length:=⟨_,(Array.toArray_toList).symm,by simp [hsz]⟩
   rw [hL,aW hLs];rfl
  unfold execOp;simp only [ho,Sem.run_bind,run_buildSlice w t e 1 _ cs.toArray ie z hu hie hzz (by rw [hsz];omega) (by rw [hsz];omega) hf,Result.andThen_ok,Sem.run_pure]
theorem eF.snoc {w:World} {base:Nat} {x:jM} {xs:List (dL × da)} {s:bT} (h:eF w w.heap.size x xs s) (p:dL × da) (hp:aB p.2) (hf:BS w w.heap.size p.1.f p.2.act.frame∧BS w w.heap.size p.1.o p.2.o.out) {A:Option Addr} {c n:Nat} (ho:w.ownsRow base 65 42 (.slice A n c) n (cA eJ (xs ++ [p]))) (hn:n=(xs ++ [p]).length) (hl:n≤1000000) :
  eF w w.heap.size { x with e:=A,ce:=c } (xs ++ [p]) { s with evs:=s.evs ++ [p.2] } where
 vs:=h.vs
 cv:=h.cv
 st:=h.st
 sh:=⟨h.sh.conf,h.sh.st,fun e he=>by
  rcases List.mem_append.1 he with he | he
  ·exact h.sh.evs e he
  ·obtain rfl:e=p.2:=by simpa using he
   exact hp⟩
 ev:=by show s.evs ++ [p.2]=_;rw [h.ev,List.map_append];rfl
 evs:=qQ (by rw [←hn];exact ho) fun q hq=>by
  rcases List.mem_append.1 hq with hq | hq
  ·exact ex (h.shp hq)
  ·obtain rfl:q=p:=by simpa using hq
   exact ex hp
 ce:=by
  have e:(s.evs ++ [p.2]).length=n:=by rw [hn,List.length_append,List.length_append,h.len];rfl
  exact ⟨by rw [e];exact gI ho,by rw [e];exact hl⟩
 fr:=fun q hq=>by
  rcases List.mem_append.1 hq with hq | hq
  ·exact h.fr q hq
  ·obtain rfl:q=p:=by simpa using hq
   exact hf
set_option maxRecDepth 100000 in
theorem DP:∃ z0 zz,(Tryz.prog.info? 65)=some z0∧z0.zero=some zz∧z0.size=42∧z0.bytes≤1000∧zz.cells.size=42:=by
 obtain ⟨z0,hz0⟩:∃ z,(Tryz.prog.info? 65)=some z:=⟨_,rfl⟩
 have e:(Tryz.prog.info? 65).bind (fun i=>i.zero.map (fun z=>(i.size,decide (i.bytes≤1000),z.cells.size)))=some (42,true,42):=by kernel_rfl
 rw [hz0] at e;obtain ⟨z,h1,h2⟩:=Option.map_eq_some_iff.1 (show z0.zero.map _=some _ from e);simp only [Prod.mk.injEq,decide_eq_true_eq] at h2;exact ⟨z0,z,hz0,h1,h2.1,h2.2.1,h2.2.2⟩
theorem sG {P:Program} {ops:Array Oper} {rest:List Oper} {o:Oper} {a:Act} {w:World} {Q:Exit→Act→World→Prop} (hw:Region.wanted o (yielded ops a.tmps)=true) (h:wpList P ops Q ({ o with guard:=none } :: rest) a w):wpList P ops Q (o :: rest) a w:=by
 obtain ⟨d,op,t,p,af,gd⟩:=o;have h2:Region.wanted ⟨d,op,t,p,af,none⟩ (yielded ops a.tmps)=true:=by simp [Region.wanted]
 simp only [wpList] at h ⊢;rw [if_pos hw];rw [if_pos h2] at h;exact h
def Gs (p:dL × da):bT:={ cM with evs:=[p.2] }
theorem BJ (A:Option Addr) (p:dL × da):Tryz.prog.built 40 [(4,.slice A 1 1)]=some (ar (xW A) (Gs p)).toArray:=by kernel_rfl
theorem EU (A:Option Addr) (w:World) (B:Nat) (p:dL × da) (h:RW eJ 42 w B A [p]) (hp:(BS w B p.1.f p.2.act.frame∧BS w B p.1.o p.2.o.out)∧(p.2.act.frame.length≤p.1.cf∧p.1.cf≤maxLen)∧aB p.2):gE w B (xW A) [p] (Gs p) where
 vs:=fun hn=>absurd hn (Nat.lt_irrefl 0)
 cv:=⟨Nat.le_refl _,Nat.zero_le _⟩
 st:=⟨RW.nil _ _ _,RW.nil _ _ _,RW.nil _ _ _⟩
 cb:=⟨Nat.le_refl _,Nat.zero_le _⟩
 ch:=⟨Nat.le_refl _,Nat.zero_le _⟩
 cf:=⟨Nat.le_refl _,Nat.zero_le _⟩
 sh:=⟨gW,gX,fun e he=>by
  obtain rfl:e=p.2:=by simpa [Gs] using he
  exact hp.2.2⟩
 ev:=rfl
 evs:=h
 ce:=⟨Nat.le_refl _,show 1≤maxLen by decide⟩
 fr:=fun q hq=>by
  obtain rfl:q=p:=by simpa using hq
  exact hp.1
 fc:=fun q hq=>by
  obtain rfl:q=p:=by simpa using hq
  exact hp.2.1
end Go.Proofs.YtaafkokfdgfabaaGreat
namespace Go.Proofs.YtaafkokfdgfabaaGreat
open Go.RowKit
set_option linter.unusedVariables false
set_option linter.unusedSimpArgs false
set_option maxRecDepth 100000 in
theorem rH (w:World) (x:jM) (xs:List (dL × da)) (s:bT) (h0:gE w w.heap.size x xs s) (p:dL × da) (hp:(BS w w.heap.size p.1.f p.2.act.frame∧BS w w.heap.size p.1.o p.2.o.out)∧(p.2.act.frame.length≤p.1.cf∧p.1.cf≤maxLen)∧aB p.2) (A:Option Addr) (n c:Nat) (l:List UInt8) (hn:n=l.length) (hc:n≤c) (hm:n≤maxLen) (hl:BS w w.heap.size A l) :
  Calls Tryz.prog 6 #[.agg (ar x s).toArray,.agg (eJ p).toArray,.slice A n c] w fun e w'=>e=.returned (.bool true)∧Below w.heap.size w w':=by
 obtain ⟨i0,hi0,hz0,hz1,hz2⟩:=info_parts cC;obtain ⟨W1,W,HW1,HW,Hs1,HX,HE,HB⟩:=k7 w 40 65 (ar x s).toArray (eJ p).toArray;have HR:=Lib.hid (h0.on HB.out);have HF:Hid (∀ u,Below W.heap.size W u→BS u u.heap.size p.1.f p.2.act.frame∧BS u u.heap.size p.1.o p.2.o.out):=fun u hu=>⟨(hp.1.1.on HB.out).on hu,(hp.1.2.on HB.out).on hu⟩
 have HL:=Lib.hid (hl.on HB.out);have HE0:=Lib.hid HE.out;have Hpc:=Lib.hid hp.2.1;have Hps:=Lib.hid hp.2.2;have Hsz:=Lib.hid (dl (x:=x) h0.sh);have Hze:=Lib.hid (jL (p:=p) hp.2.2);have HV:Hid (Below W.heap.size W W):=Below.refl _ _;have Hn:=Lib.hid hn;clear h0 hp hl hn hm;go_enter Tryz.func6,Tryz.ntmps6
 go_upto_region 1 with fail
 rw [←HW1.out,←HW.out]
 go_wp2_with fail
 refine (ir W).mono ?_;rintro e w1 ⟨rfl,B⟩;replace HV:=Lib.hid (HV.out.trans B);replace HX:=Lib.hid (HX.out.below B HX.out.lt);replace HE:=Lib.hid (HE.out.below B HE.out.lt);replace HR:=Lib.hid (HR.out.on B);clear B HW1 HW Hs1;have R1:=Lib.hid (ae HX.out)
 go_wp2_with ((with_reducible refine aE 40 ?_);refine aa (by rfl) 40 (.tmp 3) rfl w.heap.size 0 rfl (ar x s) _ R1.out az rfl Hsz.out ?_)
 refine (mI HR.out).mono ?_;rintro e w2 ⟨rfl,B⟩;replace HV:=Lib.hid (HV.out.trans (B.mono HV.out.size));replace HX:=Lib.hid (HX.out.below B HX.out.lt);replace HE:=Lib.hid (HE.out.below B HE.out.lt);replace HR:=Lib.hid (HR.out.on B);clear B R1;rcases hf:mX s with _ | _
 ·clear hf
  go_wp2_with fail
  refine (ir w2).mono ?_;rintro e w3 ⟨rfl,B⟩;replace HV:=Lib.hid (HV.out.trans (B.mono HV.out.size));clear B
  go_wp2
  go_ret
  exact ⟨rfl,HB.out.trans (HV.out.mono HB.out.size)⟩
 obtain ⟨hin,hnn,_⟩:=HR.out.few hf;have H1:Hid (Bx w2 w.heap.size x xs s):=⟨HX.out,hin⟩
 have Hnn:=Lib.hid hnn;have Hsh:=Lib.hid hin.sh;clear hf hin hnn HX HR;obtain ⟨w3,hw3⟩:∃ u,u=w2.alloc (.cells (eJ p).toArray 65):=⟨_,rfl⟩
 have B3:Hid (ah w3 w2.heap.size 65 (eJ p).toArray):=by rw [hw3];exact ah.new _ _ _ _ rfl
 have L3:Hid (Below w2.heap.size w2 w3):=by rw [hw3];exact (Below.refl _ _).alloc (Nat.le_refl _) _
 have Hw3:=Lib.hid hw3;have RE:=Lib.hid (ae HE.out);clear hw3
 go_wp2_with (first
  | ((with_reducible refine aE 65 ?_);refine aa (by rfl) 65 (.tmp 4) rfl (w.heap.size + 1) 0 rfl (eJ p) _ RE.out dz rfl Hze.out ?_)
  | ((with_reducible refine si 1 ?_);refine sG rfl ?_;refine fF rfl 38 65 (.tmp 26) rfl (eJ p) rfl Tryz.underlying38 Hze.out (by kernel_rfl) (by rw [ex Hps.out];decide) (by rw [ex Hps.out];decide) ?_;rw [←Hw3.out])
  | ((with_reducible refine vL 40 ?_);refine sG rfl ?_;refine iq rfl 40 _ rfl _ _ (BJ (some ⟨w2.heap.size,0,none⟩) p) rfl ?_))
 replace HV:=Lib.hid (HV.out.trans (L3.out.mono HV.out.size));replace H1:=Lib.hid (H1.out.on L3.out);replace HE:=Lib.hid (HE.out.below L3.out HE.out.lt);have hraw:gE w3 w3.heap.size (xW (some ⟨w2.heap.size,0,none⟩)) [p] (Gs p):=EU _ _ _ p (fun _=>⟨w2.heap.size,0,rfl,B3.out.lt,fun k v hk=>by
  rcases k with _ | k
  ·simp only [List.getElem?_cons_zero,Option.some.injEq] at hk
   subst hk;exact ae B3.out
  ·simp at hk⟩) ⟨HF.out _ HV.out,Hpc.out,Hps.out⟩
 refine (mI hraw).mono ?_;rintro e w4 ⟨rfl,B⟩;replace HV:=Lib.hid (HV.out.trans (B.mono HV.out.size));replace H1:=Lib.hid (H1.out.on B);replace HE:=Lib.hid (HE.out.below B HE.out.lt);clear B hraw B3 L3 Hw3 RE;obtain ⟨r,hr⟩:∃ r,r=mX (Gs p):=⟨_,rfl⟩
 rw [←hr];clear hr;have hgo:Hid (∀ q:Bool,r=true→(1000:Int)<(n:Int)→True):=fun _ _ _=>trivial
 clear hgo;by_cases hrn:r=true∧n≤1000
 rotate_left
 ·rcases r with _ | _
  ·clear hrn
   go_wp2_with fail
   refine (ir w4).mono ?_;rintro e w5 ⟨rfl,B⟩;replace HV:=Lib.hid (HV.out.trans (B.mono HV.out.size));clear B
   go_wp2
   go_ret
   exact ⟨rfl,HB.out.trans (HV.out.mono HB.out.size)⟩
  ·have hI:(1000:Int)<(n:Int):=by simp at hrn;omega
   clear hrn
   go_wp2_with fail
   refine (ir w4).mono ?_;rintro e w5 ⟨rfl,B⟩;replace HV:=Lib.hid (HV.out.trans (B.mono HV.out.size));clear B
   go_wp2
   go_ret
   exact ⟨rfl,HB.out.trans (HV.out.mono HB.out.size)⟩
 obtain ⟨rfl,hn4⟩:=hrn;have hI:¬ (1000:Int)<(n:Int):=by omega
 have R1:=Lib.hid (ae H1.out.1);rcases hv:i7 s with _ | _
 ·have Hv:=Lib.hid hv
  clear hv
  go_wp2_with ((with_reducible refine aE 40 ?_);refine aa (by rfl) 40 (.tmp 3) rfl w.heap.size 0 rfl (ar x s) _ R1.out az rfl Hsz.out ?_)
  refine (tV H1.out.2 Hv.out).mono ?_;rintro e w5 ⟨rfl,B⟩;replace HV:=Lib.hid (HV.out.trans (B.mono HV.out.size));replace H1:=Lib.hid (H1.out.on B);clear B R1;have R1:=Lib.hid (ae H1.out.1)
  go_wp2_with ((with_reducible refine aE 40 ?_);refine aa (by rfl) 40 (.tmp 3) rfl w.heap.size 0 rfl (ar x s) _ R1.out az rfl Hsz.out ?_)
  refine (jg H1.out.2).mono ?_;rintro e w6 ⟨rfl,B⟩;replace HV:=Lib.hid (HV.out.trans (B.mono HV.out.size));rw [Hv.out];clear B R1 H1
  go_wp2
  go_ret
  exact ⟨rfl,HB.out.trans (HV.out.mono HB.out.size)⟩
 have Hv:=Lib.hid hv;have hle:=yu Hsh.out hv Hnn.out;obtain ⟨P,hP⟩:∃ P,P=bA s:=⟨_,rfl⟩
 obtain ⟨m,hm⟩:∃ n,n=P.length:=⟨_,rfl⟩
 have hrd:=rf Hsh.out hv l;rw [←hP,←hm] at hle hrd;obtain ⟨S,hS⟩:∃ S:bT,S={ s with evs:=s.evs.map fG ++ (dU l).1 }:=⟨_,rfl⟩
 obtain ⟨q,hq⟩:∃ q,q=m + (dU l).2.1:=⟨_,rfl⟩
 obtain ⟨f,hf⟩:∃ f,f=(dU l).2.2:=⟨_,rfl⟩
 rw [←hS,←hq,←hf] at hrd;have hqm:(m:Int)≤(q:Int):=by omega
 have HSe:Hid (S.evs.take s.evs.length=s.evs.map fG∧s.evs.length≤S.evs.length∧{ S with evs:=S.evs.take s.evs.length }=lC s):=by
  have e:S.evs.take s.evs.length=s.evs.map fG:=by rw [hS];exact List.take_left' (by simp)
  refine ⟨e,by rw [hS];simp,?_⟩;rw [e,hS];rfl
 have HP:=Lib.hid hP;have HM:=Lib.hid hm;have Hrd:=Lib.hid hrd;clear hv hP hm hS hq hf hrd
 go_wp2_with ((with_reducible refine aE 40 ?_);refine aa (by rfl) 40 (.tmp 3) rfl w.heap.size 0 rfl (ar x s) _ R1.out az rfl Hsz.out ?_)
 refine (oN H1.out.2 Hv.out P HP.out m HM.out).mono ?_;rintro e w5 ⟨A5,c5,rfl,hbs,hc5,B⟩;replace HV:=Lib.hid (HV.out.trans (B.mono HV.out.size));replace H1:=Lib.hid (H1.out.on B);have HP5:=Lib.hid hbs;have HL5:=Lib.hid (HL.out.on HV.out);clear B R1 hbs;have hlP:n + m≤11005100:=by omega
 go_upto_region 7 with (first
  | (at_builtin;refine av _ rfl _ _ 43 rfl w5.heap.size 5 i0 (.int .u8 0) 1 Tryz.underlying43 hi0 hz0 hz1 hz2 rfl (.slice (some ⟨w5.heap.size,0,none⟩) 0 0) [] rfl (nH _ _ _ (Nat.le_refl _) _ rfl) w5.heap.size A5 m c5 P rfl HM.out (HP5.out.alloc (Nat.le_refl _) _) (by rw [←HM.out];simp [maxLen];omega) (by rw [←HM.out];simp;omega) (by simp) ?_;intro A6 c6 w6 hown6 hg6 _;have hb6:Below w5.heap.size w5 w6:=((Below.refl _ _).alloc (Nat.le_refl _) _).grown hg6 (by simp) (by intro k hk;simp [Value.ownBlock] at hk;omega))
  | (at_builtin;refine av _ rfl _ _ 43 rfl w5.heap.size 5 i0 (.int .u8 0) 1 Tryz.underlying43 hi0 hz0 hz1 hz2 rfl (.slice A6 ([] ++ P).length c6) ([] ++ P) rfl hown6 w5.heap.size A n c l rfl Hn.out (HL5.out.below hb6) (by rw [List.nil_append,←HM.out,←Hn.out];simp [maxLen];omega) (by rw [List.nil_append,←HM.out,←Hn.out];simp;omega) hb6.size ?_;intro A7 c7 w7 hown7 hg7 _;have hb7:Below w5.heap.size w5 w7:=hb6.grown hg7 hb6.size (fun k hk=>(hown6.lt k hk).1)))
 simp only [List.nil_append] at hown7;have HQ7:Hid (BS w7 w7.heap.size A7 (P ++ l)):=(BS.of_own hown7).1;have hc7:P.length + l.length≤c7:=by have:=gI hown7;simpa using this
 have hsum:P.length + l.length≤15000000:=by rw [←HM.out,←Hn.out];omega
 replace HV:=Lib.hid (HV.out.trans (hb7.mono HV.out.size));replace H1:=Lib.hid (H1.out.on hb7);have HP7:=Lib.hid (HP5.out.on hb7);clear hown6 hg6 hb6 hown7 hg7 hb7 HL5 HP5;refine (oK A7 (P.length + l.length) c7 (P ++ l) w7 (by simp) HQ7.out hsum hc7 S q f q f Hrd.out rfl rfl).mono ?_;rintro e w8 ⟨x8,xs8,rfl,hin,B⟩;have HSs:=Lib.hid hin.sh;have HI8:=Lib.hid hin;obtain ⟨u9,v9,U9,V9,T9,L9,X9⟩:=lL w8 x8 S HSs.out;have H9:=Lib.hid (X9.out _ hin);replace HV:=Lib.hid (HV.out.trans (B.mono HV.out.size));replace H1:=Lib.hid (H1.out.on B);have HP8:=Lib.hid (HP7.out.on B);clear hin B X9 HQ7 HP7 hc7 hsum Hrd;go_upto_region 7 with (first
  | (rw [←U9.out];(with_reducible refine aM 40 ?_);refine wpList_store_mid rfl 40 (.tmp 9) (.tmp 55) rfl w8.heap.size 0 (ar x8 S).toArray rfl rfl T9.out (gH HSs.out) (cQ _ _) ?_))
 rw [←V9.out];have H19:=Lib.hid (H1.out.on L9.out);obtain ⟨N,hN⟩:∃ N,N=s.evs.length:=⟨_,rfl⟩
 obtain ⟨k9,hk9⟩:∃ N,N=S.evs.length:=⟨_,rfl⟩
 have c9:v9.cell? ⟨w8.heap.size,73,none⟩=some (.slice x8.e k9 x8.ce):=by rw [hk9];exact ip HSs.out H9.out.1
 have c1:v9.cell? ⟨w.heap.size,73,none⟩=some (.slice x.e N x.ce):=by rw [hN];exact ip Hsh.out H19.out.1
 have f9:v9.frozen? ⟨w8.heap.size,73,none⟩=false:=H9.out.1.frozen 73;have hNk:N≤k9:=by rw [hN,hk9];exact HSe.out.2.1
 have hkc:k9≤x8.ce:=by rw [hk9];exact HI8.out.ce.1
 have hN5:N≤50:=by rw [hN];exact Hnn.out
 have hNkI:¬ (k9:Int)<(N:Int):=by omega
 have hNcI:(N:Int)≤(x8.ce:Int):=by omega
 have hqmI:¬ (q:Int)<(m:Int):=by omega
 obtain ⟨v10,hv10⟩:∃ v,v=v9.setCell ⟨w8.heap.size,73,none⟩ (.slice x8.e N x8.ce):=⟨_,rfl⟩
 have HB10:Hid (Below w8.heap.size w8 v10):=by rw [hv10];exact L9.out.setCell (Nat.le_refl _) _
 have H9b:Hid (ah v10 w8.heap.size 40 (ar x8 (lC s)).toArray):=by
  rw [hv10,←HSe.out.2.2];exact nE HSs.out H9.out.1 x8.e x8.ce (S.evs.take s.evs.length) N (by rw [HSe.out.1,List.length_map,hN])
 have H9i:Hid (eF v10 v10.heap.size x8 (xs8.take s.evs.length) (lC s)):=by
  have:=(HI8.out.take s.evs.length HSe.out.2.1).on HB10.out;rwa [HSe.out.2.2] at this
 have Hv10:=Lib.hid hv10;have HNs:=Lib.hid hN;clear hN hk9 hv10 H19 H9 HI8 U9 V9 T9 L9;go_upto_region 10 with fail
 rw [←Hv10.out];replace HV:=Lib.hid (HV.out.trans (HB10.out.mono HV.out.size));replace H1:=Lib.hid (H1.out.on HB10.out);have HP10:=Lib.hid (HP8.out.on HB10.out);have He:Hid (eV (lC s) s=true):=j8 s s.evs;have l9:w8.heap.size<v10.heap.size:=H9b.out.lt;have l1:w.heap.size<v10.heap.size:=H1.out.1.lt;have Hszn:Hid ((Tryz.prog.info? 40).map (·.size)=some (ar x8 (lC s)).length):=dl H9i.out.sh;clear c9 c1 f9 Hv10 HSe HP8 hNk hkc hNkI hNcI hqmI HSs;refine Sd.plain ?_
 try simp only [Act.put]
 repeat ((first | refine sl (ae H9b.out) l9 az Hszn.out ?_ | refine sl (ae H1.out.1) l1 az Hsz.out ?_ | refine cl (fun u hu=>sE (H9i.out.on hu) (H1.out.on hu).2 He.out) ?_ | refine pt ?_);simp only [ld,lg,lf,Nat.reduceAdd,Bool.not_true])
 refine Sd.done fun w11 hb11=>?_
 replace HV:=Lib.hid (HV.out.trans (hb11.mono HV.out.size));replace H1:=Lib.hid (H1.out.on hb11);have HP11:=Lib.hid (HP10.out.on hb11);clear hb11 HP10 H9b H9i He l9 l1 Hszn HB10;have HE11:Hid (ah w11 (w.heap.size + 1) 65 (eJ p).toArray):=HE0.out.below HV.out HE0.out.lt;have RE:=Lib.hid (ae HE11.out);have hfr:=(HF.out _ HV.out).1;have Hfr:=Lib.hid hfr;clear hfr;rcases hpr:aL p.2 with _ | _
 ·have Hpr:=Lib.hid hpr
  clear hpr
  go_wp2_with ((with_reducible refine aE 65 ?_);refine aa (by rfl) 65 (.tmp 4) rfl (w.heap.size + 1) 0 rfl (eJ p) _ RE.out dz rfl Hze.out ?_)
  refine (jh p Hps.out w11 Hfr.out).mono ?_;rintro e w12 ⟨B,hno,_⟩;obtain rfl:=hno Hpr.out;replace HV:=Lib.hid (HV.out.trans (B.mono HV.out.size));clear B hno
  go_wp2
  go_ret
  exact ⟨rfl,HB.out.trans (HV.out.mono HB.out.size)⟩
 have hrl:=kN Hps.out hpr;have hrd:=ET Hsh.out Hv.out Hps.out hpr;obtain ⟨R,hR⟩:∃ R,R=bC p.2:=⟨_,rfl⟩
 obtain ⟨nr,hnr⟩:∃ n,n=R.length:=⟨_,rfl⟩
 obtain ⟨S2,hS2⟩:∃ S:bT,S={ s with evs:=(s.evs ++ [p.2]).map fG }:=⟨_,rfl⟩
 rw [←HP.out,←HM.out,←hR,←hnr,←hS2] at hrd;rw [←hR,←hnr] at hrl;have He2:Hid (eV S2 { s with evs:=s.evs ++ [p.2] }=true):=by show _=_;rw [hS2];exact j8 s (s.evs ++ [p.2])
 have Hpr:=Lib.hid hpr;have HR:=Lib.hid hR;have Hnr:=Lib.hid hnr;have Hrd2:=Lib.hid hrd;clear hpr hR hnr hS2 hrd
 go_wp2_with ((with_reducible refine aE 65 ?_);refine aa (by rfl) 65 (.tmp 4) rfl (w.heap.size + 1) 0 rfl (eJ p) _ RE.out dz rfl Hze.out ?_)
 refine (rk p Hps.out Hfr.out Hpr.out nr R HR.out Hnr.out).mono ?_;rintro e w12 ⟨A12,c12,rfl,hbs,hc12,B⟩;replace HV:=Lib.hid (HV.out.trans (B.mono HV.out.size));replace H1:=Lib.hid (H1.out.on B);have HP12:=Lib.hid (HP11.out.on B);have HR12:=Lib.hid hbs;clear B hbs RE HP11 HE11 Hfr;go_upto_region 16 with (first
  | (at_builtin;refine av _ rfl _ _ 43 rfl w12.heap.size 5 i0 (.int .u8 0) 1 Tryz.underlying43 hi0 hz0 hz1 hz2 rfl (.slice (some ⟨w12.heap.size,0,none⟩) 0 0) [] rfl (nH _ _ _ (Nat.le_refl _) _ rfl) w12.heap.size A5 m c5 P rfl HM.out (HP12.out.alloc (Nat.le_refl _) _) (by rw [←HM.out];simp [maxLen];omega) (by rw [←HM.out];simp;omega) (by simp) ?_;intro A13 c13 w13 hown13 hg13 _;have hb13:Below w12.heap.size w12 w13:=((Below.refl _ _).alloc (Nat.le_refl _) _).grown hg13 (by simp) (by intro k hk;simp [Value.ownBlock] at hk;omega))
  | (at_builtin;refine av _ rfl _ _ 43 rfl w12.heap.size 5 i0 (.int .u8 0) 1 Tryz.underlying43 hi0 hz0 hz1 hz2 rfl (.slice A13 ([] ++ P).length c13) ([] ++ P) rfl hown13 w12.heap.size A12 nr c12 R rfl Hnr.out (HR12.out.below hb13) (by rw [List.nil_append,←HM.out,←Hnr.out];simp [maxLen];omega) (by rw [List.nil_append,←HM.out,←Hnr.out];simp;omega) hb13.size ?_;intro A14 c14 w14 hown14 hg14 _;have hb14:Below w12.heap.size w12 w14:=hb13.grown hg14 hb13.size (fun k hk=>(hown13.lt k hk).1)))
 simp only [List.nil_append] at hown14;have HQ14:Hid (BS w14 w14.heap.size A14 (P ++ R)):=(BS.of_own hown14).1;have hc14:P.length + R.length≤c14:=by have:=gI hown14;simpa using this
 have hsum:P.length + R.length≤15000000:=by rw [←HM.out,←Hnr.out];omega
 replace HV:=Lib.hid (HV.out.trans (hb14.mono HV.out.size));replace H1:=Lib.hid (H1.out.on hb14);clear hown13 hg13 hb13 hown14 hg14 hb14 HP12 HR12;refine (oK A14 (P.length + R.length) c14 (P ++ R) w14 (by simp) HQ14.out hsum hc14 S2 (m + nr) 0 ((m:Int) + (nr:Int)) 0 Hrd2.out (by omega) rfl).mono ?_;rintro e w15 ⟨x15,xs15,rfl,hin,B⟩;have HS2:=Lib.hid hin.sh;obtain ⟨u16,v16,U16,V16,T16,L16,X16⟩:=lL w15 x15 S2 HS2.out;have H16:=Lib.hid (X16.out _ hin);have hB:=B.trans (L16.out.mono B.size);replace HV:=Lib.hid (HV.out.trans (hB.mono HV.out.size));replace H1:=Lib.hid (H1.out.on hB);clear hin B hB X16 HQ14 hc14 hsum Hrd2;go_upto_region 16 with (first
  | (rw [←U16.out];(with_reducible refine aM 40 ?_);refine wpList_store_mid rfl 40 (.tmp 14) (.tmp 103) rfl w15.heap.size 0 (ar x15 S2).toArray rfl rfl T16.out (gH HS2.out) (cQ _ _) ?_))
 rw [←V16.out];clear U16 V16 T16 L16;obtain ⟨u17,v17,U17,V17,T17,L17,X17⟩:=lL v16 x s Hsh.out;have H17:=Lib.hid (X17.out xs H1.out.2);have R1:=Lib.hid (ae H1.out.1);have HI16:=Lib.hid H1.out.2;have H1v:=Lib.hid (H1.out.on L17.out);have H16v:=Lib.hid (H16.out.on L17.out);go_upto_region 17 with (first
  | ((with_reducible refine aE 40 ?_);refine aa (by rfl) 40 (.tmp 3) rfl w.heap.size 0 rfl (ar x s) _ R1.out az rfl Hsz.out ?_)
  | (rw [←U17.out];(with_reducible refine aM 40 ?_);refine wpList_store_mid rfl 40 (.tmp 17) (.tmp 106) rfl v16.heap.size 0 (ar x s).toArray rfl rfl T17.out (gH Hsh.out) (cQ _ _) ?_))
 rw [←V17.out];clear U17 V17 T17 X17 R1;obtain ⟨z0,zz,hz0',hzz,hzs,hzb,hzc⟩:=DP;obtain ⟨N,hN⟩:∃ N,N=s.evs.length:=⟨_,rfl⟩
 have hNx:N=xs.length:=by rw [hN,H1.out.2.ev,List.length_map]
 have hN5:N≤50:=by rw [hN];exact Hnn.out
 have c1:v16.cell? ⟨w.heap.size,73,none⟩=some (.slice x.e N x.ce):=by rw [hN];exact ip Hsh.out H1.out.1
 have c7:v17.cell? ⟨v16.heap.size,73,none⟩=some (.slice x.e N x.ce):=by rw [hN];exact ip Hsh.out H17.out.1
 have HE16:Hid (ah v16 (w.heap.size + 1) 65 (eJ p).toArray):=HE0.out.below HV.out HE0.out.lt;have RE:=Lib.hid (ae HE16.out);have le:w.heap.size + 1<v16.heap.size:=HE16.out.lt;have l1:w.heap.size<v16.heap.size:=H1.out.1.lt;have l7:v16.heap.size<v17.heap.size:=H17.out.1.lt;have Hok:Hid (∀ q ∈ xs,(eJ q).length=42∧(eJ q).toArray.all (·.oneCell')=true):=fun q hq=>⟨ex (H1v.out.2.shp hq),mF q⟩
 have Hrow:=Lib.hid H1v.out.2.evs;have HNx:=Lib.hid hNx;have HS:Hid (∀ u,Below v17.heap.size v17 u→SB v16 u):=fun u hu=>L17.out.trans (hu.mono L17.out.size)
 have HNs:=Lib.hid hN;clear hN hNx;refine Wh.start' L17.out fun hS=>?_
 try simp only [Act.put]
 have hH:Below v17.heap.size v17 v17.drew:=(Below.refl _ _).drew;refine tw 1 hS ?_;simp only [ld,lg,lf];refine tw 2 hS ?_;simp only [ld,lg,lf];refine lw 4 hS (yieldsIf_load_mid rfl 65 (.tmp 4) rfl (w.heap.size + 1) 0 rfl (eJ p) _ (fun u hu i c hc=>(dc hu.out _ _ le).trans (RE.out i c hc)) dz rfl Hze.out) ?_;simp only [ld,lg,lf];have hD:v17.heap.size≤v17.drew.heap.size:=hH.size;clear hS;refine Gb 0 5 (On.val (w':=v17.drew.alloc (.cells #[] 65)) (fun u hu=>by rw [hu];exact HS.out _ (hH.alloc hH.size _)) (fun hA=>?_) (hrun:=by go_simp;first | exact rfl | exact ⟨rfl,rfl⟩)) (On.val (w':=v17.drew.alloc (.cells (eJ p).toArray 65)) (fun u hu=>by rw [hu];exact HS.out _ (hH.alloc hH.size _)) (fun hA=>?_) (hrun:=nF _ 38 65 (.tmp 111) rfl (eJ p) rfl Tryz.underlying38 Hze.out (by kernel_rfl) (by rw [ex Hps.out];decide) (by rw [ex Hps.out];decide)));obtain ⟨y0,hy0⟩:∃ y,y=v17.drew.alloc (.cells #[] 65):=⟨_,rfl⟩
 have ho0:y0.ownsRow v17.heap.size 65 42 (.slice (some ⟨v17.drew.heap.size,0,none⟩) 0 0) 0 []:=by rw [hy0];exact World.ownsRow_lit v17.drew #[] 0 hD (by unfold maxLen;omega) (by simp)
 have hY0:Below v17.heap.size v17 y0:=by rw [hy0];exact hH.alloc hD _
 rw [←hy0];clear hy0 hA;simp only [ld,lg,lf];refine Gb 3 5 (On.op fun K hK=>iu _ _ 38 rfl v17.heap.size 65 z0 zz z0.bytes Tryz.underlying38 hz0' hzz hzs rfl hzc (by decide) (.slice (some ⟨v17.drew.heap.size,0,none⟩) 0 0) 0 [] rfl ho0 _ x.e N x.ce xs rfl HNx.out (Hrow.out.below hY0) Hok.out (by rw [←HNx.out];unfold maxLen;omega) (Nat.le_trans (Nat.mul_le_mul (by rw [←HNx.out];omega:0 + xs.length≤50) hzb) (by decide)) hY0.size fun A3 c3 y3 ho3 hg3=>hK.out _ _ (HS.out _ (hY0.grown hg3 hY0.size (fun k hk=>(ho0.lt k hk).1))) fun hA3=>?_) (On.val (w':=y0.alloc (.cells (eJ p).toArray 65)) (fun u hu=>by rw [hu];exact HS.out _ (hY0.alloc hY0.size _)) (fun hA=>?_) (hrun:=nF _ 38 65 (.tmp 111) rfl (eJ p) rfl Tryz.underlying38 Hze.out (by kernel_rfl) (by rw [ex Hps.out];decide) (by rw [ex Hps.out];decide)));have hY3:=hY0.grown hg3 hY0.size (fun k hk=>(ho0.lt k hk).1);simp only [ld,lg,lf];refine one 5 (On.val (w':=y3.alloc (.cells (eJ p).toArray 65)) (fun u hu=>by rw [hu];exact HS.out _ (hY3.alloc hY3.size _)) (fun hA=>?_) (hrun:=nF _ 38 65 (.tmp 111) rfl (eJ p) rfl Tryz.underlying38 Hze.out (by kernel_rfl) (by rw [ex Hps.out];decide) (by rw [ex Hps.out];decide)));obtain ⟨y,hy⟩:∃ y,y=y3.alloc (.cells (eJ p).toArray 65):=⟨_,rfl⟩
 have h5:ah y y3.heap.size 65 (eJ p).toArray:=by rw [hy];exact ah.new _ _ _ _ rfl
 have hY:Below v17.heap.size v17 y:=by rw [hy];exact hY3.alloc hY3.size _
 have ho:y.ownsRow v17.heap.size 65 42 (.slice A3 (0 + xs.length) c3) (0 + xs.length) ([] ++ cA eJ xs):=by rw [hy];exact ay ho3 ((Below.refl _ _).alloc (Nat.le_refl _) _)
 rw [←hy];clear hy hA hA3 ho3 hg3 hY3 ho0 hY0;simp only [ld,lg,lf];obtain ⟨B5,hB5⟩:∃ b,b=y3.heap.size:=⟨_,rfl⟩
 rw [←hB5] at h5 ⊢;clear hB5;rotate_left
 obtain ⟨y5,hy5⟩:∃ y,y=y0.alloc (.cells (eJ p).toArray 65):=⟨_,rfl⟩
 have h5':ah y5 y0.heap.size 65 (eJ p).toArray:=by rw [hy5];exact ah.new _ _ _ _ rfl
 have hY5:Below v17.heap.size v17 y5:=by rw [hy5];exact hY0.alloc hY0.size _
 have hne:y0.heap.size≠v17.drew.heap.size:=by have:=(ho0.lt v17.drew.heap.size rfl).2;omega
 have ho5:y5.ownsRow v17.heap.size 65 42 (.slice (some ⟨v17.drew.heap.size,0,none⟩) 0 0) 0 []:=by rw [hy5];exact ay ho0 ((Below.refl _ _).alloc (Nat.le_refl _) _)
 rw [←hy5];clear hy5 hA;simp only [ld,lg,lf];refine one 3 (On.op fun K hK=>iu _ _ 38 rfl v17.heap.size 65 z0 zz z0.bytes Tryz.underlying38 hz0' hzz hzs rfl hzc (by decide) (.slice (some ⟨v17.drew.heap.size,0,none⟩) 0 0) 0 [] rfl ho5 _ x.e N x.ce xs rfl HNx.out (Hrow.out.below hY5) Hok.out (by rw [←HNx.out];unfold maxLen;omega) (Nat.le_trans (Nat.mul_le_mul (by rw [←HNx.out];omega:0 + xs.length≤50) hzb) (by decide)) hY5.size fun A3 c3 y3 ho3 hg3=>hK.out _ _ (HS.out _ (hY5.grown hg3 hY5.size (fun k hk=>(ho5.lt k hk).1))) fun hA3=>?_);have h5:ah y3 y0.heap.size 65 (eJ p).toArray:=h5'.grown hg3 (by simpa [Value.ownBlock] using hne);have hY:=hY5.grown hg3 hY5.size (fun k hk=>(ho5.lt k hk).1);have ho:=ho3;obtain ⟨y,hy⟩:∃ y,y=y3:=⟨_,rfl⟩
 subst hy;simp only [ld,lg,lf];obtain ⟨B5,hB5⟩:∃ b,b=y0.heap.size:=⟨_,rfl⟩
 rw [←hB5] at h5 ⊢;clear hB5;rotate_left
 obtain ⟨y5,hy5⟩:∃ y,y=v17.drew.alloc (.cells (eJ p).toArray 65):=⟨_,rfl⟩
 have h5':ah y5 v17.drew.heap.size 65 (eJ p).toArray:=by rw [hy5];exact ah.new _ _ _ _ rfl
 have hY5:Below v17.heap.size v17 y5:=by rw [hy5];exact hH.alloc hD _
 rw [←hy5];clear hy5 hA;simp only [ld,lg,lf];refine one 0 (On.val (w':=y5.alloc (.cells #[] 65)) (fun u hu=>by rw [hu];exact HS.out _ (hY5.alloc hY5.size _)) (fun hA=>?_) (hrun:=by go_simp;first | exact rfl | exact ⟨rfl,rfl⟩));obtain ⟨y0,hy0⟩:∃ y,y=y5.alloc (.cells #[] 65):=⟨_,rfl⟩
 have ho0:y0.ownsRow v17.heap.size 65 42 (.slice (some ⟨y5.heap.size,0,none⟩) 0 0) 0 []:=by rw [hy0];exact World.ownsRow_lit y5 #[] 0 hY5.size (by unfold maxLen;omega) (by simp)
 have hY0:Below v17.heap.size v17 y0:=by rw [hy0];exact hY5.alloc hY5.size _
 have h5'':ah y0 v17.drew.heap.size 65 (eJ p).toArray:=by rw [hy0];exact h5'.alloc _
 rw [←hy0];have hne:v17.drew.heap.size≠y5.heap.size:=Nat.ne_of_lt h5'.lt;clear hy0 hA;simp only [ld,lg,lf];refine one 3 (On.op fun K hK=>iu _ _ 38 rfl v17.heap.size 65 z0 zz z0.bytes Tryz.underlying38 hz0' hzz hzs rfl hzc (by decide) (.slice (some ⟨y5.heap.size,0,none⟩) 0 0) 0 [] rfl ho0 _ x.e N x.ce xs rfl HNx.out (Hrow.out.below hY0) Hok.out (by rw [←HNx.out];unfold maxLen;omega) (Nat.le_trans (Nat.mul_le_mul (by rw [←HNx.out];omega:0 + xs.length≤50) hzb) (by decide)) hY0.size fun A3 c3 y3 ho3 hg3=>hK.out _ _ (HS.out _ (hY0.grown hg3 hY0.size (fun k hk=>(ho0.lt k hk).1))) fun hA3=>?_);have h5:ah y3 v17.drew.heap.size 65 (eJ p).toArray:=h5''.grown hg3 (by simpa [Value.ownBlock] using hne);have hY:=hY0.grown hg3 hY0.size (fun k hk=>(ho0.lt k hk).1);have ho:=ho3;obtain ⟨y,hy⟩:∃ y,y=y3:=⟨_,rfl⟩
 subst hy;simp only [ld,lg,lf];obtain ⟨B5,hB5⟩:∃ b,b=v17.drew.heap.size:=⟨_,rfl⟩
 rw [←hB5] at h5 ⊢;clear hB5;rotate_left
 all_goals
  have hR5:RW eJ 42 y y.heap.size (some ⟨B5,0,none⟩) [p]:=fun _=>⟨B5,0,rfl,h5.lt,fun k v hk=>by
   rcases k with _ | k
   ·simp only [List.getElem?_cons_zero,Option.some.injEq] at hk
    subst hk;exact ae h5
   ·simp at hk⟩
  have hok1:∀ q ∈ [p],(eJ q).length=42∧(eJ q).toArray.all (·.oneCell')=true:=fun q hq=>by
   obtain rfl:q=p:=by simpa using hq
   exact ⟨ex Hps.out,mF _⟩
  refine one 6 (On.op fun K hK=>iu _ _ 38 rfl v17.heap.size 65 z0 zz z0.bytes Tryz.underlying38 hz0' hzz hzs rfl hzc (by decide) (.slice A3 (0 + xs.length) c3) (0 + xs.length) ([] ++ cA eJ xs) rfl ho _ (some ⟨B5,0,none⟩) 1 1 [p] rfl rfl hR5 hok1 (by rw [←HNx.out];simp [maxLen];omega) (Nat.le_trans (Nat.mul_le_mul (by rw [←HNx.out];simp;omega:0 + xs.length + [p].length≤51) hzb) (by decide)) hY.size fun A6 c6 y6 ho6 hg6=>hK.out _ _ (HS.out _ (hY.grown hg6 hY.size (fun k hk=>(ho.lt k hk).1))) fun hA6=>?_);have hY6:=hY.grown hg6 hY.size (fun k hk=>(ho.lt k hk).1);simp only [ld,lg,lf];refine tw 7 hA6 ?_;simp only [ld,lg,lf];obtain ⟨n6,hn6⟩:∃ n,n=0 + xs.length + [p].length:=⟨_,rfl⟩
  rw [←hn6] at ho6 ⊢;have s7:y6.cell? ⟨v16.heap.size,73,none⟩=some (.slice x.e N x.ce):=(dc hY6 _ _ l7).trans c7;have H17y:=Lib.hid (H17.out.1.below hY6 l7);have f7:y6.frozen? ⟨v16.heap.size,73,none⟩=false:=H17y.out.frozen 73;obtain ⟨y7,hy7⟩:∃ u,u=y6.setCell ⟨v16.heap.size,73,none⟩ (.slice A6 n6 c6):=⟨_,rfl⟩
  have hA7:SB v16 y7:=by rw [hy7];exact hA6.out.setCell (Nat.le_refl _) _
  clear hK K;refine one 8 (On.st (w':=y7) hA7 (fun hA7=>?_) (hrun:=by rw [hy7];go_simp;try exact rfl));refine Wh.done ?_;have HA7:Hid (Below v16.heap.size v16 y7):=hA7.out;have HV7:=Lib.hid (HV.out.trans (HA7.out.mono HV.out.size));have hln:n6=(xs ++ [p]).length:=by rw [hn6];simp
  have hn6':n6≤1000000:=by rw [hn6,←HNx.out];simp;omega
  have ho7:y7.ownsRow v17.heap.size 65 42 (.slice A6 n6 c6) n6 (cA eJ (xs ++ [p])):=by
   have:=ho6.kept (show y6.grownBy y7 (some v16.heap.size) by rw [hy7];exact aV _ _ _) (aK ho6 H17y.out (by decide));rwa [show [] ++ cA eJ xs ++ cA eJ [p]=cA eJ (xs ++ [p]) by simp [cA]] at this
  have HI7:=Lib.hid ((H1.out.2.on HA7.out).snoc p Hps.out (HF.out _ HV7.out) ho7 hln hn6');have HW7:Hid (ah y7 v16.heap.size 40 (ar { x with e:=A6,ce:=c6 } { s with evs:=s.evs ++ [p.2] }).toArray):=by
   rw [hy7];exact nE Hsh.out H17y.out A6 c6 (s.evs ++ [p.2]) n6 (by rw [hln,List.length_append,List.length_append,←HNx.out,HNs.out];rfl)
  have H16y:=Lib.hid (H16.out.on HA7.out);have Hszw:Hid ((Tryz.prog.info? 40).map (·.size)=some (ar { x with e:=A6,ce:=c6 } { s with evs:=s.evs ++ [p.2] }).length):=dl HI7.out.sh;have l15:w15.heap.size<y7.heap.size:=H16y.out.1.lt;have hwr:IntKind.i64.wrap ((m:Int) + (nr:Int))=(m:Int) + (nr:Int):=IntWalk.i64_in _ (by omega);have l16:v16.heap.size<y7.heap.size:=HW7.out.lt;clear hy7 ho7 hln hn6' ho6 hg6 s7 f7 hA6 hY6 hR5 hok1 hA7 c1 c7 le l1 l7 hn6 ho h5 hY hH hD;go_upto_region 18 with fail
  refine Sd.plain ?_
  try simp only [Act.put]
  repeat ((first | refine sl (ae H16y.out.1) l15 az (dl HS2.out) ?_ | refine sl (ae HW7.out) l16 az Hszw.out ?_ | refine cl (fun u hu=>sE (H16y.out.on hu).2 (HI7.out.on hu) He2.out) ?_ | refine pt ?_);simp only [ld,lg,lf,Nat.reduceAdd,hwr,beq_self_eq_true,Bool.and_self])
  refine Sd.done fun w19 hb19=>?_
  have HV8:=Lib.hid (HV7.out.trans (hb19.mono HV7.out.size));clear hb19
  go_wp2
  go_ret
  exact ⟨rfl,HB.out.trans (HV8.out.mono HB.out.size)⟩
end Go.Proofs.YtaafkokfdgfabaaGreat
