import Derived.Test.YtaafkokfdgfabaaGreatP13
import Derived.Test.YtaafkokfdgfabaaGreatP19
import Derived.Test.YtaafkokfdgfabaaGreatP21
import Derived.Test.YtaafkokfdgfabaaGreatP31
import Derived.Test.YtaafkokfdgfabaaGreatP33
import Derived.ArgAppend
import Derived.Lib.SlBytesConst
set_option maxHeartbeats 8000000
namespace Go.Proofs.YtaafkokfdgfabaaGreat
open Go.RowKit
set_option linter.unusedVariables false
set_option linter.unusedSimpArgs false
theorem Dy {b:aU} (h:au b) (hf:eT b=true):(aD b).length≤100:=by
 simp only [eT,Bool.and_eq_true] at hf;have h0:=jo hf.2.1;have h1:=a7 (n:=b.name.length) (by omega);have h2:b.addr.2.length=16:=h.addr;have h3:=h.mac;simp only [aD,bI,List.length_append,dd,aw,fK];omega
theorem yn {h:cN} (hr:eE h=true):(aP h).length≤276:=by
 simp only [eE,Bool.and_eq_true,decide_eq_true_eq,bE] at hr;have h1:=a7 (n:=h.name.length) (by omega);have h2:=a7 (n:=h.run.toNat) (by omega);have h3:=dd h.down;simp only [aP,bI,List.length_append];omega
theorem Dz {f:dD} (hk:cg f.key) (hr:eA f=true):(bM f).length≤102:=by
 simp only [eA,Bool.and_eq_true,bE] at hr;have h0:=jo hr.2.1;have h1:=a7 (n:=f.name.length) (by omega);have h2:=a7 (n:=f.state.toNat) (by omega);have h3:=a7 (n:=f.seen.toNat) (by omega);have h4:=a7 (n:=f.no.toNat) (by omega);simp only [bM,bI,List.length_append,kn hk];omega
theorem DA {s:bh} (hs:gG s) (h:fk s=true):(eu s).length≤1000000:=by
 have hR:=oA h;have h1:=eR (enc:=aD) (N:=100) s.pool.backs fun b hb=>Dy (hs.backs b hb) (hR.backs b hb)
 have h2:=eR (enc:=aP) (N:=276) s.healths fun b hb=>yn (hR.healths b hb)
 have h3:=eR (enc:=bM) (N:=102) s.flows fun b hb=>Dz (hs.flows b hb) (hR.flows b hb)
 have h4:=g8 (im s) fun n hn=>by have:=ph hR n hn;omega
 have h5:=qE hs.count;have a1:=hR.bl;have a2:=hR.hl;have a3:=hR.fl;have b1:=a7 (n:=s.pool.backs.length) (by omega);have b2:=a7 (n:=s.healths.length) (by omega);have b3:=a7 (n:=s.flows.length) (by omega);simp only [eu,ed,List.length_append];omega
theorem mf {s:bT} (h:gY s=true):pi s.conf s.st=true∧fk s.st=true∧(0≤s.first∧s.first≤1152921504606846976)∧0≤s.lost∧s.lost≤s.first:=by
 simpa only [gY,Bool.and_eq_true,bE] using h
theorem pq {w:World} {base:Nat} {e:TypeId} {size n:Nat} {v:Value} {xs:List Value} (h:w.ownsRow base e size v n xs):∀ k,v.ownBlock=some k→base≤k∧k<w.heap.size:=by
 rcases h.2 with ⟨rfl,_⟩ | ⟨g,cap,cur,rfl,hb,hh,_⟩
 ·intro k hk;simp [Value.ownBlock] at hk
 ·intro k hk
  obtain rfl:g=k:=by simpa [Value.ownBlock] using hk
  exact ⟨hb,(Array.getElem?_eq_some_iff.1 hh).1⟩
theorem Br {w w':World} {b:Nat} {e:TypeId} {s n:Nat} {v v':Value} {xs:List Value} (h:w.ownsRow b e s v n xs) (hv:∀ k,v'.ownBlock=some k→k<b) (hg:w.grownBy w' v'.ownBlock):w'.ownsRow b e s v n xs:=by
 refine h.kept hg ?_;rcases ho:v.ownBlock with _ | k
 ·exact .inl rfl
 ·refine .inr fun e=>?_
  have:=(pq h k ho).1;have:=hv k e.symm;omega
set_option maxRecDepth 100000 in
theorem j6 {x:jM} {xs:List (dL × da)} {s:bT} {w:World} (h:eF w w.heap.size x xs s) :
  Calls Tryz.prog 12 #[.agg (ar x s).toArray] w (gL w (gY s) (cj s)):=by
 obtain ⟨i0,hi0,hz0,hz1,hz2⟩:=info_parts cC;obtain ⟨W,hW⟩:∃ W,W=w.alloc (.cells (ar x s).toArray 40):=⟨_,rfl⟩
 have HY:Hid (ah W w.heap.size 40 (ar x s).toArray):=by rw [hW];exact ah.new w _ _ _ rfl
 have HB:Hid (Below w.heap.size w W):=by rw [hW];exact (Below.refl _ _).alloc (Nat.le_refl _) _
 have HS:=Lib.hid (h.on HB.out);have HW:=Lib.hid hW;have l1:w.heap.size<W.heap.size:=HY.out.lt;have Hsh:=Lib.hid h.sh;have Hsz:=Lib.hid (dl (x:=x) h.sh);clear hW h;go_enter Tryz.func12,Tryz.ntmps12
 go_upto_region 1 with fail
 rw [←HW.out];clear HW;refine Sd.plain ?_
 repeat ((first | refine sl (ae HY.out) l1 az Hsz.out ?_ | refine cl (fun u hu=>qS (HS.out.on hu)) ?_ | refine pt ?_);simp only [ld,lg,lf,Nat.reduceAdd])
 refine Sd.done fun w2 hb2=>?_
 have Hb2:=Lib.hid hb2;have Hw2:=Lib.hid (HB.out.trans (hb2.mono HB.out.size));clear hb2;rcases hv:gY s with _ | _
 ·have Hv:=Lib.hid hv
  simp only [hv,Bool.not_false];clear hv
  go_wp2
  go_ret2
  unfold gL;rw [Hv.out];exact ⟨Hw2.out,fun _=>rfl,fun h=>(by cases h)⟩
 have Hbr:=Lib.hid hv;simp only [hv,Bool.not_true];obtain ⟨he,hsn,hfst,hlst⟩:=mf hv;have hE:=mC.1 he;have Hrc:=Lib.hid hE.conf;have Hsn:=Lib.hid hsn;obtain ⟨fi,hfi⟩:∃ n:Nat,s.first=(n:Int):=⟨s.first.toNat,by omega⟩
 obtain ⟨lo,hlo⟩:∃ n:Nat,s.lost=(n:Int):=⟨s.lost.toNat,by omega⟩
 have fil:fi≤1152921504606846976:=by omega
 have lol:lo≤1152921504606846976:=by omega
 have Hhd:Hid (bF s=[119,97,121,49] ++ aI fi ++ aI lo ++ bK s.conf):=by
  show _=_
  unfold bF kI;rw [hfi,hlo];simp
 have HY2:=Lib.hid (HY.out.below Hb2.out l1);have HS2:=Lib.hid (HS.out.on Hb2.out);have b0:w2.cell? ⟨w.heap.size,54,none⟩=some (.int .i64 (fi:Int)):=by have:=gB Hsh.out HY2.out 0;rw [this];show some (zv s.first)=_;rw [hfi];rfl
 have Hcl:=Lib.hid (qX Hsh.out.conf hE.conf);have Hsl:=Lib.hid (DA Hsh.out.st hsn);have l2:w.heap.size<w2.heap.size:=HY2.out.lt;have RF:=Lib.hid (kL Hsh.out HY2.out);have Hlo:=Lib.hid hlo;clear hv he hsn hE hfst hlst hfi hlo
 go_wp2_with ((with_reducible refine aE 29 ?_);refine aa (by rfl) 29 (.tmp 15) rfl w.heap.size 0 rfl _ _ RF.out eL rfl (by rw [dH Hsh.out.conf];exact cV) ?_)
 refine (Dv x.v s.conf.vips.length x.cv s.conf Hsh.out.conf w2 rfl HS2.out.cv.1 HS2.out.vs HS2.out.cv.2).mono ?_;rintro e w3 ⟨hb3,hno,hyes⟩;clear hno;obtain ⟨Ac,cc,rfl,hownc⟩:=hyes Hrc.out;obtain ⟨cb,hcb⟩:∃ m,m=bK s.conf:=⟨_,rfl⟩
 rw [←hcb] at hownc Hcl Hhd ⊢;have HC3:=Lib.hid (BS.of_own hownc).1;have HB3:=Lib.hid (Hb2.out.trans (hb3.mono Hb2.out.size));have l3:=Nat.lt_of_lt_of_le l2 hb3.size;have b0:w3.cell? ⟨w.heap.size,54,none⟩=some (.int .i64 (fi:Int)):=(dc hb3 _ _ l2).trans b0;clear hyes hcb hownc hb3 RF Hb2 Hw2;have hnc:(fi:Int)<18446744073709551616:=by omega
 have hncv:IntKind.u64.wrap (fi:Int)=(fi:Int):=IntWalk.u64_in _ (by omega);have kc:=fun (w:World) (C:Array Value) (n c:Nat)=>Lib.run_convert_bytes_const (P:=Tryz.prog) w 43 5 C n c Tryz.underlying43 Tryz.underlying5
 go_wp2_with fail
 clear kc;obtain ⟨W4,hW4⟩:∃ V,V=w3.alloc (.cells #[.int .u8 119,.int .u8 97,.int .u8 121,.int .u8 49] 5 (4,5)):=⟨_,rfl⟩
 rw [←hW4];have hb4:Below w3.heap.size w3 W4:=by rw [hW4];exact (Below.refl _ _).alloc (Nat.le_refl _) _
 have hm4:W4.heap[w3.heap.size]?=some (.cells #[.int .u8 119,.int .u8 97,.int .u8 121,.int .u8 49] 5 (4,5)):=by rw [hW4];exact heap_alloc_new w3 _
 refine (oc fi W4 (by omega)).mono ?_;rintro e w5 ⟨A5,c5,rfl,hown5,hb5⟩;have hm5:w5.heap[w3.heap.size]?=some (.cells #[.int .u8 119,.int .u8 97,.int .u8 121,.int .u8 49] 5 (4,5)):=(hb5.block _ (by rw [hW4];simp)).trans hm4;have hvp:=iP fi;obtain ⟨ad5,rfl,_,hc5⟩:=(BS.of_own hown5).1 hvp;have Hb5:=Lib.hid (hb4.trans (hb5.mono hb4.size));have hvl:=a7 (n:=fi) (by omega);have hbz:w3.heap.size≤w5.heap.size:=Hb5.out.size;have Hc5:Hid (∀ j u,(ab (aI fi))[j]?=some u→w5.cell? (ad5.add j)=some u):=fun j u hj=>by
  rw [ab,List.getElem?_map] at hj;obtain ⟨y,h1,rfl⟩:=Option.map_eq_some_iff.1 hj;exact hc5 j y h1
 have Ho5:Hid (∀ b,(some ⟨w3.heap.size,0,none⟩:Option Addr)=some b→∀ j u,(ab [119,97,121,49])[j]?=some u→w5.cell? (b.add j)=some u):=fun b hb j u hj=>by
  injection hb with hb
  subst hb;rw [show (⟨w3.heap.size,0,none⟩:Addr).add j=⟨w3.heap.size,j,none⟩ by unfold Addr.add;split <;> simp_all,cell_of_row w5 _ j _ _ (4,5) hm5];simpa [ab,rm] using hj
 clear hb4 hown5 hb5 hW4 hm4 hm5 hc5;go_upto_region 5 with (at_builtin;refine wpList_append_grows _ rfl _ _ 43 rfl 5 i0 (.int .u8 0) 1 1 Tryz.underlying43 hi0 hz0 hz1 hz2 rfl (by decide) (some ⟨w3.heap.size,0,none⟩) 4 4 (ab [119,97,121,49]) rfl (by intro h;cases h) rfl Ho5.out ad5 (aI fi).length c5 (ab (aI fi)) rfl (by rw [ao];omega) Hc5.out (ej _) (by omega) (by unfold maxLen;omega) (by omega) ?_;intro v6 w6 hown6 hg6)
 obtain ⟨m6,hm6⟩:∃ m:List UInt8,m=[119,97,121,49] ++ aI fi:=⟨_,rfl⟩
 have hm6l:m6.length=4 + (aI fi).length:=by rw [hm6];simp;omega
 rw [←dK,←hm6,←hm6l] at hown6;obtain ⟨A6,c6,rfl,_⟩:=cE hown6;have HB6:=Lib.hid (Hb5.out.grown hg6 Hb5.out.size (by simp));have HO6:=Lib.hid (bV hown6 hbz);have hm6b:m6.length≤20:=by omega
 have HM6:=Lib.hid hm6;have b1:w6.cell? ⟨w.heap.size,55,none⟩=some (.int .i64 (lo:Int)):=by
  have h1:=gB Hsh.out HY.out 1;have h2:w6.cell? ⟨w.heap.size,55,none⟩=w3.cell? ⟨w.heap.size,55,none⟩:=dc HB6.out _ _ l3;have h3:w3.cell? ⟨w.heap.size,55,none⟩=W.cell? ⟨w.heap.size,55,none⟩:=dc HB3.out _ _ l1;rw [h2,h3,h1];show some (zv s.lost)=_
  rw [Hlo.out];rfl
 have hbz6:w3.heap.size≤w6.heap.size:=HB6.out.size;clear hown6 hg6 hm6 hm6l Hc5 Ho5 Hb5 hvl b0 hvp hbz;have hnc2:(lo:Int)<18446744073709551616:=by omega
 have hncv2:IntKind.u64.wrap (lo:Int)=(lo:Int):=IntWalk.u64_in _ (by omega)
 go_wp2_with fail
 refine (oc lo w6 (by omega)).mono ?_;rintro e w7 ⟨A7,c7,rfl,hown7,hb7⟩;have HO7:=Lib.hid (ay HO6.out hb7);have HV7:=Lib.hid (BS.of_own hown7).1;have HB7:=Lib.hid (HB6.out.trans (hb7.mono hbz6));have hvl:=a7 (n:=lo) (by omega);have hbz7:w3.heap.size≤w7.heap.size:=HB7.out.size;clear hown7 hb7 HB6 HO6 b1;go_upto_region 6 with (at_builtin;refine av _ rfl _ _ 43 rfl w3.heap.size 5 i0 (.int .u8 0) 1 Tryz.underlying43 hi0 hz0 hz1 hz2 rfl (.slice A6 m6.length c6) m6 rfl HO7.out _ A7 _ c7 (aI lo) rfl rfl HV7.out (by unfold maxLen;omega) (by omega) hbz7 ?_;intro A8 c8 w8 hown8 hg8 _)
 obtain ⟨m8,hm8⟩:∃ m:List UInt8,m=m6 ++ aI lo:=⟨_,rfl⟩
 rw [←List.length_append,←hm8];rw [←hm8] at hown8;have HB8:=Lib.hid (HB7.out.grown hg8 HB7.out.size (fun k hk=>(pq HO7.out k hk).1));have HO8:=Lib.hid hown8;have hm8b:m8.length≤30:=by rw [hm8,List.length_append];omega
 have HM8:=Lib.hid hm8;have hbz8:w3.heap.size≤w8.heap.size:=HB8.out.size;have HY8:=Lib.hid ((HY.out.below HB3.out l1).below HB8.out l3);have HS8:Hid (eF w8 w8.heap.size x xs s):=(HS.out.on HB3.out).on HB8.out;have RF:=Lib.hid (nC Hsh.out HY8.out);clear hown8 hg8 hm8 HB7 HO7 HV7 hvl hbz7
 go_wp2_with ((with_reducible refine aE 37 ?_);refine aa (by rfl) 37 (.tmp 34) rfl w.heap.size 56 rfl _ _ RF.out fh rfl (ma Hsh.out.st) ?_)
 refine (vj x.st s.st w8 HS8.out.st).mono ?_;rintro e w9 ⟨hb9,hno,hyes⟩;obtain ⟨A9,c9,rfl,hown9⟩:=hyes Hsn.out;clear hno hyes RF HS8 HY8;obtain ⟨sb,hsb⟩:∃ m,m=eu s.st:=⟨_,rfl⟩
 rw [←hsb] at hown9 Hsl ⊢;have Hsb:=Lib.hid hsb;have HO9:=Lib.hid (ay HO8.out hb9);have hkk:=fun k hk=>(pq HO8.out k hk).2
 have HB9:=Lib.hid (HB8.out.trans (hb9.mono hbz8));have HQ9:=Lib.hid hown9;have HC9:=Lib.hid (HC3.out.below HB9.out);have hbz9:w3.heap.size≤w9.heap.size:=HB9.out.size;have hcl:=Hcl.out;clear hown9 hb9 hsb HB8 HO8
 go_wp2_with (at_builtin;refine av _ rfl _ _ 43 rfl w3.heap.size 5 i0 (.int .u8 0) 1 Tryz.underlying43 hi0 hz0 hz1 hz2 rfl (.slice A8 m8.length c8) m8 rfl HO9.out _ Ac _ cc cb rfl rfl HC9.out (by unfold maxLen;omega) (by omega) hbz9 ?_;intro A10 c10 w10 hown10 hg10 _)
 obtain ⟨m10,hm10⟩:∃ m:List UInt8,m=m8 ++ cb:=⟨_,rfl⟩
 rw [←List.length_append,←hm10];rw [←hm10] at hown10;have hq10:=Br HQ9.out hkk hg10;have hB10:=HB9.out.grown hg10 hbz9 (fun k hk=>(pq HO9.out k hk).1);have hm10e:m10=bF s:=by rw [hm10,HM8.out,HM6.out,Hhd.out]
 have hm10b:m10.length≤2030:=by rw [hm10,List.length_append];omega
 obtain ⟨W11,hW11⟩:∃ V,V=w10.alloc (.cells #[.slice A10 m10.length c10,.slice A9 sb.length c9] 43):=⟨_,rfl⟩
 rw [←hW11];have hb11:Below w10.heap.size w10 W11:=by rw [hW11];exact (Below.refl _ _).alloc (Nat.le_refl _) _
 have hx11:ah W11 w10.heap.size 43 #[.slice A10 m10.length c10,.slice A9 sb.length c9]:=by rw [hW11];exact ah.new w10 _ _ _ rfl
 have hbs1:=((BS.of_own hown10).1.below hb11).more hb11.size;have hbs2:=((BS.of_own hq10).1.below hb11).more hb11.size;have hLS:LS W11 W11.heap.size (some ⟨w10.heap.size,0,none⟩) [m10,sb]:=fun _=>by
  refine ⟨_,rfl,hx11.lt,fun j l hj=>?_⟩;rw [show (⟨w10.heap.size,0,none⟩:Addr).add j=⟨w10.heap.size,j,none⟩ by unfold Addr.add;split <;> simp_all,hx11.cell];match j,hj with
  | 0,hj=>injection hj with hj;subst hj;exact ⟨A10,c10,rfl,gI hown10,hbs1⟩
  | 1,hj=>injection hj with hj;subst hj;exact ⟨A9,c9,rfl,gI hq10,hbs2⟩
 have hrow:mT [m10,sb]:=by
  intro l hl;simp only [List.mem_cons,List.not_mem_nil,or_false] at hl;rcases hl with rfl | rfl
  ·omega
  ·have:=Hsl.out;omega
 have hsl:=Hsl.out;refine (El (some ⟨w10.heap.size,0,none⟩) 2 2 [m10,sb] W11 rfl hLS (by decide) (by simp [room];omega)).mono ?_;rintro e w12 (⟨_,A12,c12,rfl,hown12,hb12⟩ | ⟨hbad,_⟩);rotate_left
 ·exact (hbad hrow).elim
 have hres:nu [m10,sb]=cj s:=by rw [hm10e,Hsb.out];simp [nu,cj]
 rw [hres] at hown12 ⊢;have hB11:=hB10.trans (hb11.mono hB10.size);have HF:Hid (Below w.heap.size w w12):=by
  have h1:=hB11.trans (hb12.mono hB11.size);have h2:=HB3.out.trans (h1.mono HB3.out.size);exact HB.out.trans (h2.mono HB.out.size)
 have HO12:Hid (w12.ownsRow w.heap.size 5 1 (.slice A12 (cj s).length c12) (cj s).length (ab (cj s))):=bV hown12 (by have:=hB11.size;omega);clear hres hB11 hbs1 hbs2 hLS hrow hx11 hb11 hB10 hq10 hown10 hg10 hown12 hb12 hm10e hm10b hm10 hkk
 go_wp2
 go_ret2
 unfold gL;rw [Hbr.out];exact ⟨HF.out,fun h=>(by cases h),fun _=>⟨A12,c12,rfl,HO12.out⟩⟩
end Go.Proofs.YtaafkokfdgfabaaGreat
namespace Go.Proofs.YtaafkokfdgfabaaGreat
open Go.RowKit
set_option linter.unusedVariables false
set_option linter.unusedSimpArgs false
theorem oI {s:bT} (hs:bf s) (h:gY s=true):(cj s).length≤1003000:=by
 obtain ⟨he,hsn,hf,hl⟩:=mf h;have h1:=qX hs.conf (mC.1 he).conf;have h2:=DA hs.st hsn;have h3:=a7 (n:=s.first.toNat) (by omega);have h4:=a7 (n:=s.lost.toNat) (by omega);have h5:=cP (bF s);have h6:=cP (eu s.st);have h7:(bF s).length≤2030:=by simp only [bF,kI,List.length_append,List.length_cons,List.length_nil];omega
 have h8:=a7 (n:=(bF s).length) (by omega);have h9:=a7 (n:=(eu s.st).length) (by omega);simp only [cj,List.length_append];omega
theorem kN {e:da} (h:aB e) (hr:aL e=true):(bC e).length≤200020:=by
 have h1:=iU h hr;have h2:=cP (bP e);have h3:=a7 (n:=(bP e).length) (by omega);unfold bC;omega
set_option maxRecDepth 100000 in
theorem lz {x:jM} {xs:List (dL × da)} {s:bT} {w:World} (h:eF w w.heap.size x xs s) :
  Calls Tryz.prog 11 #[.agg (ar x s).toArray] w (gL w (i7 s) (bA s)):=by
 obtain ⟨i0,hi0,hz0,hz1,hz2⟩:=info_parts cC;obtain ⟨W,hW⟩:∃ W,W=w.alloc (.cells (ar x s).toArray 40):=⟨_,rfl⟩
 have HY:Hid (ah W w.heap.size 40 (ar x s).toArray):=by rw [hW];exact ah.new w _ _ _ rfl
 have HB:Hid (Below w.heap.size w W):=by rw [hW];exact (Below.refl _ _).alloc (Nat.le_refl _) _
 have HS:=Lib.hid (h.on HB.out);have HW:=Lib.hid hW;have l1:w.heap.size<W.heap.size:=HY.out.lt;have Hsh:=Lib.hid h.sh;have Hsz:=Lib.hid (dl (x:=x) h.sh);have RF:=Lib.hid (ae HY.out);have hxl:=h.len;clear hW h;go_enter Tryz.func11,Tryz.ntmps11
 go_upto_region 1 with fail
 rw [←HW.out];clear HW
 go_wp2_with ((with_reducible refine aE 40 ?_);refine aa (by rfl) 40 (.tmp 1) rfl w.heap.size 0 rfl _ _ RF.out az rfl Hsz.out ?_)
 refine (j6 HS.out).mono ?_;rintro e w2 ⟨hb2,hno,hyes⟩;have Hw2:=Lib.hid (HB.out.trans (hb2.mono HB.out.size));rcases hv:gY s with _ | _
 ·obtain rfl:=hno hv
  have Hr:Hid (i7 s=false):=by show _=_;unfold i7;rw [hv];simp
  clear hno hyes hb2 hv
  go_wp2
  go_ret2
  unfold gL;rw [Hr.out];exact ⟨Hw2.out,fun _=>rfl,fun h=>(by cases h)⟩
 obtain ⟨A2,c2,rfl,hown2⟩:=hyes hv;have hfit:=oI Hsh.out hv;obtain ⟨hd,hhd⟩:∃ m,m=cj s:=⟨_,rfl⟩
 rw [←hhd] at hown2 hfit ⊢;have Hhd:=Lib.hid hhd;have Hb2:=Lib.hid hb2;have Ho2:=Lib.hid hown2;have HY2:=Lib.hid (HY.out.below hb2 l1);have Hv:=Lib.hid hv;have l2:w.heap.size<w2.heap.size:=HY2.out.lt;clear hno hyes hb2 hown2 hhd hv;go_upto_region 2 with fail
 refine Sd.plain ?_
 repeat ((first | refine po ?_ | refine gs (ae HY2.out) l2 az Hsz.out ?_ | refine gc (fun u hu=>jg ((HS.out.on Hb2.out).on hu)) ?_ | refine gp ?_ | refine pt ?_);simp only [ld,lg,lf,Nat.reduceAdd])
 refine Sd.done fun w3 hb3=>?_
 have HB3:=Lib.hid (Hb2.out.trans (hb3.mono Hb2.out.size));have Hw3:Hid (Below w.heap.size w w3):=HB.out.trans (HB3.out.mono HB.out.size);have Ho3:=Lib.hid (ay Ho2.out hb3);clear hb3 Ho2 HY2 Hb2;rcases hs:i7 s with _ | _
 ·have Hr:=Lib.hid hs
  simp only [hs,Bool.not_false,Bool.or_true];clear hs
  go_wp2
  go_ret2
  unfold gL;rw [Hr.out];exact ⟨Hw3.out,fun _=>rfl,fun h=>(by cases h)⟩
 simp only [hs,Bool.not_true,Bool.or_false];have Hr:=Lib.hid hs;have hall:∀ p ∈ xs,aL p.2=true:=fun p hp=>by
  simp only [i7,Bool.and_eq_true,List.all_eq_true] at hs;exact hs.1 _ (by rw [HS.out.ev];exact List.mem_map_of_mem hp)
 have Hall:=Lib.hid hall;obtain ⟨n,hn⟩:∃ n,n=s.evs.length:=⟨_,rfl⟩
 have hnx:Hid (n=xs.length):=by show _=_;rw [hn,hxl]
 have b0:w3.cell? ⟨w.heap.size,73,none⟩=some (.slice x.e n x.ce):=by rw [hn];exact (dc HB3.out _ _ l1).trans (ip Hsh.out HY.out)
 have hn1:n≤x.ce:=by rw [hn];exact HS.out.ce.1
 have hn2:n≤1000000:=by rw [hn];exact HS.out.ce.2
 have Hput:Hid (bA s=hd ++ xs.flatMap (fun p=>bC p.2)):=by
  show _=_
  unfold bA;rw [Hhd.out,HS.out.ev,List.flatMap_map]
 obtain ⟨L,hL⟩:∃ L,L=hd.length:=⟨_,rfl⟩
 have HL:=Lib.hid hL;rw [←hL] at hfit;clear hs hall hn hxl hL
 go_wp2
 go_loopw [4,25] (fun v i wr=>∃ (k:Nat) (l:List UInt8) (A':Option Addr) (c':Nat),k≤n∧i=.int .i64 (k:Int)∧v=.slice A' l.length c'∧Hid (wr.ownsRow W.heap.size 5 1 (.slice A' l.length c') l.length (ab l))∧Hid (Below W.heap.size W wr)∧Hid (l=hd ++ (xs.take k).flatMap (fun p=>bC p.2))) (fun _ i _=>n - (intOf i).toNat)
 case atStart=>exact ⟨0,hd,A2,c2,by omega,rfl,rfl,Ho3,HB3,by simp [Hid]⟩
 case round =>
  obtain ⟨k,l,A',c',hk,rfl,rfl,hown,hg,hlv⟩:=hrel;rename World=>wr
  by_cases hlt:k<n
  ·have hltI:(k:Int)<(n:Int):=by omega
   have hk0:(0:Int)≤(k:Int):=by omega
   obtain ⟨b,o,hA,hbB,hc⟩:=(HS.out.evs.below hg.out) (by rw [←hnx.out];omega);obtain ⟨p,hp⟩:∃ p,xs[k]?=some p:=⟨_,List.getElem?_eq_getElem (by rw [←hnx.out];exact hlt)⟩
   have hpm:p ∈ xs:=List.mem_of_getElem? hp;have Hrg:=Lib.hid (hc k p hp);have Hps:=Lib.hid (HS.out.shp hpm);have Hz:=Lib.hid (jL (p:=p) Hps.out);have hpr:=Hall.out p hpm;have hrl:=kN Hps.out hpr;have Hpr:=Lib.hid hpr;obtain ⟨x1,y1,X1,Y1,T1,B1,L1⟩:=eQ wr 65 (bm none 0 0 none 0 0 mo) (eJ p) (by rw [ex Hps.out];rfl);rw [jV] at X1;have HB1:Hid (Below W.heap.size W y1):=hg.out.trans (L1.out.mono hg.out.size);have Hfr:=Lib.hid ((HS.out.on HB1.out).fr p hpm).1;have Ho1:=Lib.hid (ay hown.out L1.out);have Hst:Hid (l ++ bC p.2=hd ++ (xs.take (k + 1)).flatMap (fun p=>bC p.2)):=by show _=_;rw [lv _ xs hp,hlv.out,List.append_assoc]
   have hll:l.length≤1003000 + k * 200020:=by
    have h1:=eR (enc:=fun (p:dL × da)=>bC p.2) (N:=200020) (xs.take k) fun q hq=>kN (HS.out.shp (List.mem_of_mem_take hq)) (Hall.out q (List.mem_of_mem_take hq))
    have h2:(xs.take k).length≤k:=by rw [List.length_take];omega
    have h3:=Nat.mul_le_mul_right 200020 h2;rw [hlv.out,List.length_append,←HL.out];omega
   obtain ⟨er,her⟩:∃ m,m=bC p.2:=⟨_,rfl⟩
   rw [←her] at Hst hrl;have Her:=Lib.hid her;rw [hA];have hBw:=HB1.out.size;clear hc hp hpm hpr hA b0 hown hg her;go_upto_region 7 with (first
    | ((with_reducible refine aE 65 ?_);refine aa (by rfl) 65 (.tmp 27) rfl b (o + k * 42) rfl (eJ p) _ Hrg.out dz rfl Hz.out ?_)
    | (rw [←X1.out];(with_reducible refine aM 65 ?_);refine wpList_store_mid rfl 65 (.tmp 7) (.tmp 28) rfl wr.heap.size 0 (eJ p).toArray rfl rfl T1.out (by rw [List.size_toArray];exact Hz.out) (mF _) ?_))
   rw [←Y1.out];have RE:=Lib.hid (ae B1.out);clear X1 Y1 T1 Hrg
   go_wp2_with ((with_reducible refine aE 65 ?_);refine aa (by rfl) 65 (.tmp 7) rfl wr.heap.size 0 rfl (eJ p) _ RE.out dz rfl Hz.out ?_)
   refine (jh p Hps.out y1 Hfr.out).mono ?_;rintro e w5 ⟨hb5,hno,hyes⟩;obtain ⟨A5,c5,rfl,hown5⟩:=hyes Hpr.out;clear hno hyes;rw [←Her.out] at hown5 ⊢;have Ho5:=Lib.hid (ay Ho1.out hb5);have HV5:=Lib.hid (BS.of_own hown5).1;have HB5:=Lib.hid (HB1.out.trans (hb5.mono hBw));have hbz5:W.heap.size≤w5.heap.size:=HB5.out.size;clear hown5 hb5
   go_wp2_with (at_builtin;refine av _ rfl _ _ 43 rfl W.heap.size 5 i0 (.int .u8 0) 1 Tryz.underlying43 hi0 hz0 hz1 hz2 rfl (.slice A' l.length c') l rfl Ho5.out _ A5 _ c5 er rfl rfl HV5.out (by unfold maxLen;omega) (by omega) hbz5 ?_;intro A6 c6 w6 hown6 hg6 _)
   have HB6:=Lib.hid (HB5.out.grown hg6 hbz5 (fun j hj=>(pq Ho5.out j hj).1));have Ho6:=Lib.hid hown6;clear hown6 hg6;go_roundw
   case rel=>exact ⟨k + 1,l ++ er,A6,c6,by omega,by go_num,by simp,Ho6,HB6,Hst⟩
   case measure=>simp [intOf];omega
  ·have hltI:¬ (k:Int)<(n:Int):=by omega
   have He:Hid (l=bA s):=by show _=_;rw [Hput.out,hlv.out,List.take_of_length_le (by rw [←hnx.out];omega)]
   obtain rfl:=He.out;clear He hlv
   go_wp2
   go_ret2
   unfold gL;rw [Hr.out];exact ⟨HB.out.trans (hg.out.mono HB.out.size),fun h=>(by cases h),fun _=>⟨A',c',rfl,bV hown.out HB.out.size⟩⟩
end Go.Proofs.YtaafkokfdgfabaaGreat
namespace Go.Proofs.YtaafkokfdgfabaaGreat
open Go.RowKit
set_option linter.unusedVariables false
set_option linter.unusedSimpArgs false
def dX:jM:=⟨none,0,fS,none,0⟩
theorem fU:(ar dX cM).toArray=Tryz.zeroCells40:=by kernel_rfl
theorem cQ (x:jM) (s:bT):(ar x s).toArray.all (·.oneCell')=true:=all_oneCell_toArray (by
 intro u hu;simp only [ar,List.mem_append,List.mem_cons,List.not_mem_nil,or_false] at hu;rcases hu with hu | rfl | rfl | hu | rfl
 ·exact Array.all_eq_true_iff_forall_mem.1 (fT x.v s.conf.vips.length x.cv s.conf) u (by simpa using hu)
 ·rfl
 ·rfl
 ·exact Array.all_eq_true_iff_forall_mem.1 (tK x.st s.st) u (by simpa using hu)
 ·rfl)
structure DV (T:TypeId) (rc:List Value) (w wr:World) (g bx:Nat) (l:List UInt8) (s:St) (cs:List Value):Prop where
 rd:ey wr (w.heap.size + 2) g l s
 ok:bY l s
 res:ah wr w.heap.size T rc.toArray
 box:ah wr bx T cs.toArray
 bel:Below w.heap.size w wr
 gn:w.heap.size≠g∧bx≠g∧w.heap.size≠bx∧w.heap.size≤g∧w.heap.size≤bx
 ty:T≠195∧T≠5
section
variable {T:TypeId} {rc:List Value} {w wr w':World} {g bx:Nat} {l:List UInt8} {s s':St} {cs cs':List Value}
theorem DV.after (h:DV T rc w wr g bx l s cs) (hr:ey w' (w.heap.size + 2) g l s') (ok:bY l s') (hg:wr.grownBy w' (some g)):DV T rc w w' g bx l s' cs :=
 ⟨hr,ok,h.res.grown hg (by simpa using h.gn.1),h.box.grown hg (by simpa using h.gn.2.1),h.bel.grown hg h.bel.size (fun k hk=>by injection hk with hk;have:=h.gn.2.2.2.1;omega),h.gn,h.ty⟩
theorem DV.below (h:DV T rc w wr g bx l s cs) (hb:Below wr.heap.size wr w'):DV T rc w w' g bx l s cs :=
 ⟨h.rd.below hb,h.ok,h.res.below hb h.res.lt,h.box.below hb h.box.lt,h.bel.trans (hb.mono h.bel.size),h.gn,h.ty⟩
theorem DV.put (h:DV T rc w wr g bx l s cs) (hg:wr.grownBy w' (some bx)) (hb:ah w' bx T cs'.toArray):DV T rc w w' g bx l s cs' :=
 ⟨h.rd.off hg h.box h.ty.1 h.ty.2,h.ok,h.res.grown hg (by simpa using h.gn.2.2.1),hb,h.bel.grown hg h.bel.size (fun k hk=>by injection hk with hk;have:=h.gn.2.2.2.2;omega),h.gn,h.ty⟩
end
def DB (w:World) (l:List UInt8) (e:Ending) (w':World):Prop :=
 Below w.heap.size w w'∧∃ x h,e=.returned (.tuple #[.agg (ar x h).toArray,.bool (fp l).isSome])∧bf h∧∀ h',fp l=some h'→h=h'∧i8 w' w.heap.size x.v x.cv h.conf.vips∧h.conf.vips.length≤x.cv∧x.st=fS∧x.e=none∧x.ce=0
end Go.Proofs.YtaafkokfdgfabaaGreat
namespace Go.Proofs.YtaafkokfdgfabaaGreat
open Go.RowKit
set_option linter.unusedVariables false
set_option linter.unusedSimpArgs false
set_option maxRecDepth 100000 in
theorem Bt (A:Option Addr) (n c:Nat) (l:List UInt8) (w:World) (hn:n=l.length) (hb:BS w w.heap.size A l) (hl:n≤1000000000) :
  Calls Tryz.prog 44 #[.slice A n c] w (DB w l):=by
 subst hn;obtain ⟨W1,hW1⟩:∃ W,W=w.alloc (.cells (ar dX cM).toArray 40):=⟨_,rfl⟩
 obtain ⟨W,hW⟩:∃ W,W=W1.alloc (.cells (ar dX cM).toArray 40):=⟨_,rfl⟩
 have hs1:W1.heap.size=w.heap.size + 1:=by rw [hW1];simp
 have hs2:W.heap.size=w.heap.size + 2:=by rw [hW];simp [hs1]
 have hX1:ah W1 w.heap.size 40 (ar dX cM).toArray:=by rw [hW1];exact ah.new w _ _ _ rfl
 have hY:ah W w.heap.size 40 (ar dX cM).toArray:=by rw [hW];exact hX1.alloc _
 have hX:ah W (w.heap.size + 1) 40 (ar dX cM).toArray:=by rw [hW];exact ah.new W1 _ _ _ hs1
 have HB:Hid (Below w.heap.size w W):=by rw [hW,hW1];exact ((Below.refl _ _).alloc (Nat.le_refl _) _).alloc (by simp) _
 obtain ⟨bx,hbx⟩:∃ b,b=w.heap.size + 1:=⟨_,rfl⟩
 rw [←hbx] at hX;have HA:=Lib.hid ((hb.below HB.out).more HB.out.size);rw [fU] at hW1 hW;have HW1:=Lib.hid hW1;have HW:=Lib.hid hW;have HX:=Lib.hid hX;have HY:=Lib.hid hY;have Hbx:=Lib.hid hbx;have Hs2:=Lib.hid hs2;obtain ⟨R,hR⟩:∃ R,R=fp l:=⟨_,rfl⟩
 obtain ⟨s1,x,h1⟩:∃ u z,a8 l (0,0,0) 4=(u,z):=⟨_,_,rfl⟩
 have hok0:bY l (0,0,0):=⟨Nat.zero_le _,Nat.zero_le _,Nat.zero_le _⟩
 have ok1:=dt hok0 4;rw [h1] at ok1;have H1:=Lib.hid h1;have Ok1:=Lib.hid ok1;have HR:=Lib.hid hR;have hx4:=gy (n:=4) h1;clear hW1 hW hX hY hbx hs1 hs2 hX1 hb hR h1 ok1 hok0;go_enter Tryz.func44,Tryz.ntmps44
 go_upto_region 2 with fail
 rw [←HW1.out,←HW.out,←Hbx.out];clear HW HW1
 go_wp2_with fail
 refine (mm A l.length c l W rfl HA.out hl).mono ?_;rintro e w2 ⟨g,rfl,hg1,hg2,hr,hbel⟩;have H2:Hid (DV 40 (ar dX cM) w w2 g bx l (0,0,0) (ar dX cM)):=by
  have e:=Hbx.out;have e2:=Hs2.out;refine ⟨by rw [e2] at hr;exact hr,⟨Nat.zero_le _,Nat.zero_le _,Nat.zero_le _⟩,HY.out.below hbel HY.out.lt,HX.out.below hbel HX.out.lt,HB.out.trans (hbel.mono HB.out.size),?_,by decide⟩;omega
 clear hg1 hg2 hr hbel HA HX HY HB
 go_wp2_with fail
 refine (dW (w.heap.size + 2) g l (0,0,0) w2 4 H2.out.rd H2.out.ok hl (by decide)).mono ?_;rw [H1.out];rintro e w3 ⟨A3,c3,rfl,hown,hr,hg⟩;have hcv:=bu (P:=Tryz.prog) 43 9 5 Tryz.underlying43 Tryz.underlying5 Tryz.underlying9 w3 _ A3 x (BS.of_own hown).1 _ c3 rfl;have H3:=Lib.hid (H2.out.after hr Ok1.out hg);clear hown hr hg H2;have h74:∀ (y:jM) (h:bT),bf h→(Tryz.prog.info? 40).map (·.size)=some (ar y h).length:=fun y h hh=>dl hh
 have H74:=Lib.hid h74;clear h74;by_cases hm:x=kI
 rotate_left
 ·have hm2:(x == [119,97,121,49])=false:=by rw [beq_eq_false_iff_ne];exact hm
  have hRn:Hid (fp l=none):=by show _=_;unfold fp;rw [H1.out,if_neg hm]
  obtain ⟨W7,hW7,T7,B7,G7⟩:=fx (cs:=ar dX cM) H3.out.res (by simp);have RF:=Lib.hid (ae H3.out.box);have Hbl:Hid (Below w.heap.size w W7):=H3.out.bel.grown G7.out H3.out.bel.size (fun k hk=>by injection hk with hk;omega);have Hz:=Lib.hid (H74.out dX cM cZ)
  go_wp2_with (first
   | ((with_reducible refine aE 40 ?_);refine aa (by rfl) 40 (.tmp 4) rfl bx 0 rfl (ar dX cM) _ RF.out az rfl Hz.out ?_)
   | ((with_reducible refine aM 40 ?_);refine wpList_store_mid rfl 40 (.tmp 2) (.tmp 16) rfl w.heap.size 0 (ar dX cM).toArray rfl rfl T7.out Hz.out (cQ _ _) ?_))
  rw [←hW7.out];refine bodyPost_ret (v:=.tuple #[.agg (ar dX cM).toArray,.bool false]) (aG (P:=Tryz.prog) (p:=2) (u:=3) rfl _ _ w.heap.size _ _ _ _ rfl B7.out az rfl Hz.out) rfl ?_;unfold DB;rw [hRn.out];exact ⟨Hbl.out,dX,cM,rfl,cZ,fun h' hh=>by cases hh⟩
 ·have hm':x=[119,97,121,49]:=hm
  clear hm;subst hm';rw [show ([119,97,121,49]:List UInt8).length=4 from rfl] at hcv;obtain ⟨s2,fi,h2⟩:∃ u n,fJ l s1=(u,n):=⟨_,_,rfl⟩
  obtain ⟨s3,lo,h3⟩:∃ u n,fJ l s2=(u,n):=⟨_,_,rfl⟩
  obtain ⟨s4,cb,h4⟩:∃ u z,a8 l s3 ((l.length - s3.1:Nat):Int)=(u,z):=⟨_,_,rfl⟩
  have ok2:=kT Ok1.out;rw [h2] at ok2;have ok3:=kT ok2;rw [h3] at ok3;have ok4:=dt ok3 ((l.length - s3.1:Nat):Int);rw [h4] at ok4;have hRe:Hid (fp l=match bL cb with | some c=>if lj s4 then some { conf:=c,first:=(min fi 1152921504606846977:Nat),lost:=(min lo 1152921504606846977:Nat),st:=cI,evs:=[] } else none | none=>none):=by
   show _=_
   have e1:qH l=(s2,fi):=by unfold qH;rw [H1.out];exact h2
   have e2:pj l=(s3,lo):=by unfold pj;rw [e1];exact h3
   have e3:rz l=(s4,cb):=by unfold rz;rw [e2];exact h4
   unfold fp;rw [H1.out,e3,e1,e2];exact if_pos rfl
  have H2v:=Lib.hid h2;have H3v:=Lib.hid h3;have H4v:=Lib.hid h4;have Ok:=Lib.hid (And.intro ok2 (And.intro ok3 ok4));have hs3:=ok3.1;have hcbl:cb.length≤1000000000:=by
   have:=gy (n:=l.length - s3.1) h4;omega
  clear h2 h3 h4 ok2 ok3 ok4 H1
  go_wp2_with fail
  refine (jk (w.heap.size + 2) g l s1 w3 H3.out.rd H3.out.ok hl).mono ?_;rw [H2v.out];rintro e w4 ⟨rfl,hr,hg⟩;have H4:=Lib.hid (H3.out.after hr Ok.out.1 hg);clear hr hg H3
  go_wp2_with fail
  refine (jk (w.heap.size + 2) g l s2 w4 H4.out.rd H4.out.ok hl).mono ?_;rw [H3v.out];rintro e w5 ⟨rfl,hr,hg⟩;have H5:=Lib.hid (H4.out.after hr Ok.out.2.1 hg);clear hr hg H4
  go_wp2_with fail
  refine (kv (w.heap.size + 2) g l s3 w5 H5.out.rd H5.out.ok hl).mono ?_;rintro e w6 ⟨rfl,⟨dm,rfl⟩⟩;have H6:=Lib.hid (H5.out.below (iR (B:=w5.heap.size) (w:=w5) dm));rw [show ((l.length:Int) - (s3.1:Int))=((l.length - s3.1:Nat):Int) by omega];clear H5
  go_wp2_with fail
  refine (dW (w.heap.size + 2) g l s3 (w5.drewN dm) ((l.length - s3.1:Nat):Int) H6.out.rd H6.out.ok hl (by omega)).mono ?_;rw [H4v.out];rintro e w7 ⟨A7,c7,rfl,hown,hr,hg⟩;have H7:=Lib.hid (H6.out.after hr Ok.out.2.2 hg);have HB7:=Lib.hid (BS.of_own hown).1;clear hown hr hg H6 hcv
  go_wp2_with fail
  refine (Du A7 cb.length c7 cb w7 rfl HB7.out hcbl).mono ?_;rintro e w8 ⟨hb8,hno,hyes⟩;obtain ⟨Av,cv,f,why,rfl,hfs,hcase⟩:∃ Av cv f,∃ why:Int,e=.returned (.tuple #[.agg (aj Av f.vips.length cv f).toArray,.int .i64 why])∧ak f∧((bL cb=none∧why=3)∨(bL cb=some f∧why=0∧i8 w8 w7.heap.size Av cv f.vips∧f.vips.length≤cv)):=by
   rcases hc:bL cb with _ | f
   ·exact ⟨none,0,bn,3,hno hc,gW,.inl ⟨rfl,rfl⟩⟩
   ·obtain ⟨Av,cv,h1,h2,h3,h4⟩:=hyes f hc
    exact ⟨Av,cv,f,0,h1,h4,.inr ⟨rfl,rfl,h2,h3⟩⟩
  clear hno hyes;have H8:=Lib.hid (H7.out.below hb8);have Hfs:=Lib.hid hfs;have Hc54:Hid ((aj Av f.vips.length cv f).length=54):=dH hfs;obtain ⟨x9,w9,X9,Y9,T9,B9,L9⟩:=eQ w8 29 (aj none 0 0 bn) (aj Av f.vips.length cv f) (by rw [Hc54.out];rfl);rw [mG] at X9;have H9:=Lib.hid (H8.out.below L9.out);have Hcase:Hid ((bL cb=none∧why=3)∨(bL cb=some f∧why=0∧i8 w9 w.heap.size Av cv f.vips∧f.vips.length≤cv)):=by
   rcases hcase with h | ⟨h1,h2,h3,h4⟩
   ·exact .inl h
   ·have h5:=h3.below L9.out
    exact .inr ⟨h1,h2,⟨bV h5.1 H7.out.bel.size,h5.2⟩,h4⟩
  have hwc:∃ why0:Nat,why=(why0:Int)∧why0≤3:=by rcases hcase with ⟨_,h⟩ | ⟨_,h,_⟩;exact ⟨3,h,by omega⟩;exact ⟨0,h,by omega⟩
  clear hb8 hcase H7 H8 HB7 hfs;go_upto_region 7 with (first
   | (rw [←X9.out];(with_reducible refine aM 29 ?_);refine wpList_store_mid rfl 29 (.tmp 8) (.tmp 27) rfl w8.heap.size 0 (aj Av f.vips.length cv f).toArray rfl rfl T9.out (by rw [List.size_toArray,Hc54.out];exact cV) (fT _ _ _ _) ?_))
  rw [←Y9.out];clear X9 Y9 T9;have hth:w9.there bx 0 (aj Av f.vips.length cv f).toArray.size:=H9.out.box.there (by rw [List.size_toArray,List.size_toArray,Hc54.out,d9 cZ];decide);obtain ⟨ya,hya⟩:∃ v,v=w9.setCells bx 0 (aj Av f.vips.length cv f):=⟨_,rfl⟩
  have hba:ah ya bx 40 (aj Av f.vips.length cv f ++ zv 0 :: (zv 0 :: (dh fS cI ++ [.slice none 0 0]))).toArray:=by
   rw [hya];have h:=ah.setCells (aj Av f.vips.length cv f) 0 H9.out.box;rw [gQ _ _ _ (by rw [Hc54.out,d9 cZ];decide),Hc54.out] at h;exact h
  have hga:w9.grownBy ya (some bx):=by rw [hya];exact aT w9 bx 0 _ 0 (World.grownBy.refl _ _)
  obtain ⟨d0,df,dk⟩:=kK (n:=54) hba rfl Hc54.out;have e55:∀ v:Value,(aj Av f.vips.length cv f ++ v :: (zv 0 :: (dh fS cI ++ [.slice none 0 0])))=(aj Av f.vips.length cv f ++ [v]) ++ zv 0 :: (dh fS cI ++ [.slice none 0 0]):=fun v=>by simp
  have k2:=fun v=>kK (n:=55) (dk v) (e55 v) (by simp [Hc54.out])
  have d1:ya.cell? ⟨bx,55,none⟩=some (zv 0):=(kK (n:=55) hba (e55 (zv 0)) (by simp [Hc54.out])).1;have dg:=fun v=>(k2 v).2.1
  obtain ⟨hh,hhh⟩:∃ h:bT,h={ conf:=f,first:=(min fi 1152921504606846977:Nat),lost:=(min lo 1152921504606846977:Nat),st:=cI,evs:=[] }:=⟨_,rfl⟩
  have hsh:bf hh:=by rw [hhh];exact ⟨Hfs.out,gX,by simp⟩
  obtain ⟨yb,hyb⟩:∃ v,v=(ya.setCell ⟨bx,54,none⟩ (.int .i64 ((min fi 1152921504606846977:Nat):Int))).setCell ⟨bx,55,none⟩ (.int .i64 ((min lo 1152921504606846977:Nat):Int)):=⟨_,rfl⟩
  have hbb:ah yb bx 40 (ar ⟨Av,cv,fS,none,0⟩ hh).toArray:=by
   rw [hyb,hhh];have:=(k2 (.int .i64 ((min fi 1152921504606846977:Nat):Int))).2.2 (.int .i64 ((min lo 1152921504606846977:Nat):Int));rw [List.append_assoc] at this;exact this
  have hgb:w9.grownBy yb (some bx):=by rw [hyb];exact am hga (am (aV _ _ _) (aV _ _ _))
  have Hb:=Lib.hid (H9.out.put hgb hbb);have Hcase2:Hid ((bL cb=none∧why=3)∨(bL cb=some f∧why=0∧i8 yb w.heap.size Av cv f.vips∧f.vips.length≤cv)):=by
   rcases Hcase.out with h | ⟨h1,h2,h3,h4⟩
   ·exact .inl h
   ·exact .inr ⟨h1,h2,h3.grown H9.out.box (by decide) hgb,h4⟩
  have Hsh:=Lib.hid hsh;have Hhh:=Lib.hid hhh;have Hth:=Lib.hid hth;have Hya:=Lib.hid hya;have emf:min (fi:Int) 1152921504606846977=((min fi 1152921504606846977:Nat):Int):=by omega
  have eml:min (lo:Int) 1152921504606846977=((min lo 1152921504606846977:Nat):Int):=by omega
  have RC:=Lib.hid (ae B9.out);have Emf:=Lib.hid emf;have Eml:=Lib.hid eml;have hfi64:(min fi 1152921504606846977:Nat)≤1152921504606846977:=by omega
  have hlo64:(min lo 1152921504606846977:Nat)≤1152921504606846977:=by omega
  clear emf eml hth hya hba hga dk k2 e55 hsh hhh hbb hgb H9 Hcase;unfold zv at d0 d1;go_upto_region 8 with (first
   | ((with_reducible refine aE 29 ?_);refine aa (by rfl) 29 (.tmp 8) rfl w8.heap.size 0 rfl (aj Av f.vips.length cv f) _ RC.out eL rfl (by rw [Hc54.out];exact cV) ?_)
   | ((with_reducible refine aM 29 ?_);refine wpList_store_mid rfl 29 (.tmp 36) (.tmp 29) rfl bx 0 (aj Av f.vips.length cv f).toArray rfl rfl Hth.out (by rw [List.size_toArray,Hc54.out];exact cV) (fT _ _ _ _) ?_;rw [←Hya.out]))
  rw [Emf.out,Eml.out,←hyb];clear hyb d0 d1 df dg;have Hz:=Lib.hid (H74.out ⟨Av,cv,fS,none,0⟩ hh Hsh.out);have hd:=Hb.out.below ((Below.refl yb.heap.size yb).drew);have HD:=Lib.hid hd;obtain ⟨q0,fa,fe⟩:=s4;rcases Hcase2.out with ⟨hcn,rfl⟩ | ⟨hcs,rfl,hvo,hvc⟩
  ·have hRn:Hid (fp l=none):=by show _=_;rw [hRe.out,hcn]
   refine Wz.start (S:=fun v=>ah v bx 40 (ar ⟨Av,cv,fS,none,0⟩ hh).toArray) hd.box fun hH=>?_
   refine lw 0 hH (yieldsIf_load_mid rfl _ _ rfl bx 0 rfl (ar ⟨Av,cv,fS,none,0⟩ hh) _ (fun v hv=>ae hv) az rfl Hz.out) ?_;simp only [ld,lg,lf];refine zt (K:=fun _=>True) 1 (fun _ _=>trivial) hH ?_;simp only [ld,lg,lf];refine zt (K:=fun _=>True) 2 (fun _ _=>trivial) hH ?_;simp only [ld,lg,lf];refine zt (K:=fun _=>True) 3 (fun _ _=>trivial) hH ?_;simp only [ld,lg,lf];refine lw 4 hH (.inr ⟨rfl,rfl⟩) ?_;simp only [ld,lg,lf];refine lw 5 hH (.inr ⟨rfl,rfl⟩) ?_;simp only [ld,lg,lf];refine lw 6 hH (.inr ⟨rfl,rfl⟩) ?_;simp only [ld,lg,lf];refine lw 7 hH (.inr ⟨rfl,rfl⟩) ?_;simp only [ld,lg,lf];refine zt (K:=fun _=>True) 8 (fun _ _=>trivial) hH ?_;simp only [ld,lg,lf];obtain ⟨W7,hW7,T7,B7,G7⟩:=fx (cs:=ar ⟨Av,cv,fS,none,0⟩ hh) HD.out.res (by rw [d9 Hsh.out,List.size_toArray,d9 cZ]);refine one 9 (On.op0 fun K hK=>?_);refine wp_store_mid 40 _ _ rfl w.heap.size 0 (ar ⟨Av,cv,fS,none,0⟩ hh).toArray rfl rfl T7.out (by rw [List.size_toArray];exact Hz.out) (cQ _ _) ?_;rw [←hW7.out];have hX7:=HD.out.box.grown G7.out (by simpa using Ne.symm HD.out.gn.2.2.1);refine hK.out _ _ hX7 (fun _=>?_);clear hK K;have hH:=hX7;refine zt (K:=fun _=>True) 10 (fun _ _=>trivial) hH ?_;simp only [ld,lg,lf];refine Wh.done ?_;have HF:Hid (Below w.heap.size w W7):=HD.out.bel.grown G7.out HD.out.bel.size (fun k hk=>by injection hk with hk;omega)
   go_wp2
   refine bodyPost_ret (v:=.tuple #[.agg (ar ⟨Av,cv,fS,none,0⟩ hh).toArray,.bool false]) (aG (P:=Tryz.prog) (p:=2) (u:=3) rfl _ _ w.heap.size _ _ _ _ rfl B7.out az rfl Hz.out) rfl ?_;unfold DB;rw [hRn.out];exact ⟨HF.out,_,hh,rfl,Hsh.out,fun h' hh=>by cases hh⟩
  ·have hRs:Hid (fp l=if lj (q0,fa,fe) then some hh else none):=by show _=_;rw [hRe.out,hcs,Hhh.out]
   have hrd:∃ A c,Rd yb.drew g A l.length c q0 fa fe:=by obtain ⟨A,c,h,_⟩:=HD.out.rd;exact ⟨A,c,h⟩
   obtain ⟨Ar,cr,hrd⟩:=hrd;refine Wz.start (S:=fun v=>ah v bx 40 (ar ⟨Av,cv,fS,none,0⟩ hh).toArray) hd.box fun hH=>?_
   refine lw 0 hH (yieldsIf_load_mid rfl _ _ rfl bx 0 rfl (ar ⟨Av,cv,fS,none,0⟩ hh) _ (fun v hv=>ae hv) az rfl Hz.out) ?_;simp only [ld,lg,lf];refine zt (K:=fun _=>True) 1 (fun _ _=>trivial) hH ?_;simp only [ld,lg,lf];refine zt (K:=fun _=>True) 2 (fun _ _=>trivial) hH ?_;simp only [ld,lg,lf];refine zt (K:=fun _=>True) 3 (fun _ _=>trivial) hH ?_;simp only [ld,lg,lf];refine zt (K:=fun _=>True) 4 (fun _ _=>trivial) hH ?_;simp only [ld,lg,lf];refine zt (K:=fun _=>True) 6 (fun _ _=>trivial) hH ?_;simp only [ld,lg,lf];refine one 5 (On.call (ec g Ar l.length cr q0 fa fe yb.drew hrd) ?_);rintro e we ⟨rfl,hbe⟩;have He:=Lib.hid (HD.out.below hbe);have hve:=(hvo.below (Below.refl yb.heap.size yb).drew).below hbe;have hH:=He.out.box;refine ⟨_,rfl,hH,?_⟩;simp only [ld,lg,lf];refine zt (K:=fun _=>True) (v:=.bool (lj (q0,fa,fe))) 7 (fun _ _=>trivial) hH ?_ (hy:=fun u _=>by
    by_cases e1:fa=0
    ·by_cases e2:fe=0
     ·subst e1 e2
      go_simp
      rfl
     ·have e3:¬ (fe:Int)=0:=by omega
      subst e1;go_simp
      simp [lj,e2]
    ·have e3:¬ (fa:Int)=0:=by omega
     go_simp
     simp [lj,e1])
   simp only [ld,lg,lf];refine zt (K:=fun _=>True) 8 (fun _ _=>trivial) hH ?_;simp only [ld,lg,lf];obtain ⟨W7,hW7,T7,B7,G7⟩:=fx (cs:=ar ⟨Av,cv,fS,none,0⟩ hh) He.out.res (by rw [d9 Hsh.out,List.size_toArray,d9 cZ]);refine one 9 (On.op0 fun K hK=>?_);refine wp_store_mid 40 _ _ rfl w.heap.size 0 (ar ⟨Av,cv,fS,none,0⟩ hh).toArray rfl rfl T7.out (by rw [List.size_toArray];exact Hz.out) (cQ _ _) ?_;rw [←hW7.out];have hX7:=He.out.box.grown G7.out (by simpa using Ne.symm He.out.gn.2.2.1);refine hK.out _ _ hX7 (fun _=>?_);clear hK K;have hH:=hX7;refine zt (K:=fun _=>True) 10 (fun _ _=>trivial) hH ?_;simp only [ld,lg,lf];refine Wh.done ?_;have HF:Hid (Below w.heap.size w W7):=He.out.bel.grown G7.out He.out.bel.size (fun k hk=>by injection hk with hk;omega);have hv7:=hve.grown He.out.res (by decide) G7.out;have Hv7:=Lib.hid hv7;have Hb7:=Lib.hid B7.out;rcases hok:lj (q0,fa,fe) with _ | _
   ·have hRn:Hid (fp l=none):=by show _=_;rw [hRs.out,hok];rfl
    clear hok hve hv7
    go_wp2
    refine bodyPost_ret (v:=.tuple #[.agg (ar ⟨Av,cv,fS,none,0⟩ hh).toArray,.bool false]) (aG (P:=Tryz.prog) (p:=2) (u:=3) rfl _ _ w.heap.size _ _ _ _ rfl Hb7.out az rfl Hz.out) rfl ?_;unfold DB;rw [hRn.out];exact ⟨HF.out,_,hh,rfl,Hsh.out,fun h' hh=>by cases hh⟩
   ·have hRn:Hid (fp l=some hh):=by show _=_;rw [hRs.out,hok];rfl
    have Hhv:Hid (hh.conf.vips=f.vips):=by show _=_;rw [Hhh.out]
    clear hok hve hv7
    go_wp2
    refine bodyPost_ret (v:=.tuple #[.agg (ar ⟨Av,cv,fS,none,0⟩ hh).toArray,.bool true]) (aG (P:=Tryz.prog) (p:=2) (u:=3) rfl _ _ w.heap.size _ _ _ _ rfl Hb7.out az rfl Hz.out) rfl ?_;unfold DB;rw [hRn.out];refine ⟨HF.out,_,hh,rfl,Hsh.out,fun h' he=>?_⟩;injection he with he
    rw [←he,Hhv.out];exact ⟨rfl,Hv7.out,hvc,rfl,rfl,rfl⟩
end Go.Proofs.YtaafkokfdgfabaaGreat
namespace Go.Proofs.YtaafkokfdgfabaaGreat
open Go.RowKit
set_option linter.unusedVariables false
set_option linter.unusedSimpArgs false
theorem kO {w:World} {b b':Nat} {e e':TypeId} {s s' n n':Nat} {v v':Value} {xs xs':List Value} (h:w.ownsRow b e s v n xs) (h':w.ownsRow b' e' s' v' n' xs') (hne:e≠e'):v.ownBlock=none∨v.ownBlock≠v'.ownBlock:=by
 rcases h.2 with ⟨rfl,_⟩ | ⟨g,cap,cur,rfl,_,hh,_⟩
 ·exact .inl rfl
 ·right
  rcases h'.2 with ⟨rfl,_⟩ | ⟨g',cap',cur',rfl,_,hh',_⟩
  ·simp [Value.ownBlock]
  ·intro e1
   have:g=g':=by simpa [Value.ownBlock] using e1
   subst this;rw [hh] at hh';injection hh' with hh'
   injection hh' with _ ht
   exact hne ht
structure ee (w:World) (base:Nat) (x:jM) (xs:List (dL × da)) (s:bT):Prop where
 vs:i8 w base x.v x.cv s.conf.vips
 vl:s.conf.vips.length≤1000000
 st:io w base x.st s.st
 sh:bf s
 ev:s.evs=xs.map (·.2)
 evs:w.ownsRow base 65 42 (.slice x.e s.evs.length x.ce) s.evs.length (cA eJ xs)
 el:s.evs.length≤1000000
 fr:∀ p ∈ xs,w.ownsRow base 5 1 (.slice p.1.f p.2.act.frame.length p.1.cf) p.2.act.frame.length (ab p.2.act.frame)∧p.2.o.out=[]
section
variable {w w':World} {base:Nat} {x:jM} {xs:List (dL × da)} {s:bT}
theorem ee.shp (h:ee w base x xs s) {p:dL × da} (hp:p ∈ xs):aB p.2:=h.sh.evs _ (by rw [h.ev];exact List.mem_map_of_mem hp)
theorem ee.len (h:ee w base x xs s):s.evs.length=xs.length:=by rw [h.ev,List.length_map]
theorem ee.held (h:ee w base x xs s):eF w w.heap.size x xs s:=by
 refine ⟨h.vs.vs,⟨gI h.vs.1,h.vl⟩,h.st.held,h.sh,h.ev,?_,⟨gI h.evs,h.el⟩,fun p hp=>⟨(BS.of_own (h.fr p hp).1).1,by rw [(h.fr p hp).2];exact BS.nil _ _ _⟩⟩;have he:=h.evs;rw [h.len] at he;exact qQ he fun p hp=>ex (h.shp hp)
theorem ee.below (h:ee w base x xs s) (hb:Below w.heap.size w w'):ee w' base x xs s :=
 ⟨h.vs.below hb,h.vl,h.st.below hb,h.sh,h.ev,ay h.evs hb,h.el,fun p hp=>⟨ay (h.fr p hp).1 hb,(h.fr p hp).2⟩⟩
theorem ee.other (h:ee w base x xs s) {g:Nat} {t:TypeId} {cs:Array Value} (hb:ah w g t cs) (h1:t≠108∧t≠56∧t≠115∧t≠120∧t≠65∧t≠5) (hg:w.grownBy w' (some g)):ee w' base x xs s :=
 ⟨h.vs.grown hb h1.1 hg,h.vl,⟨h.st.b.kept hg (aK h.st.b hb h1.2.1),h.st.h.kept hg (aK h.st.h hb h1.2.2.1),h.st.f.kept hg (aK h.st.f hb h1.2.2.2.1),h.st.ok,h.st.nb,h.st.nh,h.st.nf⟩,h.sh,h.ev,h.evs.kept hg (aK h.evs hb h1.2.2.2.2.1),h.el,
  fun p hp=>⟨(h.fr p hp).1.kept hg (aK (h.fr p hp).1 hb h1.2.2.2.2.2),(h.fr p hp).2⟩⟩
theorem ee.state (h:ee w base x xs s) {y:nG} {st:bh} (hs:io w base y st):ee w base { x with st:=y } xs { s with st:=st } :=
 ⟨h.vs,h.vl,hs,⟨h.sh.conf,hs.ok,h.sh.evs⟩,h.ev,h.evs,h.el,h.fr⟩
theorem ee.snoc (h:ee w base x xs s) {p:dL × da} {A:Option Addr} {c:Nat} (hg:w.grownBy w' (Value.slice x.e s.evs.length x.ce).ownBlock) (ho:w'.ownsRow base 65 42 (.slice A (s.evs.length + 1) c) (s.evs.length + 1) (cA eJ xs ++ eJ p))
  (hp:w.ownsRow base 5 1 (.slice p.1.f p.2.act.frame.length p.1.cf) p.2.act.frame.length (ab p.2.act.frame)) (hsh:aB p.2) (ho2:p.2.o.out=[]) (hl:s.evs.length + 1≤1000000):ee w' base { x with e:=A,ce:=c } (xs ++ [p]) { s with evs:=s.evs ++ [p.2] }:=by
 have hl2:(s.evs ++ [p.2]).length=s.evs.length + 1:=by simp
 refine ⟨⟨h.vs.1.kept hg (kO h.vs.1 h.evs (by decide)),h.vs.2⟩,h.vl,⟨h.st.b.kept hg (kO h.st.b h.evs (by decide)),h.st.h.kept hg (kO h.st.h h.evs (by decide)),h.st.f.kept hg (kO h.st.f h.evs (by decide)),h.st.ok,h.st.nb,h.st.nh,h.st.nf⟩,⟨h.sh.conf,h.sh.st,?_⟩,?_,?_,?_,?_⟩
 ·intro e he
  rcases List.mem_append.1 he with he | he
  ·exact h.sh.evs e he
  ·simp only [List.mem_singleton] at he
   rw [he];exact hsh
 ·show s.evs ++ [p.2]=_
  rw [h.ev];simp
 ·show w'.ownsRow base _ 42 (.slice A (s.evs ++ [p.2]).length c) (s.evs ++ [p.2]).length (cA eJ (xs ++ [p]))
  rw [hl2,show cA eJ (xs ++ [p])=cA eJ xs ++ eJ p by simp [cA]];exact ho
 ·show (s.evs ++ [p.2]).length≤_
  rw [hl2];exact hl
 ·intro q hq
  rcases List.mem_append.1 hq with hq | hq
  ·exact ⟨(h.fr q hq).1.kept hg (kO (h.fr q hq).1 h.evs (by decide)),(h.fr q hq).2⟩
  ·simp only [List.mem_singleton] at hq
   rw [hq];exact ⟨hp.kept hg (kO hp h.evs (by decide)),ho2⟩
theorem ee.zero (w:World) (base:Nat):ee w base dX [] cM :=
 ⟨i8.nil w base,by decide,io.zero w base,cZ,rfl,World.ownsRow_nil _ _ _ _,by decide,by simp⟩
end
theorem cJ {P:Program} {fn:Func} {p u v:Tmp} {ty:TypeId} (h:fn.results=#[.cell p ty,.tmp u,.tmp v]) (tmps:Array Value) (w:World) (g:Nat) (t:TypeId) (cs:Array Value) (fr:Nat × Nat) (d:TypeDesc)
  (hp:tmps.getD p undef=.pointer (some ⟨g,0,none⟩)) (hg:w.heap[g]?=some (.cells cs t fr))
  (hu:P.underlying ty=some d) (hd:(match d with | .struct _ | .array _ _=>true | _=>false)=true) (hi:(P.info? ty).map (·.size)=some cs.size) :
  (results fn tmps).run P w=.ok (.tuple #[.agg cs,tmps.getD u undef,tmps.getD v undef]) w:=by
 have e:(results fn tmps).run P w=((asAddr (tmps.getD p undef)).run P w).andThen fun a w₁=>((loadVar ty a).run P w₁).andThen fun x w₂=>.ok (.tuple #[x,tmps.getD u undef,tmps.getD v undef]) w₂:=by
  simp only [results,h];simp [Sem.run_bind,Result.andThen]
 rw [e,hp];simp [asAddr,run_loadVar_row w g t ty cs fr d hg hu hd hi]
theorem sq {l:List UInt8} {f:da} (h:eD l=some f):f.o.out=[]:=by
 unfold eD at h;split at h
 ·injection h with h
  rw [←h];simp only [DT]
 ·cases h
def gD (w:World) (l:List UInt8) (e:Ending) (w':World):Prop :=
 Below w.heap.size w w'∧∃ x xs,e=.returned (.tuple #[.agg (ar x (aR l).1).toArray,.int .i64 ((aR l).2.1:Int),.int .i64 ((aR l).2.2:Int)])∧ee w' w.heap.size x xs (aR l).1
end Go.Proofs.YtaafkokfdgfabaaGreat
namespace Go.Proofs.YtaafkokfdgfabaaGreat
open Go.RowKit
set_option linter.unusedVariables false
set_option linter.unusedSimpArgs false
theorem zA (d:Nat) (a b:List UInt8) (w:World):(Op.equalIn (d + 1) 9 (sv a) (sv b)).run Tryz.prog w=.ok (a == b) w:=by
 have:=run_equalIn_string (P:=Tryz.prog) w d 9 ⟨a.toArray⟩ ⟨b.toArray⟩ Tryz.underlying9;rw [ByteArray.toList_eq,ByteArray.toList_eq] at this;simpa [sv] using this
theorem lA (d:Nat) (a b:Int) (w:World):(Op.equalIn (d + 1) 3 (zv a) (zv b)).run Tryz.prog w=.ok (a == b) w:=run_equalIn_int (P:=Tryz.prog) w d 3 .i64 .i64 a b Tryz.underlying3
theorem EI (d:Nat) (a b:Bool) (w:World):(Op.equalIn (d + 1) 4 (.bool a) (.bool b)).run Tryz.prog w=.ok (a == b) w:=run_equalIn_bool (P:=Tryz.prog) w d 4 a b Tryz.underlying4
theorem cB {T:TypeId} (w:World) (cs:List Value) (k:Nat) (v:Value) (hi:(isAgg T).run Tryz.prog w=.ok false w) (h:cs[k]?=some v):(part T cs.toArray k).run Tryz.prog w=.ok v w:=by
 simp [part,hi,Result.andThen,h]
theorem kP {T:TypeId} {n:Nat} (w:World) (cs pre mid post:List Value) (k:Nat) (hi:(isAgg T).run Tryz.prog w=.ok true w) (hs:(sizeOf T).run Tryz.prog w=.ok n w) (h:cs=pre ++ (mid ++ post)) (hk:pre.length=k) (hm:mid.length=n):(part T cs.toArray k).run Tryz.prog w=.ok (.agg mid.toArray) w:=by
 have e:List.take n (List.drop k cs)=mid:=by rw [h,List.drop_left' hk,List.take_left' hm]
 simp [part,hi,hs,Result.andThen,e]
theorem Gv (w:World):(isAgg 9).run Tryz.prog w=.ok false w:=by simp [isAgg,run_underlying Tryz.underlying9]
theorem zB (w:World):(isAgg 3).run Tryz.prog w=.ok false w:=by simp [isAgg,run_underlying Tryz.underlying3]
theorem GF (w:World):(isAgg 4).run Tryz.prog w=.ok false w:=by simp [isAgg,run_underlying Tryz.underlying4]
theorem Gw (w:World):(isAgg 27).run Tryz.prog w=.ok true w:=by simp [isAgg,run_underlying Tryz.underlying27]
theorem GG (w:World):(isAgg 118).run Tryz.prog w=.ok true w:=by simp [isAgg,run_underlying Tryz.underlying118]
theorem Fg (w:World):(sizeOf 118).run Tryz.prog w=.ok 37 w:=by
 obtain ⟨i,hi⟩:=info_of_underlying Tryz.underlying118;rw [run_sizeOf w hi,show Tryz.prog.cellsOf 118=37 by kernel_rfl]
theorem zC (w:World):(sizeOf 27).run Tryz.prog w=.ok 17 w:=by
 obtain ⟨i,hi⟩:=info_of_underlying Tryz.underlying27;rw [run_sizeOf w hi,show Tryz.prog.cellsOf 27=17 by kernel_rfl]
theorem vE:Tryz.prog.stoodInHeld 115=false:=by kernel_rfl
theorem tR:Tryz.prog.eqGuardType Tryz.prog.depth 115=false:=by kernel_rfl
theorem vF (d:Nat) (a b:cN) (w:World):(Op.equalIn (d + 3) 115 (.agg (aC a).toArray) (.agg (aC b).toArray)).run Tryz.prog w=.ok (a.name == b.name && (a.down == b.down && a.run == b.run)) w:=by
 have pa0:=cB w (aC a) 0 _ (Gv w) rfl;have pb0:=cB w (aC b) 0 _ (Gv w) rfl;have e0:=zA (d + 1) a.name b.name w;have pa1:=cB w (aC a) 1 _ (GF w) rfl;have pb1:=cB w (aC b) 1 _ (GF w) rfl;have e1:=EI (d + 1) a.down b.down w;have pa2:=cB w (aC a) 2 _ (zB w) rfl;have pb2:=cB w (aC b) 2 _ (zB w) rfl;have e2:=lA (d + 1) a.run b.run w;rw [run_equalIn_struct w (d + 2) _ _ _ d8 vE];simp only [Program.fieldsOf,Tryz.underlying115,Op.eqFields];rw [if_pos (by decide)];simp only [Sem.run_bind,pa0,pb0,Result.andThen_ok,e0];cases hc0:(a.name == b.name)
 ·simp
 simp only [Bool.not_true,Bool.false_eq_true,if_false];rw [if_pos (by decide)];simp only [Sem.run_bind,pa1,pb1,Result.andThen_ok,e1];cases hc1:(a.down == b.down)
 ·simp
 simp only [Bool.not_true,Bool.false_eq_true,if_false];rw [if_pos (by decide)];simp only [Sem.run_bind,pa2,pb2,Result.andThen_ok,e2];cases hc2:(a.run == b.run) <;> simp
theorem kQ {k:fz} (h:cg k) (j:Nat):(aO k)[34 + j]?=[zv k.proto,zv k.sport,zv k.dport][j]?:=by
 have h1:=ap h.src;have h2:=ap h.dst;rw [aO,←List.append_assoc,List.getElem?_append_right (by simp [h1,h2])];simp [h1,h2]
theorem DC:Tryz.prog.stoodInHeld 118=false:=by kernel_rfl
theorem DD (d:Nat) (a b:fz) (ha:cg a) (hb:cg b) (w:World):(Op.equalIn (d + 4) 118 (.agg (aO a).toArray) (.agg (aO b).toArray)).run Tryz.prog w=.ok (jG a b) w:=by
 have pa0:=kP w (aO a) [] (ai a.src) (ai a.dst ++ [zv a.proto,zv a.sport,zv a.dport]) 0 (Gw w) (zC w) rfl rfl (ap ha.src);have pb0:=kP w (aO b) [] (ai b.src) (ai b.dst ++ [zv b.proto,zv b.sport,zv b.dport]) 0 (Gw w) (zC w) rfl rfl (ap hb.src);have e0:=gR d a.src b.src ha.src hb.src w;have pa1:=kP w (aO a) (ai a.src) (ai a.dst) [zv a.proto,zv a.sport,zv a.dport] 17 (Gw w) (zC w) rfl (ap ha.src) (ap ha.dst);have pb1:=kP w (aO b) (ai b.src) (ai b.dst) [zv b.proto,zv b.sport,zv b.dport] 17 (Gw w) (zC w) rfl (ap hb.src) (ap hb.dst);have e1:=gR d a.dst b.dst ha.dst hb.dst w;have pa2:=cB w (aO a) (34 + 0) _ (zB w) (kQ ha 0);have pb2:=cB w (aO b) (34 + 0) _ (zB w) (kQ hb 0);have e2:=lA (d + 2) a.proto b.proto w;have pa3:=cB w (aO a) (34 + 1) _ (zB w) (kQ ha 1);have pb3:=cB w (aO b) (34 + 1) _ (zB w) (kQ hb 1);have e3:=lA (d + 2) a.sport b.sport w;have pa4:=cB w (aO a) (34 + 2) _ (zB w) (kQ ha 2);have pb4:=cB w (aO b) (34 + 2) _ (zB w) (kQ hb 2);have e4:=lA (d + 2) a.dport b.dport w;unfold jG;rw [run_equalIn_struct w (d + 3) _ _ _ ei DC];simp only [Program.fieldsOf,Tryz.underlying118,Op.eqFields];rw [if_pos (by decide)];simp only [Sem.run_bind,pa0,pb0,Result.andThen_ok,e0];cases hc0:(a.src == b.src)
 ·simp
 simp only [Bool.not_true,Bool.false_eq_true,if_false];rw [if_pos (by decide)];simp only [Sem.run_bind,pa1,pb1,Result.andThen_ok,e1];cases hc1:(a.dst == b.dst)
 ·simp
 simp only [Bool.not_true,Bool.false_eq_true,if_false];rw [if_pos (by decide)];simp only [Sem.run_bind,pa2,pb2,Result.andThen_ok,e2];cases hc2:(a.proto == b.proto)
 ·simp
 simp only [Bool.not_true,Bool.false_eq_true,if_false];rw [if_pos (by decide)];simp only [Sem.run_bind,pa3,pb3,Result.andThen_ok,e3];cases hc3:(a.sport == b.sport)
 ·simp
 simp only [Bool.not_true,Bool.false_eq_true,if_false];rw [if_pos (by decide)];simp only [Sem.run_bind,pa4,pb4,Result.andThen_ok,e4];cases hc4:(a.dport == b.dport) <;> simp
theorem j7 {f:dD} (h:cg f.key) (j:Nat):(ax f)[37 + j]?=[sv f.name,zv f.state,zv f.seen,zv f.no][j]?:=by
 rw [ax,List.getElem?_append_right (by rw [fw h];omega),fw h,Nat.add_sub_cancel_left]
def i9 (a b:dD):Bool:=jG a.key b.key && (a.name == b.name && (a.state == b.state && (a.seen == b.seen && a.no == b.no)))
theorem Bu:Tryz.prog.stoodInHeld 120=false:=by kernel_rfl
theorem yo:Tryz.prog.eqGuardType Tryz.prog.depth 120=false:=by kernel_rfl
theorem Bv (d:Nat) (a b:dD) (ha:cg a.key) (hb:cg b.key) (w:World):(Op.equalIn (d + 5) 120 (.agg (ax a).toArray) (.agg (ax b).toArray)).run Tryz.prog w=.ok (i9 a b) w:=by
 have pa0:=kP w (ax a) [] (aO a.key) [sv a.name,zv a.state,zv a.seen,zv a.no] 0 (GG w) (Fg w) rfl rfl (fw ha);have pb0:=kP w (ax b) [] (aO b.key) [sv b.name,zv b.state,zv b.seen,zv b.no] 0 (GG w) (Fg w) rfl rfl (fw hb);have e0:=DD d a.key b.key ha hb w;have pa1:=cB w (ax a) (37 + 0) _ (Gv w) (j7 ha 0);have pb1:=cB w (ax b) (37 + 0) _ (Gv w) (j7 hb 0);have e1:=zA (d + 3) a.name b.name w;have pa2:=cB w (ax a) (37 + 1) _ (zB w) (j7 ha 1);have pb2:=cB w (ax b) (37 + 1) _ (zB w) (j7 hb 1);have e2:=lA (d + 3) a.state b.state w;have pa3:=cB w (ax a) (37 + 2) _ (zB w) (j7 ha 2);have pb3:=cB w (ax b) (37 + 2) _ (zB w) (j7 hb 2);have e3:=lA (d + 3) a.seen b.seen w;have pa4:=cB w (ax a) (37 + 3) _ (zB w) (j7 ha 3);have pb4:=cB w (ax b) (37 + 3) _ (zB w) (j7 hb 3);have e4:=lA (d + 3) a.no b.no w;unfold i9;rw [run_equalIn_struct w (d + 4) _ _ _ cD Bu];simp only [Program.fieldsOf,Tryz.underlying120,Op.eqFields];rw [if_pos (by decide)];simp only [Sem.run_bind,pa0,pb0,Result.andThen_ok,e0];cases hc0:(jG a.key b.key)
 ·simp
 simp only [Bool.not_true,Bool.false_eq_true,if_false];rw [if_pos (by decide)];simp only [Sem.run_bind,pa1,pb1,Result.andThen_ok,e1];cases hc1:(a.name == b.name)
 ·simp
 simp only [Bool.not_true,Bool.false_eq_true,if_false];rw [if_pos (by decide)];simp only [Sem.run_bind,pa2,pb2,Result.andThen_ok,e2];cases hc2:(a.state == b.state)
 ·simp
 simp only [Bool.not_true,Bool.false_eq_true,if_false];rw [if_pos (by decide)];simp only [Sem.run_bind,pa3,pb3,Result.andThen_ok,e3];cases hc3:(a.seen == b.seen)
 ·simp
 simp only [Bool.not_true,Bool.false_eq_true,if_false];rw [if_pos (by decide)];simp only [Sem.run_bind,pa4,pb4,Result.andThen_ok,e4];cases hc4:(a.no == b.no) <;> simp
end Go.Proofs.YtaafkokfdgfabaaGreat
namespace Go.Proofs.YtaafkokfdgfabaaGreat
open Go.RowKit
set_option linter.unusedVariables false
set_option linter.unusedSimpArgs false
def sr {α:Type} (f:α→α→Bool):List α→List α→Bool
 | [],[]=>true
 | a :: us,b :: bs=>f a b && sr f us bs
 | _,_=>false
theorem oJ {α:Type} {f:α→α→Bool}:∀ {us bs:List α},us.length≠bs.length→sr f us bs=false
 | [],[],h=>absurd rfl h
 | a :: us,b :: bs,h=>by rw [sr,oJ (by simpa using h),Bool.and_false]
 | [],b :: bs,_=>rfl
 | a :: us,[],_=>rfl
theorem qY {α:Type} {f:α→α→Bool}:∀ {us bs:List α},us.length=bs.length→(∀ (i:Nat) a b,us[i]?=some a→bs[i]?=some b→f a b=true)→sr f us bs=true
 | [],[],_,_=>rfl
 | a :: us,b :: bs,hl,h=>by
  rw [sr,h 0 a b rfl rfl,qY (by simpa using hl) fun i x y hx hy=>h (i + 1) x y (by simpa using hx) (by simpa using hy)];rfl
 | [],b :: bs,hl,_=>by simp at hl
 | a :: us,[],hl,_=>by simp at hl
theorem qZ {α:Type} {f:α→α→Bool}:∀ {us bs:List α} (i:Nat) {a b:α},us[i]?=some a→bs[i]?=some b→f a b=false→sr f us bs=false
 | x :: us,y :: bs,0,a,b,ha,hb,h=>by
  simp only [List.getElem?_cons_zero,Option.some.injEq] at ha hb;subst ha hb;rw [sr,h];rfl
 | x :: us,y :: bs,i + 1,a,b,ha,hb,h=>by rw [sr,qZ i (by simpa using ha) (by simpa using hb) h,Bool.and_false]
 | [],_,i,a,b,ha,_,_=>by simp at ha
 | x :: us,[],i,a,b,_,hb,_=>by simp at hb
def fV (a b:cN):Bool:=a.name == b.name && (a.down == b.down && a.run == b.run)
set_option maxRecDepth 100000 in
theorem tS (A:Option Addr) (n c:Nat) (us:List cN) (A':Option Addr) (n' c':Nat) (bs:List cN) (w:World) (hn:n=us.length) (hn':n'=bs.length) (hnc:n≤c) (hnc':n'≤c') (ha:RW aC 3 w w.heap.size A us) (hb:RW aC 3 w w.heap.size A' bs) (hl:n≤1000000) (hl':n'≤1000000) :
  Calls Tryz.prog 108 #[.slice A n c,.slice A' n' c'] w fun e w'=>e=.returned (.bool (sr fV us bs))∧Below w.heap.size w w':=by
 have HA:=Lib.hid ha;have HA':=Lib.hid hb;have Hn:=Lib.hid hn;have Hn':=Lib.hid hn';obtain ⟨r,hr⟩:∃ r,r=sr fV us bs:=⟨_,rfl⟩
 rw [←hr];have Hr:=Lib.hid hr;clear ha hb hn hn' hr;by_cases hne:n=n'
 rotate_left
 ·have hI:((n:Int) != (n':Int))=true:=by simp;omega
  have hf:Hid (r=false):=by show _=_;rw [Hr.out];exact oJ (by rw [←Hn.out,←Hn'.out];exact hne)
  clear hne;go_enter Tryz.func108,Tryz.ntmps108
  go_wp2
  go_ret
  exact ⟨by rw [hf.out];rfl,Below.refl _ _⟩
 subst hne;go_enter Tryz.func108,Tryz.ntmps108
 go_wp2
 go_loopw [5] (fun i wr=>∃ k:Nat,k≤n∧i=.int .i64 (k:Int)∧Hid (Below w.heap.size w wr)∧Hid (∀ i a b,i<k→us[i]?=some a→bs[i]?=some b→fV a b=true)) (fun i _=>n - (intOf i).toNat)
 case atStart=>exact ⟨0,by omega,rfl,Below.refl _ _,fun i a b h=>absurd h (by omega)⟩
 case round =>
  obtain ⟨k,hk,rfl,hbel,hat⟩:=hrel;rename World=>wr
  by_cases hlt:k<n
  ·have hltI:(k:Int)<(n:Int):=by omega
   have hk0:(0:Int)≤(k:Int):=by omega
   obtain ⟨b1,o1,rfl,hb1,hc1⟩:=(HA.out.below hbel.out) (by rw [←Hn.out];omega);obtain ⟨b2,o2,rfl,hb2,hc2⟩:=(HA'.out.below hbel.out) (by rw [←Hn'.out];omega);obtain ⟨x,hx⟩:∃ x,us[k]?=some x:=⟨_,List.getElem?_eq_getElem (by rw [←Hn.out];exact hlt)⟩
   obtain ⟨y,hy⟩:∃ y,bs[k]?=some y:=⟨_,List.getElem?_eq_getElem (by rw [←Hn'.out];exact hlt)⟩
   have Hx:=Lib.hid (hc1 k x hx);have Hy:=Lib.hid (hc2 k y hy);have l1:b1<wr.heap.size:=Nat.lt_of_lt_of_le hb1 hbel.out.size;have l2:b2<wr.heap.size:=Nat.lt_of_lt_of_le hb2 hbel.out.size;have Hno:Hid (fV x y=false→r=false):=fun h=>by rw [Hr.out];exact qZ k hx hy h
   have Hyes:Hid (fV x y=true→∀ i a b,i<k + 1→us[i]?=some a→bs[i]?=some b→fV a b=true):=fun h i a b hi ha hb=>by
    rcases Nat.lt_or_ge i k with h1 | h1
    ·exact hat.out i a b h1 ha hb
    ·obtain rfl:i=k:=by omega
     rw [hx] at ha;rw [hy] at hb;injection ha with ha
     injection hb with hb
     rw [←ha,←hb];exact h
   clear hc1 hc2 hx hy hat;go_upto_region 6 with fail
   refine Sd.start ?_
   repeat ((first | refine sl Hx.out l1 d8 (eM x) ?_ | refine sl Hy.out l2 d8 (eM y) ?_ | refine en (r:=fV x y) (vF 9997 x y) tR ?_ | refine pt ?_);simp only [ld,lg,lf,Nat.reduceAdd])
   refine Sd.done fun w2 hb2'=>?_
   have Hb2:=Lib.hid (hbel.out.trans (hb2'.mono hbel.out.size));clear hb2' hbel;rcases hv:fV x y with _ | _
   ·have hf:=Lib.hid (Hno.out hv)
    simp only [hv,Bool.not_false];clear hv
    go_wp2
    go_ret
    exact ⟨by rw [hf.out];rfl,Hb2.out⟩
   ·have hf:=Lib.hid (Hyes.out hv)
    simp only [hv,Bool.not_true];clear hv
    go_wp2
    go_roundw
    case rel=>exact ⟨k + 1,by omega,by go_num,Hb2,hf⟩
    case measure=>simp [intOf];omega
  ·have hltI:¬ (k:Int)<(n:Int):=by omega
   have hf:Hid (r=true):=by
    show _=_
    rw [Hr.out];exact qY (Hn.out.symm.trans Hn'.out) fun i a b ha hb=>hat.out i a b (by have:=(List.getElem?_eq_some_iff.1 ha).1;rw [←Hn.out] at this;omega) ha hb
   go_wp2
   go_ret
   exact ⟨by rw [hf.out];rfl,hbel.out⟩
set_option maxRecDepth 100000 in
theorem tT (A:Option Addr) (n c:Nat) (us:List dD) (A':Option Addr) (n' c':Nat) (bs:List dD) (w:World) (hn:n=us.length) (hn':n'=bs.length) (hnc:n≤c) (hnc':n'≤c') (ha:RW ax 41 w w.heap.size A us) (hb:RW ax 41 w w.heap.size A' bs) (hl:n≤1000000) (hl':n'≤1000000) (hs:∀ f ∈ us,cg f.key) (hs2:∀ f ∈ bs,cg f.key) :
  Calls Tryz.prog 109 #[.slice A n c,.slice A' n' c'] w fun e w'=>e=.returned (.bool (sr i9 us bs))∧Below w.heap.size w w':=by
 have HA:=Lib.hid ha;have HA':=Lib.hid hb;have Hn:=Lib.hid hn;have Hn':=Lib.hid hn';obtain ⟨r,hr⟩:∃ r,r=sr i9 us bs:=⟨_,rfl⟩
 rw [←hr];have Hr:=Lib.hid hr;have Hs:=Lib.hid hs;have Hs2:=Lib.hid hs2;clear ha hb hn hn' hr hs hs2;by_cases hne:n=n'
 rotate_left
 ·have hI:((n:Int) != (n':Int))=true:=by simp;omega
  have hf:Hid (r=false):=by show _=_;rw [Hr.out];exact oJ (by rw [←Hn.out,←Hn'.out];exact hne)
  clear hne;go_enter Tryz.func109,Tryz.ntmps109
  go_wp2
  go_ret
  exact ⟨by rw [hf.out];rfl,Below.refl _ _⟩
 subst hne;go_enter Tryz.func109,Tryz.ntmps109
 go_wp2
 go_loopw [5] (fun i wr=>∃ k:Nat,k≤n∧i=.int .i64 (k:Int)∧Hid (Below w.heap.size w wr)∧Hid (∀ i a b,i<k→us[i]?=some a→bs[i]?=some b→i9 a b=true)) (fun i _=>n - (intOf i).toNat)
 case atStart=>exact ⟨0,by omega,rfl,Below.refl _ _,fun i a b h=>absurd h (by omega)⟩
 case round =>
  obtain ⟨k,hk,rfl,hbel,hat⟩:=hrel;rename World=>wr
  by_cases hlt:k<n
  ·have hltI:(k:Int)<(n:Int):=by omega
   have hk0:(0:Int)≤(k:Int):=by omega
   obtain ⟨b1,o1,rfl,hb1,hc1⟩:=(HA.out.below hbel.out) (by rw [←Hn.out];omega);obtain ⟨b2,o2,rfl,hb2,hc2⟩:=(HA'.out.below hbel.out) (by rw [←Hn'.out];omega);obtain ⟨x,hx⟩:∃ x,us[k]?=some x:=⟨_,List.getElem?_eq_getElem (by rw [←Hn.out];exact hlt)⟩
   obtain ⟨y,hy⟩:∃ y,bs[k]?=some y:=⟨_,List.getElem?_eq_getElem (by rw [←Hn'.out];exact hlt)⟩
   have Hx:=Lib.hid (hc1 k x hx);have Hy:=Lib.hid (hc2 k y hy);have l1:b1<wr.heap.size:=Nat.lt_of_lt_of_le hb1 hbel.out.size;have l2:b2<wr.heap.size:=Nat.lt_of_lt_of_le hb2 hbel.out.size;have Hxo:=Lib.hid (Hs.out x (List.mem_of_getElem? hx));have Hyo:=Lib.hid (Hs2.out y (List.mem_of_getElem? hy));have Hno:Hid (i9 x y=false→r=false):=fun h=>by rw [Hr.out];exact qZ k hx hy h
   have Hyes:Hid (i9 x y=true→∀ i a b,i<k + 1→us[i]?=some a→bs[i]?=some b→i9 a b=true):=fun h i a b hi ha hb=>by
    rcases Nat.lt_or_ge i k with h1 | h1
    ·exact hat.out i a b h1 ha hb
    ·obtain rfl:i=k:=by omega
     rw [hx] at ha;rw [hy] at hb;injection ha with ha
     injection hb with hb
     rw [←ha,←hb];exact h
   clear hc1 hc2 hx hy hat;go_upto_region 6 with fail
   refine Sd.start ?_
   repeat ((first | refine sl Hx.out l1 cD (jY Hxo.out) ?_ | refine sl Hy.out l2 cD (jY Hyo.out) ?_ | refine en (Bv 9995 x y Hxo.out Hyo.out) yo ?_ | refine pt ?_);simp only [ld,lg,lf,Nat.reduceAdd])
   refine Sd.done fun w2 hb2'=>?_
   have Hb2:=Lib.hid (hbel.out.trans (hb2'.mono hbel.out.size));clear hb2' hbel;rcases hv:i9 x y with _ | _
   ·have hf:=Lib.hid (Hno.out hv)
    simp only [hv,Bool.not_false];clear hv
    go_wp2
    go_ret
    exact ⟨by rw [hf.out];rfl,Hb2.out⟩
   ·have hf:=Lib.hid (Hyes.out hv)
    simp only [hv,Bool.not_true];clear hv
    go_wp2
    go_roundw
    case rel=>exact ⟨k + 1,by omega,by go_num,Hb2,hf⟩
    case measure=>simp [intOf];omega
  ·have hltI:¬ (k:Int)<(n:Int):=by omega
   have hf:Hid (r=true):=by
    show _=_
    rw [Hr.out];exact qY (Hn.out.symm.trans Hn'.out) fun i a b ha hb=>hat.out i a b (by have:=(List.getElem?_eq_some_iff.1 ha).1;rw [←Hn.out] at this;omega) ha hb
   go_wp2
   go_ret
   exact ⟨by rw [hf.out];rfl,hbel.out⟩
end Go.Proofs.YtaafkokfdgfabaaGreat
