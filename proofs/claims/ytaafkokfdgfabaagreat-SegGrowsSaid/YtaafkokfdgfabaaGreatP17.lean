import Derived.Test.YtaafkokfdgfabaaGreatP8
import Derived.Test.YtaafkokfdgfabaaGreatP13
import Derived.Test.YtaafkokfdgfabaaGreatP15
import Derived.Deep.RegionHeld
set_option maxHeartbeats 8000000
namespace Go.Proofs.YtaafkokfdgfabaaGreat
open Go.RowKit
set_option linter.unusedVariables false
set_option linter.unusedSimpArgs false
theorem oe (l:List UInt8) (s:St):(aJ l s 1 true).2≤255:=by
 have h:=iI l s 0 1;unfold aJ;rw [if_neg (by decide)];show ix (eC l s 0 1).2 true≤255
 match hx:(eC l s 0 1).2,h with
 | [],_=>decide
 | [c],_=>rw [cL];have:=c.toNat_lt;omega
theorem CG (l:List UInt8) (s:St):(aJ l s 2 true).2≤65535:=by
 have h:=iI l s 0 2;unfold aJ;rw [if_neg (by decide)];show ix (eC l s 0 2).2 true≤65535
 match hx:(eC l s 0 2).2,h with
 | [],_=>decide
 | [c],_=>rw [cL];have:=c.toNat_lt;omega
 | [c,d],_=>rw [kB];have:=c.toNat_lt;have:=d.toNat_lt;omega
theorem gy {l:List UInt8} {s u:St} {n:Nat} {x:List UInt8} (h:a8 l s n=(u,x)):x.length≤n:=by
 have:=congrArg Prod.snd h;simp only [a8,eC] at this;rw [if_neg (by omega)] at this;split at this
 ·rw [←this];simp
 ·split at this
  ·rw [←this];simp
  ·rw [←this,List.length_take]
   simp;omega
theorem mw:(Tryz.prog.info? 5).map (·.size)=some 1:=by kernel_rfl
def kC (b:List UInt8) (k:Nat):List UInt8:=b ++ List.replicate (k - b.length) 0
theorem og {b:List UInt8} {k:Nat} (h:b.length≤k):(kC b k).length=k:=by simp [kC];omega
theorem uz {pre post:List Value} {x:List UInt8} {N:Nat} (hx:x.length≤N) (k:Nat) (hk:pre.length=k) :
  (pre ++ (ab (List.replicate N 0) ++ post)).take k ++ (ab x ++ (pre ++ (ab (List.replicate N 0) ++ post)).drop (k + (ab x).length))=pre ++ (ab (kC x N) ++ post):=by
 subst hk;rw [List.take_left,←List.drop_drop,List.drop_left,ao,List.drop_append_of_le_length (by rw [ao,List.length_replicate];exact hx)];simp only [kC,dK,List.append_assoc];rw [show (ab (List.replicate N 0)).drop x.length=ab (List.replicate (N - x.length) 0) by simp [ab,List.map_replicate]]
section
variable {P:Program}
theorem oh {w:World} {o:Oper} {a:Act} {K:Act→World→Prop} {Q:Exit→Act→World→Prop} (d s:Operand) (dT sT:TypeId)
  (ho:o.op=.call { callee:=.builtin .copy,args:=#[d,s],argTypes:=#[dT,sT] }) (elem:TypeId) (hu:P.underlying dT=some (.slice elem)) (hsz:(P.info? elem).map (·.size)=some 1)
  (g off N dCap:Nat) (A:Option Addr) (sCap:Nat) (x:List UInt8) (hd:a.eval d=.slice (some ⟨g,off,none⟩) N dCap) (hs:a.eval s=.slice A x.length sCap) (B:Nat) (hb:BS w B A x) (hx:x.length≤N)
  (t:TypeId) (cs:List UInt8→List Value) (pre post:List Value) (hcs:∀ b,cs b=pre ++ (ab b ++ post)) (hpre:pre.length=off) (hg:ah w g t (cs (List.replicate N 0)).toArray)
  (h:∀ w' z,ah w' g t (cs (kC x N)).toArray→w.grownBy w' (some g)→K (a.put o.dst z) w'):o.wp P a w K Q:=by
 rcases x with _ | ⟨x0,xs⟩
 ·have hrun:=run_copy_none (P:=P) w dT sT o.type elem (some ⟨g,off,none⟩) A N dCap 0 sCap hu hsz (by simp)
  unfold Oper.wp;simp [execOp,ho,resolve,invoke,builtin,hd,hs,hrun,Result.andThen];exact h w _ (by simpa [kC] using hg) (World.grownBy.refl _ _)
 ·obtain ⟨ad,rfl,_,hcell⟩:=hb (by simp)
  have hg':w.heap[g]?=some (.cells (cs (List.replicate N 0)).toArray t (0,0)):=hg;have hrun:=run_copy_row (P:=P) w dT sT o.type elem g off N dCap ad (x0 :: xs).length sCap (cs (List.replicate N 0)).toArray t (ab (x0 :: xs)) hu hsz hg' (by rw [ao];exact (Nat.min_eq_left hx).symm) (fun j v hj=>by
    rw [ab,List.getElem?_map] at hj;rcases hm:(x0 :: xs)[j]? with _ | y
    ·rw [hm] at hj;cases hj
    ·rw [hm] at hj
     simp only [Option.map_some,Option.some.injEq] at hj;rw [←hj];exact hcell j y hm) (by rw [hcs,List.size_toArray,List.length_append,hpre,List.length_append,ao,ao,List.length_replicate];omega) (ej _)
  unfold Oper.wp;simp only [execOp,ho,resolve,invoke,builtin,hd,hs,List.map_toArray,List.map_cons,List.map_nil,Sem.run_bind,Sem.run_pure,Result.andThen_ok,hrun];refine h _ _ ?_ (nQ w g _);rw [hcs (List.replicate N 0),List.append_assoc,uz hx off hpre,←hcs];exact ah.row hg _
end
section
variable {b:aU}
theorem ta (b:aU):∃ pre post,(∀ x:List UInt8,ag { b with addr:=(b.addr.1,x) }=pre ++ (ab x ++ post))∧pre.length=2 :=
 ⟨[sv b.name,.bool b.addr.1],zv b.port :: (ab b.mac ++ [.float .f64 b.wt,.bool b.drain]),fun x=>by simp [ag,ai],rfl⟩
theorem uA (h:au b):∃ pre post,(∀ x:List UInt8,ag { b with mac:=x }=pre ++ (ab x ++ post))∧pre.length=19 :=
 ⟨sv b.name :: (ai b.addr ++ [zv b.port]),[.float .f64 b.wt,.bool b.drain],fun x=>by simp [ag],by simp [ap h.addr]⟩
theorem CH (v:Bool):(ag b).toArray.setIfInBounds 1 (.bool v)=(ag { b with addr:=(v,b.addr.2) }).toArray:=by
 rw [List.setIfInBounds_toArray];rfl
theorem yR (h:au b) (i:Nat) (v:Value):(ag b).toArray.setIfInBounds (18 + i) v=(sv b.name :: (ai b.addr ++ (zv b.port :: (ab b.mac ++ [.float .f64 b.wt,.bool b.drain])).set i v)).toArray:=by
 have h1:=ap h.addr;rw [List.setIfInBounds_toArray,show 18 + i=(17 + i) + 1 by omega,ag,List.set_cons_succ,List.set_append_right _ _ (by omega),h1,Nat.add_sub_cancel_left]
theorem Ak (h:au b) (v:Int):(ag b).toArray.setIfInBounds 18 (.int .i64 v)=(ag { b with port:=v }).toArray:=yR h 0 _
theorem yS (h:au b) (i:Nat) (v:Value):(ag b).toArray.setIfInBounds (25 + i) v=(sv b.name :: (ai b.addr ++ (zv b.port :: (ab b.mac ++ [.float .f64 b.wt,.bool b.drain].set i v)))).toArray:=by
 have h2:=h.mac;rw [show 25 + i=18 + (7 + i) by omega,yR h,show 7 + i=(6 + i) + 1 by omega,List.set_cons_succ,List.set_append_right _ _ (by rw [ao];omega),ao,h2,Nat.add_sub_cancel_left]
theorem Eh (h:au b) (v:Nat):(ag b).toArray.setIfInBounds 25 (.float .f64 v)=(ag { b with wt:=v }).toArray:=yS h 0 _
theorem wX (h:au b) (v:Bool):(ag b).toArray.setIfInBounds 26 (.bool v)=(ag { b with drain:=v }).toArray:=yS h 1 _
end
def dI (l:List UInt8) (s:St) (bad:Bool):St × Bool × aU :=
 let t1:=bO l s 255
 let t2:=dQ l t1.1 bad
 let t3:=a8 l t2.1 16
 let t4:=aJ l t3.1 2 true
 let t5:=a8 l t4.1 6
 let t6:=cy l t5.1 t2.2.1
 let t7:=dQ l t6.1 t6.2.1
 (t7.1,t7.2.1,{ name:=t1.2,addr:=(t2.2.2,kC t3.2 16),port:=(t4.2:Int),mac:=kC t5.2 6,wt:=t6.2.2,drain:=t7.2.2 })
structure uB (w wr:World) (base g r bx:Nat) (l:List UInt8) (s:St) (bad:Bool) (b:aU):Prop where
 rs:RS wr base g r l s bad
 res:ah wr w.heap.size 56 (ag dN).toArray
 box:ah wr bx 56 (ag b).toArray
 off:cG w wr g (some r)
 shape:au b
 gt:w.heap.size<bx
 rl:r<w.heap.size
 gl:g<w.heap.size
section
variable {w wr w':World} {base g r bx:Nat} {l:List UInt8} {s s':St} {bad bad':Bool} {b b':aU}
theorem uB.after (h:uB w wr base g r bx l s bad b) (hR:RS w' base g r l s' bad') (ho:cG wr w' g (some r)):uB w w' base g r bx l s' bad' b :=
 ⟨hR,ho.blk h.res (by have:=h.gl;omega) (fun e=>by injection e with e;have:=h.rl;omega),ho.blk h.box (by have:=h.gl;have:=h.gt;omega) (fun e=>by injection e with e;have:=h.rl;have:=h.gt;omega),h.off.trans ho,h.shape,h.gt,h.rl,h.gl⟩
theorem uB.boxed (h:uB w wr base g r bx l s bad b) (hb:ah w' bx 56 (ag b').toArray) (hg:wr.grownBy w' (some bx)) (hs:au b'):uB w w' base g r bx l s bad b':=by
 have hr:=h.rl;have hgl:=h.gl;have hgt:=h.gt;refine ⟨⟨ey.off h.rs.rd hg h.box (by decide) (by decide),h.rs.ok,ah.grown h.rs.box hg (fun e=>by injection e with e;omega)⟩,ah.grown h.res hg (fun e=>by injection e with e;omega),hb,?_,hs,hgt,hr,hgl⟩;have hsz:=h.off.2.2.2.1;refine ⟨hg.os.trans h.off.1,hg.tape.trans h.off.2.1,hg.output.trans h.off.2.2.1,Nat.le_trans hsz hg.size,fun k hk h1 h2=>(hg.block k (by omega) (fun e=>by injection e with e;omega)).trans (h.off.2.2.2.2 k hk h1 h2)⟩
theorem uB.set_ (h:uB w wr base g r bx l s bad b) (k:Nat) (u:Value) (e:(ag b).toArray.setIfInBounds k u=(ag b').toArray) (hs:au b'):uB w (wr.setCell ⟨bx,k,none⟩ u) base g r bx l s bad b':=by
 refine h.boxed ?_ (aV _ ⟨bx,k,none⟩ u) hs;have:=ah.set_ h.box k u;rw [e] at this;exact this
theorem uB.below (h:uB w wr base g r bx l s bad b) (hb:Below wr.heap.size wr w'):uB w w' base g r bx l s bad b:=h.after (h.rs.below hb) (cG.of_below hb)
theorem uB.goodBlk (h:uB w wr base g r bx l s bad b):ah (wr.setCells w.heap.size 0 (ag b)) w.heap.size 56 (ag b).toArray:=by
 have:=ah.setCells (ag b) 0 h.res;rw [aW (by rw [bq h.shape,bq aF])] at this;exact this
theorem uB.good (h:uB w wr base g r bx l s bad b):Aj w base g r l s bad (wr.setCells w.heap.size 0 (ag b)):=by
 have hr:=h.rl;have hgl:=h.gl;have hgt:=h.gt;have hg:wr.grownBy (wr.setCells w.heap.size 0 (ag b)) (some w.heap.size):=aT _ w.heap.size 0 _ 0 (World.grownBy.refl _ _);refine ⟨⟨ey.off h.rs.rd hg h.res (by decide) (by decide),h.rs.ok,ah.grown h.rs.box hg (fun e=>by injection e with e;omega)⟩,?_⟩;have hsz:=h.off.2.2.2.1;exact ⟨hg.os.trans h.off.1,hg.tape.trans h.off.2.1,hg.output.trans h.off.2.2.1,Nat.le_trans hsz hg.size,fun k hk h1 h2=>(hg.block k (by omega) (fun e=>by injection e with e;omega)).trans (h.off.2.2.2.2 k hk h1 h2)⟩
end
set_option maxRecDepth 100000 in
theorem rV (base g r:Nat) (l:List UInt8) (s:St) (bad:Bool) (w:World) (h:RS w base g r l s bad) (hl:l.length≤1000000000) (hwt:∀ x:List UInt8,(jS x).1<18446744073709551616) :
  Calls Tryz.prog 153 #[.pointer (some ⟨r,0,none⟩)] w fun e w'=>e=.returned (.agg (ag (dI l s bad).2.2).toArray)∧Aj w base g r l (dI l s bad).1 (dI l s bad).2.1 w':=by
 obtain ⟨R,hR0⟩:∃ R,R=dI l s bad:=⟨_,rfl⟩
 rw [←hR0];have hRl:=hR0;unfold dI at hRl;clear hR0;rcases h1:bO l s 255 with ⟨s1,nm⟩
 rcases h2:dQ l s1 bad with ⟨s2,b2,six⟩
 rcases h3:a8 l s2 16 with ⟨s3,x⟩
 rcases h4:aJ l s3 2 true with ⟨s4,q⟩
 rcases h5:a8 l s4 6 with ⟨s5,m⟩
 rcases h6:cy l s5 b2 with ⟨s6,b6,wt⟩
 rcases h7:dQ l s6 b6 with ⟨s7,b7,dr⟩
 simp only [h1,h2,h3,h4,h5,h6,h7] at hRl;have lx:x.length≤16:=gy (n:=16) h3;have lm:m.length≤6:=gy (n:=6) h5;have lq:q≤65535:=by have:=CG l s3;rw [h4] at this;exact this
 have lw:wt<18446744073709551616:=by have:=congrArg (fun p=>p.2.2) h6;simp only [cy] at this;rw [←this];exact hwt _
 have H1:=Lib.hid h1;have H2:=Lib.hid h2;have H3:=Lib.hid h3;have H4:=Lib.hid h4;have H5:=Lib.hid h5;have H6:=Lib.hid h6;have H7:=Lib.hid h7;have HRl:=Lib.hid hRl;have Lx:=Lib.hid lx;have Lm:=Lib.hid lm;have Lq:=Lib.hid lq;have Lw:=Lib.hid lw;have Hh:=Lib.hid h;have hqw:IntKind.i64.wrap (q:Int)=(q:Int):=IntWalk.i64_in _ (by omega);have Hqw:=Lib.hid hqw;have hrl:=h.box.lt;have hgl:g<w.heap.size:=h.rd.lt;have Hrl:=Lib.hid hrl;have Hgl:=Lib.hid hgl;obtain ⟨W0,hW0⟩:∃ W,W=w.alloc (.cells (ag dN).toArray 56):=⟨_,rfl⟩
 have hb0:Below w.heap.size w W0:=by rw [hW0];exact (Below.refl _ _).alloc (Nat.le_refl _) _
 have hX0:ah W0 w.heap.size 56 (ag dN).toArray:=by rw [hW0];exact ah.new w _ _ _ rfl
 have HX0:=Lib.hid hX0;have HB0:=Lib.hid hb0;rw [gT] at hW0;have HW0:=Lib.hid hW0;clear h1 h2 h3 h4 h5 h6 h7 hRl lx lm lq lw h hqw hrl hgl hb0 hX0 hW0;go_enter Tryz.func153,Tryz.ntmps153
 go_upto_region 1 with fail
 rw [←HW0.out];clear HW0
 go_wp2_with fail
 refine (mv base g r l s bad W0 (Hh.out.below HB0.out) hl).mono ?_;rw [H1.out];rintro e w1 ⟨rfl,hc⟩;obtain ⟨hR1,hO1⟩:=hc;obtain ⟨b1,hb1⟩:∃ b:aU,b={ dN with name:=nm }:=⟨_,rfl⟩
 have hS1:au b1:=by rw [hb1];exact ⟨aF.addr,aF.mac,aF.wt⟩
 obtain ⟨W2,hW2⟩:∃ W,W=w1.alloc (.cells (ag dN).toArray 56):=⟨_,rfl⟩
 obtain ⟨W3,hW3⟩:∃ W,W=W2.setCells w1.heap.size 0 (ag b1):=⟨_,rfl⟩
 obtain ⟨hth,hbx,hbe⟩:=mL w1 W2 W3 56 (ag dN) (ag b1) (by rw [bq hS1,bq aF]) hW2 hW3;have hres1:ah w1 w.heap.size 56 (ag dN).toArray:=hO1.blk HX0.out (by have:=Hgl.out;omega) (fun e=>by injection e with e;have:=Hrl.out;omega);have hst:uB w W3 base g r w1.heap.size l s1 bad b1:=⟨hR1.below hbe,ah.below hres1 hbe hres1.lt,hbx,(cG.of_below HB0.out).trans (hO1.trans (cG.of_below hbe)),hS1,hres1.lt,Hrl.out,Hgl.out⟩
 have Hst:=Lib.hid hst;rw [gT] at hW2;have HW2:=Lib.hid hW2;have HW3:=Lib.hid hW3;have Hth:=Lib.hid hth;have Hb1:=Lib.hid hb1;have Hlit:Hid ((ag b1).toArray=#[.string ⟨nm.toArray⟩,.bool false,.int .u8 0,.int .u8 0,.int .u8 0,.int .u8 0,.int .u8 0,.int .u8 0,.int .u8 0,.int .u8 0,.int .u8 0,.int .u8 0,.int .u8 0,.int .u8 0,.int .u8 0,.int .u8 0,.int .u8 0,.int .u8 0,.int .i64 0,.int .u8 0,.int .u8 0,.int .u8 0,.int .u8 0,.int .u8 0,.int .u8 0,.float .f64 0,.bool false]):=by show _=_;rw [hb1];rfl
 have Hsz:Hid ((Tryz.prog.info? 56).map (·.size)=some (ag b1).toArray.size):=dv hS1;clear hR1 hO1 hb1 hS1 hW2 hW3 hth hbx hbe hres1 hst HX0 HB0;go_upto_region 2 with (first
  | (rw [←HW2.out];(with_reducible refine aM 56 ?_);rw [←Hlit.out];refine wpList_store_mid rfl 56 (.tmp 3) (.tmp 6) rfl w1.heap.size 0 (ag b1).toArray rfl rfl Hth.out Hsz.out (eZ _) ?_))
 rw [←HW3.out];clear HW2 HW3 Hth Hlit Hsz;obtain ⟨bx,hbx⟩:∃ b,b=w1.heap.size:=⟨_,rfl⟩
 rw [←hbx] at Hst ⊢;clear hbx
 go_wp2_with fail
 refine (mu base g r l s1 bad W3 Hst.out.rs hl).mono ?_;rw [H2.out];rintro e w4 ⟨rfl,hR,hO⟩;have Hm:=Lib.hid (Hst.out.after hR hO);clear hR hO Hst;obtain ⟨b2n,hb2n⟩:∃ b:aU,b={ b1 with addr:=(six,b1.addr.2) }:=⟨_,rfl⟩
 have hS:au b2n:=by rw [hb2n];exact ⟨Hm.out.shape.addr,Hm.out.shape.mac,Hm.out.shape.wt⟩
 have hst:=Hm.out.set_ (b':=b2n) 1 (.bool six) (by rw [CH,hb2n]) hS;have dx:=wK Hm.out.box Hm.out.shape;have df:=Hm.out.box.frozen 1;obtain ⟨Wan,hWan⟩:∃ W,W=w4.setCell ⟨bx,1,none⟩ (.bool six):=⟨_,rfl⟩
 rw [←hWan] at hst;have HWan:=Lib.hid hWan;have Hst:=Lib.hid hst;have Hb_b2n:=Lib.hid hb2n;clear hS hst hWan hb2n;go_upto_region 3 with fail
 rw [←HWan.out];clear dx df HWan Hm;have qx:=dt Hst.out.rs.ok 16;rw [H3.out] at qx;have Qx:=Lib.hid qx;have Tk:=Lib.hid (dW base g l s2 Wan.drew 16 Hst.out.rs.rd.drew Hst.out.rs.ok hl (by decide));rw [H3.out] at Tk;clear qx;refine wp_region_noPanic ?_;refine wp_region_held_drew (S:=fun w'=>w'.cell? ⟨r,0,none⟩=some (.pointer (some ⟨g,0,none⟩))) (by kernel_rfl) (Hst.out.below ((Below.refl _ _).drew)).rs.d0 (fun hHeld=>?_);refine wpAnyH_take (i:=0) (v:=?_) rfl (by kernel_rfl) (by kernel_rfl) (by kernel_rfl) (fun _ _ _ h=>h) (Or.inl ⟨by rfl,?_⟩) hHeld ?_;rotate_left
 ·intro w' hSw
  have d0:=hSw;go_simp
  try with_reducible rfl
 try simp only [Act.put,List.getElem_toArray,List.getElem_cons_succ,List.getElem_cons_zero,List.setIfInBounds_toArray,List.set_cons_zero,List.set_cons_succ]
 refine wpAnyH_take (i:=1) (v:=?_) rfl (by kernel_rfl) (by kernel_rfl) (by kernel_rfl) (fun _ _ _ h=>h) (Or.inl ⟨by rfl,?_⟩) hHeld ?_;rotate_left
 ·intro w' hSw
  have d0:=hSw;go_simp
  try with_reducible rfl
 try simp only [Act.put,List.getElem_toArray,List.getElem_cons_succ,List.getElem_cons_zero,List.setIfInBounds_toArray,List.set_cons_zero,List.set_cons_succ]
 refine wpAnyH_take (i:=2) (v:=?_) rfl (by kernel_rfl) (by kernel_rfl) (by kernel_rfl) (fun _ _ _ h=>h) (Or.inl ⟨by rfl,?_⟩) hHeld ?_;rotate_left
 ·intro w' hSw
  have d0:=hSw;go_simp
  try with_reducible rfl
 try simp only [Act.put,List.getElem_toArray,List.getElem_cons_succ,List.getElem_cons_zero,List.setIfInBounds_toArray,List.set_cons_zero,List.set_cons_succ]
 refine wpAnyH_take (i:=3) (v:=?_) rfl (by kernel_rfl) (by kernel_rfl) (by kernel_rfl) (fun _ _ _ h=>h) (Or.inl ⟨by rfl,?_⟩) hHeld ?_;rotate_left
 ·intro w' hSw
  have d0:=hSw;go_simp
  try with_reducible rfl
 try simp only [Act.put,List.getElem_toArray,List.getElem_cons_succ,List.getElem_cons_zero,List.setIfInBounds_toArray,List.set_cons_zero,List.set_cons_succ]
 refine wpAnyH_take (i:=4) (v:=?_) rfl (by kernel_rfl) (by kernel_rfl) (by kernel_rfl) (fun _ _ _ h=>h) (Or.inl ⟨by rfl,?_⟩) hHeld ?_;rotate_left
 ·intro w' hSw
  have d0:=hSw;go_simp
  try with_reducible rfl
 try simp only [Act.put,List.getElem_toArray,List.getElem_cons_succ,List.getElem_cons_zero,List.setIfInBounds_toArray,List.set_cons_zero,List.set_cons_succ]
 refine wpAnyH_take (i:=5) (v:=?_) rfl (by kernel_rfl) (by kernel_rfl) (by kernel_rfl) (fun _ _ _ h=>h) (Or.inl ⟨by rfl,?_⟩) hHeld ?_;rotate_left
 ·intro w' hSw
  have d0:=hSw;go_simp
  try with_reducible rfl
 try simp only [Act.put,List.getElem_toArray,List.getElem_cons_succ,List.getElem_cons_zero,List.setIfInBounds_toArray,List.set_cons_zero,List.set_cons_succ]
 refine wpAnyH_take (i:=6) (v:=?_) rfl (by kernel_rfl) (by kernel_rfl) (by kernel_rfl) (fun _ _ _ h=>h) (Or.inl ⟨by rfl,?_⟩) hHeld ?_;rotate_left
 ·intro w' hSw
  have d0:=hSw;go_simp
  try with_reducible rfl
 try simp only [Act.put,List.getElem_toArray,List.getElem_cons_succ,List.getElem_cons_zero,List.setIfInBounds_toArray,List.set_cons_zero,List.set_cons_succ]
 refine wpAnyH_ready (rs:=[7]) (by kernel_rfl) (by simp) ?_;refine AllReadyH.cons (i:=7) rfl (fun K hK=>?_) AllReadyH.nil;go_simp
 refine Tk.out.mono ?_;rintro e w5 ⟨Ax,cx,rfl,hown,hR,hg⟩;have hm0:=Hst.out.below ((Below.refl _ _).drew);have Hm:=Lib.hid (hm0.after (hm0.rs.after hR Qx.out hg) (cG.of_g hg));have Hbs:=Lib.hid (BS.of_own hown).1;clear hown hR hg hm0 Tk Qx Hst
 go_wp2_with fail
 refine hK.out _ _ Hm.out.rs.d0 (fun hHeld=>?_);clear hK K
 try simp only [Act.put,List.getElem_toArray,List.getElem_cons_succ,List.getElem_cons_zero,List.setIfInBounds_toArray,List.set_cons_zero,List.set_cons_succ]
 refine wpAnyH_ready (rs:=[8]) (by kernel_rfl) (by simp) ?_;refine AllReadyH.cons (i:=8) rfl (fun K hK=>?_) AllReadyH.nil;rw [if_pos (by rfl)];obtain ⟨pre1,post1,hcs1,hpre1⟩:=ta b2n;refine oh (.tmp 13) (.tmp 18) 43 43 rfl 5 Tryz.underlying43 mw bx 2 16 16 Ax cx x rfl rfl _ Hbs.out Lx.out 56 (fun x=>ag { b2n with addr:=(b2n.addr.1,x) }) pre1 post1 hcs1 hpre1 (by rw [show ({ b2n with addr:=(b2n.addr.1,List.replicate 16 0) }:aU)=b2n by rw [Hb_b2n.out,Hb1.out];rfl];exact Hm.out.box) ?_;intro w6 z hbox hgr;obtain ⟨b3n,hb3n⟩:∃ b:aU,b={ b2n with addr:=(b2n.addr.1,kC x 16) }:=⟨_,rfl⟩
 have hS:au b3n:=by rw [hb3n];exact ⟨og Lx.out,Hm.out.shape.mac,Hm.out.shape.wt⟩
 have Hst:=Lib.hid (Hm.out.boxed (b':=b3n) (by rw [hb3n];exact hbox) hgr hS);have Hb_b3n:=Lib.hid hb3n;clear hbox hgr hcs1 hpre1 Hbs Hm hS hb3n;refine hK.out _ _ Hst.out.rs.d0 (fun hHeld=>?_);clear hK K
 try simp only [Act.put,List.getElem_toArray,List.getElem_cons_succ,List.getElem_cons_zero,List.setIfInBounds_toArray,List.set_cons_zero,List.set_cons_succ]
 refine wpAnyH_done (by kernel_rfl) ?_ _;refine NoPanic.normal ?_;clear hHeld;have d0:=Hst.out.rs.d0;have ok4:=bQ Hst.out.rs.ok 2 true;rw [H4.out] at ok4;have Ok4:=Lib.hid ok4;clear ok4
 go_wp2_with fail
 refine (cF base g l s3 w6 2 true Hst.out.rs.rd Hst.out.rs.ok hl).mono ?_;rw [H4.out];rintro e w7 ⟨rfl,hR,hg⟩;have Hm:=Lib.hid (Hst.out.after (Hst.out.rs.after hR Ok4.out hg) (cG.of_g hg));clear hR hg d0 Hst;obtain ⟨b4n,hb4n⟩:∃ b:aU,b={ b3n with port:=(q:Int) }:=⟨_,rfl⟩
 have hS:au b4n:=by rw [hb4n];exact ⟨Hm.out.shape.addr,Hm.out.shape.mac,Hm.out.shape.wt⟩
 have hst:=Hm.out.set_ (b':=b4n) 18 (.int .i64 (q:Int)) (by rw [Ak Hm.out.shape,hb4n]) hS;have dx:=kY Hm.out.box Hm.out.shape;have df:=Hm.out.box.frozen 18;have hqw:=Hqw.out;obtain ⟨Wb,hWb⟩:∃ W,W=w7.setCell ⟨bx,18,none⟩ (.int .i64 (q:Int)):=⟨_,rfl⟩
 rw [←hWb] at hst;have HWb:=Lib.hid hWb;have Hst:=Lib.hid hst;have Hb_b4n:=Lib.hid hb4n;clear hS hst hWb hb4n;go_upto_region 5 with fail
 rw [←HWb.out];clear dx df hqw HWb Hm;have qx:=dt Hst.out.rs.ok 6;rw [H5.out] at qx;have Qx:=Lib.hid qx;have Tk:=Lib.hid (dW base g l s4 Wb.drew 6 Hst.out.rs.rd.drew Hst.out.rs.ok hl (by decide));rw [H5.out] at Tk;clear qx;refine wp_region_noPanic ?_;refine wp_region_held_drew (S:=fun w'=>w'.cell? ⟨r,0,none⟩=some (.pointer (some ⟨g,0,none⟩))) (by kernel_rfl) (Hst.out.below ((Below.refl _ _).drew)).rs.d0 (fun hHeld=>?_);refine wpAnyH_take (i:=0) (v:=?_) rfl (by kernel_rfl) (by kernel_rfl) (by kernel_rfl) (fun _ _ _ h=>h) (Or.inl ⟨by rfl,?_⟩) hHeld ?_;rotate_left
 ·intro w' hSw
  have d0:=hSw;go_simp
  try with_reducible rfl
 try simp only [Act.put,List.getElem_toArray,List.getElem_cons_succ,List.getElem_cons_zero,List.setIfInBounds_toArray,List.set_cons_zero,List.set_cons_succ]
 refine wpAnyH_take (i:=1) (v:=?_) rfl (by kernel_rfl) (by kernel_rfl) (by kernel_rfl) (fun _ _ _ h=>h) (Or.inl ⟨by rfl,?_⟩) hHeld ?_;rotate_left
 ·intro w' hSw
  have d0:=hSw;go_simp
  try with_reducible rfl
 try simp only [Act.put,List.getElem_toArray,List.getElem_cons_succ,List.getElem_cons_zero,List.setIfInBounds_toArray,List.set_cons_zero,List.set_cons_succ]
 refine wpAnyH_take (i:=2) (v:=?_) rfl (by kernel_rfl) (by kernel_rfl) (by kernel_rfl) (fun _ _ _ h=>h) (Or.inl ⟨by rfl,?_⟩) hHeld ?_;rotate_left
 ·intro w' hSw
  have d0:=hSw;go_simp
  try with_reducible rfl
 try simp only [Act.put,List.getElem_toArray,List.getElem_cons_succ,List.getElem_cons_zero,List.setIfInBounds_toArray,List.set_cons_zero,List.set_cons_succ]
 refine wpAnyH_take (i:=3) (v:=?_) rfl (by kernel_rfl) (by kernel_rfl) (by kernel_rfl) (fun _ _ _ h=>h) (Or.inl ⟨by rfl,?_⟩) hHeld ?_;rotate_left
 ·intro w' hSw
  have d0:=hSw;go_simp
  try with_reducible rfl
 try simp only [Act.put,List.getElem_toArray,List.getElem_cons_succ,List.getElem_cons_zero,List.setIfInBounds_toArray,List.set_cons_zero,List.set_cons_succ]
 refine wpAnyH_take (i:=4) (v:=?_) rfl (by kernel_rfl) (by kernel_rfl) (by kernel_rfl) (fun _ _ _ h=>h) (Or.inl ⟨by rfl,?_⟩) hHeld ?_;rotate_left
 ·intro w' hSw
  have d0:=hSw;go_simp
  try with_reducible rfl
 try simp only [Act.put,List.getElem_toArray,List.getElem_cons_succ,List.getElem_cons_zero,List.setIfInBounds_toArray,List.set_cons_zero,List.set_cons_succ]
 refine wpAnyH_take (i:=5) (v:=?_) rfl (by kernel_rfl) (by kernel_rfl) (by kernel_rfl) (fun _ _ _ h=>h) (Or.inl ⟨by rfl,?_⟩) hHeld ?_;rotate_left
 ·intro w' hSw
  have d0:=hSw;go_simp
  try with_reducible rfl
 try simp only [Act.put,List.getElem_toArray,List.getElem_cons_succ,List.getElem_cons_zero,List.setIfInBounds_toArray,List.set_cons_zero,List.set_cons_succ]
 refine wpAnyH_ready (rs:=[6]) (by kernel_rfl) (by simp) ?_;refine AllReadyH.cons (i:=6) rfl (fun K hK=>?_) AllReadyH.nil;go_simp
 refine Tk.out.mono ?_;rintro e w8 ⟨Ax,cx,rfl,hown,hR,hg⟩;have hm0:=Hst.out.below ((Below.refl _ _).drew);have Hm:=Lib.hid (hm0.after (hm0.rs.after hR Qx.out hg) (cG.of_g hg));have Hbs:=Lib.hid (BS.of_own hown).1;clear hown hR hg hm0 Tk Qx Hst
 go_wp2_with fail
 refine hK.out _ _ Hm.out.rs.d0 (fun hHeld=>?_);clear hK K
 try simp only [Act.put,List.getElem_toArray,List.getElem_cons_succ,List.getElem_cons_zero,List.setIfInBounds_toArray,List.set_cons_zero,List.set_cons_succ]
 refine wpAnyH_ready (rs:=[7]) (by kernel_rfl) (by simp) ?_;refine AllReadyH.cons (i:=7) rfl (fun K hK=>?_) AllReadyH.nil;rw [if_pos (by rfl)];obtain ⟨pre1,post1,hcs1,hpre1⟩:=uA Hm.out.shape;refine oh (.tmp 28) (.tmp 33) 43 43 rfl 5 Tryz.underlying43 mw bx 19 6 6 Ax cx m rfl rfl _ Hbs.out Lm.out 56 (fun x=>ag { b4n with mac:=x }) pre1 post1 hcs1 hpre1 (by rw [show ({ b4n with mac:=List.replicate 6 0 }:aU)=b4n by rw [Hb_b4n.out,Hb_b3n.out,Hb_b2n.out,Hb1.out];rfl];exact Hm.out.box) ?_;intro w9 z hbox hgr;obtain ⟨b5n,hb5n⟩:∃ b:aU,b={ b4n with mac:=kC m 6 }:=⟨_,rfl⟩
 have hS:au b5n:=by rw [hb5n];exact ⟨Hm.out.shape.addr,og Lm.out,Hm.out.shape.wt⟩
 have Hst:=Lib.hid (Hm.out.boxed (b':=b5n) (by rw [hb5n];exact hbox) hgr hS);have Hb_b5n:=Lib.hid hb5n;clear hbox hgr hcs1 hpre1 Hbs Hm hS hb5n;refine hK.out _ _ Hst.out.rs.d0 (fun hHeld=>?_);clear hK K
 try simp only [Act.put,List.getElem_toArray,List.getElem_cons_succ,List.getElem_cons_zero,List.setIfInBounds_toArray,List.set_cons_zero,List.set_cons_succ]
 refine wpAnyH_done (by kernel_rfl) ?_ _;refine NoPanic.normal ?_;clear hHeld;have hsf:=fun (a:Addr) (m:Mode) (n:Nat) (w:World)=>iM a n m w
 go_wp2_with fail
 refine (pz base g r l s5 b2 w9 Hst.out.rs hl).mono ?_;rw [H6.out];rintro e w10 ⟨rfl,hR,hO⟩;have Hm:=Lib.hid (Hst.out.after hR hO);clear hR hO Hst;obtain ⟨b6n,hb6n⟩:∃ b:aU,b={ b5n with wt:=wt }:=⟨_,rfl⟩
 have hS:au b6n:=by rw [hb6n];exact ⟨Hm.out.shape.addr,Hm.out.shape.mac,Lw.out⟩
 have hst:=Hm.out.set_ (b':=b6n) 25 (.float .f64 wt) (by rw [Eh Hm.out.shape,hb6n]) hS;have dx:=mO Hm.out.box Hm.out.shape;have df:=Hm.out.box.frozen 25;obtain ⟨Wcn,hWcn⟩:∃ W,W=w10.setCell ⟨bx,25,none⟩ (.float .f64 wt):=⟨_,rfl⟩
 rw [←hWcn] at hst;have HWcn:=Lib.hid hWcn;have Hst:=Lib.hid hst;have Hb_b6n:=Lib.hid hb6n;clear hS hst hWcn hb6n;go_upto_region 7 with fail
 rw [←HWcn.out];clear dx df HWcn Hm;clear hsf
 go_wp2_with fail
 refine (mu base g r l s6 b6 Wcn Hst.out.rs hl).mono ?_;rw [H7.out];rintro e w11 ⟨rfl,hR,hO⟩;have Hm:=Lib.hid (Hst.out.after hR hO);clear hR hO Hst;obtain ⟨b7n,hb7n⟩:∃ b:aU,b={ b6n with drain:=dr }:=⟨_,rfl⟩
 have hS:au b7n:=by rw [hb7n];exact ⟨Hm.out.shape.addr,Hm.out.shape.mac,Hm.out.shape.wt⟩
 have hst:=Hm.out.set_ (b':=b7n) 26 (.bool dr) (by rw [wX Hm.out.shape,hb7n]) hS;have dx:=oa Hm.out.box Hm.out.shape;have df:=Hm.out.box.frozen 26;obtain ⟨Wdn,hWdn⟩:∃ W,W=w11.setCell ⟨bx,26,none⟩ (.bool dr):=⟨_,rfl⟩
 rw [←hWdn] at hst;have HWdn:=Lib.hid hWdn;have Hst:=Lib.hid hst;have Hb_b7n:=Lib.hid hb7n;clear hS hst hWdn hb7n;go_upto_region 8 with fail
 rw [←HWdn.out];clear dx df HWdn Hm;have hfin:R=(s7,b7,b7n):=by rw [HRl.out,Hb_b7n.out,Hb_b6n.out,Hb_b5n.out,Hb_b4n.out,Hb_b3n.out,Hb_b2n.out,Hb1.out]
 have Hfin:=Lib.hid hfin;have RF:=Lib.hid (ae Hst.out.box);have Hthr:Hid (Wdn.there w.heap.size 0 (ag b7n).toArray.size):=Hst.out.res.there (by rw [List.size_toArray,List.size_toArray,bq Hst.out.shape,bq aF];decide);have Hszr:Hid ((Tryz.prog.info? 56).map (·.size)=some (ag b7n).toArray.size):=dv Hst.out.shape;have HG:=Lib.hid Hst.out.goodBlk;clear hfin
 go_wp2_with (first
  | ((with_reducible refine aE 56 ?_);refine aa (by rfl) 56 (.tmp 3) rfl bx 0 rfl (ag b7n) _ RF.out Tryz.underlying56 rfl (dv Hst.out.shape) ?_)
  | ((with_reducible refine aM 56 ?_);refine wpList_store_mid rfl 56 (.tmp 2) (.tmp 41) rfl w.heap.size 0 (ag b7n).toArray rfl rfl Hthr.out Hszr.out (eZ _) ?_))
 refine bodyPost_ret (v:=.agg (ag b7n).toArray) (cw (P:=Tryz.prog) (p:=2) rfl _ _ w.heap.size _ _ _ rfl HG.out bW rfl Hszr.out) rfl ⟨by rw [Hfin.out],by rw [Hfin.out];exact Hst.out.good⟩
end Go.Proofs.YtaafkokfdgfabaaGreat
namespace Go.Proofs.YtaafkokfdgfabaaGreat
open Go.RowKit
set_option linter.unusedVariables false
set_option linter.unusedSimpArgs false
theorem om (x:List UInt8):(jS x).1<18446744073709551616:=by
 unfold jS;split
 ·rename_i h
  exact D5 (by rw [h.1];decide)
 ·decide
theorem jD (l:List UInt8) (s:St) (bad:Bool):au (dI l s bad).2.2:=by
 unfold dI;rcases h1:bO l s 255 with ⟨s1,nm⟩
 rcases h2:dQ l s1 bad with ⟨s2,b2,six⟩
 rcases h3:a8 l s2 16 with ⟨s3,x⟩
 rcases h4:aJ l s3 2 true with ⟨s4,q⟩
 rcases h5:a8 l s4 6 with ⟨s5,m⟩
 rcases h6:cy l s5 b2 with ⟨s6,b6,wt⟩
 rcases h7:dQ l s6 b6 with ⟨s7,b7,dr⟩
 simp only [h1,h2,h3,h4,h5,h6,h7];have lw:wt<18446744073709551616:=by have:=congrArg (fun p=>p.2.2) h6;simp only [cy] at this;rw [←this];exact om _
 exact ⟨og (gy (n:=16) h3),og (gy (n:=6) h5),lw⟩
def gh (l:List UInt8) (s:St) (bad:Bool):St × Bool × cz :=
 let t1:=aJ l s 1 true
 if (t1.2:Int)=1 then
  let t2:=bO l t1.1 131072
  (t2.1,bad,{ dC with kind:=(t1.2:Int),frame:=t2.2 })
 else if (t1.2:Int)=2 then
  let t2:=aJ l t1.1 1 true
  if (t2.2:Int)=1 then
   let t3:=dI l t2.1 bad
   (t3.1,t3.2.1,{ dC with kind:=(t1.2:Int),op:=(t2.2:Int),back:=t3.2.2 })
  else
   let t3:=bO l t2.1 255
   if (t2.2:Int)=3 then
    let t4:=cy l t3.1 bad
    (t4.1,t4.2.1,{ dC with kind:=(t1.2:Int),op:=(t2.2:Int),oname:=t3.2,owt:=t4.2.2 })
   else (t3.1,bad,{ dC with kind:=(t1.2:Int),op:=(t2.2:Int),oname:=t3.2 })
 else if (t1.2:Int)=3 then
  let t2:=bO l t1.1 255
  let t3:=dQ l t2.1 bad
  (t3.1,t3.2.1,{ dC with kind:=(t1.2:Int),name:=t2.2,well:=t3.2.2 })
 else (t1.1,bad,{ dC with kind:=(t1.2:Int) })
theorem CI (A:Option Addr) (n c:Nat) (a:cz) (v:Int):(aq A n c a).toArray.setIfInBounds 2 (.int .i64 v)=(aq A n c { a with op:=v }).toArray:=by
 rw [List.setIfInBounds_toArray];rfl
structure oo (w wr:World) (base g r bx:Nat) (l:List UInt8) (s:St) (bad:Bool) (A:Option Addr) (n c:Nat) (b:cz):Prop where
 rs:RS wr base g r l s bad
 res:ah wr w.heap.size 60 (aq none 0 0 dC).toArray
 box:ah wr bx 60 (aq A n c b).toArray
 off:cG w wr g (some r)
 shape:aA b
 gt:w.heap.size<bx
 rl:r<w.heap.size
 gl:g<w.heap.size
section
variable {w wr w':World} {base g r bx:Nat} {l:List UInt8} {s s':St} {bad bad':Bool} {b b':cz} {A A':Option Addr} {n n' c c':Nat}
theorem oo.after (h:oo w wr base g r bx l s bad A n c b) (hR:RS w' base g r l s' bad') (ho:cG wr w' g (some r)):oo w w' base g r bx l s' bad' A n c b :=
 ⟨hR,ho.blk h.res (by have:=h.gl;omega) (fun e=>by injection e with e;have:=h.rl;omega),ho.blk h.box (by have:=h.gl;have:=h.gt;omega) (fun e=>by injection e with e;have:=h.rl;have:=h.gt;omega),h.off.trans ho,h.shape,h.gt,h.rl,h.gl⟩
theorem oo.boxed (h:oo w wr base g r bx l s bad A n c b) (hb:ah w' bx 60 (aq A' n' c' b').toArray) (hg:wr.grownBy w' (some bx)) (hs:aA b'):oo w w' base g r bx l s bad A' n' c' b':=by
 have hr:=h.rl;have hgl:=h.gl;have hgt:=h.gt;refine ⟨⟨ey.off h.rs.rd hg h.box (by decide) (by decide),h.rs.ok,ah.grown h.rs.box hg (fun e=>by injection e with e;omega)⟩,ah.grown h.res hg (fun e=>by injection e with e;omega),hb,?_,hs,hgt,hr,hgl⟩;have hsz:=h.off.2.2.2.1;refine ⟨hg.os.trans h.off.1,hg.tape.trans h.off.2.1,hg.output.trans h.off.2.2.1,Nat.le_trans hsz hg.size,fun k hk h1 h2=>(hg.block k (by omega) (fun e=>by injection e with e;omega)).trans (h.off.2.2.2.2 k hk h1 h2)⟩
theorem oo.set_ (h:oo w wr base g r bx l s bad A n c b) (k:Nat) (u:Value) (e:(aq A n c b).toArray.setIfInBounds k u=(aq A' n' c' b').toArray) (hs:aA b'):oo w (wr.setCell ⟨bx,k,none⟩ u) base g r bx l s bad A' n' c' b':=by
 refine h.boxed ?_ (aV _ ⟨bx,k,none⟩ u) hs;have:=ah.set_ h.box k u;rw [e] at this;exact this
theorem oo.below (h:oo w wr base g r bx l s bad A n c b) (hb:Below wr.heap.size wr w'):oo w w' base g r bx l s bad A n c b:=h.after (h.rs.below hb) (cG.of_below hb)
theorem oo.goodBlk (h:oo w wr base g r bx l s bad A n c b):ah (wr.setCells w.heap.size 0 (aq A n c b)) w.heap.size 60 (aq A n c b).toArray:=by
 have:=ah.setCells (aq A n c b) 0 h.res;rw [aW (by rw [aX h.shape,aX bJ])] at this;exact this
theorem oo.sets (h:oo w wr base g r bx l s bad A n c b) (k:Nat) (vs:List Value) (e:mY (aq A n c b).toArray k vs=(aq A' n' c' b').toArray) (hs:aA b'):oo w (wr.setCells bx k vs) base g r bx l s bad A' n' c' b':=by
 refine h.boxed ?_ (aT _ bx k vs k (World.grownBy.refl _ _)) hs;have:=ah.setCells vs k h.box;rw [e] at this;exact this
theorem oo.goodOwn (h:oo w wr base g r bx l s bad A n c b) {m cc:Nat} {D:Option Addr} {ls:List Value} (ho:wr.ownsRow w.heap.size 5 1 (.slice D m cc) m ls):(wr.setCells w.heap.size 0 (aq A n c b)).ownsRow w.heap.size 5 1 (.slice D m cc) m ls :=
 ho.kept (aT _ w.heap.size 0 _ 0 (World.grownBy.refl _ _)) (aK ho h.res (by decide))
theorem oo.good (h:oo w wr base g r bx l s bad A n c b):Aj w base g r l s bad (wr.setCells w.heap.size 0 (aq A n c b)):=by
 have hr:=h.rl;have hgl:=h.gl;have hgt:=h.gt;have hg:wr.grownBy (wr.setCells w.heap.size 0 (aq A n c b)) (some w.heap.size):=aT _ w.heap.size 0 _ 0 (World.grownBy.refl _ _);refine ⟨⟨ey.off h.rs.rd hg h.res (by decide) (by decide),h.rs.ok,ah.grown h.rs.box hg (fun e=>by injection e with e;omega)⟩,?_⟩;have hsz:=h.off.2.2.2.1;exact ⟨hg.os.trans h.off.1,hg.tape.trans h.off.2.1,hg.output.trans h.off.2.2.1,Nat.le_trans hsz hg.size,fun k hk h1 h2=>(hg.block k (by omega) (fun e=>by injection e with e;omega)).trans (h.off.2.2.2.2 k hk h1 h2)⟩
end
def qz (w:World) (base g r:Nat) (l:List UInt8) (R:St × Bool × cz) (e:Ending) (w':World):Prop :=
 ∃ A' c',e=.returned (.agg (aq A' R.2.2.frame.length c' R.2.2).toArray)∧w'.ownsRow w.heap.size 5 1 (.slice A' R.2.2.frame.length c') R.2.2.frame.length (ab R.2.2.frame)∧aA R.2.2∧Aj w base g r l R.1 R.2.1 w'
set_option maxRecDepth 100000 in
theorem CJ (base g r:Nat) (l:List UInt8) (s:St) (bad:Bool) (w:World) (h:RS w base g r l s bad) (hl:l.length≤1000000000) :
  Calls Tryz.prog 102 #[.pointer (some ⟨r,0,none⟩)] w (qz w base g r l (gh l s bad)):=by
 obtain ⟨R,hR0⟩:∃ R,R=gh l s bad:=⟨_,rfl⟩
 rw [←hR0];unfold gh at hR0;rcases h1:aJ l s 1 true with ⟨s1,k⟩
 simp only [h1] at hR0;have lk:k≤255:=by have:=oe l s;rw [h1] at this;exact this
 have hqw0:IntKind.i64.wrap (k:Int)=(k:Int):=IntWalk.i64_in _ (by omega);obtain ⟨kd,hkd⟩:∃ z:Int,z=(k:Int):=⟨_,rfl⟩
 rw [←hkd] at hR0;have hqw:IntKind.i64.wrap (k:Int)=kd:=by rw [hqw0,hkd]
 have ok1:=bQ h.ok 1 true;rw [h1] at ok1;have Ok1:=Lib.hid ok1;have H1:=Lib.hid h1;have HRl:=Lib.hid hR0;have Hh:=Lib.hid h;have Hrl:=Lib.hid h.box.lt;have Hgl:Hid (g<w.heap.size):=h.rd.lt;obtain ⟨W0,hW0⟩:∃ W,W=w.alloc (.cells (aq none 0 0 dC).toArray 60):=⟨_,rfl⟩
 have hb0:Below w.heap.size w W0:=by rw [hW0];exact (Below.refl _ _).alloc (Nat.le_refl _) _
 have hX0:ah W0 w.heap.size 60 (aq none 0 0 dC).toArray:=by rw [hW0];exact ah.new w _ _ _ rfl
 have HX0:=Lib.hid hX0;have HB0:=Lib.hid hb0;have H0:=Lib.hid (h.below hb0);rw [nS] at hW0;have HW0:=Lib.hid hW0;clear h1 hR0 lk hqw0 hkd ok1 h hb0 hX0 hW0;go_enter Tryz.func102,Tryz.ntmps102
 go_upto_region 1 with fail
 rw [←HW0.out];clear HW0;have d0:=H0.out.d0
 go_wp2_with fail
 refine (cF base g l s W0 1 true H0.out.rd H0.out.ok hl).mono ?_;rw [H1.out];rintro e w1 ⟨rfl,hR,hg⟩;have hR1:=H0.out.after hR Ok1.out hg;have hO1:cG W0 w1 g (some r):=cG.of_g hg;clear d0 hR hg;obtain ⟨b1,hb1⟩:∃ b:cz,b={ dC with kind:=kd }:=⟨_,rfl⟩
 have hS1:aA b1:=by rw [hb1];exact ⟨bJ.back,bJ.owt⟩
 obtain ⟨W2,hW2⟩:∃ W,W=w1.alloc (.cells (aq none 0 0 dC).toArray 60):=⟨_,rfl⟩
 obtain ⟨W3,hW3⟩:∃ W,W=W2.setCells w1.heap.size 0 (aq none 0 0 b1):=⟨_,rfl⟩
 obtain ⟨hth,hbx,hbe⟩:=mL w1 W2 W3 60 (aq none 0 0 dC) (aq none 0 0 b1) (by rw [aX hS1,aX bJ]) hW2 hW3;have hres1:ah w1 w.heap.size 60 (aq none 0 0 dC).toArray:=hO1.blk HX0.out (by have:=Hgl.out;omega) (fun e=>by injection e with e;have:=Hrl.out;omega);have hst:oo w W3 base g r w1.heap.size l s1 bad none 0 0 b1:=⟨hR1.below hbe,ah.below hres1 hbe hres1.lt,hbx,(cG.of_below HB0.out).trans (hO1.trans (cG.of_below hbe)),hS1,hres1.lt,Hrl.out,Hgl.out⟩
 have Hst:=Lib.hid hst;rw [nS] at hW2;have HW2:=Lib.hid hW2;have HW3:=Lib.hid hW3;have Hth:=Lib.hid hth;have Hb1:=Lib.hid hb1;have Hlit:Hid ((aq none 0 0 b1).toArray=#[.int .i64 kd,.slice none 0 0,.int .i64 0,.string ⟨#[]⟩,.bool false,.int .u8 0,.int .u8 0,.int .u8 0,.int .u8 0,.int .u8 0,.int .u8 0,.int .u8 0,.int .u8 0,.int .u8 0,.int .u8 0,.int .u8 0,.int .u8 0,.int .u8 0,.int .u8 0,.int .u8 0,.int .u8 0,.int .i64 0,.int .u8 0,.int .u8 0,.int .u8 0,.int .u8 0,.int .u8 0,.int .u8 0,.float .f64 0,.bool false,.string ⟨#[]⟩,.float .f64 0,.string ⟨#[]⟩,.bool false]):=by show _=_;rw [hb1];rfl
 have Hsz:Hid ((Tryz.prog.info? 60).map (·.size)=some (aq none 0 0 b1).toArray.size):=bR hS1;clear hR1 hO1 hb1 hS1 hW2 hW3 hth hbx hbe hres1 hst HX0 HB0 H0 Hh;go_upto_region 2 with (first
  | (rw [←HW2.out];(with_reducible refine aM 60 ?_);rw [←Hlit.out];refine wpList_store_mid rfl 60 (.tmp 3) (.tmp 10) rfl w1.heap.size 0 (aq none 0 0 b1).toArray rfl rfl Hth.out Hsz.out (eU _ _ _ _) ?_))
 rw [←HW3.out];clear HW2 HW3 Hth Hlit Hsz hqw;obtain ⟨bx,hbx⟩:∃ b,b=w1.heap.size:=⟨_,rfl⟩
 rw [←hbx] at Hst ⊢;clear hbx;have dk:W3.cell? ⟨bx,0,none⟩=some (.int .i64 kd):=by rw [iL Hst.out.box,Hb1.out]
 rcases k1:(kd == 1) with _ | _
 rotate_left
 ·have Hk:Hid (kd=1):=by show _=_;simpa using k1
  rcases h2:bO l s1 131072 with ⟨s2,fr⟩
  have H2:=Lib.hid h2;have ok2:=ft Hst.out.rs.ok 131072;rw [h2] at ok2;have Ok2:=Lib.hid ok2;have d0:=Hst.out.rs.d0;clear h2 ok2
  go_wp2_with fail
  refine (jB base g l s1 W3 131072 Hst.out.rs.rd Hst.out.rs.ok hl (by decide)).mono ?_;rw [H2.out];rintro e w4 ⟨A',c',rfl,hown,hR,hg⟩;have Ho:=Lib.hid (bV hown (show w.heap.size≤W3.heap.size from Hst.out.off.2.2.2.1));have Hm:=Lib.hid (Hst.out.after (Hst.out.rs.after hR Ok2.out hg) (cG.of_g hg));obtain ⟨fl,hfl0⟩:∃ n,n=fr.length:=⟨_,rfl⟩
  have Hfl:=Lib.hid hfl0;skip
  clear d0 dk hown hR hg Hst hfl0;obtain ⟨b2,hb2⟩:∃ b:cz,b={ b1 with frame:=fr }:=⟨_,rfl⟩
  have hS:aA b2:=by rw [hb2];exact ⟨Hm.out.shape.back,Hm.out.shape.owt⟩
  have hst:oo w (w4.setCell ⟨bx,1,none⟩ (.slice A' fr.length c')) base g r bx l _ _ A' fr.length c' b2:=Hm.out.set_ 1 (.slice A' fr.length c') (by rw [qs A' fr.length c' fr,hb2]) hS;have hok:=Ho.out.kept (aV w4 ⟨bx,1,none⟩ (.slice A' fr.length c')) (aK Ho.out Hm.out.box (by decide));have dx:=go Hm.out.box;have df:=Hm.out.box.frozen 1;obtain ⟨W5,hW5⟩:∃ W,W=w4.setCell ⟨bx,1,none⟩ (.slice A' fr.length c'):=⟨_,rfl⟩
  rw [←hW5] at hst hok;have HoK:=Lib.hid hok;clear hok;have HW5:=Lib.hid hW5;have Hst:=Lib.hid hst;have Hb_b2:=Lib.hid hb2;clear hS hst hW5 hb2;go_upto_region 15 with fail
  rw [←HW5.out];clear dx df HW5 Hm;have Ho5:Hid (W5.ownsRow w.heap.size 5 1 (.slice A' fr.length c') fr.length (ab fr)):=HoK.out;have Hfin:Hid (R=(s2,bad,b2)):=by show _=_;rw [HRl.out,Hb_b2.out,Hb1.out];rw [if_pos Hk.out,H2.out]
  have RF:=Lib.hid (ae Hst.out.box);have Hthr:Hid (W5.there w.heap.size 0 (aq A' fr.length c' b2).toArray.size):=Hst.out.res.there (by rw [List.size_toArray,List.size_toArray,aX Hst.out.shape,aX bJ];decide);have Hszr:Hid ((Tryz.prog.info? 60).map (·.size)=some (aq A' fr.length c' b2).toArray.size):=bR Hst.out.shape;have HG:=Lib.hid Hst.out.goodBlk
  go_wp2_with (first
   | ((with_reducible refine aE 60 ?_);refine aa (by rfl) 60 (.tmp 3) rfl bx 0 rfl (aq A' fr.length c' b2) _ RF.out Tryz.underlying60 rfl (bR Hst.out.shape) ?_)
   | ((with_reducible refine aM 60 ?_);refine wpList_store_mid rfl 60 (.tmp 2) (.tmp 59) rfl w.heap.size 0 (aq A' fr.length c' b2).toArray rfl rfl Hthr.out Hszr.out (eU _ _ _ _) ?_))
  refine bodyPost_ret (v:=.agg (aq A' fr.length c' b2).toArray) (cw (P:=Tryz.prog) (p:=2) rfl _ _ w.heap.size _ _ _ rfl HG.out eg rfl Hszr.out) rfl ?_;have hfl:b2.frame.length=fr.length:=by rw [Hb_b2.out,Hb1.out];try rfl
  unfold qz;rw [Hfin.out];refine ⟨A',c',?_,?_,Hst.out.shape,Hst.out.good⟩
  ·show _=Ending.returned (.agg (aq A' b2.frame.length c' b2).toArray)
   rw [hfl]
  ·show World.ownsRow _ _ _ _ (.slice A' b2.frame.length c') b2.frame.length (ab b2.frame)
   rw [hfl];exact Hst.out.goodOwn (by rw [Hb_b2.out];exact Ho5.out)
 rcases k2:(kd == 2) with _ | _
 rotate_left
 ·have Hk:Hid (kd=2):=by show _=_;simpa using k2
  rcases h2:aJ l s1 1 true with ⟨s2,k⟩
  have lk:k≤255:=by have:=oe l s1;rw [h2] at this;exact this
  have hqw0:IntKind.i64.wrap (k:Int)=(k:Int):=IntWalk.i64_in _ (by omega);obtain ⟨od,hod⟩:∃ z:Int,z=(k:Int):=⟨_,rfl⟩
  have hqw:IntKind.i64.wrap (k:Int)=od:=by rw [hqw0,hod]
  have Hod:=Lib.hid hod;have H2:=Lib.hid h2;have ok2:=bQ Hst.out.rs.ok 1 true;rw [h2] at ok2;have Ok2:=Lib.hid ok2;have d0:=Hst.out.rs.d0;clear h2 ok2 hqw0 hod lk
  go_wp2_with fail
  refine (cF base g l s1 W3 1 true Hst.out.rs.rd Hst.out.rs.ok hl).mono ?_;rw [H2.out];rintro e w4 ⟨rfl,hR,hg⟩;have Hm:=Lib.hid (Hst.out.after (Hst.out.rs.after hR Ok2.out hg) (cG.of_g hg));clear d0 dk hR hg Hst;obtain ⟨b2,hb2⟩:∃ b:cz,b={ b1 with op:=od }:=⟨_,rfl⟩
  have hS:aA b2:=by rw [hb2];exact ⟨Hm.out.shape.back,Hm.out.shape.owt⟩
  have hst:oo w (w4.setCell ⟨bx,2,none⟩ (.int .i64 od)) base g r bx l _ _ none 0 0 b2:=Hm.out.set_ 2 (.int .i64 od) (by rw [CI,hb2]) hS;have dx:=kz Hm.out.box;have df:=Hm.out.box.frozen 2;obtain ⟨W5,hW5⟩:∃ W,W=w4.setCell ⟨bx,2,none⟩ (.int .i64 od):=⟨_,rfl⟩
  rw [←hW5] at hst;have HW5:=Lib.hid hW5;have Hst:=Lib.hid hst;have Hb_b2:=Lib.hid hb2;clear hS hst hW5 hb2;go_upto_region 7 with fail
  rw [←HW5.out];clear dx df HW5 Hm;clear hqw;have do_:W5.cell? ⟨bx,2,none⟩=some (.int .i64 od):=by rw [kz Hst.out.box,Hb_b2.out]
  rcases k3:(od == 1) with _ | _
  rotate_left
  ·have Hk3:Hid (od=1):=by show _=_;simpa using k3
   rcases h3:dI l s2 bad with ⟨s3,b3,bk⟩
   have hbs:au bk:=by have:=jD l s2 bad;rw [h3] at this;exact this
   have Hbs:=Lib.hid hbs;have H3:=Lib.hid h3;clear h3 hbs
   go_wp2_with fail
   refine (rV base g r l s2 bad W5 Hst.out.rs hl om).mono ?_;rw [H3.out];rintro e w6 ⟨rfl,hR,hO⟩;have Hm:=Lib.hid (Hst.out.after hR hO);clear hR hO Hst;clear do_;obtain ⟨b4,hb4⟩:∃ b:cz,b={ b2 with back:=bk }:=⟨_,rfl⟩
   have hS:aA b4:=by rw [hb4];exact ⟨Hbs.out,Hm.out.shape.owt⟩
   have hst:oo w (w6.setCells bx 3 (ag bk)) base g r bx l s3 b3 none 0 0 b4:=Hm.out.sets 3 (ag bk) (by rw [rQ Hm.out.shape bk Hbs.out,hb4]) hS;have Hth:Hid (w6.there bx 3 (ag bk).toArray.size):=Hm.out.box.there (by rw [List.size_toArray,List.size_toArray,bq Hbs.out,aX Hm.out.shape];decide);obtain ⟨W7,hW7⟩:∃ W,W=w6.setCells bx 3 (ag bk):=⟨_,rfl⟩
   rw [←hW7] at hst;have HW7:=Lib.hid hW7;have Hst:=Lib.hid hst;have Hb_b4:=Lib.hid hb4;clear hS hst hW7 hb4;go_upto_region 15 with (first
    | ((with_reducible refine aM 56 ?_);refine wpList_store_mid rfl 56 (.tmp 38) (.tmp 36) rfl bx 3 (ag bk).toArray rfl rfl Hth.out (dv Hbs.out) (eZ _) ?_))
   rw [←HW7.out];clear HW7 Hth Hm;have Hfin:Hid (R=(s3,b3,b4)):=by show _=_;rw [HRl.out,Hb_b4.out,Hb_b2.out,Hb1.out];rw [if_neg (by have:=Hk.out;omega),if_pos Hk.out,H2.out];simp only [←Hod.out];rw [if_pos Hk3.out,H3.out]
   have RF:=Lib.hid (ae Hst.out.box);have Hthr:Hid (W7.there w.heap.size 0 (aq none 0 0 b4).toArray.size):=Hst.out.res.there (by rw [List.size_toArray,List.size_toArray,aX Hst.out.shape,aX bJ];decide);have Hszr:Hid ((Tryz.prog.info? 60).map (·.size)=some (aq none 0 0 b4).toArray.size):=bR Hst.out.shape;have HG:=Lib.hid Hst.out.goodBlk
   go_wp2_with (first
    | ((with_reducible refine aE 60 ?_);refine aa (by rfl) 60 (.tmp 3) rfl bx 0 rfl (aq none 0 0 b4) _ RF.out Tryz.underlying60 rfl (bR Hst.out.shape) ?_)
    | ((with_reducible refine aM 60 ?_);refine wpList_store_mid rfl 60 (.tmp 2) (.tmp 59) rfl w.heap.size 0 (aq none 0 0 b4).toArray rfl rfl Hthr.out Hszr.out (eU _ _ _ _) ?_))
   refine bodyPost_ret (v:=.agg (aq none 0 0 b4).toArray) (cw (P:=Tryz.prog) (p:=2) rfl _ _ w.heap.size _ _ _ rfl HG.out eg rfl Hszr.out) rfl ?_;have hfl:b4.frame.length=0:=by rw [Hb_b4.out,Hb_b2.out,Hb1.out];try rfl
   unfold qz;rw [Hfin.out];refine ⟨none,0,?_,?_,Hst.out.shape,Hst.out.good⟩
   ·show _=Ending.returned (.agg (aq none b4.frame.length 0 b4).toArray)
    rw [hfl]
   ·show World.ownsRow _ _ _ _ (.slice none b4.frame.length 0) b4.frame.length (ab b4.frame)
    rw [hfl];exact Hst.out.goodOwn (by rw [show b4.frame=[] by rw [Hb_b4.out,Hb_b2.out,Hb1.out];rfl];exact World.ownsRow_nil _ _ _ _)
  rcases h3:bO l s2 255 with ⟨s3,nm⟩
  have H3:=Lib.hid h3;clear h3
  go_wp2_with fail
  refine (mv base g r l s2 bad W5 Hst.out.rs hl).mono ?_;rw [H3.out];rintro e w6 ⟨rfl,hR,hO⟩;have Hm:=Lib.hid (Hst.out.after hR hO);clear hR hO Hst;clear do_;obtain ⟨b4,hb4⟩:∃ b:cz,b={ b2 with oname:=nm }:=⟨_,rfl⟩
  have hS:aA b4:=by rw [hb4];exact ⟨Hm.out.shape.back,Hm.out.shape.owt⟩
  have hst:oo w (w6.setCell ⟨bx,30,none⟩ (.string ⟨nm.toArray⟩)) base g r bx l _ _ none 0 0 b4:=Hm.out.set_ 30 (.string ⟨nm.toArray⟩) (by rw [nj Hm.out.shape,hb4]) hS;have dx:=fA Hm.out.box Hm.out.shape;have df:=Hm.out.box.frozen 30;obtain ⟨W7,hW7⟩:∃ W,W=w6.setCell ⟨bx,30,none⟩ (.string ⟨nm.toArray⟩):=⟨_,rfl⟩
  rw [←hW7] at hst;have HW7:=Lib.hid hW7;have Hst:=Lib.hid hst;have Hb_b4:=Lib.hid hb4;clear hS hst hW7 hb4;go_upto_region 10 with fail
  rw [←HW7.out];clear dx df HW7 Hm;have do_:W7.cell? ⟨bx,2,none⟩=some (.int .i64 od):=by rw [kz Hst.out.box,Hb_b4.out,Hb_b2.out]
  rcases k4:(od == 3) with _ | _
  rotate_left
  ·have Hk4:Hid (od=3):=by show _=_;simpa using k4
   rcases h4:cy l s3 bad with ⟨s4,b5,wt⟩
   have lw:wt<18446744073709551616:=by have:=congrArg (fun p=>p.2.2) h4;simp only [cy] at this;rw [←this];exact om _
   have Lw:=Lib.hid lw;have H4:=Lib.hid h4;clear h4 lw;have hsf:=fun (a:Addr) (m:Mode) (n:Nat) (w:World)=>iM a n m w
   go_wp2_with fail
   refine (pz base g r l s3 bad W7 Hst.out.rs hl).mono ?_;rw [H4.out];rintro e w8 ⟨rfl,hR,hO⟩;have Hm:=Lib.hid (Hst.out.after hR hO);clear hR hO Hst;clear do_;obtain ⟨b6,hb6⟩:∃ b:cz,b={ b4 with owt:=wt }:=⟨_,rfl⟩
   have hS:aA b6:=by rw [hb6];exact ⟨Hm.out.shape.back,Lw.out⟩
   have hst:oo w (w8.setCell ⟨bx,31,none⟩ (.float .f64 wt)) base g r bx l _ _ none 0 0 b6:=Hm.out.set_ 31 (.float .f64 wt) (by rw [uw Hm.out.shape,hb6]) hS;have dx:=lT Hm.out.box Hm.out.shape;have df:=Hm.out.box.frozen 31;obtain ⟨W9,hW9⟩:∃ W,W=w8.setCell ⟨bx,31,none⟩ (.float .f64 wt):=⟨_,rfl⟩
   rw [←hW9] at hst;have HW9:=Lib.hid hW9;have Hst:=Lib.hid hst;have Hb_b6:=Lib.hid hb6;clear hS hst hW9 hb6;go_upto_region 15 with fail
   rw [←HW9.out];clear dx df HW9 Hm;have Hfin:Hid (R=(s4,b5,b6)):=by show _=_;rw [HRl.out,Hb_b6.out,Hb_b4.out,Hb_b2.out,Hb1.out];rw [if_neg (by have:=Hk.out;omega),if_pos Hk.out,H2.out];simp only [←Hod.out];rw [if_neg (by have:=Hk4.out;omega),H3.out,if_pos Hk4.out,H4.out]
   have RF:=Lib.hid (ae Hst.out.box);have Hthr:Hid (W9.there w.heap.size 0 (aq none 0 0 b6).toArray.size):=Hst.out.res.there (by rw [List.size_toArray,List.size_toArray,aX Hst.out.shape,aX bJ];decide);have Hszr:Hid ((Tryz.prog.info? 60).map (·.size)=some (aq none 0 0 b6).toArray.size):=bR Hst.out.shape;have HG:=Lib.hid Hst.out.goodBlk
   go_wp2_with (first
    | ((with_reducible refine aE 60 ?_);refine aa (by rfl) 60 (.tmp 3) rfl bx 0 rfl (aq none 0 0 b6) _ RF.out Tryz.underlying60 rfl (bR Hst.out.shape) ?_)
    | ((with_reducible refine aM 60 ?_);refine wpList_store_mid rfl 60 (.tmp 2) (.tmp 59) rfl w.heap.size 0 (aq none 0 0 b6).toArray rfl rfl Hthr.out Hszr.out (eU _ _ _ _) ?_))
   refine bodyPost_ret (v:=.agg (aq none 0 0 b6).toArray) (cw (P:=Tryz.prog) (p:=2) rfl _ _ w.heap.size _ _ _ rfl HG.out eg rfl Hszr.out) rfl ?_;have hfl:b6.frame.length=0:=by rw [Hb_b6.out,Hb_b4.out,Hb_b2.out,Hb1.out];try rfl
   unfold qz;rw [Hfin.out];refine ⟨none,0,?_,?_,Hst.out.shape,Hst.out.good⟩
   ·show _=Ending.returned (.agg (aq none b6.frame.length 0 b6).toArray)
    rw [hfl]
   ·show World.ownsRow _ _ _ _ (.slice none b6.frame.length 0) b6.frame.length (ab b6.frame)
    rw [hfl];exact Hst.out.goodOwn (by rw [show b6.frame=[] by rw [Hb_b6.out,Hb_b4.out,Hb_b2.out,Hb1.out];rfl];exact World.ownsRow_nil _ _ _ _)
  ·have Hk3:Hid (¬ od=1):=by show ¬ _;simpa using k3
   have Hk4:Hid (¬ od=3):=by show ¬ _;simpa using k4
   have Hfin:Hid (R=(s3,bad,b4)):=by show _=_;rw [HRl.out,Hb_b4.out,Hb_b2.out,Hb1.out];rw [if_neg (by have:=Hk.out;omega),if_pos Hk.out,H2.out];simp only [←Hod.out];rw [if_neg Hk3.out,H3.out,if_neg Hk4.out]
   have RF:=Lib.hid (ae Hst.out.box);have Hthr:Hid (W7.there w.heap.size 0 (aq none 0 0 b4).toArray.size):=Hst.out.res.there (by rw [List.size_toArray,List.size_toArray,aX Hst.out.shape,aX bJ];decide);have Hszr:Hid ((Tryz.prog.info? 60).map (·.size)=some (aq none 0 0 b4).toArray.size):=bR Hst.out.shape;have HG:=Lib.hid Hst.out.goodBlk
   go_wp2_with (first
    | ((with_reducible refine aE 60 ?_);refine aa (by rfl) 60 (.tmp 3) rfl bx 0 rfl (aq none 0 0 b4) _ RF.out Tryz.underlying60 rfl (bR Hst.out.shape) ?_)
    | ((with_reducible refine aM 60 ?_);refine wpList_store_mid rfl 60 (.tmp 2) (.tmp 59) rfl w.heap.size 0 (aq none 0 0 b4).toArray rfl rfl Hthr.out Hszr.out (eU _ _ _ _) ?_))
   refine bodyPost_ret (v:=.agg (aq none 0 0 b4).toArray) (cw (P:=Tryz.prog) (p:=2) rfl _ _ w.heap.size _ _ _ rfl HG.out eg rfl Hszr.out) rfl ?_;have hfl:b4.frame.length=0:=by rw [Hb_b4.out,Hb_b2.out,Hb1.out];try rfl
   unfold qz;rw [Hfin.out];refine ⟨none,0,?_,?_,Hst.out.shape,Hst.out.good⟩
   ·show _=Ending.returned (.agg (aq none b4.frame.length 0 b4).toArray)
    rw [hfl]
   ·show World.ownsRow _ _ _ _ (.slice none b4.frame.length 0) b4.frame.length (ab b4.frame)
    rw [hfl];exact Hst.out.goodOwn (by rw [show b4.frame=[] by rw [Hb_b4.out,Hb_b2.out,Hb1.out];rfl];exact World.ownsRow_nil _ _ _ _)
 rcases k5:(kd == 3) with _ | _
 rotate_left
 ·have Hk:Hid (kd=3):=by show _=_;simpa using k5
  rcases h2:bO l s1 255 with ⟨s2,nm⟩
  rcases h3:dQ l s2 bad with ⟨s3,b3,wl⟩
  have H2:=Lib.hid h2;have H3:=Lib.hid h3;clear h2 h3
  go_wp2_with fail
  refine (mv base g r l s1 bad W3 Hst.out.rs hl).mono ?_;rw [H2.out];rintro e w4 ⟨rfl,hR,hO⟩;have Hm:=Lib.hid (Hst.out.after hR hO);clear hR hO Hst;clear dk;obtain ⟨b2,hb2⟩:∃ b:cz,b={ b1 with name:=nm }:=⟨_,rfl⟩
  have hS:aA b2:=by rw [hb2];exact ⟨Hm.out.shape.back,Hm.out.shape.owt⟩
  have hst:oo w (w4.setCell ⟨bx,32,none⟩ (.string ⟨nm.toArray⟩)) base g r bx l _ _ none 0 0 b2:=Hm.out.set_ 32 (.string ⟨nm.toArray⟩) (by rw [rO Hm.out.shape,hb2]) hS;have dx:=ij Hm.out.box Hm.out.shape;have df:=Hm.out.box.frozen 32;obtain ⟨W5,hW5⟩:∃ W,W=w4.setCell ⟨bx,32,none⟩ (.string ⟨nm.toArray⟩):=⟨_,rfl⟩
  rw [←hW5] at hst;have HW5:=Lib.hid hW5;have Hst:=Lib.hid hst;have Hb_b2:=Lib.hid hb2;clear hS hst hW5 hb2;go_upto_region 14 with fail
  rw [←HW5.out];clear dx df HW5 Hm
  go_wp2_with fail
  refine (mu base g r l s2 bad W5 Hst.out.rs hl).mono ?_;rw [H3.out];rintro e w6 ⟨rfl,hR,hO⟩;have Hm:=Lib.hid (Hst.out.after hR hO);clear hR hO Hst;obtain ⟨b4,hb4⟩:∃ b:cz,b={ b2 with well:=wl }:=⟨_,rfl⟩
  have hS:aA b4:=by rw [hb4];exact ⟨Hm.out.shape.back,Hm.out.shape.owt⟩
  have hst:oo w (w6.setCell ⟨bx,33,none⟩ (.bool wl)) base g r bx l _ _ none 0 0 b4:=Hm.out.set_ 33 (.bool wl) (by rw [rP Hm.out.shape,hb4]) hS;have dx:=jf Hm.out.box Hm.out.shape;have df:=Hm.out.box.frozen 33;obtain ⟨W7,hW7⟩:∃ W,W=w6.setCell ⟨bx,33,none⟩ (.bool wl):=⟨_,rfl⟩
  rw [←hW7] at hst;have HW7:=Lib.hid hW7;have Hst:=Lib.hid hst;have Hb_b4:=Lib.hid hb4;clear hS hst hW7 hb4;go_upto_region 15 with fail
  rw [←HW7.out];clear dx df HW7 Hm;have Hfin:Hid (R=(s3,b3,b4)):=by show _=_;rw [HRl.out,Hb_b4.out,Hb_b2.out,Hb1.out];rw [if_neg (by have:=Hk.out;omega),if_neg (by have:=Hk.out;omega),if_pos Hk.out,H2.out];simp only [];rw [H3.out]
  have RF:=Lib.hid (ae Hst.out.box);have Hthr:Hid (W7.there w.heap.size 0 (aq none 0 0 b4).toArray.size):=Hst.out.res.there (by rw [List.size_toArray,List.size_toArray,aX Hst.out.shape,aX bJ];decide);have Hszr:Hid ((Tryz.prog.info? 60).map (·.size)=some (aq none 0 0 b4).toArray.size):=bR Hst.out.shape;have HG:=Lib.hid Hst.out.goodBlk
  go_wp2_with (first
   | ((with_reducible refine aE 60 ?_);refine aa (by rfl) 60 (.tmp 3) rfl bx 0 rfl (aq none 0 0 b4) _ RF.out Tryz.underlying60 rfl (bR Hst.out.shape) ?_)
   | ((with_reducible refine aM 60 ?_);refine wpList_store_mid rfl 60 (.tmp 2) (.tmp 59) rfl w.heap.size 0 (aq none 0 0 b4).toArray rfl rfl Hthr.out Hszr.out (eU _ _ _ _) ?_))
  refine bodyPost_ret (v:=.agg (aq none 0 0 b4).toArray) (cw (P:=Tryz.prog) (p:=2) rfl _ _ w.heap.size _ _ _ rfl HG.out eg rfl Hszr.out) rfl ?_;have hfl:b4.frame.length=0:=by rw [Hb_b4.out,Hb_b2.out,Hb1.out];try rfl
  unfold qz;rw [Hfin.out];refine ⟨none,0,?_,?_,Hst.out.shape,Hst.out.good⟩
  ·show _=Ending.returned (.agg (aq none b4.frame.length 0 b4).toArray)
   rw [hfl]
  ·show World.ownsRow _ _ _ _ (.slice none b4.frame.length 0) b4.frame.length (ab b4.frame)
   rw [hfl];exact Hst.out.goodOwn (by rw [show b4.frame=[] by rw [Hb_b4.out,Hb_b2.out,Hb1.out];rfl];exact World.ownsRow_nil _ _ _ _)
 ·have K1:Hid (¬ kd=1):=by show ¬ _;simpa using k1
  have K2:Hid (¬ kd=2):=by show ¬ _;simpa using k2
  have K3:Hid (¬ kd=3):=by show ¬ _;simpa using k5
  have Hfin:Hid (R=(s1,bad,b1)):=by show _=_;rw [HRl.out,Hb1.out];rw [if_neg K1.out,if_neg K2.out,if_neg K3.out]
  have RF:=Lib.hid (ae Hst.out.box);have Hthr:Hid (W3.there w.heap.size 0 (aq none 0 0 b1).toArray.size):=Hst.out.res.there (by rw [List.size_toArray,List.size_toArray,aX Hst.out.shape,aX bJ];decide);have Hszr:Hid ((Tryz.prog.info? 60).map (·.size)=some (aq none 0 0 b1).toArray.size):=bR Hst.out.shape;have HG:=Lib.hid Hst.out.goodBlk
  go_wp2_with (first
   | ((with_reducible refine aE 60 ?_);refine aa (by rfl) 60 (.tmp 3) rfl bx 0 rfl (aq none 0 0 b1) _ RF.out Tryz.underlying60 rfl (bR Hst.out.shape) ?_)
   | ((with_reducible refine aM 60 ?_);refine wpList_store_mid rfl 60 (.tmp 2) (.tmp 59) rfl w.heap.size 0 (aq none 0 0 b1).toArray rfl rfl Hthr.out Hszr.out (eU _ _ _ _) ?_))
  refine bodyPost_ret (v:=.agg (aq none 0 0 b1).toArray) (cw (P:=Tryz.prog) (p:=2) rfl _ _ w.heap.size _ _ _ rfl HG.out eg rfl Hszr.out) rfl ?_;have hfl:b1.frame.length=0:=by rw [Hb1.out];try rfl
  unfold qz;rw [Hfin.out];refine ⟨none,0,?_,?_,Hst.out.shape,Hst.out.good⟩
  ·show _=Ending.returned (.agg (aq none b1.frame.length 0 b1).toArray)
   rw [hfl]
  ·show World.ownsRow _ _ _ _ (.slice none b1.frame.length 0) b1.frame.length (ab b1.frame)
   rw [hfl];exact Hst.out.goodOwn (by rw [show b1.frame=[] by rw [Hb1.out];rfl];exact World.ownsRow_nil _ _ _ _)
end Go.Proofs.YtaafkokfdgfabaaGreat
namespace Go.Proofs.YtaafkokfdgfabaaGreat
open Go.RowKit
set_option linter.unusedVariables false
set_option linter.unusedSimpArgs false
def pA (s:St) (bad:Bool):Bool:=!bad && (decide (s.2.1=0) && decide (s.2.2=0))
def eG (l:List UInt8) (s:St):aU × Bool:=if pA (dI l s false).1 (dI l s false).2.1 then ((dI l s false).2.2,true) else (dN,false)
theorem cG.ahead {w W w':World} {g r:Nat} (hb:Below w.heap.size w W) (h:cG W w' g (some r)) (hr:w.heap.size≤r):cG w w' g none :=
 ⟨h.1.trans hb.os,h.2.1.trans hb.tape,h.2.2.1.trans hb.output,Nat.le_trans hb.size h.2.2.2.1,fun k hk h1 _=>(h.2.2.2.2 k (Nat.lt_of_lt_of_le hk hb.size) h1 (fun e=>by injection e with e;omega)).trans (hb.block k hk)⟩
theorem cG.behind {w W w':World} {g:Nat} (h:cG w W g none) (hb:Below w.heap.size W w'):cG w w' g none :=
 ⟨hb.os.trans h.1,hb.tape.trans h.2.1,hb.output.trans h.2.2.1,Nat.le_trans h.2.2.2.1 hb.size,fun k hk h1 h2=>(hb.block k hk).trans (h.2.2.2.2 k hk h1 h2)⟩
def pS (w:World) (base g:Nat) (l:List UInt8) (s:St) (e:Ending) (w':World):Prop :=
 e=.returned (.tuple #[.agg (ag (eG l s).1).toArray,.bool (eG l s).2])∧ey w' base g l (dI l s false).1∧bY l (dI l s false).1∧cG w w' g none
set_option maxRecDepth 100000 in
theorem Al (base g:Nat) (l:List UInt8) (s:St) (w:World) (h:ey w base g l s) (hs:bY l s) (hl:l.length≤1000000000) :
  Calls Tryz.prog 96 #[.pointer (some ⟨g,0,none⟩)] w (pS w base g l s):=by
 have hgl:g<w.heap.size:=h.lt;have Hgl:=Lib.hid hgl;have hsh:=jD l s false;rcases h1:dI l s false with ⟨s1,b1,bk⟩
 rw [h1] at hsh;obtain ⟨W0,hW0⟩:∃ W,W=w.alloc (.cells (ag dN).toArray 56):=⟨_,rfl⟩
 obtain ⟨W1,hW1⟩:∃ W,W=W0.alloc (.cells (wU g false) 157):=⟨_,rfl⟩
 have hs0:W0.heap.size=w.heap.size + 1:=by rw [hW0];simp
 have hX0:ah W0 w.heap.size 56 (ag dN).toArray:=by rw [hW0];exact ah.new w _ _ _ rfl
 have hX1:ah W1 w.heap.size 56 (ag dN).toArray:=by rw [hW1];exact ah.alloc hX0 _
 have hR1:ah W1 (w.heap.size + 1) 157 (wU g false):=by rw [hW1,←hs0];exact ah.new W0 _ _ _ rfl
 have hB1:Below w.heap.size w W1:=by rw [hW1,hW0];exact ((Below.refl _ _).alloc (Nat.le_refl _) _).alloc (by simp) _
 have HRS:Hid (RS W1 base g (w.heap.size + 1) l s false):=⟨h.below hB1,hs,hR1⟩
 have HX:=Lib.hid hX1;have HB:=Lib.hid hB1;have H1:=Lib.hid h1;have Hsh:=Lib.hid hsh;rw [gT] at hW0;have HW0:=Lib.hid hW0;have HW1:Hid (W1=W0.alloc (.cells #[.pointer (some ⟨g,0,none⟩),.bool false] 157)):=hW1;have Hs0:=Lib.hid hs0;clear hgl hsh h1 hs0 hX0 hX1 hR1 hB1 hW0 hW1 h hs;go_enter Tryz.func96,Tryz.ntmps96
 go_upto_region 2 with fail
 rw [←HW0.out];rw [←HW1.out];clear HW0 HW1 Hs0
 go_wp2_with fail
 refine (rV base g (w.heap.size + 1) l s false W1 HRS.out hl om).mono ?_;rw [H1.out];rintro e w2 ⟨rfl,hc⟩;obtain ⟨hR2,hO2⟩:=hc;obtain ⟨W3,hW3⟩:∃ W,W=w2.alloc (.cells (ag dN).toArray 56):=⟨_,rfl⟩
 obtain ⟨W4,hW4⟩:∃ W,W=W3.setCells w2.heap.size 0 (ag bk):=⟨_,rfl⟩
 obtain ⟨hth,hbx,hbe⟩:=mL w2 W3 W4 56 (ag dN) (ag bk) (by rw [bq Hsh.out,bq aF]) hW3 hW4;have hX2:ah w2 w.heap.size 56 (ag dN).toArray:=hO2.blk HX.out (by have:=Hgl.out;omega) (fun e=>by injection e with e;omega);have H4:=Lib.hid (hR2.below hbe);have HX4:=Lib.hid (ah.below hX2 hbe hX2.lt);have hO:cG w w2 g none:=cG.ahead HB.out hO2 (by omega);have HO:=Lib.hid (hO.behind (hbe.mono hO.2.2.2.1));have Hbk:=Lib.hid hbx;have hlt:w.heap.size<w2.heap.size:=hX2.lt;rw [gT] at hW3;have HW3:=Lib.hid hW3;have HW4:=Lib.hid hW4;have Hth:=Lib.hid hth;clear hR2 hO2 hW3 hW4 hth hbx hbe hX2 hO HX HB HRS;go_upto_region 3 with (first
  | (rw [←HW3.out];(with_reducible refine aM 56 ?_);refine wpList_store_mid rfl 56 (.tmp 5) (.tmp 10) rfl w2.heap.size 0 (ag bk).toArray rfl rfl Hth.out (dv Hsh.out) (eZ _) ?_))
 rw [←HW4.out];clear HW3 HW4 Hth;obtain ⟨bx,hbx⟩:∃ b,b=w2.heap.size:=⟨_,rfl⟩
 rw [←hbx] at Hbk hlt ⊢;clear hbx;obtain ⟨z,hz⟩:∃ z,z=pA s1 b1:=⟨_,rfl⟩
 go_wp2_with fail
 refine (rT base g (w.heap.size + 1) l s1 b1 W4 H4.out).mono ?_;rw [show (!b1 && (decide (s1.2.1=0) && decide (s1.2.2=0)))=z from hz.symm];rintro e w5 ⟨rfl,hb5⟩;have H5:=Lib.hid (H4.out.below hb5);have HX5:=Lib.hid (ah.below HX4.out hb5 HX4.out.lt);have HK5:=Lib.hid (ah.below Hbk.out hb5 Hbk.out.lt);have HO5:=Lib.hid (HO.out.behind (hb5.mono HO.out.2.2.2.1));have Hz:=Lib.hid hz;clear hb5 hz H4 HX4 Hbk HO;rcases z with _ | _
 ·have Hpost:Hid (eG l s=(dN,false)):=by
   show _=_
   unfold eG;rw [H1.out];simp only [←Hz.out];rfl
  have Hthr:Hid (w5.there w.heap.size 0 (ag dN).toArray.size):=HX5.out.there (by decide);have hG:ah (w5.setCells w.heap.size 0 (ag dN)) w.heap.size 56 (ag dN).toArray:=by
   have:=ah.setCells (ag dN) 0 HX5.out;rw [aW rfl] at this;exact this
  have HG:=Lib.hid hG;have HF:=Lib.hid (HO5.out.behind (ba (Nat.le_refl _) (ag dN) 0 (Below.refl _ _)));have HR:=Lib.hid (ey.off H5.out.rd (aT w5 w.heap.size 0 (ag dN) 0 (World.grownBy.refl _ _)) HX5.out (by decide) (by decide));clear hG
  go_wp2_with (first
   | ((with_reducible refine aM 56 ?_);rw [←gT];refine wpList_store_mid rfl 56 (.tmp 2) (.tmp 14) rfl w.heap.size 0 (ag dN).toArray rfl rfl Hthr.out (dv aF) (eZ _) ?_))
  refine bodyPost_ret (v:=.tuple #[.agg (ag dN).toArray,.bool false]) (eX (P:=Tryz.prog) (p:=2) (u:=3) rfl _ _ w.heap.size _ _ _ _ rfl HG.out bW rfl (dv aF)) rfl ?_;unfold pS;rw [Hpost.out,H1.out];exact ⟨rfl,HR.out,H5.out.ok,HF.out⟩
 ·have Hpost:Hid (eG l s=(bk,true)):=by
   show _=_
   unfold eG;rw [H1.out];simp only [←Hz.out];rfl
  have RF:=Lib.hid (ae HK5.out);have Hthr:Hid (w5.there w.heap.size 0 (ag bk).toArray.size):=HX5.out.there (by rw [List.size_toArray,List.size_toArray,bq Hsh.out,bq aF];decide);have hG:ah (w5.setCells w.heap.size 0 (ag bk)) w.heap.size 56 (ag bk).toArray:=by
   have:=ah.setCells (ag bk) 0 HX5.out;rw [aW (by rw [bq Hsh.out,bq aF])] at this;exact this
  have HG:=Lib.hid hG;have HF:=Lib.hid (HO5.out.behind (ba (Nat.le_refl _) (ag bk) 0 (Below.refl _ _)));have HR:=Lib.hid (ey.off H5.out.rd (aT w5 w.heap.size 0 (ag bk) 0 (World.grownBy.refl _ _)) HX5.out (by decide) (by decide));have Hszr:Hid ((Tryz.prog.info? 56).map (·.size)=some (ag bk).toArray.size):=dv Hsh.out;clear hG
  go_wp2_with (first
   | ((with_reducible refine aE 56 ?_);refine aa (by rfl) 56 (.tmp 5) rfl bx 0 rfl (ag bk) _ RF.out Tryz.underlying56 rfl (dv Hsh.out) ?_)
   | ((with_reducible refine aM 56 ?_);refine wpList_store_mid rfl 56 (.tmp 2) (.tmp 13) rfl w.heap.size 0 (ag bk).toArray rfl rfl Hthr.out Hszr.out (eZ _) ?_))
  refine bodyPost_ret (v:=.tuple #[.agg (ag bk).toArray,.bool true]) (eX (P:=Tryz.prog) (p:=2) (u:=3) rfl _ _ w.heap.size _ _ _ _ rfl HG.out bW rfl Hszr.out) rfl ?_;unfold pS;rw [Hpost.out,H1.out];exact ⟨rfl,HR.out,H5.out.ok,HF.out⟩
end Go.Proofs.YtaafkokfdgfabaaGreat
