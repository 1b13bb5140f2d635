import Derived.Test.YtaafkokfdgfabaaGreatP8
import Derived.Test.YtaafkokfdgfabaaGreatP13
import Derived.Test.YtaafkokfdgfabaaGreatP15
import Derived.Deep.RegionHeld
set_option maxHeartbeats 8000000
namespace Go.Proofs.YtaafkokfdgfabaaGreat
open Go.RowKit
set_option linter.unusedVariables false
set_option linter.unusedSimpArgs false
theorem mR (l:List UInt8) (s:St):(aG l s 1 true).2≤255:=by
 have h:=g8 l s 0 1;unfold aG;rw [if_neg (by decide)];show gP (eb l s 0 1).2 true≤255
 match hx:(eb l s 0 1).2,h with
 | [],_=>decide
 | [c],_=>rw [cK];have:=c.toNat_lt;omega
theorem AJ (l:List UInt8) (s:St):(aG l s 2 true).2≤65535:=by
 have h:=g8 l s 0 2;unfold aG;rw [if_neg (by decide)];show gP (eb l s 0 2).2 true≤65535
 match hx:(eb l s 0 2).2,h with
 | [],_=>decide
 | [c],_=>rw [cK];have:=c.toNat_lt;omega
 | [c,d],_=>rw [jQ];have:=c.toNat_lt;have:=d.toNat_lt;omega
theorem fO {l:List UInt8} {s u:St} {n:Nat} {x:List UInt8} (h:bc l s n=(u,x)):x.length≤n:=by
 have:=congrArg Prod.snd h;simp only [bc,eb] at this;rw [if_neg (by omega)] at this;split at this
 ·rw [←this];simp
 ·split at this
  ·rw [←this];simp
  ·rw [←this,List.length_take]
   simp;omega
theorem lv:(Tryz.prog.info? 5).map (·.size)=some 1:=by kernel_rfl
def jR (b:List UInt8) (k:Nat):List UInt8:=b ++ List.replicate (k - b.length) 0
theorem mS {b:List UInt8} {k:Nat} (h:b.length≤k):(jR b k).length=k:=by simp [jR];omega
theorem sU {pre post:List Value} {x:List UInt8} {N:Nat} (hx:x.length≤N) (k:Nat) (hk:pre.length=k) :
  (pre ++ (ab (List.replicate N 0) ++ post)).take k ++ (ab x ++ (pre ++ (ab (List.replicate N 0) ++ post)).drop (k + (ab x).length))=pre ++ (ab (jR x N) ++ post):=by
 subst hk;rw [List.take_left,←List.drop_drop,List.drop_left,am,List.drop_append_of_le_length (by rw [am,List.length_replicate];exact hx)];simp only [jR,de,List.append_assoc];rw [show (ab (List.replicate N 0)).drop x.length=ab (List.replicate (N - x.length) 0) by simp [ab,List.map_replicate]]
section
variable {P:Program}
theorem mT {w:World} {o:Oper} {a:Act} {K:Act→World→Prop} {Q:Exit→Act→World→Prop} (d s:Operand) (dT sT:TypeId)
  (ho:o.op=.call { callee:=.builtin .copy,args:=#[d,s],argTypes:=#[dT,sT] }) (elem:TypeId) (hu:P.underlying dT=some (.slice elem)) (hsz:(P.info? elem).map (·.size)=some 1)
  (g off N dCap:Nat) (A:Option Addr) (sCap:Nat) (x:List UInt8) (hd:a.eval d=.slice (some ⟨g,off,none⟩) N dCap) (hs:a.eval s=.slice A x.length sCap) (B:Nat) (hb:BS w B A x) (hx:x.length≤N)
  (t:TypeId) (cs:List UInt8→List Value) (pre post:List Value) (hcs:∀ b,cs b=pre ++ (ab b ++ post)) (hpre:pre.length=off) (hg:ah w g t (cs (List.replicate N 0)).toArray)
  (h:∀ w' z,ah w' g t (cs (jR x N)).toArray→w.grownBy w' (some g)→K (a.put o.dst z) w'):o.wp P a w K Q:=by
 rcases x with _ | ⟨x0,xs⟩
 ·have hrun:=run_copy_none (P:=P) w dT sT o.type elem (some ⟨g,off,none⟩) A N dCap 0 sCap hu hsz (by simp)
  unfold Oper.wp;simp [execOp,ho,resolve,invoke,builtin,hd,hs,hrun,Result.andThen];exact h w _ (by simpa [jR] using hg) (World.grownBy.refl _ _)
 ·obtain ⟨ad,rfl,_,hcell⟩:=hb (by simp)
  have hg':w.heap[g]?=some (.cells (cs (List.replicate N 0)).toArray t (0,0)):=hg;have hrun:=run_copy_row (P:=P) w dT sT o.type elem g off N dCap ad (x0 :: xs).length sCap (cs (List.replicate N 0)).toArray t (ab (x0 :: xs)) hu hsz hg' (by rw [am];exact (Nat.min_eq_left hx).symm) (fun j v hj=>by
    rw [ab,List.getElem?_map] at hj;rcases hm:(x0 :: xs)[j]? with _ | y
    ·rw [hm] at hj;cases hj
    ·rw [hm] at hj
     simp only [Option.map_some,Option.some.injEq] at hj;rw [←hj];exact hcell j y hm) (by rw [hcs,List.size_toArray,List.length_append,hpre,List.length_append,am,am,List.length_replicate];omega) (dQ _)
  unfold Oper.wp;simp only [execOp,ho,resolve,invoke,builtin,hd,hs,List.map_toArray,List.map_cons,List.map_nil,Sem.run_bind,Sem.run_pure,Result.andThen_ok,hrun];refine h _ _ ?_ (mz w g _);rw [hcs (List.replicate N 0),List.append_assoc,sU hx off hpre,←hcs];exact ah.row hg _
end
section
variable {b:aR}
theorem rA (b:aR):∃ pre post,(∀ x:List UInt8,ae { b with addr:=(b.addr.1,x) }=pre ++ (ab x ++ post))∧pre.length=2 :=
 ⟨[sv b.name,.bool b.addr.1],zv b.port :: (ab b.mac ++ [.float .f64 b.wt,.bool b.drain]),fun x=>by simp [ae,ag],rfl⟩
theorem sV (h:ar b):∃ pre post,(∀ x:List UInt8,ae { b with mac:=x }=pre ++ (ab x ++ post))∧pre.length=19 :=
 ⟨sv b.name :: (ag b.addr ++ [zv b.port]),[.float .f64 b.wt,.bool b.drain],fun x=>by simp [ae],by simp [ao h.addr]⟩
theorem AK (v:Bool):(ae b).toArray.setIfInBounds 1 (.bool v)=(ae { b with addr:=(v,b.addr.2) }).toArray:=by
 rw [List.setIfInBounds_toArray];rfl
theorem wR (h:ar b) (i:Nat) (v:Value):(ae b).toArray.setIfInBounds (18 + i) v=(sv b.name :: (ag b.addr ++ (zv b.port :: (ab b.mac ++ [.float .f64 b.wt,.bool b.drain])).set i v)).toArray:=by
 have h1:=ao h.addr;rw [List.setIfInBounds_toArray,show 18 + i=(17 + i) + 1 by omega,ae,List.set_cons_succ,List.set_append_right _ _ (by omega),h1,Nat.add_sub_cancel_left]
theorem yp (h:ar b) (v:Int):(ae b).toArray.setIfInBounds 18 (.int .i64 v)=(ae { b with port:=v }).toArray:=wR h 0 _
theorem wS (h:ar b) (i:Nat) (v:Value):(ae b).toArray.setIfInBounds (25 + i) v=(sv b.name :: (ag b.addr ++ (zv b.port :: (ab b.mac ++ [.float .f64 b.wt,.bool b.drain].set i v)))).toArray:=by
 have h2:=h.mac;rw [show 25 + i=18 + (7 + i) by omega,wR h,show 7 + i=(6 + i) + 1 by omega,List.set_cons_succ,List.set_append_right _ _ (by rw [am];omega),am,h2,Nat.add_sub_cancel_left]
theorem CH (h:ar b) (v:Nat):(ae b).toArray.setIfInBounds 25 (.float .f64 v)=(ae { b with wt:=v }).toArray:=wS h 0 _
theorem uU (h:ar b) (v:Bool):(ae b).toArray.setIfInBounds 26 (.bool v)=(ae { b with drain:=v }).toArray:=wS h 1 _
end
def dy (l:List UInt8) (s:St) (bad:Bool):St × Bool × aR :=
 let t1:=bO l s 255
 let t2:=dD l t1.1 bad
 let t3:=bc l t2.1 16
 let t4:=aG l t3.1 2 true
 let t5:=bc l t4.1 6
 let t6:=bZ l t5.1 t2.2.1
 let t7:=dD l t6.1 t6.2.1
 (t7.1,t7.2.1,{ name:=t1.2,addr:=(t2.2.2,jR t3.2 16),port:=(t4.2:Int),mac:=jR t5.2 6,wt:=t6.2.2,drain:=t7.2.2 })
structure sW (w wr:World) (base g r bx:Nat) (l:List UInt8) (s:St) (bad:Bool) (b:aR):Prop where
 rs:RS wr base g r l s bad
 res:ah wr w.heap.size 56 (ae dt).toArray
 box:ah wr bx 56 (ae b).toArray
 off:cj w wr g (some r)
 shape:ar b
 gt:w.heap.size<bx
 rl:r<w.heap.size
 gl:g<w.heap.size
section
variable {w wr w':World} {base g r bx:Nat} {l:List UInt8} {s s':St} {bad bad':Bool} {b b':aR}
theorem sW.after (h:sW w wr base g r bx l s bad b) (hR:RS w' base g r l s' bad') (ho:cj wr w' g (some r)):sW w w' base g r bx l s' bad' b :=
 ⟨hR,ho.blk h.res (by have:=h.gl;omega) (fun e=>by injection e with e;have:=h.rl;omega),ho.blk h.box (by have:=h.gl;have:=h.gt;omega) (fun e=>by injection e with e;have:=h.rl;have:=h.gt;omega),h.off.trans ho,h.shape,h.gt,h.rl,h.gl⟩
theorem sW.boxed (h:sW w wr base g r bx l s bad b) (hb:ah w' bx 56 (ae b').toArray) (hg:wr.grownBy w' (some bx)) (hs:ar b'):sW w w' base g r bx l s bad b':=by
 have hr:=h.rl;have hgl:=h.gl;have hgt:=h.gt;refine ⟨⟨d8.off h.rs.rd hg h.box (by decide) (by decide),h.rs.ok,ah.grown h.rs.box hg (fun e=>by injection e with e;omega)⟩,ah.grown h.res hg (fun e=>by injection e with e;omega),hb,?_,hs,hgt,hr,hgl⟩;have hsz:=h.off.2.2.2.1;refine ⟨hg.os.trans h.off.1,hg.tape.trans h.off.2.1,hg.output.trans h.off.2.2.1,Nat.le_trans hsz hg.size,fun k hk h1 h2=>(hg.block k (by omega) (fun e=>by injection e with e;omega)).trans (h.off.2.2.2.2 k hk h1 h2)⟩
theorem sW.set_ (h:sW w wr base g r bx l s bad b) (k:Nat) (u:Value) (e:(ae b).toArray.setIfInBounds k u=(ae b').toArray) (hs:ar b'):sW w (wr.setCell ⟨bx,k,none⟩ u) base g r bx l s bad b':=by
 refine h.boxed ?_ (aT _ ⟨bx,k,none⟩ u) hs;have:=ah.set_ h.box k u;rw [e] at this;exact this
theorem sW.below (h:sW w wr base g r bx l s bad b) (hb:Below wr.heap.size wr w'):sW w w' base g r bx l s bad b:=h.after (h.rs.below hb) (cj.of_below hb)
theorem sW.goodBlk (h:sW w wr base g r bx l s bad b):ah (wr.setCells w.heap.size 0 (ae b)) w.heap.size 56 (ae b).toArray:=by
 have:=ah.setCells (ae b) 0 h.res;rw [aX (by rw [bn h.shape,bn aA])] at this;exact this
theorem sW.good (h:sW w wr base g r bx l s bad b):yo w base g r l s bad (wr.setCells w.heap.size 0 (ae b)):=by
 have hr:=h.rl;have hgl:=h.gl;have hgt:=h.gt;have hg:wr.grownBy (wr.setCells w.heap.size 0 (ae b)) (some w.heap.size):=aN _ w.heap.size 0 _ 0 (World.grownBy.refl _ _);refine ⟨⟨d8.off h.rs.rd hg h.res (by decide) (by decide),h.rs.ok,ah.grown h.rs.box hg (fun e=>by injection e with e;omega)⟩,?_⟩;have hsz:=h.off.2.2.2.1;exact ⟨hg.os.trans h.off.1,hg.tape.trans h.off.2.1,hg.output.trans h.off.2.2.1,Nat.le_trans hsz hg.size,fun k hk h1 h2=>(hg.block k (by omega) (fun e=>by injection e with e;omega)).trans (h.off.2.2.2.2 k hk h1 h2)⟩
end
set_option maxRecDepth 100000 in
theorem qB (base g r:Nat) (l:List UInt8) (s:St) (bad:Bool) (w:World) (h:RS w base g r l s bad) (hl:l.length≤1000000000) (hwt:∀ x:List UInt8,(jg x).1<18446744073709551616) :
  Calls Tryz.prog 153 #[.pointer (some ⟨r,0,none⟩)] w fun e w'=>e=.returned (.agg (ae (dy l s bad).2.2).toArray)∧yo w base g r l (dy l s bad).1 (dy l s bad).2.1 w':=by
 obtain ⟨R,hR0⟩:∃ R,R=dy l s bad:=⟨_,rfl⟩
 rw [←hR0];have hRl:=hR0;unfold dy at hRl;clear hR0;rcases h1:bO l s 255 with ⟨s1,nm⟩
 rcases h2:dD l s1 bad with ⟨s2,b2,six⟩
 rcases h3:bc l s2 16 with ⟨s3,x⟩
 rcases h4:aG l s3 2 true with ⟨s4,q⟩
 rcases h5:bc l s4 6 with ⟨s5,m⟩
 rcases h6:bZ l s5 b2 with ⟨s6,b6,wt⟩
 rcases h7:dD l s6 b6 with ⟨s7,b7,dr⟩
 simp only [h1,h2,h3,h4,h5,h6,h7] at hRl;have lx:x.length≤16:=fO (n:=16) h3;have lm:m.length≤6:=fO (n:=6) h5;have lq:q≤65535:=by have:=AJ l s3;rw [h4] at this;exact this
 have lw:wt<18446744073709551616:=by have:=congrArg (fun p=>p.2.2) h6;simp only [bZ] at this;rw [←this];exact hwt _
 have H1:=Lib.hid h1;have H2:=Lib.hid h2;have H3:=Lib.hid h3;have H4:=Lib.hid h4;have H5:=Lib.hid h5;have H6:=Lib.hid h6;have H7:=Lib.hid h7;have HRl:=Lib.hid hRl;have Lx:=Lib.hid lx;have Lm:=Lib.hid lm;have Lq:=Lib.hid lq;have Lw:=Lib.hid lw;have Hh:=Lib.hid h;have hqw:IntKind.i64.wrap (q:Int)=(q:Int):=IntWalk.i64_in _ (by omega);have Hqw:=Lib.hid hqw;have hrl:=h.box.lt;have hgl:g<w.heap.size:=h.rd.lt;have Hrl:=Lib.hid hrl;have Hgl:=Lib.hid hgl;obtain ⟨W0,hW0⟩:∃ W,W=w.alloc (.cells (ae dt).toArray 56):=⟨_,rfl⟩
 have hb0:Below w.heap.size w W0:=by rw [hW0];exact (Below.refl _ _).alloc (Nat.le_refl _) _
 have hX0:ah W0 w.heap.size 56 (ae dt).toArray:=by rw [hW0];exact ah.new w _ _ _ rfl
 have HX0:=Lib.hid hX0;have HB0:=Lib.hid hb0;rw [gh] at hW0;have HW0:=Lib.hid hW0;clear h1 h2 h3 h4 h5 h6 h7 hRl lx lm lq lw h hqw hrl hgl hb0 hX0 hW0;go_enter Tryz.func153,Tryz.ntmps153
 go_upto_region 1 with fail
 rw [←HW0.out];clear HW0
 go_wp2_with fail
 refine (lu base g r l s bad W0 (Hh.out.below HB0.out) hl).mono ?_;rw [H1.out];rintro e w1 ⟨rfl,hc⟩;obtain ⟨hR1,hO1⟩:=hc;obtain ⟨b1,hb1⟩:∃ b:aR,b={ dt with name:=nm }:=⟨_,rfl⟩
 have hS1:ar b1:=by rw [hb1];exact ⟨aA.addr,aA.mac,aA.wt⟩
 obtain ⟨W2,hW2⟩:∃ W,W=w1.alloc (.cells (ae dt).toArray 56):=⟨_,rfl⟩
 obtain ⟨W3,hW3⟩:∃ W,W=W2.setCells w1.heap.size 0 (ae b1):=⟨_,rfl⟩
 obtain ⟨hth,hbx,hbe⟩:=my w1 W2 W3 56 (ae dt) (ae b1) (by rw [bn hS1,bn aA]) hW2 hW3;have hres1:ah w1 w.heap.size 56 (ae dt).toArray:=hO1.blk HX0.out (by have:=Hgl.out;omega) (fun e=>by injection e with e;have:=Hrl.out;omega);have hst:sW w W3 base g r w1.heap.size l s1 bad b1:=⟨hR1.below hbe,ah.below hres1 hbe hres1.lt,hbx,(cj.of_below HB0.out).trans (hO1.trans (cj.of_below hbe)),hS1,hres1.lt,Hrl.out,Hgl.out⟩
 have Hst:=Lib.hid hst;rw [gh] at hW2;have HW2:=Lib.hid hW2;have HW3:=Lib.hid hW3;have Hth:=Lib.hid hth;have Hb1:=Lib.hid hb1;have Hlit:Hid ((ae b1).toArray=#[.string ⟨nm.toArray⟩,.bool false,.int .u8 0,.int .u8 0,.int .u8 0,.int .u8 0,.int .u8 0,.int .u8 0,.int .u8 0,.int .u8 0,.int .u8 0,.int .u8 0,.int .u8 0,.int .u8 0,.int .u8 0,.int .u8 0,.int .u8 0,.int .u8 0,.int .i64 0,.int .u8 0,.int .u8 0,.int .u8 0,.int .u8 0,.int .u8 0,.int .u8 0,.float .f64 0,.bool false]):=by show _=_;rw [hb1];rfl
 have Hsz:Hid ((Tryz.prog.info? 56).map (·.size)=some (ae b1).toArray.size):=cQ hS1;clear hR1 hO1 hb1 hS1 hW2 hW3 hth hbx hbe hres1 hst HX0 HB0;go_upto_region 2 with (first
  | (rw [←HW2.out];(with_reducible refine aM 56 ?_);rw [←Hlit.out];refine wpList_store_mid rfl 56 (.tmp 3) (.tmp 6) rfl w1.heap.size 0 (ae b1).toArray rfl rfl Hth.out Hsz.out (eC _) ?_))
 rw [←HW3.out];clear HW2 HW3 Hth Hlit Hsz;obtain ⟨bx,hbx⟩:∃ b,b=w1.heap.size:=⟨_,rfl⟩
 rw [←hbx] at Hst ⊢;clear hbx
 go_wp2_with fail
 refine (lr base g r l s1 bad W3 Hst.out.rs hl).mono ?_;rw [H2.out];rintro e w4 ⟨rfl,hR,hO⟩;have Hm:=Lib.hid (Hst.out.after hR hO);clear hR hO Hst;obtain ⟨b2n,hb2n⟩:∃ b:aR,b={ b1 with addr:=(six,b1.addr.2) }:=⟨_,rfl⟩
 have hS:ar b2n:=by rw [hb2n];exact ⟨Hm.out.shape.addr,Hm.out.shape.mac,Hm.out.shape.wt⟩
 have hst:=Hm.out.set_ (b':=b2n) 1 (.bool six) (by rw [AK,hb2n]) hS;have dx:=uJ Hm.out.box Hm.out.shape;have df:=Hm.out.box.frozen 1;obtain ⟨Wan,hWan⟩:∃ W,W=w4.setCell ⟨bx,1,none⟩ (.bool six):=⟨_,rfl⟩
 rw [←hWan] at hst;have HWan:=Lib.hid hWan;have Hst:=Lib.hid hst;have Hb_b2n:=Lib.hid hb2n;clear hS hst hWan hb2n;go_upto_region 3 with fail
 rw [←HWan.out];clear dx df HWan Hm;have qx:=cY Hst.out.rs.ok 16;rw [H3.out] at qx;have Qx:=Lib.hid qx;have Tk:=Lib.hid (dF base g l s2 Wan.drew 16 Hst.out.rs.rd.drew Hst.out.rs.ok hl (by decide));rw [H3.out] at Tk;clear qx;refine wp_region_noPanic ?_;refine wp_region_held_drew (S:=fun w'=>w'.cell? ⟨r,0,none⟩=some (.pointer (some ⟨g,0,none⟩))) (by kernel_rfl) (Hst.out.below ((Below.refl _ _).drew)).rs.d0 (fun hHeld=>?_);refine wpAnyH_take (i:=0) (v:=?_) rfl (by kernel_rfl) (by kernel_rfl) (by kernel_rfl) (fun _ _ _ h=>h) (Or.inl ⟨by rfl,?_⟩) hHeld ?_;rotate_left
 ·intro w' hSw
  have d0:=hSw;go_simp
  try with_reducible rfl
 try simp only [Act.put,List.getElem_toArray,List.getElem_cons_succ,List.getElem_cons_zero,List.setIfInBounds_toArray,List.set_cons_zero,List.set_cons_succ]
 refine wpAnyH_take (i:=1) (v:=?_) rfl (by kernel_rfl) (by kernel_rfl) (by kernel_rfl) (fun _ _ _ h=>h) (Or.inl ⟨by rfl,?_⟩) hHeld ?_;rotate_left
 ·intro w' hSw
  have d0:=hSw;go_simp
  try with_reducible rfl
 try simp only [Act.put,List.getElem_toArray,List.getElem_cons_succ,List.getElem_cons_zero,List.setIfInBounds_toArray,List.set_cons_zero,List.set_cons_succ]
 refine wpAnyH_take (i:=2) (v:=?_) rfl (by kernel_rfl) (by kernel_rfl) (by kernel_rfl) (fun _ _ _ h=>h) (Or.inl ⟨by rfl,?_⟩) hHeld ?_;rotate_left
 ·intro w' hSw
  have d0:=hSw;go_simp
  try with_reducible rfl
 try simp only [Act.put,List.getElem_toArray,List.getElem_cons_succ,List.getElem_cons_zero,List.setIfInBounds_toArray,List.set_cons_zero,List.set_cons_succ]
 refine wpAnyH_take (i:=3) (v:=?_) rfl (by kernel_rfl) (by kernel_rfl) (by kernel_rfl) (fun _ _ _ h=>h) (Or.inl ⟨by rfl,?_⟩) hHeld ?_;rotate_left
 ·intro w' hSw
  have d0:=hSw;go_simp
  try with_reducible rfl
 try simp only [Act.put,List.getElem_toArray,List.getElem_cons_succ,List.getElem_cons_zero,List.setIfInBounds_toArray,List.set_cons_zero,List.set_cons_succ]
 refine wpAnyH_take (i:=4) (v:=?_) rfl (by kernel_rfl) (by kernel_rfl) (by kernel_rfl) (fun _ _ _ h=>h) (Or.inl ⟨by rfl,?_⟩) hHeld ?_;rotate_left
 ·intro w' hSw
  have d0:=hSw;go_simp
  try with_reducible rfl
 try simp only [Act.put,List.getElem_toArray,List.getElem_cons_succ,List.getElem_cons_zero,List.setIfInBounds_toArray,List.set_cons_zero,List.set_cons_succ]
 refine wpAnyH_take (i:=5) (v:=?_) rfl (by kernel_rfl) (by kernel_rfl) (by kernel_rfl) (fun _ _ _ h=>h) (Or.inl ⟨by rfl,?_⟩) hHeld ?_;rotate_left
 ·intro w' hSw
  have d0:=hSw;go_simp
  try with_reducible rfl
 try simp only [Act.put,List.getElem_toArray,List.getElem_cons_succ,List.getElem_cons_zero,List.setIfInBounds_toArray,List.set_cons_zero,List.set_cons_succ]
 refine wpAnyH_take (i:=6) (v:=?_) rfl (by kernel_rfl) (by kernel_rfl) (by kernel_rfl) (fun _ _ _ h=>h) (Or.inl ⟨by rfl,?_⟩) hHeld ?_;rotate_left
 ·intro w' hSw
  have d0:=hSw;go_simp
  try with_reducible rfl
 try simp only [Act.put,List.getElem_toArray,List.getElem_cons_succ,List.getElem_cons_zero,List.setIfInBounds_toArray,List.set_cons_zero,List.set_cons_succ]
 refine wpAnyH_ready (rs:=[7]) (by kernel_rfl) (by simp) ?_;refine AllReadyH.cons (i:=7) rfl (fun K hK=>?_) AllReadyH.nil;go_simp
 refine Tk.out.mono ?_;rintro e w5 ⟨Ax,cx,rfl,hown,hR,hg⟩;have hm0:=Hst.out.below ((Below.refl _ _).drew);have Hm:=Lib.hid (hm0.after (hm0.rs.after hR Qx.out hg) (cj.of_g hg));have Hbs:=Lib.hid (BS.of_own hown).1;clear hown hR hg hm0 Tk Qx Hst
 go_wp2_with fail
 refine hK.out _ _ Hm.out.rs.d0 (fun hHeld=>?_);clear hK K
 try simp only [Act.put,List.getElem_toArray,List.getElem_cons_succ,List.getElem_cons_zero,List.setIfInBounds_toArray,List.set_cons_zero,List.set_cons_succ]
 refine wpAnyH_ready (rs:=[8]) (by kernel_rfl) (by simp) ?_;refine AllReadyH.cons (i:=8) rfl (fun K hK=>?_) AllReadyH.nil;rw [if_pos (by rfl)];obtain ⟨pre1,post1,hcs1,hpre1⟩:=rA b2n;refine mT (.tmp 13) (.tmp 18) 43 43 rfl 5 Tryz.underlying43 lv bx 2 16 16 Ax cx x rfl rfl _ Hbs.out Lx.out 56 (fun x=>ae { b2n with addr:=(b2n.addr.1,x) }) pre1 post1 hcs1 hpre1 (by rw [show ({ b2n with addr:=(b2n.addr.1,List.replicate 16 0) }:aR)=b2n by rw [Hb_b2n.out,Hb1.out];rfl];exact Hm.out.box) ?_;intro w6 z hbox hgr;obtain ⟨b3n,hb3n⟩:∃ b:aR,b={ b2n with addr:=(b2n.addr.1,jR x 16) }:=⟨_,rfl⟩
 have hS:ar b3n:=by rw [hb3n];exact ⟨mS Lx.out,Hm.out.shape.mac,Hm.out.shape.wt⟩
 have Hst:=Lib.hid (Hm.out.boxed (b':=b3n) (by rw [hb3n];exact hbox) hgr hS);have Hb_b3n:=Lib.hid hb3n;clear hbox hgr hcs1 hpre1 Hbs Hm hS hb3n;refine hK.out _ _ Hst.out.rs.d0 (fun hHeld=>?_);clear hK K
 try simp only [Act.put,List.getElem_toArray,List.getElem_cons_succ,List.getElem_cons_zero,List.setIfInBounds_toArray,List.set_cons_zero,List.set_cons_succ]
 refine wpAnyH_done (by kernel_rfl) ?_ _;refine NoPanic.normal ?_;clear hHeld;have d0:=Hst.out.rs.d0;have ok4:=bU Hst.out.rs.ok 2 true;rw [H4.out] at ok4;have Ok4:=Lib.hid ok4;clear ok4
 go_wp2_with fail
 refine (cg base g l s3 w6 2 true Hst.out.rs.rd Hst.out.rs.ok hl).mono ?_;rw [H4.out];rintro e w7 ⟨rfl,hR,hg⟩;have Hm:=Lib.hid (Hst.out.after (Hst.out.rs.after hR Ok4.out hg) (cj.of_g hg));clear hR hg d0 Hst;obtain ⟨b4n,hb4n⟩:∃ b:aR,b={ b3n with port:=(q:Int) }:=⟨_,rfl⟩
 have hS:ar b4n:=by rw [hb4n];exact ⟨Hm.out.shape.addr,Hm.out.shape.mac,Hm.out.shape.wt⟩
 have hst:=Hm.out.set_ (b':=b4n) 18 (.int .i64 (q:Int)) (by rw [yp Hm.out.shape,hb4n]) hS;have dx:=kb Hm.out.box Hm.out.shape;have df:=Hm.out.box.frozen 18;have hqw:=Hqw.out;obtain ⟨Wb,hWb⟩:∃ W,W=w7.setCell ⟨bx,18,none⟩ (.int .i64 (q:Int)):=⟨_,rfl⟩
 rw [←hWb] at hst;have HWb:=Lib.hid hWb;have Hst:=Lib.hid hst;have Hb_b4n:=Lib.hid hb4n;clear hS hst hWb hb4n;go_upto_region 5 with fail
 rw [←HWb.out];clear dx df hqw HWb Hm;have qx:=cY Hst.out.rs.ok 6;rw [H5.out] at qx;have Qx:=Lib.hid qx;have Tk:=Lib.hid (dF base g l s4 Wb.drew 6 Hst.out.rs.rd.drew Hst.out.rs.ok hl (by decide));rw [H5.out] at Tk;clear qx;refine wp_region_noPanic ?_;refine wp_region_held_drew (S:=fun w'=>w'.cell? ⟨r,0,none⟩=some (.pointer (some ⟨g,0,none⟩))) (by kernel_rfl) (Hst.out.below ((Below.refl _ _).drew)).rs.d0 (fun hHeld=>?_);refine wpAnyH_take (i:=0) (v:=?_) rfl (by kernel_rfl) (by kernel_rfl) (by kernel_rfl) (fun _ _ _ h=>h) (Or.inl ⟨by rfl,?_⟩) hHeld ?_;rotate_left
 ·intro w' hSw
  have d0:=hSw;go_simp
  try with_reducible rfl
 try simp only [Act.put,List.getElem_toArray,List.getElem_cons_succ,List.getElem_cons_zero,List.setIfInBounds_toArray,List.set_cons_zero,List.set_cons_succ]
 refine wpAnyH_take (i:=1) (v:=?_) rfl (by kernel_rfl) (by kernel_rfl) (by kernel_rfl) (fun _ _ _ h=>h) (Or.inl ⟨by rfl,?_⟩) hHeld ?_;rotate_left
 ·intro w' hSw
  have d0:=hSw;go_simp
  try with_reducible rfl
 try simp only [Act.put,List.getElem_toArray,List.getElem_cons_succ,List.getElem_cons_zero,List.setIfInBounds_toArray,List.set_cons_zero,List.set_cons_succ]
 refine wpAnyH_take (i:=2) (v:=?_) rfl (by kernel_rfl) (by kernel_rfl) (by kernel_rfl) (fun _ _ _ h=>h) (Or.inl ⟨by rfl,?_⟩) hHeld ?_;rotate_left
 ·intro w' hSw
  have d0:=hSw;go_simp
  try with_reducible rfl
 try simp only [Act.put,List.getElem_toArray,List.getElem_cons_succ,List.getElem_cons_zero,List.setIfInBounds_toArray,List.set_cons_zero,List.set_cons_succ]
 refine wpAnyH_take (i:=3) (v:=?_) rfl (by kernel_rfl) (by kernel_rfl) (by kernel_rfl) (fun _ _ _ h=>h) (Or.inl ⟨by rfl,?_⟩) hHeld ?_;rotate_left
 ·intro w' hSw
  have d0:=hSw;go_simp
  try with_reducible rfl
 try simp only [Act.put,List.getElem_toArray,List.getElem_cons_succ,List.getElem_cons_zero,List.setIfInBounds_toArray,List.set_cons_zero,List.set_cons_succ]
 refine wpAnyH_take (i:=4) (v:=?_) rfl (by kernel_rfl) (by kernel_rfl) (by kernel_rfl) (fun _ _ _ h=>h) (Or.inl ⟨by rfl,?_⟩) hHeld ?_;rotate_left
 ·intro w' hSw
  have d0:=hSw;go_simp
  try with_reducible rfl
 try simp only [Act.put,List.getElem_toArray,List.getElem_cons_succ,List.getElem_cons_zero,List.setIfInBounds_toArray,List.set_cons_zero,List.set_cons_succ]
 refine wpAnyH_take (i:=5) (v:=?_) rfl (by kernel_rfl) (by kernel_rfl) (by kernel_rfl) (fun _ _ _ h=>h) (Or.inl ⟨by rfl,?_⟩) hHeld ?_;rotate_left
 ·intro w' hSw
  have d0:=hSw;go_simp
  try with_reducible rfl
 try simp only [Act.put,List.getElem_toArray,List.getElem_cons_succ,List.getElem_cons_zero,List.setIfInBounds_toArray,List.set_cons_zero,List.set_cons_succ]
 refine wpAnyH_ready (rs:=[6]) (by kernel_rfl) (by simp) ?_;refine AllReadyH.cons (i:=6) rfl (fun K hK=>?_) AllReadyH.nil;go_simp
 refine Tk.out.mono ?_;rintro e w8 ⟨Ax,cx,rfl,hown,hR,hg⟩;have hm0:=Hst.out.below ((Below.refl _ _).drew);have Hm:=Lib.hid (hm0.after (hm0.rs.after hR Qx.out hg) (cj.of_g hg));have Hbs:=Lib.hid (BS.of_own hown).1;clear hown hR hg hm0 Tk Qx Hst
 go_wp2_with fail
 refine hK.out _ _ Hm.out.rs.d0 (fun hHeld=>?_);clear hK K
 try simp only [Act.put,List.getElem_toArray,List.getElem_cons_succ,List.getElem_cons_zero,List.setIfInBounds_toArray,List.set_cons_zero,List.set_cons_succ]
 refine wpAnyH_ready (rs:=[7]) (by kernel_rfl) (by simp) ?_;refine AllReadyH.cons (i:=7) rfl (fun K hK=>?_) AllReadyH.nil;rw [if_pos (by rfl)];obtain ⟨pre1,post1,hcs1,hpre1⟩:=sV Hm.out.shape;refine mT (.tmp 28) (.tmp 33) 43 43 rfl 5 Tryz.underlying43 lv bx 19 6 6 Ax cx m rfl rfl _ Hbs.out Lm.out 56 (fun x=>ae { b4n with mac:=x }) pre1 post1 hcs1 hpre1 (by rw [show ({ b4n with mac:=List.replicate 6 0 }:aR)=b4n by rw [Hb_b4n.out,Hb_b3n.out,Hb_b2n.out,Hb1.out];rfl];exact Hm.out.box) ?_;intro w9 z hbox hgr;obtain ⟨b5n,hb5n⟩:∃ b:aR,b={ b4n with mac:=jR m 6 }:=⟨_,rfl⟩
 have hS:ar b5n:=by rw [hb5n];exact ⟨Hm.out.shape.addr,mS Lm.out,Hm.out.shape.wt⟩
 have Hst:=Lib.hid (Hm.out.boxed (b':=b5n) (by rw [hb5n];exact hbox) hgr hS);have Hb_b5n:=Lib.hid hb5n;clear hbox hgr hcs1 hpre1 Hbs Hm hS hb5n;refine hK.out _ _ Hst.out.rs.d0 (fun hHeld=>?_);clear hK K
 try simp only [Act.put,List.getElem_toArray,List.getElem_cons_succ,List.getElem_cons_zero,List.setIfInBounds_toArray,List.set_cons_zero,List.set_cons_succ]
 refine wpAnyH_done (by kernel_rfl) ?_ _;refine NoPanic.normal ?_;clear hHeld;have hsf:=fun (a:Addr) (m:Mode) (n:Nat) (w:World)=>ib a n m w
 go_wp2_with fail
 refine (og base g r l s5 b2 w9 Hst.out.rs hl).mono ?_;rw [H6.out];rintro e w10 ⟨rfl,hR,hO⟩;have Hm:=Lib.hid (Hst.out.after hR hO);clear hR hO Hst;obtain ⟨b6n,hb6n⟩:∃ b:aR,b={ b5n with wt:=wt }:=⟨_,rfl⟩
 have hS:ar b6n:=by rw [hb6n];exact ⟨Hm.out.shape.addr,Hm.out.shape.mac,Lw.out⟩
 have hst:=Hm.out.set_ (b':=b6n) 25 (.float .f64 wt) (by rw [CH Hm.out.shape,hb6n]) hS;have dx:=lM Hm.out.box Hm.out.shape;have df:=Hm.out.box.frozen 25;obtain ⟨Wcn,hWcn⟩:∃ W,W=w10.setCell ⟨bx,25,none⟩ (.float .f64 wt):=⟨_,rfl⟩
 rw [←hWcn] at hst;have HWcn:=Lib.hid hWcn;have Hst:=Lib.hid hst;have Hb_b6n:=Lib.hid hb6n;clear hS hst hWcn hb6n;go_upto_region 7 with fail
 rw [←HWcn.out];clear dx df HWcn Hm;clear hsf
 go_wp2_with fail
 refine (lr base g r l s6 b6 Wcn Hst.out.rs hl).mono ?_;rw [H7.out];rintro e w11 ⟨rfl,hR,hO⟩;have Hm:=Lib.hid (Hst.out.after hR hO);clear hR hO Hst;obtain ⟨b7n,hb7n⟩:∃ b:aR,b={ b6n with drain:=dr }:=⟨_,rfl⟩
 have hS:ar b7n:=by rw [hb7n];exact ⟨Hm.out.shape.addr,Hm.out.shape.mac,Hm.out.shape.wt⟩
 have hst:=Hm.out.set_ (b':=b7n) 26 (.bool dr) (by rw [uU Hm.out.shape,hb7n]) hS;have dx:=mM Hm.out.box Hm.out.shape;have df:=Hm.out.box.frozen 26;obtain ⟨Wdn,hWdn⟩:∃ W,W=w11.setCell ⟨bx,26,none⟩ (.bool dr):=⟨_,rfl⟩
 rw [←hWdn] at hst;have HWdn:=Lib.hid hWdn;have Hst:=Lib.hid hst;have Hb_b7n:=Lib.hid hb7n;clear hS hst hWdn hb7n;go_upto_region 8 with fail
 rw [←HWdn.out];clear dx df HWdn Hm;have hfin:R=(s7,b7,b7n):=by rw [HRl.out,Hb_b7n.out,Hb_b6n.out,Hb_b5n.out,Hb_b4n.out,Hb_b3n.out,Hb_b2n.out,Hb1.out]
 have Hfin:=Lib.hid hfin;have RF:=Lib.hid (aj Hst.out.box);have Hthr:Hid (Wdn.there w.heap.size 0 (ae b7n).toArray.size):=Hst.out.res.there (by rw [List.size_toArray,List.size_toArray,bn Hst.out.shape,bn aA];decide);have Hszr:Hid ((Tryz.prog.info? 56).map (·.size)=some (ae b7n).toArray.size):=cQ Hst.out.shape;have HG:=Lib.hid Hst.out.goodBlk;clear hfin
 go_wp2_with (first
  | ((with_reducible refine aI 56 ?_);refine aa (by rfl) 56 (.tmp 3) rfl bx 0 rfl (ae b7n) _ RF.out Tryz.underlying56 rfl (cQ Hst.out.shape) ?_)
  | ((with_reducible refine aM 56 ?_);refine wpList_store_mid rfl 56 (.tmp 2) (.tmp 41) rfl w.heap.size 0 (ae b7n).toArray rfl rfl Hthr.out Hszr.out (eC _) ?_))
 refine bodyPost_ret (v:=.agg (ae b7n).toArray) (bV (P:=Tryz.prog) (p:=2) rfl _ _ w.heap.size _ _ _ rfl HG.out bL rfl Hszr.out) rfl ⟨by rw [Hfin.out],by rw [Hfin.out];exact Hst.out.good⟩
end Go.Proofs.YtaafkokfdgfabaaGreat
namespace Go.Proofs.YtaafkokfdgfabaaGreat
open Go.RowKit
set_option linter.unusedVariables false
set_option linter.unusedSimpArgs false
theorem mU (x:List UInt8):(jg x).1<18446744073709551616:=by
 unfold jg;split
 ·rename_i h
  exact Cv (by rw [h.1];decide)
 ·decide
theorem km (l:List UInt8) (s:St) (bad:Bool):ar (dy l s bad).2.2:=by
 unfold dy;rcases h1:bO l s 255 with ⟨s1,nm⟩
 rcases h2:dD l s1 bad with ⟨s2,b2,six⟩
 rcases h3:bc l s2 16 with ⟨s3,x⟩
 rcases h4:aG l s3 2 true with ⟨s4,q⟩
 rcases h5:bc l s4 6 with ⟨s5,m⟩
 rcases h6:bZ l s5 b2 with ⟨s6,b6,wt⟩
 rcases h7:dD l s6 b6 with ⟨s7,b7,dr⟩
 simp only [h1,h2,h3,h4,h5,h6,h7];have lw:wt<18446744073709551616:=by have:=congrArg (fun p=>p.2.2) h6;simp only [bZ] at this;rw [←this];exact mU _
 exact ⟨mS (fO (n:=16) h3),mS (fO (n:=6) h5),lw⟩
def fJ (l:List UInt8) (s:St) (bad:Bool):St × Bool × bY :=
 let t1:=aG l s 1 true
 if (t1.2:Int)=1 then
  let t2:=bO l t1.1 131072
  (t2.1,bad,{ da with kind:=(t1.2:Int),frame:=t2.2 })
 else if (t1.2:Int)=2 then
  let t2:=aG l t1.1 1 true
  if (t2.2:Int)=1 then
   let t3:=dy l t2.1 bad
   (t3.1,t3.2.1,{ da with kind:=(t1.2:Int),op:=(t2.2:Int),back:=t3.2.2 })
  else
   let t3:=bO l t2.1 255
   if (t2.2:Int)=3 then
    let t4:=bZ l t3.1 bad
    (t4.1,t4.2.1,{ da with kind:=(t1.2:Int),op:=(t2.2:Int),oname:=t3.2,owt:=t4.2.2 })
   else (t3.1,bad,{ da with kind:=(t1.2:Int),op:=(t2.2:Int),oname:=t3.2 })
 else if (t1.2:Int)=3 then
  let t2:=bO l t1.1 255
  let t3:=dD l t2.1 bad
  (t3.1,t3.2.1,{ da with kind:=(t1.2:Int),name:=t2.2,well:=t3.2.2 })
 else (t1.1,bad,{ da with kind:=(t1.2:Int) })
theorem AL (A:Option Addr) (n c:Nat) (a:bY) (v:Int):(aq A n c a).toArray.setIfInBounds 2 (.int .i64 v)=(aq A n c { a with op:=v }).toArray:=by
 rw [List.setIfInBounds_toArray];rfl
structure mV (w wr:World) (base g r bx:Nat) (l:List UInt8) (s:St) (bad:Bool) (A:Option Addr) (n c:Nat) (b:bY):Prop where
 rs:RS wr base g r l s bad
 res:ah wr w.heap.size 60 (aq none 0 0 da).toArray
 box:ah wr bx 60 (aq A n c b).toArray
 off:cj w wr g (some r)
 shape:az b
 gt:w.heap.size<bx
 rl:r<w.heap.size
 gl:g<w.heap.size
section
variable {w wr w':World} {base g r bx:Nat} {l:List UInt8} {s s':St} {bad bad':Bool} {b b':bY} {A A':Option Addr} {n n' c c':Nat}
theorem mV.after (h:mV w wr base g r bx l s bad A n c b) (hR:RS w' base g r l s' bad') (ho:cj wr w' g (some r)):mV w w' base g r bx l s' bad' A n c b :=
 ⟨hR,ho.blk h.res (by have:=h.gl;omega) (fun e=>by injection e with e;have:=h.rl;omega),ho.blk h.box (by have:=h.gl;have:=h.gt;omega) (fun e=>by injection e with e;have:=h.rl;have:=h.gt;omega),h.off.trans ho,h.shape,h.gt,h.rl,h.gl⟩
theorem mV.boxed (h:mV w wr base g r bx l s bad A n c b) (hb:ah w' bx 60 (aq A' n' c' b').toArray) (hg:wr.grownBy w' (some bx)) (hs:az b'):mV w w' base g r bx l s bad A' n' c' b':=by
 have hr:=h.rl;have hgl:=h.gl;have hgt:=h.gt;refine ⟨⟨d8.off h.rs.rd hg h.box (by decide) (by decide),h.rs.ok,ah.grown h.rs.box hg (fun e=>by injection e with e;omega)⟩,ah.grown h.res hg (fun e=>by injection e with e;omega),hb,?_,hs,hgt,hr,hgl⟩;have hsz:=h.off.2.2.2.1;refine ⟨hg.os.trans h.off.1,hg.tape.trans h.off.2.1,hg.output.trans h.off.2.2.1,Nat.le_trans hsz hg.size,fun k hk h1 h2=>(hg.block k (by omega) (fun e=>by injection e with e;omega)).trans (h.off.2.2.2.2 k hk h1 h2)⟩
theorem mV.set_ (h:mV w wr base g r bx l s bad A n c b) (k:Nat) (u:Value) (e:(aq A n c b).toArray.setIfInBounds k u=(aq A' n' c' b').toArray) (hs:az b'):mV w (wr.setCell ⟨bx,k,none⟩ u) base g r bx l s bad A' n' c' b':=by
 refine h.boxed ?_ (aT _ ⟨bx,k,none⟩ u) hs;have:=ah.set_ h.box k u;rw [e] at this;exact this
theorem mV.below (h:mV w wr base g r bx l s bad A n c b) (hb:Below wr.heap.size wr w'):mV w w' base g r bx l s bad A n c b:=h.after (h.rs.below hb) (cj.of_below hb)
theorem mV.goodBlk (h:mV w wr base g r bx l s bad A n c b):ah (wr.setCells w.heap.size 0 (aq A n c b)) w.heap.size 60 (aq A n c b).toArray:=by
 have:=ah.setCells (aq A n c b) 0 h.res;rw [aX (by rw [aY h.shape,aY bK])] at this;exact this
theorem mV.sets (h:mV w wr base g r bx l s bad A n c b) (k:Nat) (vs:List Value) (e:lW (aq A n c b).toArray k vs=(aq A' n' c' b').toArray) (hs:az b'):mV w (wr.setCells bx k vs) base g r bx l s bad A' n' c' b':=by
 refine h.boxed ?_ (aN _ bx k vs k (World.grownBy.refl _ _)) hs;have:=ah.setCells vs k h.box;rw [e] at this;exact this
theorem mV.goodOwn (h:mV w wr base g r bx l s bad A n c b) {m cc:Nat} {D:Option Addr} {ls:List Value} (ho:wr.ownsRow w.heap.size 5 1 (.slice D m cc) m ls):(wr.setCells w.heap.size 0 (aq A n c b)).ownsRow w.heap.size 5 1 (.slice D m cc) m ls :=
 ho.kept (aN _ w.heap.size 0 _ 0 (World.grownBy.refl _ _)) (aF ho h.res (by decide))
theorem mV.good (h:mV w wr base g r bx l s bad A n c b):yo w base g r l s bad (wr.setCells w.heap.size 0 (aq A n c b)):=by
 have hr:=h.rl;have hgl:=h.gl;have hgt:=h.gt;have hg:wr.grownBy (wr.setCells w.heap.size 0 (aq A n c b)) (some w.heap.size):=aN _ w.heap.size 0 _ 0 (World.grownBy.refl _ _);refine ⟨⟨d8.off h.rs.rd hg h.res (by decide) (by decide),h.rs.ok,ah.grown h.rs.box hg (fun e=>by injection e with e;omega)⟩,?_⟩;have hsz:=h.off.2.2.2.1;exact ⟨hg.os.trans h.off.1,hg.tape.trans h.off.2.1,hg.output.trans h.off.2.2.1,Nat.le_trans hsz hg.size,fun k hk h1 h2=>(hg.block k (by omega) (fun e=>by injection e with e;omega)).trans (h.off.2.2.2.2 k hk h1 h2)⟩
end
def pv (w:World) (base g r:Nat) (l:List UInt8) (R:St × Bool × bY) (e:Ending) (w':World):Prop :=
 ∃ A' c',e=.returned (.agg (aq A' R.2.2.frame.length c' R.2.2).toArray)∧w'.ownsRow w.heap.size 5 1 (.slice A' R.2.2.frame.length c') R.2.2.frame.length (ab R.2.2.frame)∧az R.2.2∧yo w base g r l R.1 R.2.1 w'
set_option maxRecDepth 100000 in
theorem AM (base g r:Nat) (l:List UInt8) (s:St) (bad:Bool) (w:World) (h:RS w base g r l s bad) (hl:l.length≤1000000000) :
  Calls Tryz.prog 102 #[.pointer (some ⟨r,0,none⟩)] w (pv w base g r l (fJ l s bad)):=by
 obtain ⟨R,hR0⟩:∃ R,R=fJ l s bad:=⟨_,rfl⟩
 rw [←hR0];unfold fJ at hR0;rcases h1:aG l s 1 true with ⟨s1,k⟩
 simp only [h1] at hR0;have lk:k≤255:=by have:=mR l s;rw [h1] at this;exact this
 have hqw0:IntKind.i64.wrap (k:Int)=(k:Int):=IntWalk.i64_in _ (by omega);obtain ⟨kd,hkd⟩:∃ z:Int,z=(k:Int):=⟨_,rfl⟩
 rw [←hkd] at hR0;have hqw:IntKind.i64.wrap (k:Int)=kd:=by rw [hqw0,hkd]
 have ok1:=bU h.ok 1 true;rw [h1] at ok1;have Ok1:=Lib.hid ok1;have H1:=Lib.hid h1;have HRl:=Lib.hid hR0;have Hh:=Lib.hid h;have Hrl:=Lib.hid h.box.lt;have Hgl:Hid (g<w.heap.size):=h.rd.lt;obtain ⟨W0,hW0⟩:∃ W,W=w.alloc (.cells (aq none 0 0 da).toArray 60):=⟨_,rfl⟩
 have hb0:Below w.heap.size w W0:=by rw [hW0];exact (Below.refl _ _).alloc (Nat.le_refl _) _
 have hX0:ah W0 w.heap.size 60 (aq none 0 0 da).toArray:=by rw [hW0];exact ah.new w _ _ _ rfl
 have HX0:=Lib.hid hX0;have HB0:=Lib.hid hb0;have H0:=Lib.hid (h.below hb0);rw [pc] at hW0;have HW0:=Lib.hid hW0;clear h1 hR0 lk hqw0 hkd ok1 h hb0 hX0 hW0;go_enter Tryz.func102,Tryz.ntmps102
 go_upto_region 1 with fail
 rw [←HW0.out];clear HW0;have d0:=H0.out.d0
 go_wp2_with fail
 refine (cg base g l s W0 1 true H0.out.rd H0.out.ok hl).mono ?_;rw [H1.out];rintro e w1 ⟨rfl,hR,hg⟩;have hR1:=H0.out.after hR Ok1.out hg;have hO1:cj W0 w1 g (some r):=cj.of_g hg;clear d0 hR hg;obtain ⟨b1,hb1⟩:∃ b:bY,b={ da with kind:=kd }:=⟨_,rfl⟩
 have hS1:az b1:=by rw [hb1];exact ⟨bK.back,bK.owt⟩
 obtain ⟨W2,hW2⟩:∃ W,W=w1.alloc (.cells (aq none 0 0 da).toArray 60):=⟨_,rfl⟩
 obtain ⟨W3,hW3⟩:∃ W,W=W2.setCells w1.heap.size 0 (aq none 0 0 b1):=⟨_,rfl⟩
 obtain ⟨hth,hbx,hbe⟩:=my w1 W2 W3 60 (aq none 0 0 da) (aq none 0 0 b1) (by rw [aY hS1,aY bK]) hW2 hW3;have hres1:ah w1 w.heap.size 60 (aq none 0 0 da).toArray:=hO1.blk HX0.out (by have:=Hgl.out;omega) (fun e=>by injection e with e;have:=Hrl.out;omega);have hst:mV w W3 base g r w1.heap.size l s1 bad none 0 0 b1:=⟨hR1.below hbe,ah.below hres1 hbe hres1.lt,hbx,(cj.of_below HB0.out).trans (hO1.trans (cj.of_below hbe)),hS1,hres1.lt,Hrl.out,Hgl.out⟩
 have Hst:=Lib.hid hst;rw [pc] at hW2;have HW2:=Lib.hid hW2;have HW3:=Lib.hid hW3;have Hth:=Lib.hid hth;have Hb1:=Lib.hid hb1;have Hlit:Hid ((aq none 0 0 b1).toArray=#[.int .i64 kd,.slice none 0 0,.int .i64 0,.string ⟨#[]⟩,.bool false,.int .u8 0,.int .u8 0,.int .u8 0,.int .u8 0,.int .u8 0,.int .u8 0,.int .u8 0,.int .u8 0,.int .u8 0,.int .u8 0,.int .u8 0,.int .u8 0,.int .u8 0,.int .u8 0,.int .u8 0,.int .u8 0,.int .i64 0,.int .u8 0,.int .u8 0,.int .u8 0,.int .u8 0,.int .u8 0,.int .u8 0,.float .f64 0,.bool false,.string ⟨#[]⟩,.float .f64 0,.string ⟨#[]⟩,.bool false]):=by show _=_;rw [hb1];rfl
 have Hsz:Hid ((Tryz.prog.info? 60).map (·.size)=some (aq none 0 0 b1).toArray.size):=bP hS1;clear hR1 hO1 hb1 hS1 hW2 hW3 hth hbx hbe hres1 hst HX0 HB0 H0 Hh;go_upto_region 2 with (first
  | (rw [←HW2.out];(with_reducible refine aM 60 ?_);rw [←Hlit.out];refine wpList_store_mid rfl 60 (.tmp 3) (.tmp 10) rfl w1.heap.size 0 (aq none 0 0 b1).toArray rfl rfl Hth.out Hsz.out (eO _ _ _ _) ?_))
 rw [←HW3.out];clear HW2 HW3 Hth Hlit Hsz hqw;obtain ⟨bx,hbx⟩:∃ b,b=w1.heap.size:=⟨_,rfl⟩
 rw [←hbx] at Hst ⊢;clear hbx;have dk:W3.cell? ⟨bx,0,none⟩=some (.int .i64 kd):=by rw [hU Hst.out.box,Hb1.out]
 rcases k1:(kd == 1) with _ | _
 rotate_left
 ·have Hk:Hid (kd=1):=by show _=_;simpa using k1
  rcases h2:bO l s1 131072 with ⟨s2,fr⟩
  have H2:=Lib.hid h2;have ok2:=iG Hst.out.rs.ok 131072;rw [h2] at ok2;have Ok2:=Lib.hid ok2;have d0:=Hst.out.rs.d0;clear h2 ok2
  go_wp2_with fail
  refine (i4 base g l s1 W3 131072 Hst.out.rs.rd Hst.out.rs.ok hl (by decide)).mono ?_;rw [H2.out];rintro e w4 ⟨A',c',rfl,hown,hR,hg⟩;have Ho:=Lib.hid (bJ hown (show w.heap.size≤W3.heap.size from Hst.out.off.2.2.2.1));have Hm:=Lib.hid (Hst.out.after (Hst.out.rs.after hR Ok2.out hg) (cj.of_g hg));obtain ⟨fl,hfl0⟩:∃ n,n=fr.length:=⟨_,rfl⟩
  have Hfl:=Lib.hid hfl0;skip
  clear d0 dk hown hR hg Hst hfl0;obtain ⟨b2,hb2⟩:∃ b:bY,b={ b1 with frame:=fr }:=⟨_,rfl⟩
  have hS:az b2:=by rw [hb2];exact ⟨Hm.out.shape.back,Hm.out.shape.owt⟩
  have hst:mV w (w4.setCell ⟨bx,1,none⟩ (.slice A' fr.length c')) base g r bx l _ _ A' fr.length c' b2:=Hm.out.set_ 1 (.slice A' fr.length c') (by rw [pm A' fr.length c' fr,hb2]) hS;have hok:=Ho.out.kept (aT w4 ⟨bx,1,none⟩ (.slice A' fr.length c')) (aF Ho.out Hm.out.box (by decide));have dx:=gH Hm.out.box;have df:=Hm.out.box.frozen 1;obtain ⟨W5,hW5⟩:∃ W,W=w4.setCell ⟨bx,1,none⟩ (.slice A' fr.length c'):=⟨_,rfl⟩
  rw [←hW5] at hst hok;have HoK:=Lib.hid hok;clear hok;have HW5:=Lib.hid hW5;have Hst:=Lib.hid hst;have Hb_b2:=Lib.hid hb2;clear hS hst hW5 hb2;go_upto_region 15 with fail
  rw [←HW5.out];clear dx df HW5 Hm;have Ho5:Hid (W5.ownsRow w.heap.size 5 1 (.slice A' fr.length c') fr.length (ab fr)):=HoK.out;have Hfin:Hid (R=(s2,bad,b2)):=by show _=_;rw [HRl.out,Hb_b2.out,Hb1.out];rw [if_pos Hk.out,H2.out]
  have RF:=Lib.hid (aj Hst.out.box);have Hthr:Hid (W5.there w.heap.size 0 (aq A' fr.length c' b2).toArray.size):=Hst.out.res.there (by rw [List.size_toArray,List.size_toArray,aY Hst.out.shape,aY bK];decide);have Hszr:Hid ((Tryz.prog.info? 60).map (·.size)=some (aq A' fr.length c' b2).toArray.size):=bP Hst.out.shape;have HG:=Lib.hid Hst.out.goodBlk
  go_wp2_with (first
   | ((with_reducible refine aI 60 ?_);refine aa (by rfl) 60 (.tmp 3) rfl bx 0 rfl (aq A' fr.length c' b2) _ RF.out Tryz.underlying60 rfl (bP Hst.out.shape) ?_)
   | ((with_reducible refine aM 60 ?_);refine wpList_store_mid rfl 60 (.tmp 2) (.tmp 59) rfl w.heap.size 0 (aq A' fr.length c' b2).toArray rfl rfl Hthr.out Hszr.out (eO _ _ _ _) ?_))
  refine bodyPost_ret (v:=.agg (aq A' fr.length c' b2).toArray) (bV (P:=Tryz.prog) (p:=2) rfl _ _ w.heap.size _ _ _ rfl HG.out ee rfl Hszr.out) rfl ?_;have hfl:b2.frame.length=fr.length:=by rw [Hb_b2.out,Hb1.out];try rfl
  unfold pv;rw [Hfin.out];refine ⟨A',c',?_,?_,Hst.out.shape,Hst.out.good⟩
  ·show _=Ending.returned (.agg (aq A' b2.frame.length c' b2).toArray)
   rw [hfl]
  ·show World.ownsRow _ _ _ _ (.slice A' b2.frame.length c') b2.frame.length (ab b2.frame)
   rw [hfl];exact Hst.out.goodOwn (by rw [Hb_b2.out];exact Ho5.out)
 rcases k2:(kd == 2) with _ | _
 rotate_left
 ·have Hk:Hid (kd=2):=by show _=_;simpa using k2
  rcases h2:aG l s1 1 true with ⟨s2,k⟩
  have lk:k≤255:=by have:=mR l s1;rw [h2] at this;exact this
  have hqw0:IntKind.i64.wrap (k:Int)=(k:Int):=IntWalk.i64_in _ (by omega);obtain ⟨od,hod⟩:∃ z:Int,z=(k:Int):=⟨_,rfl⟩
  have hqw:IntKind.i64.wrap (k:Int)=od:=by rw [hqw0,hod]
  have Hod:=Lib.hid hod;have H2:=Lib.hid h2;have ok2:=bU Hst.out.rs.ok 1 true;rw [h2] at ok2;have Ok2:=Lib.hid ok2;have d0:=Hst.out.rs.d0;clear h2 ok2 hqw0 hod lk
  go_wp2_with fail
  refine (cg base g l s1 W3 1 true Hst.out.rs.rd Hst.out.rs.ok hl).mono ?_;rw [H2.out];rintro e w4 ⟨rfl,hR,hg⟩;have Hm:=Lib.hid (Hst.out.after (Hst.out.rs.after hR Ok2.out hg) (cj.of_g hg));clear d0 dk hR hg Hst;obtain ⟨b2,hb2⟩:∃ b:bY,b={ b1 with op:=od }:=⟨_,rfl⟩
  have hS:az b2:=by rw [hb2];exact ⟨Hm.out.shape.back,Hm.out.shape.owt⟩
  have hst:mV w (w4.setCell ⟨bx,2,none⟩ (.int .i64 od)) base g r bx l _ _ none 0 0 b2:=Hm.out.set_ 2 (.int .i64 od) (by rw [AL,hb2]) hS;have dx:=jO Hm.out.box;have df:=Hm.out.box.frozen 2;obtain ⟨W5,hW5⟩:∃ W,W=w4.setCell ⟨bx,2,none⟩ (.int .i64 od):=⟨_,rfl⟩
  rw [←hW5] at hst;have HW5:=Lib.hid hW5;have Hst:=Lib.hid hst;have Hb_b2:=Lib.hid hb2;clear hS hst hW5 hb2;go_upto_region 7 with fail
  rw [←HW5.out];clear dx df HW5 Hm;clear hqw;have do_:W5.cell? ⟨bx,2,none⟩=some (.int .i64 od):=by rw [jO Hst.out.box,Hb_b2.out]
  rcases k3:(od == 1) with _ | _
  rotate_left
  ·have Hk3:Hid (od=1):=by show _=_;simpa using k3
   rcases h3:dy l s2 bad with ⟨s3,b3,bk⟩
   have hbs:ar bk:=by have:=km l s2 bad;rw [h3] at this;exact this
   have Hbs:=Lib.hid hbs;have H3:=Lib.hid h3;clear h3 hbs
   go_wp2_with fail
   refine (qB base g r l s2 bad W5 Hst.out.rs hl mU).mono ?_;rw [H3.out];rintro e w6 ⟨rfl,hR,hO⟩;have Hm:=Lib.hid (Hst.out.after hR hO);clear hR hO Hst;clear do_;obtain ⟨b4,hb4⟩:∃ b:bY,b={ b2 with back:=bk }:=⟨_,rfl⟩
   have hS:az b4:=by rw [hb4];exact ⟨Hbs.out,Hm.out.shape.owt⟩
   have hst:mV w (w6.setCells bx 3 (ae bk)) base g r bx l s3 b3 none 0 0 b4:=Hm.out.sets 3 (ae bk) (by rw [qv Hm.out.shape bk Hbs.out,hb4]) hS;have Hth:Hid (w6.there bx 3 (ae bk).toArray.size):=Hm.out.box.there (by rw [List.size_toArray,List.size_toArray,bn Hbs.out,aY Hm.out.shape];decide);obtain ⟨W7,hW7⟩:∃ W,W=w6.setCells bx 3 (ae bk):=⟨_,rfl⟩
   rw [←hW7] at hst;have HW7:=Lib.hid hW7;have Hst:=Lib.hid hst;have Hb_b4:=Lib.hid hb4;clear hS hst hW7 hb4;go_upto_region 15 with (first
    | ((with_reducible refine aM 56 ?_);refine wpList_store_mid rfl 56 (.tmp 38) (.tmp 36) rfl bx 3 (ae bk).toArray rfl rfl Hth.out (cQ Hbs.out) (eC _) ?_))
   rw [←HW7.out];clear HW7 Hth Hm;have Hfin:Hid (R=(s3,b3,b4)):=by show _=_;rw [HRl.out,Hb_b4.out,Hb_b2.out,Hb1.out];rw [if_neg (by have:=Hk.out;omega),if_pos Hk.out,H2.out];simp only [←Hod.out];rw [if_pos Hk3.out,H3.out]
   have RF:=Lib.hid (aj Hst.out.box);have Hthr:Hid (W7.there w.heap.size 0 (aq none 0 0 b4).toArray.size):=Hst.out.res.there (by rw [List.size_toArray,List.size_toArray,aY Hst.out.shape,aY bK];decide);have Hszr:Hid ((Tryz.prog.info? 60).map (·.size)=some (aq none 0 0 b4).toArray.size):=bP Hst.out.shape;have HG:=Lib.hid Hst.out.goodBlk
   go_wp2_with (first
    | ((with_reducible refine aI 60 ?_);refine aa (by rfl) 60 (.tmp 3) rfl bx 0 rfl (aq none 0 0 b4) _ RF.out Tryz.underlying60 rfl (bP Hst.out.shape) ?_)
    | ((with_reducible refine aM 60 ?_);refine wpList_store_mid rfl 60 (.tmp 2) (.tmp 59) rfl w.heap.size 0 (aq none 0 0 b4).toArray rfl rfl Hthr.out Hszr.out (eO _ _ _ _) ?_))
   refine bodyPost_ret (v:=.agg (aq none 0 0 b4).toArray) (bV (P:=Tryz.prog) (p:=2) rfl _ _ w.heap.size _ _ _ rfl HG.out ee rfl Hszr.out) rfl ?_;have hfl:b4.frame.length=0:=by rw [Hb_b4.out,Hb_b2.out,Hb1.out];try rfl
   unfold pv;rw [Hfin.out];refine ⟨none,0,?_,?_,Hst.out.shape,Hst.out.good⟩
   ·show _=Ending.returned (.agg (aq none b4.frame.length 0 b4).toArray)
    rw [hfl]
   ·show World.ownsRow _ _ _ _ (.slice none b4.frame.length 0) b4.frame.length (ab b4.frame)
    rw [hfl];exact Hst.out.goodOwn (by rw [show b4.frame=[] by rw [Hb_b4.out,Hb_b2.out,Hb1.out];rfl];exact World.ownsRow_nil _ _ _ _)
  rcases h3:bO l s2 255 with ⟨s3,nm⟩
  have H3:=Lib.hid h3;clear h3
  go_wp2_with fail
  refine (lu base g r l s2 bad W5 Hst.out.rs hl).mono ?_;rw [H3.out];rintro e w6 ⟨rfl,hR,hO⟩;have Hm:=Lib.hid (Hst.out.after hR hO);clear hR hO Hst;clear do_;obtain ⟨b4,hb4⟩:∃ b:bY,b={ b2 with oname:=nm }:=⟨_,rfl⟩
  have hS:az b4:=by rw [hb4];exact ⟨Hm.out.shape.back,Hm.out.shape.owt⟩
  have hst:mV w (w6.setCell ⟨bx,30,none⟩ (.string ⟨nm.toArray⟩)) base g r bx l _ _ none 0 0 b4:=Hm.out.set_ 30 (.string ⟨nm.toArray⟩) (by rw [ma Hm.out.shape,hb4]) hS;have dx:=fh Hm.out.box Hm.out.shape;have df:=Hm.out.box.frozen 30;obtain ⟨W7,hW7⟩:∃ W,W=w6.setCell ⟨bx,30,none⟩ (.string ⟨nm.toArray⟩):=⟨_,rfl⟩
  rw [←hW7] at hst;have HW7:=Lib.hid hW7;have Hst:=Lib.hid hst;have Hb_b4:=Lib.hid hb4;clear hS hst hW7 hb4;go_upto_region 10 with fail
  rw [←HW7.out];clear dx df HW7 Hm;have do_:W7.cell? ⟨bx,2,none⟩=some (.int .i64 od):=by rw [jO Hst.out.box,Hb_b4.out,Hb_b2.out]
  rcases k4:(od == 3) with _ | _
  rotate_left
  ·have Hk4:Hid (od=3):=by show _=_;simpa using k4
   rcases h4:bZ l s3 bad with ⟨s4,b5,wt⟩
   have lw:wt<18446744073709551616:=by have:=congrArg (fun p=>p.2.2) h4;simp only [bZ] at this;rw [←this];exact mU _
   have Lw:=Lib.hid lw;have H4:=Lib.hid h4;clear h4 lw;have hsf:=fun (a:Addr) (m:Mode) (n:Nat) (w:World)=>ib a n m w
   go_wp2_with fail
   refine (og base g r l s3 bad W7 Hst.out.rs hl).mono ?_;rw [H4.out];rintro e w8 ⟨rfl,hR,hO⟩;have Hm:=Lib.hid (Hst.out.after hR hO);clear hR hO Hst;clear do_;obtain ⟨b6,hb6⟩:∃ b:bY,b={ b4 with owt:=wt }:=⟨_,rfl⟩
   have hS:az b6:=by rw [hb6];exact ⟨Hm.out.shape.back,Lw.out⟩
   have hst:mV w (w8.setCell ⟨bx,31,none⟩ (.float .f64 wt)) base g r bx l _ _ none 0 0 b6:=Hm.out.set_ 31 (.float .f64 wt) (by rw [sQ Hm.out.shape,hb6]) hS;have dx:=kP Hm.out.box Hm.out.shape;have df:=Hm.out.box.frozen 31;obtain ⟨W9,hW9⟩:∃ W,W=w8.setCell ⟨bx,31,none⟩ (.float .f64 wt):=⟨_,rfl⟩
   rw [←hW9] at hst;have HW9:=Lib.hid hW9;have Hst:=Lib.hid hst;have Hb_b6:=Lib.hid hb6;clear hS hst hW9 hb6;go_upto_region 15 with fail
   rw [←HW9.out];clear dx df HW9 Hm;have Hfin:Hid (R=(s4,b5,b6)):=by show _=_;rw [HRl.out,Hb_b6.out,Hb_b4.out,Hb_b2.out,Hb1.out];rw [if_neg (by have:=Hk.out;omega),if_pos Hk.out,H2.out];simp only [←Hod.out];rw [if_neg (by have:=Hk4.out;omega),H3.out,if_pos Hk4.out,H4.out]
   have RF:=Lib.hid (aj Hst.out.box);have Hthr:Hid (W9.there w.heap.size 0 (aq none 0 0 b6).toArray.size):=Hst.out.res.there (by rw [List.size_toArray,List.size_toArray,aY Hst.out.shape,aY bK];decide);have Hszr:Hid ((Tryz.prog.info? 60).map (·.size)=some (aq none 0 0 b6).toArray.size):=bP Hst.out.shape;have HG:=Lib.hid Hst.out.goodBlk
   go_wp2_with (first
    | ((with_reducible refine aI 60 ?_);refine aa (by rfl) 60 (.tmp 3) rfl bx 0 rfl (aq none 0 0 b6) _ RF.out Tryz.underlying60 rfl (bP Hst.out.shape) ?_)
    | ((with_reducible refine aM 60 ?_);refine wpList_store_mid rfl 60 (.tmp 2) (.tmp 59) rfl w.heap.size 0 (aq none 0 0 b6).toArray rfl rfl Hthr.out Hszr.out (eO _ _ _ _) ?_))
   refine bodyPost_ret (v:=.agg (aq none 0 0 b6).toArray) (bV (P:=Tryz.prog) (p:=2) rfl _ _ w.heap.size _ _ _ rfl HG.out ee rfl Hszr.out) rfl ?_;have hfl:b6.frame.length=0:=by rw [Hb_b6.out,Hb_b4.out,Hb_b2.out,Hb1.out];try rfl
   unfold pv;rw [Hfin.out];refine ⟨none,0,?_,?_,Hst.out.shape,Hst.out.good⟩
   ·show _=Ending.returned (.agg (aq none b6.frame.length 0 b6).toArray)
    rw [hfl]
   ·show World.ownsRow _ _ _ _ (.slice none b6.frame.length 0) b6.frame.length (ab b6.frame)
    rw [hfl];exact Hst.out.goodOwn (by rw [show b6.frame=[] by rw [Hb_b6.out,Hb_b4.out,Hb_b2.out,Hb1.out];rfl];exact World.ownsRow_nil _ _ _ _)
  ·have Hk3:Hid (¬ od=1):=by show ¬ _;simpa using k3
   have Hk4:Hid (¬ od=3):=by show ¬ _;simpa using k4
   have Hfin:Hid (R=(s3,bad,b4)):=by show _=_;rw [HRl.out,Hb_b4.out,Hb_b2.out,Hb1.out];rw [if_neg (by have:=Hk.out;omega),if_pos Hk.out,H2.out];simp only [←Hod.out];rw [if_neg Hk3.out,H3.out,if_neg Hk4.out]
   have RF:=Lib.hid (aj Hst.out.box);have Hthr:Hid (W7.there w.heap.size 0 (aq none 0 0 b4).toArray.size):=Hst.out.res.there (by rw [List.size_toArray,List.size_toArray,aY Hst.out.shape,aY bK];decide);have Hszr:Hid ((Tryz.prog.info? 60).map (·.size)=some (aq none 0 0 b4).toArray.size):=bP Hst.out.shape;have HG:=Lib.hid Hst.out.goodBlk
   go_wp2_with (first
    | ((with_reducible refine aI 60 ?_);refine aa (by rfl) 60 (.tmp 3) rfl bx 0 rfl (aq none 0 0 b4) _ RF.out Tryz.underlying60 rfl (bP Hst.out.shape) ?_)
    | ((with_reducible refine aM 60 ?_);refine wpList_store_mid rfl 60 (.tmp 2) (.tmp 59) rfl w.heap.size 0 (aq none 0 0 b4).toArray rfl rfl Hthr.out Hszr.out (eO _ _ _ _) ?_))
   refine bodyPost_ret (v:=.agg (aq none 0 0 b4).toArray) (bV (P:=Tryz.prog) (p:=2) rfl _ _ w.heap.size _ _ _ rfl HG.out ee rfl Hszr.out) rfl ?_;have hfl:b4.frame.length=0:=by rw [Hb_b4.out,Hb_b2.out,Hb1.out];try rfl
   unfold pv;rw [Hfin.out];refine ⟨none,0,?_,?_,Hst.out.shape,Hst.out.good⟩
   ·show _=Ending.returned (.agg (aq none b4.frame.length 0 b4).toArray)
    rw [hfl]
   ·show World.ownsRow _ _ _ _ (.slice none b4.frame.length 0) b4.frame.length (ab b4.frame)
    rw [hfl];exact Hst.out.goodOwn (by rw [show b4.frame=[] by rw [Hb_b4.out,Hb_b2.out,Hb1.out];rfl];exact World.ownsRow_nil _ _ _ _)
 rcases k5:(kd == 3) with _ | _
 rotate_left
 ·have Hk:Hid (kd=3):=by show _=_;simpa using k5
  rcases h2:bO l s1 255 with ⟨s2,nm⟩
  rcases h3:dD l s2 bad with ⟨s3,b3,wl⟩
  have H2:=Lib.hid h2;have H3:=Lib.hid h3;clear h2 h3
  go_wp2_with fail
  refine (lu base g r l s1 bad W3 Hst.out.rs hl).mono ?_;rw [H2.out];rintro e w4 ⟨rfl,hR,hO⟩;have Hm:=Lib.hid (Hst.out.after hR hO);clear hR hO Hst;clear dk;obtain ⟨b2,hb2⟩:∃ b:bY,b={ b1 with name:=nm }:=⟨_,rfl⟩
  have hS:az b2:=by rw [hb2];exact ⟨Hm.out.shape.back,Hm.out.shape.owt⟩
  have hst:mV w (w4.setCell ⟨bx,32,none⟩ (.string ⟨nm.toArray⟩)) base g r bx l _ _ none 0 0 b2:=Hm.out.set_ 32 (.string ⟨nm.toArray⟩) (by rw [qt Hm.out.shape,hb2]) hS;have dx:=ia Hm.out.box Hm.out.shape;have df:=Hm.out.box.frozen 32;obtain ⟨W5,hW5⟩:∃ W,W=w4.setCell ⟨bx,32,none⟩ (.string ⟨nm.toArray⟩):=⟨_,rfl⟩
  rw [←hW5] at hst;have HW5:=Lib.hid hW5;have Hst:=Lib.hid hst;have Hb_b2:=Lib.hid hb2;clear hS hst hW5 hb2;go_upto_region 14 with fail
  rw [←HW5.out];clear dx df HW5 Hm
  go_wp2_with fail
  refine (lr base g r l s2 bad W5 Hst.out.rs hl).mono ?_;rw [H3.out];rintro e w6 ⟨rfl,hR,hO⟩;have Hm:=Lib.hid (Hst.out.after hR hO);clear hR hO Hst;obtain ⟨b4,hb4⟩:∃ b:bY,b={ b2 with well:=wl }:=⟨_,rfl⟩
  have hS:az b4:=by rw [hb4];exact ⟨Hm.out.shape.back,Hm.out.shape.owt⟩
  have hst:mV w (w6.setCell ⟨bx,33,none⟩ (.bool wl)) base g r bx l _ _ none 0 0 b4:=Hm.out.set_ 33 (.bool wl) (by rw [qu Hm.out.shape,hb4]) hS;have dx:=iJ Hm.out.box Hm.out.shape;have df:=Hm.out.box.frozen 33;obtain ⟨W7,hW7⟩:∃ W,W=w6.setCell ⟨bx,33,none⟩ (.bool wl):=⟨_,rfl⟩
  rw [←hW7] at hst;have HW7:=Lib.hid hW7;have Hst:=Lib.hid hst;have Hb_b4:=Lib.hid hb4;clear hS hst hW7 hb4;go_upto_region 15 with fail
  rw [←HW7.out];clear dx df HW7 Hm;have Hfin:Hid (R=(s3,b3,b4)):=by show _=_;rw [HRl.out,Hb_b4.out,Hb_b2.out,Hb1.out];rw [if_neg (by have:=Hk.out;omega),if_neg (by have:=Hk.out;omega),if_pos Hk.out,H2.out];simp only [];rw [H3.out]
  have RF:=Lib.hid (aj Hst.out.box);have Hthr:Hid (W7.there w.heap.size 0 (aq none 0 0 b4).toArray.size):=Hst.out.res.there (by rw [List.size_toArray,List.size_toArray,aY Hst.out.shape,aY bK];decide);have Hszr:Hid ((Tryz.prog.info? 60).map (·.size)=some (aq none 0 0 b4).toArray.size):=bP Hst.out.shape;have HG:=Lib.hid Hst.out.goodBlk
  go_wp2_with (first
   | ((with_reducible refine aI 60 ?_);refine aa (by rfl) 60 (.tmp 3) rfl bx 0 rfl (aq none 0 0 b4) _ RF.out Tryz.underlying60 rfl (bP Hst.out.shape) ?_)
   | ((with_reducible refine aM 60 ?_);refine wpList_store_mid rfl 60 (.tmp 2) (.tmp 59) rfl w.heap.size 0 (aq none 0 0 b4).toArray rfl rfl Hthr.out Hszr.out (eO _ _ _ _) ?_))
  refine bodyPost_ret (v:=.agg (aq none 0 0 b4).toArray) (bV (P:=Tryz.prog) (p:=2) rfl _ _ w.heap.size _ _ _ rfl HG.out ee rfl Hszr.out) rfl ?_;have hfl:b4.frame.length=0:=by rw [Hb_b4.out,Hb_b2.out,Hb1.out];try rfl
  unfold pv;rw [Hfin.out];refine ⟨none,0,?_,?_,Hst.out.shape,Hst.out.good⟩
  ·show _=Ending.returned (.agg (aq none b4.frame.length 0 b4).toArray)
   rw [hfl]
  ·show World.ownsRow _ _ _ _ (.slice none b4.frame.length 0) b4.frame.length (ab b4.frame)
   rw [hfl];exact Hst.out.goodOwn (by rw [show b4.frame=[] by rw [Hb_b4.out,Hb_b2.out,Hb1.out];rfl];exact World.ownsRow_nil _ _ _ _)
 ·have K1:Hid (¬ kd=1):=by show ¬ _;simpa using k1
  have K2:Hid (¬ kd=2):=by show ¬ _;simpa using k2
  have K3:Hid (¬ kd=3):=by show ¬ _;simpa using k5
  have Hfin:Hid (R=(s1,bad,b1)):=by show _=_;rw [HRl.out,Hb1.out];rw [if_neg K1.out,if_neg K2.out,if_neg K3.out]
  have RF:=Lib.hid (aj Hst.out.box);have Hthr:Hid (W3.there w.heap.size 0 (aq none 0 0 b1).toArray.size):=Hst.out.res.there (by rw [List.size_toArray,List.size_toArray,aY Hst.out.shape,aY bK];decide);have Hszr:Hid ((Tryz.prog.info? 60).map (·.size)=some (aq none 0 0 b1).toArray.size):=bP Hst.out.shape;have HG:=Lib.hid Hst.out.goodBlk
  go_wp2_with (first
   | ((with_reducible refine aI 60 ?_);refine aa (by rfl) 60 (.tmp 3) rfl bx 0 rfl (aq none 0 0 b1) _ RF.out Tryz.underlying60 rfl (bP Hst.out.shape) ?_)
   | ((with_reducible refine aM 60 ?_);refine wpList_store_mid rfl 60 (.tmp 2) (.tmp 59) rfl w.heap.size 0 (aq none 0 0 b1).toArray rfl rfl Hthr.out Hszr.out (eO _ _ _ _) ?_))
  refine bodyPost_ret (v:=.agg (aq none 0 0 b1).toArray) (bV (P:=Tryz.prog) (p:=2) rfl _ _ w.heap.size _ _ _ rfl HG.out ee rfl Hszr.out) rfl ?_;have hfl:b1.frame.length=0:=by rw [Hb1.out];try rfl
  unfold pv;rw [Hfin.out];refine ⟨none,0,?_,?_,Hst.out.shape,Hst.out.good⟩
  ·show _=Ending.returned (.agg (aq none b1.frame.length 0 b1).toArray)
   rw [hfl]
  ·show World.ownsRow _ _ _ _ (.slice none b1.frame.length 0) b1.frame.length (ab b1.frame)
   rw [hfl];exact Hst.out.goodOwn (by rw [show b1.frame=[] by rw [Hb1.out];rfl];exact World.ownsRow_nil _ _ _ _)
end Go.Proofs.YtaafkokfdgfabaaGreat
namespace Go.Proofs.YtaafkokfdgfabaaGreat
open Go.RowKit
set_option linter.unusedVariables false
set_option linter.unusedSimpArgs false
def pw (s:St) (bad:Bool):Bool:=!bad && (decide (s.2.1=0) && decide (s.2.2=0))
def eE (l:List UInt8) (s:St):aR × Bool:=if pw (dy l s false).1 (dy l s false).2.1 then ((dy l s false).2.2,true) else (dt,false)
theorem cj.ahead {w W w':World} {g r:Nat} (hb:Below w.heap.size w W) (h:cj W w' g (some r)) (hr:w.heap.size≤r):cj w w' g none :=
 ⟨h.1.trans hb.os,h.2.1.trans hb.tape,h.2.2.1.trans hb.output,Nat.le_trans hb.size h.2.2.2.1,fun k hk h1 _=>(h.2.2.2.2 k (Nat.lt_of_lt_of_le hk hb.size) h1 (fun e=>by injection e with e;omega)).trans (hb.block k hk)⟩
theorem cj.behind {w W w':World} {g:Nat} (h:cj w W g none) (hb:Below w.heap.size W w'):cj w w' g none :=
 ⟨hb.os.trans h.1,hb.tape.trans h.2.1,hb.output.trans h.2.2.1,Nat.le_trans h.2.2.2.1 hb.size,fun k hk h1 h2=>(hb.block k hk).trans (h.2.2.2.2 k hk h1 h2)⟩
def oI (w:World) (base g:Nat) (l:List UInt8) (s:St) (e:Ending) (w':World):Prop :=
 e=.returned (.tuple #[.agg (ae (eE l s).1).toArray,.bool (eE l s).2])∧d8 w' base g l (dy l s false).1∧dA l (dy l s false).1∧cj w w' g none
set_option maxRecDepth 100000 in
theorem yq (base g:Nat) (l:List UInt8) (s:St) (w:World) (h:d8 w base g l s) (hs:dA l s) (hl:l.length≤1000000000) :
  Calls Tryz.prog 96 #[.pointer (some ⟨g,0,none⟩)] w (oI w base g l s):=by
 have hgl:g<w.heap.size:=h.lt;have Hgl:=Lib.hid hgl;have hsh:=km l s false;rcases h1:dy l s false with ⟨s1,b1,bk⟩
 rw [h1] at hsh;obtain ⟨W0,hW0⟩:∃ W,W=w.alloc (.cells (ae dt).toArray 56):=⟨_,rfl⟩
 obtain ⟨W1,hW1⟩:∃ W,W=W0.alloc (.cells (uS g false) 157):=⟨_,rfl⟩
 have hs0:W0.heap.size=w.heap.size + 1:=by rw [hW0];simp
 have hX0:ah W0 w.heap.size 56 (ae dt).toArray:=by rw [hW0];exact ah.new w _ _ _ rfl
 have hX1:ah W1 w.heap.size 56 (ae dt).toArray:=by rw [hW1];exact ah.alloc hX0 _
 have hR1:ah W1 (w.heap.size + 1) 157 (uS g false):=by rw [hW1,←hs0];exact ah.new W0 _ _ _ rfl
 have hB1:Below w.heap.size w W1:=by rw [hW1,hW0];exact ((Below.refl _ _).alloc (Nat.le_refl _) _).alloc (by simp) _
 have HRS:Hid (RS W1 base g (w.heap.size + 1) l s false):=⟨h.below hB1,hs,hR1⟩
 have HX:=Lib.hid hX1;have HB:=Lib.hid hB1;have H1:=Lib.hid h1;have Hsh:=Lib.hid hsh;rw [gh] at hW0;have HW0:=Lib.hid hW0;have HW1:Hid (W1=W0.alloc (.cells #[.pointer (some ⟨g,0,none⟩),.bool false] 157)):=hW1;have Hs0:=Lib.hid hs0;clear hgl hsh h1 hs0 hX0 hX1 hR1 hB1 hW0 hW1 h hs;go_enter Tryz.func96,Tryz.ntmps96
 go_upto_region 2 with fail
 rw [←HW0.out];rw [←HW1.out];clear HW0 HW1 Hs0
 go_wp2_with fail
 refine (qB base g (w.heap.size + 1) l s false W1 HRS.out hl mU).mono ?_;rw [H1.out];rintro e w2 ⟨rfl,hc⟩;obtain ⟨hR2,hO2⟩:=hc;obtain ⟨W3,hW3⟩:∃ W,W=w2.alloc (.cells (ae dt).toArray 56):=⟨_,rfl⟩
 obtain ⟨W4,hW4⟩:∃ W,W=W3.setCells w2.heap.size 0 (ae bk):=⟨_,rfl⟩
 obtain ⟨hth,hbx,hbe⟩:=my w2 W3 W4 56 (ae dt) (ae bk) (by rw [bn Hsh.out,bn aA]) hW3 hW4;have hX2:ah w2 w.heap.size 56 (ae dt).toArray:=hO2.blk HX.out (by have:=Hgl.out;omega) (fun e=>by injection e with e;omega);have H4:=Lib.hid (hR2.below hbe);have HX4:=Lib.hid (ah.below hX2 hbe hX2.lt);have hO:cj w w2 g none:=cj.ahead HB.out hO2 (by omega);have HO:=Lib.hid (hO.behind (hbe.mono hO.2.2.2.1));have Hbk:=Lib.hid hbx;have hlt:w.heap.size<w2.heap.size:=hX2.lt;rw [gh] at hW3;have HW3:=Lib.hid hW3;have HW4:=Lib.hid hW4;have Hth:=Lib.hid hth;clear hR2 hO2 hW3 hW4 hth hbx hbe hX2 hO HX HB HRS;go_upto_region 3 with (first
  | (rw [←HW3.out];(with_reducible refine aM 56 ?_);refine wpList_store_mid rfl 56 (.tmp 5) (.tmp 10) rfl w2.heap.size 0 (ae bk).toArray rfl rfl Hth.out (cQ Hsh.out) (eC _) ?_))
 rw [←HW4.out];clear HW3 HW4 Hth;obtain ⟨bx,hbx⟩:∃ b,b=w2.heap.size:=⟨_,rfl⟩
 rw [←hbx] at Hbk hlt ⊢;clear hbx;obtain ⟨z,hz⟩:∃ z,z=pw s1 b1:=⟨_,rfl⟩
 go_wp2_with fail
 refine (qz base g (w.heap.size + 1) l s1 b1 W4 H4.out).mono ?_;rw [show (!b1 && (decide (s1.2.1=0) && decide (s1.2.2=0)))=z from hz.symm];rintro e w5 ⟨rfl,hb5⟩;have H5:=Lib.hid (H4.out.below hb5);have HX5:=Lib.hid (ah.below HX4.out hb5 HX4.out.lt);have HK5:=Lib.hid (ah.below Hbk.out hb5 Hbk.out.lt);have HO5:=Lib.hid (HO.out.behind (hb5.mono HO.out.2.2.2.1));have Hz:=Lib.hid hz;clear hb5 hz H4 HX4 Hbk HO;rcases z with _ | _
 ·have Hpost:Hid (eE l s=(dt,false)):=by
   show _=_
   unfold eE;rw [H1.out];simp only [←Hz.out];rfl
  have Hthr:Hid (w5.there w.heap.size 0 (ae dt).toArray.size):=HX5.out.there (by decide);have hG:ah (w5.setCells w.heap.size 0 (ae dt)) w.heap.size 56 (ae dt).toArray:=by
   have:=ah.setCells (ae dt) 0 HX5.out;rw [aX rfl] at this;exact this
  have HG:=Lib.hid hG;have HF:=Lib.hid (HO5.out.behind (aZ (Nat.le_refl _) (ae dt) 0 (Below.refl _ _)));have HR:=Lib.hid (d8.off H5.out.rd (aN w5 w.heap.size 0 (ae dt) 0 (World.grownBy.refl _ _)) HX5.out (by decide) (by decide));clear hG
  go_wp2_with (first
   | ((with_reducible refine aM 56 ?_);rw [←gh];refine wpList_store_mid rfl 56 (.tmp 2) (.tmp 14) rfl w.heap.size 0 (ae dt).toArray rfl rfl Hthr.out (cQ aA) (eC _) ?_))
  refine bodyPost_ret (v:=.tuple #[.agg (ae dt).toArray,.bool false]) (eA (P:=Tryz.prog) (p:=2) (u:=3) rfl _ _ w.heap.size _ _ _ _ rfl HG.out bL rfl (cQ aA)) rfl ?_;unfold oI;rw [Hpost.out,H1.out];exact ⟨rfl,HR.out,H5.out.ok,HF.out⟩
 ·have Hpost:Hid (eE l s=(bk,true)):=by
   show _=_
   unfold eE;rw [H1.out];simp only [←Hz.out];rfl
  have RF:=Lib.hid (aj HK5.out);have Hthr:Hid (w5.there w.heap.size 0 (ae bk).toArray.size):=HX5.out.there (by rw [List.size_toArray,List.size_toArray,bn Hsh.out,bn aA];decide);have hG:ah (w5.setCells w.heap.size 0 (ae bk)) w.heap.size 56 (ae bk).toArray:=by
   have:=ah.setCells (ae bk) 0 HX5.out;rw [aX (by rw [bn Hsh.out,bn aA])] at this;exact this
  have HG:=Lib.hid hG;have HF:=Lib.hid (HO5.out.behind (aZ (Nat.le_refl _) (ae bk) 0 (Below.refl _ _)));have HR:=Lib.hid (d8.off H5.out.rd (aN w5 w.heap.size 0 (ae bk) 0 (World.grownBy.refl _ _)) HX5.out (by decide) (by decide));have Hszr:Hid ((Tryz.prog.info? 56).map (·.size)=some (ae bk).toArray.size):=cQ Hsh.out;clear hG
  go_wp2_with (first
   | ((with_reducible refine aI 56 ?_);refine aa (by rfl) 56 (.tmp 5) rfl bx 0 rfl (ae bk) _ RF.out Tryz.underlying56 rfl (cQ Hsh.out) ?_)
   | ((with_reducible refine aM 56 ?_);refine wpList_store_mid rfl 56 (.tmp 2) (.tmp 13) rfl w.heap.size 0 (ae bk).toArray rfl rfl Hthr.out Hszr.out (eC _) ?_))
  refine bodyPost_ret (v:=.tuple #[.agg (ae bk).toArray,.bool true]) (eA (P:=Tryz.prog) (p:=2) (u:=3) rfl _ _ w.heap.size _ _ _ _ rfl HG.out bL rfl Hszr.out) rfl ?_;unfold oI;rw [Hpost.out,H1.out];exact ⟨rfl,HR.out,H5.out.ok,HF.out⟩
end Go.Proofs.YtaafkokfdgfabaaGreat
