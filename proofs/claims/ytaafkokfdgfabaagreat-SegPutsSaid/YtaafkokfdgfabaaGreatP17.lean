import Derived.Test.YtaafkokfdgfabaaGreatP8
import Derived.Test.YtaafkokfdgfabaaGreatP13
import Derived.Test.YtaafkokfdgfabaaGreatP15
import Derived.Deep.RegionHeld
set_option maxHeartbeats 8000000
set_option maxRecDepth 100000
set_option linter.unusedVariables false
set_option linter.unusedSimpArgs false
open List renaming setIfInBounds_toArray→qq,getElem_cons_succ→Iy,getElem_cons_zero→Iz,getElem_toArray→IA,set_cons_succ→IB,size_toArray→IC,set_cons_zero→ID,replicate→IF,length_replicate→IT,set_append_right→IU,length_append→IW,append_assoc→IX
open Nat renaming le_trans→IM,le_refl→IQ,add_sub_cancel_left→IS
open Or renaming inl→IN
namespace Go.Proofs.YtaafkokfdgfabaaGreat
open Go.RowKit
open Lib (hid)
open Act renaming put→IH
open AllReadyH renaming cons→IP,nil→IR
open Ending renaming returned→II
open IntWalk renaming i64_in→IV
open NoPanic renaming normal→I0
open Tryz renaming prog→IE,underlying60→IG,underlying43→IY,underlying56→IZ
open World renaming grownBy→IJ,ownsRow_nil→IK,ownsRow→IL
theorem oY(l:List UInt8)(s:St):(aT l s 1 true).2≤255:=by
 have h:=ju l s 0 1;unfold aT;rw[if_neg (by decide)];show ja (fd l s 0 1).2 true≤255
 match hx:(fd l s 0 1).2,h with
 |[],_=>decide
 |[c],_=>rw[dF];have:=c.toNat_lt;omega
theorem Du(l:List UInt8)(s:St):(aT l s 2 true).2≤65535:=by
 have h:=ju l s 0 2;unfold aT;rw[if_neg (by decide)];show ja (fd l s 0 2).2 true≤65535
 match hx:(fd l s 0 2).2,h with
 |[],_=>decide
 |[c],_=>rw[dF];have:=c.toNat_lt;omega
 |[c,d],_=>rw[lz];have:=c.toNat_lt;have:=d.toNat_lt;omega
theorem ii{l:List UInt8}{s u:St}{n:Nat}{x:List UInt8}(h:bG l s n=(u,x)):x.length≤n:=by
 have:=congrArg Prod.snd h;simp only[bG,fd] at this;rw[if_neg (by omega)] at this;split at this
 ·rw[←this];simp
 ·split at this
  ·rw[←this];simp
  ·rw[←this,List.length_take]
   simp;omega
theorem nq:(IE.info? 5).map (·.size)=some 1:=by kernel_rfl
def lA(b:List UInt8)(k:Nat):List UInt8:=b++IF (k-b.length) 0
theorem oZ{b:List UInt8}{k:Nat}(h:b.length≤k):(lA b k).length=k:=by simp[lA];omega
theorem vF{pre post:List Value}{x:List UInt8}{N:Nat}(hx:x.length≤N)(k:Nat)(hk:pre.length=k) :
  (pre++(ab (IF N 0)++post)).take k++(ab x++(pre++(ab (IF N 0)++post)).drop (k+(ab x).length))=pre++(ab (lA x N)++post):=by
 subst hk;rw[List.take_left,←List.drop_drop,List.drop_left,ap,List.drop_append_of_le_length (by rw[ap,IT];exact hx)];simp only[lA,dL,IX];rw[show (ab (IF N 0)).drop x.length=ab (IF (N-x.length) 0) by simp[ab,List.map_replicate]]
section
variable {P:Program}
theorem o0{w:World}{o:Oper}{a:Act}{K:Act→World→Prop}{Q:Exit→Act→World→Prop}(d s:Operand)(dT sT:TypeId)
  (ho:o.op=.call { callee:=.builtin .copy,args:=#[d,s],argTypes:=#[dT,sT] }) (elem:TypeId) (hu:P.underlying dT=some (.slice elem)) (hsz:(P.info? elem).map (·.size)=some 1)
  (g off N dCap:Nat) (A:Option Addr) (sCap:Nat) (x:List UInt8) (hd:a.eval d=.slice (some ⟨g,off,none⟩) N dCap) (hs:a.eval s=.slice A x.length sCap) (B:Nat) (hb:BS w B A x) (hx:x.length≤N)
  (t:TypeId) (cs:List UInt8→List Value) (pre post:List Value) (hcs:∀b,cs b=pre++(ab b++post)) (hpre:pre.length=off) (hg:aj w g t (cs (IF N 0)).toArray)
  (h:∀w' z,aj w' g t (cs (lA x N)).toArray→w.grownBy w' (some g)→K (a.put o.dst z) w'):o.wp P a w K Q:=by
 rcases x with _|⟨x0,xs⟩
 ·have hrun:=run_copy_none (P:=P) w dT sT o.type elem (some ⟨g,off,none⟩) A N dCap 0 sCap hu hsz (by simp)
  unfold Oper.wp;simp[execOp,ho,resolve,invoke,builtin,hd,hs,hrun,Result.andThen];exact h w _ (by simpa[lA] using hg) (IJ.refl _ _)
 ·obtain⟨ad,rfl,_,hcell⟩:=hb (by simp)
  have hg':w.heap[g]?=some (.cells (cs (IF N 0)).toArray t (0,0)):=hg;have hrun:=run_copy_row (P:=P) w dT sT o.type elem g off N dCap ad (x0::xs).length sCap (cs (IF N 0)).toArray t (ab (x0::xs)) hu hsz hg' (by rw[ap];exact (Nat.min_eq_left hx).symm) (fun j v hj=>by
    rw[ab,List.getElem?_map] at hj;rcases hm:(x0::xs)[j]? with _|y
    ·rw[hm] at hj;cases hj
    ·rw[hm] at hj
     simp only[Option.map_some,Option.some.injEq] at hj;rw[←hj];exact hcell j y hm) (by rw[hcs,IC,IW,hpre,IW,ap,ap,IT];omega) (eP _)
  unfold Oper.wp;simp only[execOp,ho,resolve,invoke,builtin,hd,hs,List.map_toArray,List.map_cons,List.map_nil,Sem.run_bind,Sem.run_pure,Result.andThen_ok,hrun];refine h _ _ ?_ (oS w g _);rw[hcs (IF N 0),IX,vF hx off hpre,←hcs];exact aj.row hg _
end
section
variable {b:aU}
theorem uo(b:aU):∃pre post,(∀x:List UInt8,ah { b with addr:=(b.addr.1,x) }=pre++(ab x++post))∧pre.length=2 :=
 ⟨[sv b.name,.bool b.addr.1],zv b.port::(ab b.mac++[.float .f64 b.wt,.bool b.drain]),fun x=>by simp[ah,ai],rfl⟩
theorem vG(h:au b):∃pre post,(∀x:List UInt8,ah { b with mac:=x }=pre++(ab x++post))∧pre.length=19 :=
 ⟨sv b.name::(ai b.addr++[zv b.port]),[.float .f64 b.wt,.bool b.drain],fun x=>by simp[ah],by simp[ar h.addr]⟩
theorem Dv(v:Bool):(ah b).toArray.setIfInBounds 1 (.bool v)=(ah { b with addr:=(v,b.addr.2) }).toArray:=by
 rw[qq];rfl
theorem zT(h:au b)(i:Nat)(v:Value):(ah b).toArray.setIfInBounds (18+i) v=(sv b.name::(ai b.addr++(zv b.port::(ab b.mac++[.float .f64 b.wt,.bool b.drain])).set i v)).toArray:=by
 have h1:=ar h.addr;rw[qq,show 18+i=(17+i)+1 by omega,ah,IB,IU _ _ (by omega),h1,IS]
theorem Bk(h:au b)(v:Int):(ah b).toArray.setIfInBounds 18 (.int .i64 v)=(ah { b with port:=v }).toArray:=zT h 0 _
theorem zU(h:au b)(i:Nat)(v:Value):(ah b).toArray.setIfInBounds (25+i) v=(sv b.name::(ai b.addr++(zv b.port::(ab b.mac++[.float .f64 b.wt,.bool b.drain].set i v)))).toArray:=by
 have h2:=h.mac;rw[show 25+i=18+(7+i) by omega,zT h,show 7+i=(6+i)+1 by omega,IB,IU _ _ (by rw[ap];omega),ap,h2,IS]
theorem Fg(h:au b)(v:Nat):(ah b).toArray.setIfInBounds 25 (.float .f64 v)=(ah { b with wt:=v }).toArray:=zU h 0 _
theorem yt(h:au b)(v:Bool):(ah b).toArray.setIfInBounds 26 (.bool v)=(ah { b with drain:=v }).toArray:=zU h 1 _
end
def eg(l:List UInt8)(s:St)(bad:Bool):St×Bool×aU :=
 let t1:=cF l s 255
 let t2:=ep l t1.1 bad
 let t3:=bG l t2.1 16
 let t4:=aT l t3.1 2 true
 let t5:=bG l t4.1 6
 let t6:=cR l t5.1 t2.2.1
 let t7:=ep l t6.1 t6.2.1
 (t7.1,t7.2.1,{ name:=t1.2,addr:=(t2.2.2,lA t3.2 16),port:=(t4.2:Int),mac:=lA t5.2 6,wt:=t6.2.2,drain:=t7.2.2 })
structure vH(w wr:World)(base g r bx:Nat)(l:List UInt8)(s:St)(bad:Bool)(b:aU):Prop where
 rs:RS wr base g r l s bad
 res:aj wr w.heap.size 56 (ah dU).toArray
 box:aj wr bx 56 (ah b).toArray
 off:cY w wr g (some r)
 shape:au b
 gt:w.heap.size<bx
 rl:r<w.heap.size
 gl:g<w.heap.size
section
variable {w wr w':World} {base g r bx:Nat} {l:List UInt8} {s s':St} {bad bad':Bool} {b b':aU}
theorem vH.after(h:vH w wr base g r bx l s bad b)(hR:RS w' base g r l s' bad')(ho:cY wr w' g (some r)):vH w w' base g r bx l s' bad' b :=
 ⟨hR,ho.blk h.res (by have:=h.gl;omega) (fun e=>by injection e with e;have:=h.rl;omega),ho.blk h.box (by have:=h.gl;have:=h.gt;omega) (fun e=>by injection e with e;have:=h.rl;have:=h.gt;omega),h.off.trans ho,h.shape,h.gt,h.rl,h.gl⟩
theorem vH.boxed(h:vH w wr base g r bx l s bad b)(hb:aj w' bx 56 (ah b').toArray)(hg:wr.grownBy w' (some bx))(hs:au b'):vH w w' base g r bx l s bad b':=by
 have hr:=h.rl;have hgl:=h.gl;have hgt:=h.gt;refine⟨⟨eY.off h.rs.rd hg h.box (by decide) (by decide),h.rs.ok,aj.grown h.rs.box hg (fun e=>by injection e with e;omega)⟩,aj.grown h.res hg (fun e=>by injection e with e;omega),hb,?_,hs,hgt,hr,hgl⟩;have hsz:=h.off.2.2.2.1;refine⟨hg.os.trans h.off.1,hg.tape.trans h.off.2.1,hg.output.trans h.off.2.2.1,IM hsz hg.size,fun k hk h1 h2=>(hg.block k (by omega) (fun e=>by injection e with e;omega)).trans (h.off.2.2.2.2 k hk h1 h2)⟩
theorem vH.set_(h:vH w wr base g r bx l s bad b)(k:Nat)(u:Value)(e:(ah b).toArray.setIfInBounds k u=(ah b').toArray)(hs:au b'):vH w (wr.setCell ⟨bx,k,none⟩ u) base g r bx l s bad b':=by
 refine h.boxed ?_ (a8 _ ⟨bx,k,none⟩ u) hs;have:=aj.set_ h.box k u;rw[e] at this;exact this
theorem vH.below(h:vH w wr base g r bx l s bad b)(hb:Below wr.heap.size wr w'):vH w w' base g r bx l s bad b:=h.after (h.rs.below hb) (cY.of_below hb)
theorem vH.goodBlk(h:vH w wr base g r bx l s bad b):aj (wr.setCells w.heap.size 0 (ah b)) w.heap.size 56 (ah b).toArray:=by
 have:=aj.setCells (ah b) 0 h.res;rw[bn (by rw[bu h.shape,bu aE])] at this;exact this
theorem vH.good(h:vH w wr base g r bx l s bad b):Bj w base g r l s bad (wr.setCells w.heap.size 0 (ah b)):=by
 have hr:=h.rl;have hgl:=h.gl;have hgt:=h.gt;have hg:wr.grownBy (wr.setCells w.heap.size 0 (ah b)) (some w.heap.size):=aY _ w.heap.size 0 _ 0 (IJ.refl _ _);refine⟨⟨eY.off h.rs.rd hg h.res (by decide) (by decide),h.rs.ok,aj.grown h.rs.box hg (fun e=>by injection e with e;omega)⟩,?_⟩;have hsz:=h.off.2.2.2.1;exact⟨hg.os.trans h.off.1,hg.tape.trans h.off.2.1,hg.output.trans h.off.2.2.1,IM hsz hg.size,fun k hk h1 h2=>(hg.block k (by omega) (fun e=>by injection e with e;omega)).trans (h.off.2.2.2.2 k hk h1 h2)⟩
end
theorem tl(base g r:Nat)(l:List UInt8)(s:St)(bad:Bool)(w:World)(h:RS w base g r l s bad)(hl:l.length≤1000000000)(hwt:∀x:List UInt8,(kI x).1<18446744073709551616) :
  Calls IE 153 #[.pointer (some ⟨r,0,none⟩)] w fun e w'=>e=.returned (.agg (ah (eg l s bad).2.2).toArray)∧Bj w base g r l (eg l s bad).1 (eg l s bad).2.1 w':=by
 obtain⟨R,hR0⟩:∃R,R=eg l s bad:=⟨_,rfl⟩;rw[←hR0];have hRl:=hR0;unfold eg at hRl;clear hR0;rcases h1:cF l s 255 with ⟨s1,nm⟩
 rcases h2:ep l s1 bad with ⟨s2,b2,six⟩
 rcases h3:bG l s2 16 with ⟨s3,x⟩
 rcases h4:aT l s3 2 true with ⟨s4,q⟩
 rcases h5:bG l s4 6 with ⟨s5,m⟩
 rcases h6:cR l s5 b2 with ⟨s6,b6,wt⟩
 rcases h7:ep l s6 b6 with ⟨s7,b7,dr⟩
 simp only[h1,h2,h3,h4,h5,h6,h7] at hRl;have lx:x.length≤16:=ii (n:=16) h3;have lm:m.length≤6:=ii (n:=6) h5;have lq:q≤65535:=by have:=Du l s3;rw[h4] at this;exact this
 have lw:wt<18446744073709551616:=by have:=congrArg (fun p=>p.2.2) h6;simp only[cR] at this;rw[←this];exact hwt _
 have H1:=hid h1;have H2:=hid h2;have H3:=hid h3;have H4:=hid h4;have H5:=hid h5;have H6:=hid h6;have H7:=hid h7;have HRl:=hid hRl;have Lx:=hid lx;have Lm:=hid lm;have Lq:=hid lq;have Lw:=hid lw;have Hh:=hid h;have hqw:IntKind.i64.wrap (q:Int)=(q:Int):=IV _ (by omega);have Hqw:=hid hqw;have hrl:=h.box.lt;have hgl:g<w.heap.size:=h.rd.lt;have Hrl:=hid hrl;have Hgl:=hid hgl;obtain⟨W0,hW0⟩:∃W,W=w.alloc (.cells (ah dU).toArray 56):=⟨_,rfl⟩;have hb0:Below w.heap.size w W0:=by rw[hW0];exact (Below.refl _ _).alloc (IQ _) _
 have hX0:aj W0 w.heap.size 56 (ah dU).toArray:=by rw[hW0];exact aj.new w _ _ _ rfl
 have HX0:=hid hX0;have HB0:=hid hb0;rw[gU] at hW0;have HW0:=hid hW0;clear h1 h2 h3 h4 h5 h6 h7 hRl lx lm lq lw h hqw hrl hgl hb0 hX0 hW0;go_enter Tryz.func153,Tryz.ntmps153
 go_upto_region 1 with fail
 rw[←HW0.out];clear HW0
 go_wp2_with fail
 refine (np base g r l s bad W0 (Hh.out.below HB0.out) hl).mono ?_;rw[H1.out];rintro e w1 ⟨rfl,hc⟩;obtain⟨hR1,hO1⟩:=hc;obtain⟨b1,hb1⟩:∃b:aU,b={ dU with name:=nm }:=⟨_,rfl⟩;have hS1:au b1:=by rw[hb1];exact⟨aE.addr,aE.mac,aE.wt⟩
 obtain⟨W2,hW2⟩:∃W,W=w1.alloc (.cells (ah dU).toArray 56):=⟨_,rfl⟩;obtain⟨W3,hW3⟩:∃W,W=W2.setCells w1.heap.size 0 (ah b1):=⟨_,rfl⟩;obtain⟨hth,hbx,hbe⟩:=jE w1 W2 W3 56 (ah dU) (ah b1) (by rw[bu hS1,bu aE]) hW2 hW3;have hres1:aj w1 w.heap.size 56 (ah dU).toArray:=hO1.blk HX0.out (by have:=Hgl.out;omega) (fun e=>by injection e with e;have:=Hrl.out;omega);have hst:vH w W3 base g r w1.heap.size l s1 bad b1:=⟨hR1.below hbe,aj.below hres1 hbe hres1.lt,hbx,(cY.of_below HB0.out).trans (hO1.trans (cY.of_below hbe)),hS1,hres1.lt,Hrl.out,Hgl.out⟩;have Hst:=hid hst;rw[gU] at hW2;have HW2:=hid hW2;have HW3:=hid hW3;have Hth:=hid hth;have Hb1:=hid hb1;have Hlit:Hid ((ah b1).toArray=#[.string ⟨nm.toArray⟩,.bool false,.int .u8 0,.int .u8 0,.int .u8 0,.int .u8 0,.int .u8 0,.int .u8 0,.int .u8 0,.int .u8 0,.int .u8 0,.int .u8 0,.int .u8 0,.int .u8 0,.int .u8 0,.int .u8 0,.int .u8 0,.int .u8 0,.int .i64 0,.int .u8 0,.int .u8 0,.int .u8 0,.int .u8 0,.int .u8 0,.int .u8 0,.float .f64 0,.bool false]):=by show _=_;rw[hb1];rfl
 have Hsz:Hid ((IE.info? 56).map (·.size)=some (ah b1).toArray.size):=cM hS1;clear hR1 hO1 hb1 hS1 hW2 hW3 hth hbx hbe hres1 hst HX0 HB0;go_upto_region 2 with (first
  |(rw[←HW2.out];(with_reducible refine aR 56 ?_);rw[←Hlit.out];refine wpList_store_mid rfl 56 (.tmp 3) (.tmp 6) rfl w1.heap.size 0 (ah b1).toArray rfl rfl Hth.out Hsz.out (eS _) ?_))
 rw[←HW3.out];clear HW2 HW3 Hth Hlit Hsz;obtain⟨bx,hbx⟩:∃b,b=w1.heap.size:=⟨_,rfl⟩;rw[←hbx] at Hst ⊢;clear hbx
 go_wp2_with fail
 refine (nk base g r l s1 bad W3 Hst.out.rs hl).mono ?_;rw[H2.out];rintro e w4 ⟨rfl,hR,hO⟩;have Hm:=hid (Hst.out.after hR hO);clear hR hO Hst;obtain⟨b2n,hb2n⟩:∃b:aU,b={ b1 with addr:=(six,b1.addr.2) }:=⟨_,rfl⟩;have hS:au b2n:=by rw[hb2n];exact⟨Hm.out.shape.addr,Hm.out.shape.mac,Hm.out.shape.wt⟩
 have hst:=Hm.out.set_ (b':=b2n) 1 (.bool six) (by rw[Dv,hb2n]) hS;have dx:=uh Hm.out.box Hm.out.shape;have df:=Hm.out.box.frozen 1;obtain⟨Wan,hWan⟩:∃W,W=w4.setCell ⟨bx,1,none⟩ (.bool six):=⟨_,rfl⟩;rw[←hWan] at hst;have HWan:=hid hWan;have Hst:=hid hst;have Hb_b2n:=hid hb2n;clear hS hst hWan hb2n;go_upto_region 3 with fail
 rw[←HWan.out];clear dx df HWan Hm;have qx:=dX Hst.out.rs.ok 16;rw[H3.out] at qx;have Qx:=hid qx;have Tk:=hid (ew base g l s2 Wan.drew 16 Hst.out.rs.rd.drew Hst.out.rs.ok hl (by decide));rw[H3.out] at Tk;clear qx;refine wp_region_noPanic ?_;refine wp_region_held_drew (S:=fun w'=>w'.cell? ⟨r,0,none⟩=some (.pointer (some ⟨g,0,none⟩))) (by kernel_rfl) (Hst.out.below ((Below.refl _ _).drew)).rs.d0 (fun hHeld=>?_);refine wpAnyH_take (i:=0) (v:=?_) rfl (by kernel_rfl) (by kernel_rfl) (by kernel_rfl) (fun _ _ _ h=>h) (IN ⟨by rfl,?_⟩) hHeld ?_;rotate_left
 ·intro w' hSw
  have d0:=hSw;go_simp
  try with_reducible rfl
 try simp only[IH,IA,Iy,Iz,qq,ID,IB]
 refine wpAnyH_take (i:=1) (v:=?_) rfl (by kernel_rfl) (by kernel_rfl) (by kernel_rfl) (fun _ _ _ h=>h) (IN ⟨by rfl,?_⟩) hHeld ?_;rotate_left
 ·intro w' hSw
  have d0:=hSw;go_simp
  try with_reducible rfl
 try simp only[IH,IA,Iy,Iz,qq,ID,IB]
 refine wpAnyH_take (i:=2) (v:=?_) rfl (by kernel_rfl) (by kernel_rfl) (by kernel_rfl) (fun _ _ _ h=>h) (IN ⟨by rfl,?_⟩) hHeld ?_;rotate_left
 ·intro w' hSw
  have d0:=hSw;go_simp
  try with_reducible rfl
 try simp only[IH,IA,Iy,Iz,qq,ID,IB]
 refine wpAnyH_take (i:=3) (v:=?_) rfl (by kernel_rfl) (by kernel_rfl) (by kernel_rfl) (fun _ _ _ h=>h) (IN ⟨by rfl,?_⟩) hHeld ?_;rotate_left
 ·intro w' hSw
  have d0:=hSw;go_simp
  try with_reducible rfl
 try simp only[IH,IA,Iy,Iz,qq,ID,IB]
 refine wpAnyH_take (i:=4) (v:=?_) rfl (by kernel_rfl) (by kernel_rfl) (by kernel_rfl) (fun _ _ _ h=>h) (IN ⟨by rfl,?_⟩) hHeld ?_;rotate_left
 ·intro w' hSw
  have d0:=hSw;go_simp
  try with_reducible rfl
 try simp only[IH,IA,Iy,Iz,qq,ID,IB]
 refine wpAnyH_take (i:=5) (v:=?_) rfl (by kernel_rfl) (by kernel_rfl) (by kernel_rfl) (fun _ _ _ h=>h) (IN ⟨by rfl,?_⟩) hHeld ?_;rotate_left
 ·intro w' hSw
  have d0:=hSw;go_simp
  try with_reducible rfl
 try simp only[IH,IA,Iy,Iz,qq,ID,IB]
 refine wpAnyH_take (i:=6) (v:=?_) rfl (by kernel_rfl) (by kernel_rfl) (by kernel_rfl) (fun _ _ _ h=>h) (IN ⟨by rfl,?_⟩) hHeld ?_;rotate_left
 ·intro w' hSw
  have d0:=hSw;go_simp
  try with_reducible rfl
 try simp only[IH,IA,Iy,Iz,qq,ID,IB]
 refine wpAnyH_ready (rs:=[7]) (by kernel_rfl) (by simp) ?_;refine IP (i:=7) rfl (fun K hK=>?_) IR;go_simp
 refine Tk.out.mono ?_;rintro e w5 ⟨Ax,cx,rfl,hown,hR,hg⟩;have hm0:=Hst.out.below ((Below.refl _ _).drew);have Hm:=hid (hm0.after (hm0.rs.after hR Qx.out hg) (cY.of_g hg));have Hbs:=hid (BS.of_own hown).1;clear hown hR hg hm0 Tk Qx Hst
 go_wp2_with fail
 refine hK.out _ _ Hm.out.rs.d0 (fun hHeld=>?_);clear hK K
 try simp only[IH,IA,Iy,Iz,qq,ID,IB]
 refine wpAnyH_ready (rs:=[8]) (by kernel_rfl) (by simp) ?_;refine IP (i:=8) rfl (fun K hK=>?_) IR;rw[if_pos (by rfl)];obtain⟨pre1,post1,hcs1,hpre1⟩:=uo b2n;refine o0 (.tmp 13) (.tmp 18) 43 43 rfl 5 IY nq bx 2 16 16 Ax cx x rfl rfl _ Hbs.out Lx.out 56 (fun x=>ah { b2n with addr:=(b2n.addr.1,x) }) pre1 post1 hcs1 hpre1 (by rw[show ({ b2n with addr:=(b2n.addr.1,IF 16 0) }:aU)=b2n by rw[Hb_b2n.out,Hb1.out];rfl];exact Hm.out.box) ?_;intro w6 z hbox hgr;obtain⟨b3n,hb3n⟩:∃b:aU,b={ b2n with addr:=(b2n.addr.1,lA x 16) }:=⟨_,rfl⟩;have hS:au b3n:=by rw[hb3n];exact⟨oZ Lx.out,Hm.out.shape.mac,Hm.out.shape.wt⟩
 have Hst:=hid (Hm.out.boxed (b':=b3n) (by rw[hb3n];exact hbox) hgr hS);have Hb_b3n:=hid hb3n;clear hbox hgr hcs1 hpre1 Hbs Hm hS hb3n;refine hK.out _ _ Hst.out.rs.d0 (fun hHeld=>?_);clear hK K
 try simp only[IH,IA,Iy,Iz,qq,ID,IB]
 refine wpAnyH_done (by kernel_rfl) ?_ _;refine I0 ?_;clear hHeld;have d0:=Hst.out.rs.d0;have ok4:=cK Hst.out.rs.ok 2 true;rw[H4.out] at ok4;have Ok4:=hid ok4;clear ok4
 go_wp2_with fail
 refine (cV base g l s3 w6 2 true Hst.out.rs.rd Hst.out.rs.ok hl).mono ?_;rw[H4.out];rintro e w7 ⟨rfl,hR,hg⟩;have Hm:=hid (Hst.out.after (Hst.out.rs.after hR Ok4.out hg) (cY.of_g hg));clear hR hg d0 Hst;obtain⟨b4n,hb4n⟩:∃b:aU,b={ b3n with port:=(q:Int) }:=⟨_,rfl⟩;have hS:au b4n:=by rw[hb4n];exact⟨Hm.out.shape.addr,Hm.out.shape.mac,Hm.out.shape.wt⟩
 have hst:=Hm.out.set_ (b':=b4n) 18 (.int .i64 (q:Int)) (by rw[Bk Hm.out.shape,hb4n]) hS;have dx:=jy Hm.out.box Hm.out.shape;have df:=Hm.out.box.frozen 18;have hqw:=Hqw.out;obtain⟨Wb,hWb⟩:∃W,W=w7.setCell ⟨bx,18,none⟩ (.int .i64 (q:Int)):=⟨_,rfl⟩;rw[←hWb] at hst;have HWb:=hid hWb;have Hst:=hid hst;have Hb_b4n:=hid hb4n;clear hS hst hWb hb4n;go_upto_region 5 with fail
 rw[←HWb.out];clear dx df hqw HWb Hm;have qx:=dX Hst.out.rs.ok 6;rw[H5.out] at qx;have Qx:=hid qx;have Tk:=hid (ew base g l s4 Wb.drew 6 Hst.out.rs.rd.drew Hst.out.rs.ok hl (by decide));rw[H5.out] at Tk;clear qx;refine wp_region_noPanic ?_;refine wp_region_held_drew (S:=fun w'=>w'.cell? ⟨r,0,none⟩=some (.pointer (some ⟨g,0,none⟩))) (by kernel_rfl) (Hst.out.below ((Below.refl _ _).drew)).rs.d0 (fun hHeld=>?_);refine wpAnyH_take (i:=0) (v:=?_) rfl (by kernel_rfl) (by kernel_rfl) (by kernel_rfl) (fun _ _ _ h=>h) (IN ⟨by rfl,?_⟩) hHeld ?_;rotate_left
 ·intro w' hSw
  have d0:=hSw;go_simp
  try with_reducible rfl
 try simp only[IH,IA,Iy,Iz,qq,ID,IB]
 refine wpAnyH_take (i:=1) (v:=?_) rfl (by kernel_rfl) (by kernel_rfl) (by kernel_rfl) (fun _ _ _ h=>h) (IN ⟨by rfl,?_⟩) hHeld ?_;rotate_left
 ·intro w' hSw
  have d0:=hSw;go_simp
  try with_reducible rfl
 try simp only[IH,IA,Iy,Iz,qq,ID,IB]
 refine wpAnyH_take (i:=2) (v:=?_) rfl (by kernel_rfl) (by kernel_rfl) (by kernel_rfl) (fun _ _ _ h=>h) (IN ⟨by rfl,?_⟩) hHeld ?_;rotate_left
 ·intro w' hSw
  have d0:=hSw;go_simp
  try with_reducible rfl
 try simp only[IH,IA,Iy,Iz,qq,ID,IB]
 refine wpAnyH_take (i:=3) (v:=?_) rfl (by kernel_rfl) (by kernel_rfl) (by kernel_rfl) (fun _ _ _ h=>h) (IN ⟨by rfl,?_⟩) hHeld ?_;rotate_left
 ·intro w' hSw
  have d0:=hSw;go_simp
  try with_reducible rfl
 try simp only[IH,IA,Iy,Iz,qq,ID,IB]
 refine wpAnyH_take (i:=4) (v:=?_) rfl (by kernel_rfl) (by kernel_rfl) (by kernel_rfl) (fun _ _ _ h=>h) (IN ⟨by rfl,?_⟩) hHeld ?_;rotate_left
 ·intro w' hSw
  have d0:=hSw;go_simp
  try with_reducible rfl
 try simp only[IH,IA,Iy,Iz,qq,ID,IB]
 refine wpAnyH_take (i:=5) (v:=?_) rfl (by kernel_rfl) (by kernel_rfl) (by kernel_rfl) (fun _ _ _ h=>h) (IN ⟨by rfl,?_⟩) hHeld ?_;rotate_left
 ·intro w' hSw
  have d0:=hSw;go_simp
  try with_reducible rfl
 try simp only[IH,IA,Iy,Iz,qq,ID,IB]
 refine wpAnyH_ready (rs:=[6]) (by kernel_rfl) (by simp) ?_;refine IP (i:=6) rfl (fun K hK=>?_) IR;go_simp
 refine Tk.out.mono ?_;rintro e w8 ⟨Ax,cx,rfl,hown,hR,hg⟩;have hm0:=Hst.out.below ((Below.refl _ _).drew);have Hm:=hid (hm0.after (hm0.rs.after hR Qx.out hg) (cY.of_g hg));have Hbs:=hid (BS.of_own hown).1;clear hown hR hg hm0 Tk Qx Hst
 go_wp2_with fail
 refine hK.out _ _ Hm.out.rs.d0 (fun hHeld=>?_);clear hK K
 try simp only[IH,IA,Iy,Iz,qq,ID,IB]
 refine wpAnyH_ready (rs:=[7]) (by kernel_rfl) (by simp) ?_;refine IP (i:=7) rfl (fun K hK=>?_) IR;rw[if_pos (by rfl)];obtain⟨pre1,post1,hcs1,hpre1⟩:=vG Hm.out.shape;refine o0 (.tmp 28) (.tmp 33) 43 43 rfl 5 IY nq bx 19 6 6 Ax cx m rfl rfl _ Hbs.out Lm.out 56 (fun x=>ah { b4n with mac:=x }) pre1 post1 hcs1 hpre1 (by rw[show ({ b4n with mac:=IF 6 0 }:aU)=b4n by rw[Hb_b4n.out,Hb_b3n.out,Hb_b2n.out,Hb1.out];rfl];exact Hm.out.box) ?_;intro w9 z hbox hgr;obtain⟨b5n,hb5n⟩:∃b:aU,b={ b4n with mac:=lA m 6 }:=⟨_,rfl⟩;have hS:au b5n:=by rw[hb5n];exact⟨Hm.out.shape.addr,oZ Lm.out,Hm.out.shape.wt⟩
 have Hst:=hid (Hm.out.boxed (b':=b5n) (by rw[hb5n];exact hbox) hgr hS);have Hb_b5n:=hid hb5n;clear hbox hgr hcs1 hpre1 Hbs Hm hS hb5n;refine hK.out _ _ Hst.out.rs.d0 (fun hHeld=>?_);clear hK K
 try simp only[IH,IA,Iy,Iz,qq,ID,IB]
 refine wpAnyH_done (by kernel_rfl) ?_ _;refine I0 ?_;clear hHeld;have hsf:=fun (a:Addr) (m:Mode) (n:Nat) (w:World)=>ic a n m w
 go_wp2_with fail
 refine (qn base g r l s5 b2 w9 Hst.out.rs hl).mono ?_;rw[H6.out];rintro e w10 ⟨rfl,hR,hO⟩;have Hm:=hid (Hst.out.after hR hO);clear hR hO Hst;obtain⟨b6n,hb6n⟩:∃b:aU,b={ b5n with wt:=wt }:=⟨_,rfl⟩;have hS:au b6n:=by rw[hb6n];exact⟨Hm.out.shape.addr,Hm.out.shape.mac,Lw.out⟩
 have hst:=Hm.out.set_ (b':=b6n) 25 (.float .f64 wt) (by rw[Fg Hm.out.shape,hb6n]) hS;have dx:=lv Hm.out.box Hm.out.shape;have df:=Hm.out.box.frozen 25;obtain⟨Wcn,hWcn⟩:∃W,W=w10.setCell ⟨bx,25,none⟩ (.float .f64 wt):=⟨_,rfl⟩;rw[←hWcn] at hst;have HWcn:=hid hWcn;have Hst:=hid hst;have Hb_b6n:=hid hb6n;clear hS hst hWcn hb6n;go_upto_region 7 with fail
 rw[←HWcn.out];clear dx df HWcn Hm;clear hsf
 go_wp2_with fail
 refine (nk base g r l s6 b6 Wcn Hst.out.rs hl).mono ?_;rw[H7.out];rintro e w11 ⟨rfl,hR,hO⟩;have Hm:=hid (Hst.out.after hR hO);clear hR hO Hst;obtain⟨b7n,hb7n⟩:∃b:aU,b={ b6n with drain:=dr }:=⟨_,rfl⟩;have hS:au b7n:=by rw[hb7n];exact⟨Hm.out.shape.addr,Hm.out.shape.mac,Hm.out.shape.wt⟩
 have hst:=Hm.out.set_ (b':=b7n) 26 (.bool dr) (by rw[yt Hm.out.shape,hb7n]) hS;have dx:=mI Hm.out.box Hm.out.shape;have df:=Hm.out.box.frozen 26;obtain⟨Wdn,hWdn⟩:∃W,W=w11.setCell ⟨bx,26,none⟩ (.bool dr):=⟨_,rfl⟩;rw[←hWdn] at hst;have HWdn:=hid hWdn;have Hst:=hid hst;have Hb_b7n:=hid hb7n;clear hS hst hWdn hb7n;go_upto_region 8 with fail
 rw[←HWdn.out];clear dx df HWdn Hm;have hfin:R=(s7,b7,b7n):=by rw[HRl.out,Hb_b7n.out,Hb_b6n.out,Hb_b5n.out,Hb_b4n.out,Hb_b3n.out,Hb_b2n.out,Hb1.out]
 have Hfin:=hid hfin;have RF:=hid (ag Hst.out.box);have Hthr:Hid (Wdn.there w.heap.size 0 (ah b7n).toArray.size):=Hst.out.res.there (by rw[IC,IC,bu Hst.out.shape,bu aE];decide);have Hszr:Hid ((IE.info? 56).map (·.size)=some (ah b7n).toArray.size):=cM Hst.out.shape;have HG:=hid Hst.out.goodBlk;clear hfin
 go_wp2_with (first
  |((with_reducible refine aB 56 ?_);refine aa (by rfl) 56 (.tmp 3) rfl bx 0 rfl (ah b7n) _ RF.out IZ rfl (cM Hst.out.shape) ?_)
  |((with_reducible refine aR 56 ?_);refine wpList_store_mid rfl 56 (.tmp 2) (.tmp 41) rfl w.heap.size 0 (ah b7n).toArray rfl rfl Hthr.out Hszr.out (eS _) ?_))
 refine bodyPost_ret (v:=.agg (ah b7n).toArray) (cN (P:=IE) (p:=2) rfl _ _ w.heap.size _ _ _ rfl HG.out bL rfl Hszr.out) rfl ⟨by rw[Hfin.out],by rw[Hfin.out];exact Hst.out.good⟩
theorem o8(x:List UInt8):(kI x).1<18446744073709551616:=by
 unfold kI;split
 ·rename_i h
  exact EW (by rw[h.1];decide)
 ·decide
theorem mj(l:List UInt8)(s:St)(bad:Bool):au (eg l s bad).2.2:=by
 unfold eg;rcases h1:cF l s 255 with ⟨s1,nm⟩
 rcases h2:ep l s1 bad with ⟨s2,b2,six⟩
 rcases h3:bG l s2 16 with ⟨s3,x⟩
 rcases h4:aT l s3 2 true with ⟨s4,q⟩
 rcases h5:bG l s4 6 with ⟨s5,m⟩
 rcases h6:cR l s5 b2 with ⟨s6,b6,wt⟩
 rcases h7:ep l s6 b6 with ⟨s7,b7,dr⟩
 simp only[h1,h2,h3,h4,h5,h6,h7];have lw:wt<18446744073709551616:=by have:=congrArg (fun p=>p.2.2) h6;simp only[cR] at this;rw[←this];exact o8 _
 exact⟨oZ (ii (n:=16) h3),oZ (ii (n:=6) h5),lw⟩
def hJ(l:List UInt8)(s:St)(bad:Bool):St×Bool×ca :=
 let t1:=aT l s 1 true
 if (t1.2:Int)=1 then
  let t2:=cF l t1.1 131072
  (t2.1,bad,{ cL with kind:=(t1.2:Int),frame:=t2.2 })
 else if (t1.2:Int)=2 then
  let t2:=aT l t1.1 1 true
  if (t2.2:Int)=1 then
   let t3:=eg l t2.1 bad
   (t3.1,t3.2.1,{ cL with kind:=(t1.2:Int),op:=(t2.2:Int),back:=t3.2.2 })
  else
   let t3:=cF l t2.1 255
   if (t2.2:Int)=3 then
    let t4:=cR l t3.1 bad
    (t4.1,t4.2.1,{ cL with kind:=(t1.2:Int),op:=(t2.2:Int),oname:=t3.2,owt:=t4.2.2 })
   else (t3.1,bad,{ cL with kind:=(t1.2:Int),op:=(t2.2:Int),oname:=t3.2 })
 else if (t1.2:Int)=3 then
  let t2:=cF l t1.1 255
  let t3:=ep l t2.1 bad
  (t3.1,t3.2.1,{ cL with kind:=(t1.2:Int),name:=t2.2,well:=t3.2.2 })
 else (t1.1,bad,{ cL with kind:=(t1.2:Int) })
theorem Dw(A:Option Addr)(n c:Nat)(a:ca)(v:Int):(ak A n c a).toArray.setIfInBounds 2 (.int .i64 v)=(ak A n c { a with op:=v }).toArray:=by
 rw[qq];rfl
structure o9(w wr:World)(base g r bx:Nat)(l:List UInt8)(s:St)(bad:Bool)(A:Option Addr)(n c:Nat)(b:ca):Prop where
 rs:RS wr base g r l s bad
 res:aj wr w.heap.size 60 (ak none 0 0 cL).toArray
 box:aj wr bx 60 (ak A n c b).toArray
 off:cY w wr g (some r)
 shape:aA b
 gt:w.heap.size<bx
 rl:r<w.heap.size
 gl:g<w.heap.size
section
variable {w wr w':World} {base g r bx:Nat} {l:List UInt8} {s s':St} {bad bad':Bool} {b b':ca} {A A':Option Addr} {n n' c c':Nat}
theorem o9.after(h:o9 w wr base g r bx l s bad A n c b)(hR:RS w' base g r l s' bad')(ho:cY wr w' g (some r)):o9 w w' base g r bx l s' bad' A n c b :=
 ⟨hR,ho.blk h.res (by have:=h.gl;omega) (fun e=>by injection e with e;have:=h.rl;omega),ho.blk h.box (by have:=h.gl;have:=h.gt;omega) (fun e=>by injection e with e;have:=h.rl;have:=h.gt;omega),h.off.trans ho,h.shape,h.gt,h.rl,h.gl⟩
theorem o9.boxed(h:o9 w wr base g r bx l s bad A n c b)(hb:aj w' bx 60 (ak A' n' c' b').toArray)(hg:wr.grownBy w' (some bx))(hs:aA b'):o9 w w' base g r bx l s bad A' n' c' b':=by
 have hr:=h.rl;have hgl:=h.gl;have hgt:=h.gt;refine⟨⟨eY.off h.rs.rd hg h.box (by decide) (by decide),h.rs.ok,aj.grown h.rs.box hg (fun e=>by injection e with e;omega)⟩,aj.grown h.res hg (fun e=>by injection e with e;omega),hb,?_,hs,hgt,hr,hgl⟩;have hsz:=h.off.2.2.2.1;refine⟨hg.os.trans h.off.1,hg.tape.trans h.off.2.1,hg.output.trans h.off.2.2.1,IM hsz hg.size,fun k hk h1 h2=>(hg.block k (by omega) (fun e=>by injection e with e;omega)).trans (h.off.2.2.2.2 k hk h1 h2)⟩
theorem o9.set_(h:o9 w wr base g r bx l s bad A n c b)(k:Nat)(u:Value)(e:(ak A n c b).toArray.setIfInBounds k u=(ak A' n' c' b').toArray)(hs:aA b'):o9 w (wr.setCell ⟨bx,k,none⟩ u) base g r bx l s bad A' n' c' b':=by
 refine h.boxed ?_ (a8 _ ⟨bx,k,none⟩ u) hs;have:=aj.set_ h.box k u;rw[e] at this;exact this
theorem o9.below(h:o9 w wr base g r bx l s bad A n c b)(hb:Below wr.heap.size wr w'):o9 w w' base g r bx l s bad A n c b:=h.after (h.rs.below hb) (cY.of_below hb)
theorem o9.goodBlk(h:o9 w wr base g r bx l s bad A n c b):aj (wr.setCells w.heap.size 0 (ak A n c b)) w.heap.size 60 (ak A n c b).toArray:=by
 have:=aj.setCells (ak A n c b) 0 h.res;rw[bn (by rw[aX h.shape,aX bZ])] at this;exact this
theorem o9.sets(h:o9 w wr base g r bx l s bad A n c b)(k:Nat)(vs:List Value)(e:nI (ak A n c b).toArray k vs=(ak A' n' c' b').toArray)(hs:aA b'):o9 w (wr.setCells bx k vs) base g r bx l s bad A' n' c' b':=by
 refine h.boxed ?_ (aY _ bx k vs k (IJ.refl _ _)) hs;have:=aj.setCells vs k h.box;rw[e] at this;exact this
theorem o9.goodOwn(h:o9 w wr base g r bx l s bad A n c b){m cc:Nat}{D:Option Addr}{ls:List Value}(ho:wr.ownsRow w.heap.size 5 1 (.slice D m cc) m ls):(wr.setCells w.heap.size 0 (ak A n c b)).ownsRow w.heap.size 5 1 (.slice D m cc) m ls :=
 ho.kept (aY _ w.heap.size 0 _ 0 (IJ.refl _ _)) (aK ho h.res (by decide))
theorem o9.good(h:o9 w wr base g r bx l s bad A n c b):Bj w base g r l s bad (wr.setCells w.heap.size 0 (ak A n c b)):=by
 have hr:=h.rl;have hgl:=h.gl;have hgt:=h.gt;have hg:wr.grownBy (wr.setCells w.heap.size 0 (ak A n c b)) (some w.heap.size):=aY _ w.heap.size 0 _ 0 (IJ.refl _ _);refine⟨⟨eY.off h.rs.rd hg h.res (by decide) (by decide),h.rs.ok,aj.grown h.rs.box hg (fun e=>by injection e with e;omega)⟩,?_⟩;have hsz:=h.off.2.2.2.1;exact⟨hg.os.trans h.off.1,hg.tape.trans h.off.2.1,hg.output.trans h.off.2.2.1,IM hsz hg.size,fun k hk h1 h2=>(hg.block k (by omega) (fun e=>by injection e with e;omega)).trans (h.off.2.2.2.2 k hk h1 h2)⟩
end
def rI(w:World)(base g r:Nat)(l:List UInt8)(R:St×Bool×ca)(e:Ending)(w':World):Prop :=
 ∃A' c',e=.returned (.agg (ak A' R.2.2.frame.length c' R.2.2).toArray)∧w'.ownsRow w.heap.size 5 1 (.slice A' R.2.2.frame.length c') R.2.2.frame.length (ab R.2.2.frame)∧aA R.2.2∧Bj w base g r l R.1 R.2.1 w'
theorem Dx(base g r:Nat)(l:List UInt8)(s:St)(bad:Bool)(w:World)(h:RS w base g r l s bad)(hl:l.length≤1000000000) :
  Calls IE 102 #[.pointer (some ⟨r,0,none⟩)] w (rI w base g r l (hJ l s bad)):=by
 obtain⟨R,hR0⟩:∃R,R=hJ l s bad:=⟨_,rfl⟩;rw[←hR0];unfold hJ at hR0;rcases h1:aT l s 1 true with ⟨s1,k⟩
 simp only[h1] at hR0;have lk:k≤255:=by have:=oY l s;rw[h1] at this;exact this
 have hqw0:IntKind.i64.wrap (k:Int)=(k:Int):=IV _ (by omega);obtain⟨kd,hkd⟩:∃z:Int,z=(k:Int):=⟨_,rfl⟩;rw[←hkd] at hR0;have hqw:IntKind.i64.wrap (k:Int)=kd:=by rw[hqw0,hkd]
 have ok1:=cK h.ok 1 true;rw[h1] at ok1;have Ok1:=hid ok1;have H1:=hid h1;have HRl:=hid hR0;have Hh:=hid h;have Hrl:=hid h.box.lt;have Hgl:Hid (g<w.heap.size):=h.rd.lt;obtain⟨W0,hW0⟩:∃W,W=w.alloc (.cells (ak none 0 0 cL).toArray 60):=⟨_,rfl⟩;have hb0:Below w.heap.size w W0:=by rw[hW0];exact (Below.refl _ _).alloc (IQ _) _
 have hX0:aj W0 w.heap.size 60 (ak none 0 0 cL).toArray:=by rw[hW0];exact aj.new w _ _ _ rfl
 have HX0:=hid hX0;have HB0:=hid hb0;have H0:=hid (h.below hb0);rw[lp] at hW0;have HW0:=hid hW0;clear h1 hR0 lk hqw0 hkd ok1 h hb0 hX0 hW0;go_enter Tryz.func102,Tryz.ntmps102
 go_upto_region 1 with fail
 rw[←HW0.out];clear HW0;have d0:=H0.out.d0
 go_wp2_with fail
 refine (cV base g l s W0 1 true H0.out.rd H0.out.ok hl).mono ?_;rw[H1.out];rintro e w1 ⟨rfl,hR,hg⟩;have hR1:=H0.out.after hR Ok1.out hg;have hO1:cY W0 w1 g (some r):=cY.of_g hg;clear d0 hR hg;obtain⟨b1,hb1⟩:∃b:ca,b={ cL with kind:=kd }:=⟨_,rfl⟩;have hS1:aA b1:=by rw[hb1];exact⟨bZ.back,bZ.owt⟩
 obtain⟨W2,hW2⟩:∃W,W=w1.alloc (.cells (ak none 0 0 cL).toArray 60):=⟨_,rfl⟩;obtain⟨W3,hW3⟩:∃W,W=W2.setCells w1.heap.size 0 (ak none 0 0 b1):=⟨_,rfl⟩;obtain⟨hth,hbx,hbe⟩:=jE w1 W2 W3 60 (ak none 0 0 cL) (ak none 0 0 b1) (by rw[aX hS1,aX bZ]) hW2 hW3;have hres1:aj w1 w.heap.size 60 (ak none 0 0 cL).toArray:=hO1.blk HX0.out (by have:=Hgl.out;omega) (fun e=>by injection e with e;have:=Hrl.out;omega);have hst:o9 w W3 base g r w1.heap.size l s1 bad none 0 0 b1:=⟨hR1.below hbe,aj.below hres1 hbe hres1.lt,hbx,(cY.of_below HB0.out).trans (hO1.trans (cY.of_below hbe)),hS1,hres1.lt,Hrl.out,Hgl.out⟩;have Hst:=hid hst;rw[lp] at hW2;have HW2:=hid hW2;have HW3:=hid hW3;have Hth:=hid hth;have Hb1:=hid hb1;have Hlit:Hid ((ak none 0 0 b1).toArray=#[.int .i64 kd,.slice none 0 0,.int .i64 0,.string ⟨#[]⟩,.bool false,.int .u8 0,.int .u8 0,.int .u8 0,.int .u8 0,.int .u8 0,.int .u8 0,.int .u8 0,.int .u8 0,.int .u8 0,.int .u8 0,.int .u8 0,.int .u8 0,.int .u8 0,.int .u8 0,.int .u8 0,.int .u8 0,.int .i64 0,.int .u8 0,.int .u8 0,.int .u8 0,.int .u8 0,.int .u8 0,.int .u8 0,.float .f64 0,.bool false,.string ⟨#[]⟩,.float .f64 0,.string ⟨#[]⟩,.bool false]):=by show _=_;rw[hb1];rfl
 have Hsz:Hid ((IE.info? 60).map (·.size)=some (ak none 0 0 b1).toArray.size):=bv hS1;clear hR1 hO1 hb1 hS1 hW2 hW3 hth hbx hbe hres1 hst HX0 HB0 H0 Hh;go_upto_region 2 with (first
  |(rw[←HW2.out];(with_reducible refine aR 60 ?_);rw[←Hlit.out];refine wpList_store_mid rfl 60 (.tmp 3) (.tmp 10) rfl w1.heap.size 0 (ak none 0 0 b1).toArray rfl rfl Hth.out Hsz.out (eW _ _ _ _) ?_))
 rw[←HW3.out];clear HW2 HW3 Hth Hlit Hsz hqw;obtain⟨bx,hbx⟩:∃b,b=w1.heap.size:=⟨_,rfl⟩;rw[←hbx] at Hst ⊢;clear hbx;have dk:W3.cell? ⟨bx,0,none⟩=some (.int .i64 kd):=by rw[fG Hst.out.box,Hb1.out]
 rcases k1:(kd==1) with _|_
 rotate_left
 ·have Hk:Hid (kd=1):=by show _=_;simpa using k1
  rcases h2:cF l s1 131072 with ⟨s2,fr⟩
  have H2:=hid h2;have ok2:=j3 Hst.out.rs.ok 131072;rw[h2] at ok2;have Ok2:=hid ok2;have d0:=Hst.out.rs.d0;clear h2 ok2
  go_wp2_with fail
  refine (kv base g l s1 W3 131072 Hst.out.rs.rd Hst.out.rs.ok hl (by decide)).mono ?_;rw[H2.out];rintro e w4 ⟨A',c',rfl,hown,hR,hg⟩;have Ho:=hid (bP hown (show w.heap.size≤W3.heap.size from Hst.out.off.2.2.2.1));have Hm:=hid (Hst.out.after (Hst.out.rs.after hR Ok2.out hg) (cY.of_g hg));obtain⟨fl,hfl0⟩:∃n,n=fr.length:=⟨_,rfl⟩;have Hfl:=hid hfl0;skip
  clear d0 dk hown hR hg Hst hfl0;obtain⟨b2,hb2⟩:∃b:ca,b={ b1 with frame:=fr }:=⟨_,rfl⟩;have hS:aA b2:=by rw[hb2];exact⟨Hm.out.shape.back,Hm.out.shape.owt⟩
  have hst:o9 w (w4.setCell ⟨bx,1,none⟩ (.slice A' fr.length c')) base g r bx l _ _ A' fr.length c' b2:=Hm.out.set_ 1 (.slice A' fr.length c') (by rw[oe A' fr.length c' fr,hb2]) hS;have hok:=Ho.out.kept (a8 w4 ⟨bx,1,none⟩ (.slice A' fr.length c')) (aK Ho.out Hm.out.box (by decide));have dx:=fu Hm.out.box;have df:=Hm.out.box.frozen 1;obtain⟨W5,hW5⟩:∃W,W=w4.setCell ⟨bx,1,none⟩ (.slice A' fr.length c'):=⟨_,rfl⟩;rw[←hW5] at hst hok;have HoK:=hid hok;clear hok;have HW5:=hid hW5;have Hst:=hid hst;have Hb_b2:=hid hb2;clear hS hst hW5 hb2;go_upto_region 15 with fail
  rw[←HW5.out];clear dx df HW5 Hm;have Ho5:Hid (W5.ownsRow w.heap.size 5 1 (.slice A' fr.length c') fr.length (ab fr)):=HoK.out;have Hfin:Hid (R=(s2,bad,b2)):=by show _=_;rw[HRl.out,Hb_b2.out,Hb1.out];rw[if_pos Hk.out,H2.out]
  have RF:=hid (ag Hst.out.box);have Hthr:Hid (W5.there w.heap.size 0 (ak A' fr.length c' b2).toArray.size):=Hst.out.res.there (by rw[IC,IC,aX Hst.out.shape,aX bZ];decide);have Hszr:Hid ((IE.info? 60).map (·.size)=some (ak A' fr.length c' b2).toArray.size):=bv Hst.out.shape;have HG:=hid Hst.out.goodBlk
  go_wp2_with (first
   |((with_reducible refine aB 60 ?_);refine aa (by rfl) 60 (.tmp 3) rfl bx 0 rfl (ak A' fr.length c' b2) _ RF.out IG rfl (bv Hst.out.shape) ?_)
   |((with_reducible refine aR 60 ?_);refine wpList_store_mid rfl 60 (.tmp 2) (.tmp 59) rfl w.heap.size 0 (ak A' fr.length c' b2).toArray rfl rfl Hthr.out Hszr.out (eW _ _ _ _) ?_))
  refine bodyPost_ret (v:=.agg (ak A' fr.length c' b2).toArray) (cN (P:=IE) (p:=2) rfl _ _ w.heap.size _ _ _ rfl HG.out bQ rfl Hszr.out) rfl ?_;have hfl:b2.frame.length=fr.length:=by rw[Hb_b2.out,Hb1.out];try rfl
  unfold rI;rw[Hfin.out];refine⟨A',c',?_,?_,Hst.out.shape,Hst.out.good⟩
  ·show _=II (.agg (ak A' b2.frame.length c' b2).toArray)
   rw[hfl]
  ·show IL _ _ _ _ (.slice A' b2.frame.length c') b2.frame.length (ab b2.frame)
   rw[hfl];exact Hst.out.goodOwn (by rw[Hb_b2.out];exact Ho5.out)
 rcases k2:(kd==2) with _|_
 rotate_left
 ·have Hk:Hid (kd=2):=by show _=_;simpa using k2
  rcases h2:aT l s1 1 true with ⟨s2,k⟩
  have lk:k≤255:=by have:=oY l s1;rw[h2] at this;exact this
  have hqw0:IntKind.i64.wrap (k:Int)=(k:Int):=IV _ (by omega);obtain⟨od,hod⟩:∃z:Int,z=(k:Int):=⟨_,rfl⟩;have hqw:IntKind.i64.wrap (k:Int)=od:=by rw[hqw0,hod]
  have Hod:=hid hod;have H2:=hid h2;have ok2:=cK Hst.out.rs.ok 1 true;rw[h2] at ok2;have Ok2:=hid ok2;have d0:=Hst.out.rs.d0;clear h2 ok2 hqw0 hod lk
  go_wp2_with fail
  refine (cV base g l s1 W3 1 true Hst.out.rs.rd Hst.out.rs.ok hl).mono ?_;rw[H2.out];rintro e w4 ⟨rfl,hR,hg⟩;have Hm:=hid (Hst.out.after (Hst.out.rs.after hR Ok2.out hg) (cY.of_g hg));clear d0 dk hR hg Hst;obtain⟨b2,hb2⟩:∃b:ca,b={ b1 with op:=od }:=⟨_,rfl⟩;have hS:aA b2:=by rw[hb2];exact⟨Hm.out.shape.back,Hm.out.shape.owt⟩
  have hst:o9 w (w4.setCell ⟨bx,2,none⟩ (.int .i64 od)) base g r bx l _ _ none 0 0 b2:=Hm.out.set_ 2 (.int .i64 od) (by rw[Dw,hb2]) hS;have dx:=iF Hm.out.box;have df:=Hm.out.box.frozen 2;obtain⟨W5,hW5⟩:∃W,W=w4.setCell ⟨bx,2,none⟩ (.int .i64 od):=⟨_,rfl⟩;rw[←hW5] at hst;have HW5:=hid hW5;have Hst:=hid hst;have Hb_b2:=hid hb2;clear hS hst hW5 hb2;go_upto_region 7 with fail
  rw[←HW5.out];clear dx df HW5 Hm;clear hqw;have do_:W5.cell? ⟨bx,2,none⟩=some (.int .i64 od):=by rw[iF Hst.out.box,Hb_b2.out]
  rcases k3:(od==1) with _|_
  rotate_left
  ·have Hk3:Hid (od=1):=by show _=_;simpa using k3
   rcases h3:eg l s2 bad with ⟨s3,b3,bk⟩
   have hbs:au bk:=by have:=mj l s2 bad;rw[h3] at this;exact this
   have Hbs:=hid hbs;have H3:=hid h3;clear h3 hbs
   go_wp2_with fail
   refine (tl base g r l s2 bad W5 Hst.out.rs hl o8).mono ?_;rw[H3.out];rintro e w6 ⟨rfl,hR,hO⟩;have Hm:=hid (Hst.out.after hR hO);clear hR hO Hst;clear do_;obtain⟨b4,hb4⟩:∃b:ca,b={ b2 with back:=bk }:=⟨_,rfl⟩;have hS:aA b4:=by rw[hb4];exact⟨Hbs.out,Hm.out.shape.owt⟩
   have hst:o9 w (w6.setCells bx 3 (ah bk)) base g r bx l s3 b3 none 0 0 b4:=Hm.out.sets 3 (ah bk) (by rw[pZ Hm.out.shape bk Hbs.out,hb4]) hS;have Hth:Hid (w6.there bx 3 (ah bk).toArray.size):=Hm.out.box.there (by rw[IC,IC,bu Hbs.out,aX Hm.out.shape];decide);obtain⟨W7,hW7⟩:∃W,W=w6.setCells bx 3 (ah bk):=⟨_,rfl⟩;rw[←hW7] at hst;have HW7:=hid hW7;have Hst:=hid hst;have Hb_b4:=hid hb4;clear hS hst hW7 hb4;go_upto_region 15 with (first
    |((with_reducible refine aR 56 ?_);refine wpList_store_mid rfl 56 (.tmp 38) (.tmp 36) rfl bx 3 (ah bk).toArray rfl rfl Hth.out (cM Hbs.out) (eS _) ?_))
   rw[←HW7.out];clear HW7 Hth Hm;have Hfin:Hid (R=(s3,b3,b4)):=by show _=_;rw[HRl.out,Hb_b4.out,Hb_b2.out,Hb1.out];rw[if_neg (by have:=Hk.out;omega),if_pos Hk.out,H2.out];simp only[←Hod.out];rw[if_pos Hk3.out,H3.out]
   have RF:=hid (ag Hst.out.box);have Hthr:Hid (W7.there w.heap.size 0 (ak none 0 0 b4).toArray.size):=Hst.out.res.there (by rw[IC,IC,aX Hst.out.shape,aX bZ];decide);have Hszr:Hid ((IE.info? 60).map (·.size)=some (ak none 0 0 b4).toArray.size):=bv Hst.out.shape;have HG:=hid Hst.out.goodBlk
   go_wp2_with (first
    |((with_reducible refine aB 60 ?_);refine aa (by rfl) 60 (.tmp 3) rfl bx 0 rfl (ak none 0 0 b4) _ RF.out IG rfl (bv Hst.out.shape) ?_)
    |((with_reducible refine aR 60 ?_);refine wpList_store_mid rfl 60 (.tmp 2) (.tmp 59) rfl w.heap.size 0 (ak none 0 0 b4).toArray rfl rfl Hthr.out Hszr.out (eW _ _ _ _) ?_))
   refine bodyPost_ret (v:=.agg (ak none 0 0 b4).toArray) (cN (P:=IE) (p:=2) rfl _ _ w.heap.size _ _ _ rfl HG.out bQ rfl Hszr.out) rfl ?_;have hfl:b4.frame.length=0:=by rw[Hb_b4.out,Hb_b2.out,Hb1.out];try rfl
   unfold rI;rw[Hfin.out];refine⟨none,0,?_,?_,Hst.out.shape,Hst.out.good⟩
   ·show _=II (.agg (ak none b4.frame.length 0 b4).toArray)
    rw[hfl]
   ·show IL _ _ _ _ (.slice none b4.frame.length 0) b4.frame.length (ab b4.frame)
    rw[hfl];exact Hst.out.goodOwn (by rw[show b4.frame=[] by rw[Hb_b4.out,Hb_b2.out,Hb1.out];rfl];exact IK _ _ _ _)
  rcases h3:cF l s2 255 with ⟨s3,nm⟩
  have H3:=hid h3;clear h3
  go_wp2_with fail
  refine (np base g r l s2 bad W5 Hst.out.rs hl).mono ?_;rw[H3.out];rintro e w6 ⟨rfl,hR,hO⟩;have Hm:=hid (Hst.out.after hR hO);clear hR hO Hst;clear do_;obtain⟨b4,hb4⟩:∃b:ca,b={ b2 with oname:=nm }:=⟨_,rfl⟩;have hS:aA b4:=by rw[hb4];exact⟨Hm.out.shape.back,Hm.out.shape.owt⟩
  have hst:o9 w (w6.setCell ⟨bx,30,none⟩ (.string ⟨nm.toArray⟩)) base g r bx l _ _ none 0 0 b4:=Hm.out.set_ 30 (.string ⟨nm.toArray⟩) (by rw[mg Hm.out.shape,hb4]) hS;have dx:=ed Hm.out.box Hm.out.shape;have df:=Hm.out.box.frozen 30;obtain⟨W7,hW7⟩:∃W,W=w6.setCell ⟨bx,30,none⟩ (.string ⟨nm.toArray⟩):=⟨_,rfl⟩;rw[←hW7] at hst;have HW7:=hid hW7;have Hst:=hid hst;have Hb_b4:=hid hb4;clear hS hst hW7 hb4;go_upto_region 10 with fail
  rw[←HW7.out];clear dx df HW7 Hm;have do_:W7.cell? ⟨bx,2,none⟩=some (.int .i64 od):=by rw[iF Hst.out.box,Hb_b4.out,Hb_b2.out]
  rcases k4:(od==3) with _|_
  rotate_left
  ·have Hk4:Hid (od=3):=by show _=_;simpa using k4
   rcases h4:cR l s3 bad with ⟨s4,b5,wt⟩
   have lw:wt<18446744073709551616:=by have:=congrArg (fun p=>p.2.2) h4;simp only[cR] at this;rw[←this];exact o8 _
   have Lw:=hid lw;have H4:=hid h4;clear h4 lw;have hsf:=fun (a:Addr) (m:Mode) (n:Nat) (w:World)=>ic a n m w
   go_wp2_with fail
   refine (qn base g r l s3 bad W7 Hst.out.rs hl).mono ?_;rw[H4.out];rintro e w8 ⟨rfl,hR,hO⟩;have Hm:=hid (Hst.out.after hR hO);clear hR hO Hst;clear do_;obtain⟨b6,hb6⟩:∃b:ca,b={ b4 with owt:=wt }:=⟨_,rfl⟩;have hS:aA b6:=by rw[hb6];exact⟨Hm.out.shape.back,Lw.out⟩
   have hst:o9 w (w8.setCell ⟨bx,31,none⟩ (.float .f64 wt)) base g r bx l _ _ none 0 0 b6:=Hm.out.set_ 31 (.float .f64 wt) (by rw[rD Hm.out.shape,hb6]) hS;have dx:=kt Hm.out.box Hm.out.shape;have df:=Hm.out.box.frozen 31;obtain⟨W9,hW9⟩:∃W,W=w8.setCell ⟨bx,31,none⟩ (.float .f64 wt):=⟨_,rfl⟩;rw[←hW9] at hst;have HW9:=hid hW9;have Hst:=hid hst;have Hb_b6:=hid hb6;clear hS hst hW9 hb6;go_upto_region 15 with fail
   rw[←HW9.out];clear dx df HW9 Hm;have Hfin:Hid (R=(s4,b5,b6)):=by show _=_;rw[HRl.out,Hb_b6.out,Hb_b4.out,Hb_b2.out,Hb1.out];rw[if_neg (by have:=Hk.out;omega),if_pos Hk.out,H2.out];simp only[←Hod.out];rw[if_neg (by have:=Hk4.out;omega),H3.out,if_pos Hk4.out,H4.out]
   have RF:=hid (ag Hst.out.box);have Hthr:Hid (W9.there w.heap.size 0 (ak none 0 0 b6).toArray.size):=Hst.out.res.there (by rw[IC,IC,aX Hst.out.shape,aX bZ];decide);have Hszr:Hid ((IE.info? 60).map (·.size)=some (ak none 0 0 b6).toArray.size):=bv Hst.out.shape;have HG:=hid Hst.out.goodBlk
   go_wp2_with (first
    |((with_reducible refine aB 60 ?_);refine aa (by rfl) 60 (.tmp 3) rfl bx 0 rfl (ak none 0 0 b6) _ RF.out IG rfl (bv Hst.out.shape) ?_)
    |((with_reducible refine aR 60 ?_);refine wpList_store_mid rfl 60 (.tmp 2) (.tmp 59) rfl w.heap.size 0 (ak none 0 0 b6).toArray rfl rfl Hthr.out Hszr.out (eW _ _ _ _) ?_))
   refine bodyPost_ret (v:=.agg (ak none 0 0 b6).toArray) (cN (P:=IE) (p:=2) rfl _ _ w.heap.size _ _ _ rfl HG.out bQ rfl Hszr.out) rfl ?_;have hfl:b6.frame.length=0:=by rw[Hb_b6.out,Hb_b4.out,Hb_b2.out,Hb1.out];try rfl
   unfold rI;rw[Hfin.out];refine⟨none,0,?_,?_,Hst.out.shape,Hst.out.good⟩
   ·show _=II (.agg (ak none b6.frame.length 0 b6).toArray)
    rw[hfl]
   ·show IL _ _ _ _ (.slice none b6.frame.length 0) b6.frame.length (ab b6.frame)
    rw[hfl];exact Hst.out.goodOwn (by rw[show b6.frame=[] by rw[Hb_b6.out,Hb_b4.out,Hb_b2.out,Hb1.out];rfl];exact IK _ _ _ _)
  ·have Hk3:Hid (¬od=1):=by show ¬_;simpa using k3
   have Hk4:Hid (¬od=3):=by show ¬_;simpa using k4
   have Hfin:Hid (R=(s3,bad,b4)):=by show _=_;rw[HRl.out,Hb_b4.out,Hb_b2.out,Hb1.out];rw[if_neg (by have:=Hk.out;omega),if_pos Hk.out,H2.out];simp only[←Hod.out];rw[if_neg Hk3.out,H3.out,if_neg Hk4.out]
   have RF:=hid (ag Hst.out.box);have Hthr:Hid (W7.there w.heap.size 0 (ak none 0 0 b4).toArray.size):=Hst.out.res.there (by rw[IC,IC,aX Hst.out.shape,aX bZ];decide);have Hszr:Hid ((IE.info? 60).map (·.size)=some (ak none 0 0 b4).toArray.size):=bv Hst.out.shape;have HG:=hid Hst.out.goodBlk
   go_wp2_with (first
    |((with_reducible refine aB 60 ?_);refine aa (by rfl) 60 (.tmp 3) rfl bx 0 rfl (ak none 0 0 b4) _ RF.out IG rfl (bv Hst.out.shape) ?_)
    |((with_reducible refine aR 60 ?_);refine wpList_store_mid rfl 60 (.tmp 2) (.tmp 59) rfl w.heap.size 0 (ak none 0 0 b4).toArray rfl rfl Hthr.out Hszr.out (eW _ _ _ _) ?_))
   refine bodyPost_ret (v:=.agg (ak none 0 0 b4).toArray) (cN (P:=IE) (p:=2) rfl _ _ w.heap.size _ _ _ rfl HG.out bQ rfl Hszr.out) rfl ?_;have hfl:b4.frame.length=0:=by rw[Hb_b4.out,Hb_b2.out,Hb1.out];try rfl
   unfold rI;rw[Hfin.out];refine⟨none,0,?_,?_,Hst.out.shape,Hst.out.good⟩
   ·show _=II (.agg (ak none b4.frame.length 0 b4).toArray)
    rw[hfl]
   ·show IL _ _ _ _ (.slice none b4.frame.length 0) b4.frame.length (ab b4.frame)
    rw[hfl];exact Hst.out.goodOwn (by rw[show b4.frame=[] by rw[Hb_b4.out,Hb_b2.out,Hb1.out];rfl];exact IK _ _ _ _)
 rcases k5:(kd==3) with _|_
 rotate_left
 ·have Hk:Hid (kd=3):=by show _=_;simpa using k5
  rcases h2:cF l s1 255 with ⟨s2,nm⟩
  rcases h3:ep l s2 bad with ⟨s3,b3,wl⟩
  have H2:=hid h2;have H3:=hid h3;clear h2 h3
  go_wp2_with fail
  refine (np base g r l s1 bad W3 Hst.out.rs hl).mono ?_;rw[H2.out];rintro e w4 ⟨rfl,hR,hO⟩;have Hm:=hid (Hst.out.after hR hO);clear hR hO Hst;clear dk;obtain⟨b2,hb2⟩:∃b:ca,b={ b1 with name:=nm }:=⟨_,rfl⟩;have hS:aA b2:=by rw[hb2];exact⟨Hm.out.shape.back,Hm.out.shape.owt⟩
  have hst:o9 w (w4.setCell ⟨bx,32,none⟩ (.string ⟨nm.toArray⟩)) base g r bx l _ _ none 0 0 b2:=Hm.out.set_ 32 (.string ⟨nm.toArray⟩) (by rw[pX Hm.out.shape,hb2]) hS;have dx:=fY Hm.out.box Hm.out.shape;have df:=Hm.out.box.frozen 32;obtain⟨W5,hW5⟩:∃W,W=w4.setCell ⟨bx,32,none⟩ (.string ⟨nm.toArray⟩):=⟨_,rfl⟩;rw[←hW5] at hst;have HW5:=hid hW5;have Hst:=hid hst;have Hb_b2:=hid hb2;clear hS hst hW5 hb2;go_upto_region 14 with fail
  rw[←HW5.out];clear dx df HW5 Hm
  go_wp2_with fail
  refine (nk base g r l s2 bad W5 Hst.out.rs hl).mono ?_;rw[H3.out];rintro e w6 ⟨rfl,hR,hO⟩;have Hm:=hid (Hst.out.after hR hO);clear hR hO Hst;obtain⟨b4,hb4⟩:∃b:ca,b={ b2 with well:=wl }:=⟨_,rfl⟩;have hS:aA b4:=by rw[hb4];exact⟨Hm.out.shape.back,Hm.out.shape.owt⟩
  have hst:o9 w (w6.setCell ⟨bx,33,none⟩ (.bool wl)) base g r bx l _ _ none 0 0 b4:=Hm.out.set_ 33 (.bool wl) (by rw[pY Hm.out.shape,hb4]) hS;have dx:=iq Hm.out.box Hm.out.shape;have df:=Hm.out.box.frozen 33;obtain⟨W7,hW7⟩:∃W,W=w6.setCell ⟨bx,33,none⟩ (.bool wl):=⟨_,rfl⟩;rw[←hW7] at hst;have HW7:=hid hW7;have Hst:=hid hst;have Hb_b4:=hid hb4;clear hS hst hW7 hb4;go_upto_region 15 with fail
  rw[←HW7.out];clear dx df HW7 Hm;have Hfin:Hid (R=(s3,b3,b4)):=by show _=_;rw[HRl.out,Hb_b4.out,Hb_b2.out,Hb1.out];rw[if_neg (by have:=Hk.out;omega),if_neg (by have:=Hk.out;omega),if_pos Hk.out,H2.out];simp only[];rw[H3.out]
  have RF:=hid (ag Hst.out.box);have Hthr:Hid (W7.there w.heap.size 0 (ak none 0 0 b4).toArray.size):=Hst.out.res.there (by rw[IC,IC,aX Hst.out.shape,aX bZ];decide);have Hszr:Hid ((IE.info? 60).map (·.size)=some (ak none 0 0 b4).toArray.size):=bv Hst.out.shape;have HG:=hid Hst.out.goodBlk
  go_wp2_with (first
   |((with_reducible refine aB 60 ?_);refine aa (by rfl) 60 (.tmp 3) rfl bx 0 rfl (ak none 0 0 b4) _ RF.out IG rfl (bv Hst.out.shape) ?_)
   |((with_reducible refine aR 60 ?_);refine wpList_store_mid rfl 60 (.tmp 2) (.tmp 59) rfl w.heap.size 0 (ak none 0 0 b4).toArray rfl rfl Hthr.out Hszr.out (eW _ _ _ _) ?_))
  refine bodyPost_ret (v:=.agg (ak none 0 0 b4).toArray) (cN (P:=IE) (p:=2) rfl _ _ w.heap.size _ _ _ rfl HG.out bQ rfl Hszr.out) rfl ?_;have hfl:b4.frame.length=0:=by rw[Hb_b4.out,Hb_b2.out,Hb1.out];try rfl
  unfold rI;rw[Hfin.out];refine⟨none,0,?_,?_,Hst.out.shape,Hst.out.good⟩
  ·show _=II (.agg (ak none b4.frame.length 0 b4).toArray)
   rw[hfl]
  ·show IL _ _ _ _ (.slice none b4.frame.length 0) b4.frame.length (ab b4.frame)
   rw[hfl];exact Hst.out.goodOwn (by rw[show b4.frame=[] by rw[Hb_b4.out,Hb_b2.out,Hb1.out];rfl];exact IK _ _ _ _)
 ·have K1:Hid (¬kd=1):=by show ¬_;simpa using k1
  have K2:Hid (¬kd=2):=by show ¬_;simpa using k2
  have K3:Hid (¬kd=3):=by show ¬_;simpa using k5
  have Hfin:Hid (R=(s1,bad,b1)):=by show _=_;rw[HRl.out,Hb1.out];rw[if_neg K1.out,if_neg K2.out,if_neg K3.out]
  have RF:=hid (ag Hst.out.box);have Hthr:Hid (W3.there w.heap.size 0 (ak none 0 0 b1).toArray.size):=Hst.out.res.there (by rw[IC,IC,aX Hst.out.shape,aX bZ];decide);have Hszr:Hid ((IE.info? 60).map (·.size)=some (ak none 0 0 b1).toArray.size):=bv Hst.out.shape;have HG:=hid Hst.out.goodBlk
  go_wp2_with (first
   |((with_reducible refine aB 60 ?_);refine aa (by rfl) 60 (.tmp 3) rfl bx 0 rfl (ak none 0 0 b1) _ RF.out IG rfl (bv Hst.out.shape) ?_)
   |((with_reducible refine aR 60 ?_);refine wpList_store_mid rfl 60 (.tmp 2) (.tmp 59) rfl w.heap.size 0 (ak none 0 0 b1).toArray rfl rfl Hthr.out Hszr.out (eW _ _ _ _) ?_))
  refine bodyPost_ret (v:=.agg (ak none 0 0 b1).toArray) (cN (P:=IE) (p:=2) rfl _ _ w.heap.size _ _ _ rfl HG.out bQ rfl Hszr.out) rfl ?_;have hfl:b1.frame.length=0:=by rw[Hb1.out];try rfl
  unfold rI;rw[Hfin.out];refine⟨none,0,?_,?_,Hst.out.shape,Hst.out.good⟩
  ·show _=II (.agg (ak none b1.frame.length 0 b1).toArray)
   rw[hfl]
  ·show IL _ _ _ _ (.slice none b1.frame.length 0) b1.frame.length (ab b1.frame)
   rw[hfl];exact Hst.out.goodOwn (by rw[show b1.frame=[] by rw[Hb1.out];rfl];exact IK _ _ _ _)
def rJ(s:St)(bad:Bool):Bool:=!bad&&(decide (s.2.1=0)&&decide (s.2.2=0))
def fN(l:List UInt8)(s:St):aU×Bool:=if rJ (eg l s false).1 (eg l s false).2.1 then ((eg l s false).2.2,true) else (dU,false)
theorem cY.ahead{w W w':World}{g r:Nat}(hb:Below w.heap.size w W)(h:cY W w' g (some r))(hr:w.heap.size≤r):cY w w' g none :=
 ⟨h.1.trans hb.os,h.2.1.trans hb.tape,h.2.2.1.trans hb.output,IM hb.size h.2.2.2.1,fun k hk h1 _=>(h.2.2.2.2 k (Nat.lt_of_lt_of_le hk hb.size) h1 (fun e=>by injection e with e;omega)).trans (hb.block k hk)⟩
theorem cY.behind{w W w':World}{g:Nat}(h:cY w W g none)(hb:Below w.heap.size W w'):cY w w' g none :=
 ⟨hb.os.trans h.1,hb.tape.trans h.2.1,hb.output.trans h.2.2.1,IM h.2.2.2.1 hb.size,fun k hk h1 h2=>(hb.block k hk).trans (h.2.2.2.2 k hk h1 h2)⟩
def qM(w:World)(base g:Nat)(l:List UInt8)(s:St)(e:Ending)(w':World):Prop :=
 e=.returned (.tuple #[.agg (ah (fN l s).1).toArray,.bool (fN l s).2])∧eY w' base g l (eg l s false).1∧em l (eg l s false).1∧cY w w' g none
theorem Bm(base g:Nat)(l:List UInt8)(s:St)(w:World)(h:eY w base g l s)(hs:em l s)(hl:l.length≤1000000000) :
  Calls IE 96 #[.pointer (some ⟨g,0,none⟩)] w (qM w base g l s):=by
 have hgl:g<w.heap.size:=h.lt;have Hgl:=hid hgl;have hsh:=mj l s false;rcases h1:eg l s false with ⟨s1,b1,bk⟩
 rw[h1] at hsh;obtain⟨W0,hW0⟩:∃W,W=w.alloc (.cells (ah dU).toArray 56):=⟨_,rfl⟩;obtain⟨W1,hW1⟩:∃W,W=W0.alloc (.cells (yq g false) 157):=⟨_,rfl⟩;have hs0:W0.heap.size=w.heap.size+1:=by rw[hW0];simp
 have hX0:aj W0 w.heap.size 56 (ah dU).toArray:=by rw[hW0];exact aj.new w _ _ _ rfl
 have hX1:aj W1 w.heap.size 56 (ah dU).toArray:=by rw[hW1];exact aj.alloc hX0 _
 have hR1:aj W1 (w.heap.size+1) 157 (yq g false):=by rw[hW1,←hs0];exact aj.new W0 _ _ _ rfl
 have hB1:Below w.heap.size w W1:=by rw[hW1,hW0];exact ((Below.refl _ _).alloc (IQ _) _).alloc (by simp) _
 have HRS:Hid (RS W1 base g (w.heap.size+1) l s false):=⟨h.below hB1,hs,hR1⟩;have HX:=hid hX1;have HB:=hid hB1;have H1:=hid h1;have Hsh:=hid hsh;rw[gU] at hW0;have HW0:=hid hW0;have HW1:Hid (W1=W0.alloc (.cells #[.pointer (some ⟨g,0,none⟩),.bool false] 157)):=hW1;have Hs0:=hid hs0;clear hgl hsh h1 hs0 hX0 hX1 hR1 hB1 hW0 hW1 h hs;go_enter Tryz.func96,Tryz.ntmps96
 go_upto_region 2 with fail
 rw[←HW0.out];rw[←HW1.out];clear HW0 HW1 Hs0
 go_wp2_with fail
 refine (tl base g (w.heap.size+1) l s false W1 HRS.out hl o8).mono ?_;rw[H1.out];rintro e w2 ⟨rfl,hc⟩;obtain⟨hR2,hO2⟩:=hc;obtain⟨W3,hW3⟩:∃W,W=w2.alloc (.cells (ah dU).toArray 56):=⟨_,rfl⟩;obtain⟨W4,hW4⟩:∃W,W=W3.setCells w2.heap.size 0 (ah bk):=⟨_,rfl⟩;obtain⟨hth,hbx,hbe⟩:=jE w2 W3 W4 56 (ah dU) (ah bk) (by rw[bu Hsh.out,bu aE]) hW3 hW4;have hX2:aj w2 w.heap.size 56 (ah dU).toArray:=hO2.blk HX.out (by have:=Hgl.out;omega) (fun e=>by injection e with e;omega);have H4:=hid (hR2.below hbe);have HX4:=hid (aj.below hX2 hbe hX2.lt);have hO:cY w w2 g none:=cY.ahead HB.out hO2 (by omega);have HO:=hid (hO.behind (hbe.mono hO.2.2.2.1));have Hbk:=hid hbx;have hlt:w.heap.size<w2.heap.size:=hX2.lt;rw[gU] at hW3;have HW3:=hid hW3;have HW4:=hid hW4;have Hth:=hid hth;clear hR2 hO2 hW3 hW4 hth hbx hbe hX2 hO HX HB HRS;go_upto_region 3 with (first
  |(rw[←HW3.out];(with_reducible refine aR 56 ?_);refine wpList_store_mid rfl 56 (.tmp 5) (.tmp 10) rfl w2.heap.size 0 (ah bk).toArray rfl rfl Hth.out (cM Hsh.out) (eS _) ?_))
 rw[←HW4.out];clear HW3 HW4 Hth;obtain⟨bx,hbx⟩:∃b,b=w2.heap.size:=⟨_,rfl⟩;rw[←hbx] at Hbk hlt ⊢;clear hbx;obtain⟨z,hz⟩:∃z,z=rJ s1 b1:=⟨_,rfl⟩
 go_wp2_with fail
 refine (th base g (w.heap.size+1) l s1 b1 W4 H4.out).mono ?_;rw[show (!b1&&(decide (s1.2.1=0)&&decide (s1.2.2=0)))=z from hz.symm];rintro e w5 ⟨rfl,hb5⟩;have H5:=hid (H4.out.below hb5);have HX5:=hid (aj.below HX4.out hb5 HX4.out.lt);have HK5:=hid (aj.below Hbk.out hb5 Hbk.out.lt);have HO5:=hid (HO.out.behind (hb5.mono HO.out.2.2.2.1));have Hz:=hid hz;clear hb5 hz H4 HX4 Hbk HO;rcases z with _|_
 ·have Hpost:Hid (fN l s=(dU,false)):=by
   show _=_
   unfold fN;rw[H1.out];simp only[←Hz.out];rfl
  have Hthr:Hid (w5.there w.heap.size 0 (ah dU).toArray.size):=HX5.out.there (by decide);have hG:aj (w5.setCells w.heap.size 0 (ah dU)) w.heap.size 56 (ah dU).toArray:=by
   have:=aj.setCells (ah dU) 0 HX5.out;rw[bn rfl] at this;exact this
  have HG:=hid hG;have HF:=hid (HO5.out.behind (bq (IQ _) (ah dU) 0 (Below.refl _ _)));have HR:=hid (eY.off H5.out.rd (aY w5 w.heap.size 0 (ah dU) 0 (IJ.refl _ _)) HX5.out (by decide) (by decide));clear hG
  go_wp2_with (first
   |((with_reducible refine aR 56 ?_);rw[←gU];refine wpList_store_mid rfl 56 (.tmp 2) (.tmp 14) rfl w.heap.size 0 (ah dU).toArray rfl rfl Hthr.out (cM aE) (eS _) ?_))
  refine bodyPost_ret (v:=.tuple #[.agg (ah dU).toArray,.bool false]) (fI (P:=IE) (p:=2) (u:=3) rfl _ _ w.heap.size _ _ _ _ rfl HG.out bL rfl (cM aE)) rfl ?_;unfold qM;rw[Hpost.out,H1.out];exact⟨rfl,HR.out,H5.out.ok,HF.out⟩
 ·have Hpost:Hid (fN l s=(bk,true)):=by
   show _=_
   unfold fN;rw[H1.out];simp only[←Hz.out];rfl
  have RF:=hid (ag HK5.out);have Hthr:Hid (w5.there w.heap.size 0 (ah bk).toArray.size):=HX5.out.there (by rw[IC,IC,bu Hsh.out,bu aE];decide);have hG:aj (w5.setCells w.heap.size 0 (ah bk)) w.heap.size 56 (ah bk).toArray:=by
   have:=aj.setCells (ah bk) 0 HX5.out;rw[bn (by rw[bu Hsh.out,bu aE])] at this;exact this
  have HG:=hid hG;have HF:=hid (HO5.out.behind (bq (IQ _) (ah bk) 0 (Below.refl _ _)));have HR:=hid (eY.off H5.out.rd (aY w5 w.heap.size 0 (ah bk) 0 (IJ.refl _ _)) HX5.out (by decide) (by decide));have Hszr:Hid ((IE.info? 56).map (·.size)=some (ah bk).toArray.size):=cM Hsh.out;clear hG
  go_wp2_with (first
   |((with_reducible refine aB 56 ?_);refine aa (by rfl) 56 (.tmp 5) rfl bx 0 rfl (ah bk) _ RF.out IZ rfl (cM Hsh.out) ?_)
   |((with_reducible refine aR 56 ?_);refine wpList_store_mid rfl 56 (.tmp 2) (.tmp 13) rfl w.heap.size 0 (ah bk).toArray rfl rfl Hthr.out Hszr.out (eS _) ?_))
  refine bodyPost_ret (v:=.tuple #[.agg (ah bk).toArray,.bool true]) (fI (P:=IE) (p:=2) (u:=3) rfl _ _ w.heap.size _ _ _ _ rfl HG.out bL rfl Hszr.out) rfl ?_;unfold qM;rw[Hpost.out,H1.out];exact⟨rfl,HR.out,H5.out.ok,HF.out⟩
