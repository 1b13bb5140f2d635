import Derived.Test.YtaafkokfdgfabaaGreatP15
import Derived.Test.YtaafkokfdgfabaaGreatP16
import Derived.Test.YtaafkokfdgfabaaGreatP21
import Derived.Test.YtaafkokfdgfabaaGreatP23
import Derived.Test.YtaafkokfdgfabaaGreatP29
import Derived.Test.YtaafkokfdgfabaaGreatP30
import Derived.Great.BuildSlice
set_option maxHeartbeats 8000000
set_option maxRecDepth 100000
set_option linter.unusedVariables false
set_option linter.unusedSimpArgs false
open Array renaming all_eq_true_iff_forall_mem→Iz
open Bool renaming not_false→IS,not_true→IU
open List renaming getElem?_cons_succ→IA,size_toArray→IE,replicate→IF,getElem?_append_right→IG,getElem?_append_left→IH,getElem?_eq_some_iff→II,getElem?_toArray→IJ,length_append→IL,mem_cons→IT
open Nat renaming reduceAdd→IC,le_refl→ID,mul_le_mul→IK,le_trans→IM,zero_le→IN,zero_add→IV
open Option renaming map_eq_some_iff→IB,some→IX
open Prod renaming mk→IY
namespace Go.Proofs.YtaafkokfdgfabaaGreat
open Go.RowKit
open Lib (hid)
open Sd renaming plain→IR,done→IW
open Tryz renaming prog→Iy
open Value renaming slice→IP,ownBlock→IQ
open World renaming ownsRow_nil→qq
def GK{α:Type}(T:TypeId)(sz:Nat)(cs:α→List Value)(w:World)(base g:Nat)(l:List UInt8)(r:St×List α×Bool)(e:Ending)(w':World):Prop :=
 ∃A c,e=.returned (.tuple #[.slice A r.2.1.length c,.bool r.2.2])∧w'.ownsRow w.heap.size T sz (.slice A r.2.1.length c) r.2.1.length (fT cs r.2.1)∧eY w' base g l r.1∧em l r.1∧w.grownBy w' (some g)
structure xI{α:Type}(T:TypeId)(sz:Nat)(cs:α→List Value)(one:St→St×α×Bool)(w wr:World)(base g:Nat)(l:List UInt8)(s0:St)(n:Nat)(A:Option Addr)(c:Nat)(xs:List α)(s:St):Prop where
 own:wr.ownsRow w.heap.size T sz (.slice A xs.length c) xs.length (fT cs xs)
 rd:eY wr base g l s
 ok:em l s
 gr:w.grownBy wr (some g)
 eq:fC one n s0=((fC one (n-xs.length) s).1,(fC one (n-xs.length) s).2.map (xs++·))
theorem uG{w w1 w2:World}{g:Nat}{T:TypeId}{sz n:Nat}{v:Value}{xs:List Value}(h:w.grownBy w1 (some g))(ho:w1.ownsRow w.heap.size T sz v n xs)(hg:w1.grownBy w2 v.ownBlock):w.grownBy w2 (some g):=by
 rcases ho.2 with ⟨rfl,_⟩|⟨k,cap,cur,rfl,hb,hh,_⟩
 ·exact aq h ⟨hg.os,hg.tape,hg.output,hg.size,fun j hj _=>hg.block j hj (by simp[IQ])⟩
 ·exact cG (k:=k) h hb hg
theorem Ea{w1 w2:World}{b base g:Nat}{l:List UInt8}{s:St}{T:TypeId}{sz n:Nat}{v:Value}{xs:List Value}(hr:eY w1 base g l s)(ho:w1.ownsRow b T sz v n xs)(hg:w1.grownBy w2 v.ownBlock)(h1:T≠195)(h2:T≠5):eY w2 base g l s:=by
 rcases ho.2 with ⟨rfl,_⟩|⟨k,cap,cur,rfl,hb,hh,_⟩
 ·exact hr.below ⟨hg.os,hg.tape,hg.output,hg.size,fun j hj=>hg.block j hj (by simp[IQ])⟩
 ·exact hr.off hg hh h1 h2
section
variable {α:Type} {T:TypeId} {sz:Nat} {cs:α→List Value} {one:St→St×α×Bool} {w wr w2:World} {base g:Nat} {l:List UInt8} {s0 s:St} {n:Nat} {A:Option Addr} {c:Nat} {xs:List α}
theorem xI.bad(h:xI T sz cs one w wr base g l s0 n A c xs s)(hlt:xs.length<n)(hb:((one s).2.2&&nT (one s).1)=false):fC one n s0=((one s).1,none):=by
 rw[h.eq,show n-xs.length=(n-xs.length-1)+1 by omega,fC,hb];simp
theorem xI.next(h:xI T sz cs one w wr base g l s0 n A c xs s)(hlt:xs.length<n)(hb:((one s).2.2&&nT (one s).1)=true){A':Option Addr}{c':Nat}(hown:w2.ownsRow w.heap.size T sz (.slice A' (xs.length+1) c') (xs.length+1) (fT cs xs++cs (one s).2.1))(hr:eY w2 base g l (one s).1)(hok:em l (one s).1)(hg:w.grownBy w2 (some g)) :
  xI T sz cs one w w2 base g l s0 n A' c' (xs++[(one s).2.1]) (one s).1:=by
 refine⟨by rw[IL,show fT cs (xs++[(one s).2.1])=fT cs xs++cs (one s).2.1 by simp[fT]];exact hown,hr,hok,hg,?_⟩;have e:=h.eq;rw[show n-xs.length=(n-(xs.length+1))+1 by omega,fC,hb] at e;rw[e,IL];simp only[if_true,List.length_singleton,Option.map_map];congr 2
 funext ys
 simp
theorem xI.done(h:xI T sz cs one w wr base g l s0 n A c xs s)(hge:n≤xs.length):fC one n s0=(s,some xs):=by
 rw[h.eq,show n-xs.length=0 by omega];simp[fC]
end
theorem wQ(n:Nat){ty:TypeId}{ps:Array (Nat×Operand)}{d:Option Tmp}{t:TypeId}{p:String}{af:Array Edge}{gd:Option (Nat×Bool)}{P:Program}{ops:Array Oper}{rest:List Oper}{a:Act}{w:World}{Q:Exit→Act→World→Prop}(k:wpList P ops Q (⟨d,.buildSlice ty n ps,t,p,af,gd⟩::rest) a w):wpList P ops Q (⟨d,.buildSlice ty n ps,t,p,af,gd⟩::rest) a w:=k
theorem ik{P:Program}{ops:Array Oper}{rest:List Oper}{o:Oper}{a:Act}{w:World}{Q:Exit→Act→World→Prop}(hg:o.guard=none)(t e:TypeId)(x:Operand)(ho:o.op=.buildSlice t 1 #[(0,x)])(cs:List Value)(hx:a.eval x=.agg cs.toArray)
  (hu:P.underlying t=some (.slice e)) (hsz:(P.info? e).map (·.size)=some cs.length) (hz:((P.info? e).bind (·.zero)).isSome=true) (hp:0<cs.length) (hs:cs.length≤1000)
  (h:wpList P ops Q rest (a.put o.dst (.slice (some ⟨w.heap.size,0,none⟩) 1 1)) (w.alloc (.cells cs.toArray e))):wpList P ops Q (o::rest) a w:=by
 cases hie:P.info? e with
 |none=>simp[hie] at hsz
 |some ie =>
  simp only[hie,Option.map_some,IX.injEq,Option.bind_some] at hsz hz;obtain⟨z,hzz⟩:=Option.isSome_iff_exists.1 hz;refine wpList_buildSlice hg t e 1 _ ho _ ie z hu hie hzz (by rw[hsz];omega) (by rw[hsz];omega) ?_ h;simp only[List.map_toArray,List.map_cons,List.map_nil,hx];rw[rK _ _ _ 0 _ _ (by simp[hsz]) (by simp[hsz])];obtain⟨L,hL,hLs⟩:∃L:List Value,(Array.range (1*ie.size)).map (fun i=>z.cells[i%z.cells.size]!)=L.toArray∧cs.length=L.length:=⟨_,(Array.toArray_toList).symm,by simp[hsz]⟩;rw[hL,bn hLs];rfl
theorem Fy{base g:Nat}{l:List UInt8}{s:St}{w:World}(one:St→St×dq×Bool)(F:FuncId)(hF:pW Iy F=true)(most:Nat)(hm:most≤100000)(h:eY w base g l s)(hs:em l s)(hl:l.length≤1000000000)
  (hone:∀s w,eY w base g l s→em l s→Calls Iy F #[.pointer (some ⟨g,0,none⟩)] w (wN w base g l (.tuple #[.agg (aF (one s).2.1).toArray,.bool (one s).2.2]) (one s).1)) (hsh:∀s,(aF (one s).2.1).length=3) :
  Calls Iy 97 #[.pointer (some ⟨g,0,none⟩),.int .i64 (most:Int),.func (.func F) #[] #[]] w (GK 115 3 aF w base g l (gI l one most s)):=by
 obtain⟨z0,hz0⟩:∃z,(Iy.info? 115)=some z:=⟨_,rfl⟩;obtain⟨zz,hzz,hzs,hzb,hzc⟩:∃z,z0.zero=some z∧z0.size=3∧z0.bytes≤1000∧z.cells.size=3:=by
  have e:(Iy.info? 115).bind (fun i=>i.zero.map (fun z=>(i.size,decide (i.bytes≤1000),z.cells.size)))=some (3,true,3):=by kernel_rfl
  rw[hz0] at e;obtain⟨z,h1,h2⟩:=IB.1 (show z0.zero.map _=some _ from e);simp only[IY.injEq,decide_eq_true_eq] at h2;exact⟨z,h1,h2.1,h2.2.1,h2.2.2⟩
 obtain⟨s1,n,h1⟩:∃u n,fS l s=(u,n):=⟨_,_,rfl⟩;have ok1:=kM hs;rw[h1] at ok1;have hn:n≤1152921504606846977:=by have:=congrArg Prod.snd h1;simp only[fS] at this;omega
 have hQ:gI l one most s=if n≤most then ((fC one n s1).1,(fC one n s1).2.getD [],(fC one n s1).2.isSome) else (s1,[],false):=by unfold gI;rw[h1]
 obtain⟨r,hr⟩:∃r,r=gI l one most s:=⟨_,rfl⟩;rw[←hr];rw[hQ] at hr;have Hr:=hid hr;have H:=hid h;have Hs:=hid hs;have H1:=hid h1;have Ok1:=hid ok1;have Hone:=hid hone;have Hsh:=hid hsh;have hgw:=h.lt;clear hQ hr h hs h1 ok1 hone hsh;go_enter Tryz.func97,Tryz.ntmps97
 go_wp2_with fail
 refine (gN H.out Hs.out hl).mono ?_;rw[H1.out];rintro e w2 ⟨rfl,hR,_,hg⟩;have HR:=hid hR;have Hg:=hid hg;clear hR hg H Hs;by_cases hnm:n≤most
 ·have hnmI:(n:Int)≤(most:Int):=by omega
  have H0:Hid (xI 115 3 aF one w w2 base g l s1 n none 0 [] s1):=⟨qq _ _ _ _,HR.out,Ok1.out,Hg.out,by simp⟩;clear HR Hg Ok1 H1
  go_wp2
  go_loopw [9] (fun v wr=>∃(A:Option Addr) (c:Nat) (xs:List dq) (s:St),xs.length≤n∧v=.slice A xs.length c∧Hid (xI 115 3 aF one w wr base g l s1 n A c xs s)) (fun v _=>n-(match v with | .slice _ k _=>k|_=>0))
  case atStart=>exact⟨none,0,[],s1,by simp,rfl,H0⟩
  case round =>
   obtain⟨A,c,xs,s2,hk,rfl,HL⟩:=hrel;rename World=>wr
   by_cases hlt:xs.length<n
   ·have hltI:(xs.length:Int)<(n:Int):=by omega
    obtain⟨s3,x,ok,h3⟩:∃u x b,one s2=(u,x,b):=⟨_,_,_,rfl⟩;have hone:=Hone.out s2 wr HL.out.rd HL.out.ok;have hsh:=Hsh.out s2;rw[h3] at hone hsh;have H3:=hid h3;have Hxl:=hid hsh;clear h3 hsh
    go_wp2_with fail
    rw[ul hF];simp only[Oper.upon];refine hone.mono ?_;rintro e w3 ⟨rfl,hR,hok3,hg⟩;obtain⟨k0,hk0⟩:∃cs,aj wr g 195 cs:=HL.out.rd.blkE;have hown:=HL.out.own.kept hg (aK HL.out.own hk0 (by decide));obtain⟨x4,w4,X4,Y4,T4,B4,L4⟩:=ei w3 115 (aF j5) (aF x) (by rw[Hxl.out];rfl);rw[iJ] at X4;have HO4:=hid (an hown L4.out);have HR4:=hid (hR.below L4.out);have Hg4:=hid (aq (aq HL.out.gr hg) (bE L4.out));have Hok3:=hid hok3;have Hz:Hid ((Iy.info? 115).map (·.size)=some (aF x).length):=by show _=_;rw[Hxl.out];kernel_rfl
    clear hone hR hok3 hg hk0 hown;go_upto_region 5 with (first
     |(rw[←X4.out];(with_reducible refine aR 115 ?_);refine wpList_store_mid rfl 115 (.tmp 10) (.tmp 27) rfl w3.heap.size 0 (aF x).toArray rfl rfl T4.out (by rw[IE];exact Hz.out) (gL _) ?_))
    rw[←Y4.out];clear X4 Y4 T4;have hb1:(one s2).1=s3:=by rw[H3.out]
    rcases hd:(ok&&nT s3) with _|_
    ·have hR3:Hid (r=(s3,[],false)):=by
      show _=_
      rw[Hr.out,if_pos hnm,HL.out.bad hlt (by rw[H3.out];exact hd),hb1];rfl
     rcases ok with _|_
     ·go_wp2
      go_ret2
      exact⟨none,0,by rw[hR3.out];rfl,by rw[hR3.out];exact qq _ _ _ _,by rw[hR3.out];exact HR4.out,by rw[hR3.out];exact Hok3.out,Hg4.out⟩
     ·obtain⟨q0,fa,fe⟩:=s3
      have hd':¬(fa=0∧fe=0):=fun e=>by simp[nT,e.1,e.2] at hd
      have hn:Hid (Calls Iy 93 #[.pointer (some ⟨g,0,none⟩)] w4 fun e w'=>e=.returned (.agg #[.int .i64 (fa:Int),.int .i64 (fe:Int)])∧Below w4.heap.size w4 w'):=by
       obtain⟨A,c,hr,_⟩:=HR4.out;exact eK g A l.length c q0 fa fe w4 hr
      clear hd
      go_wp2_with fail
      refine hn.out.mono ?_;rintro e w5 ⟨rfl,hb5⟩;have HR5:=hid (HR4.out.below hb5);have Hg5:=hid (aq Hg4.out (bE hb5));clear hb5 hn;by_cases e1:fa=0
      ·have e2:¬(fe:Int)=0:=by omega
       subst e1;clear hd'
       go_wp2
       go_ret2
       exact⟨none,0,by rw[hR3.out];rfl,by rw[hR3.out];exact qq _ _ _ _,by rw[hR3.out];exact HR5.out,by rw[hR3.out];exact Hok3.out,Hg5.out⟩
      ·have e2:¬(fa:Int)=0:=by omega
       clear hd'
       go_wp2
       go_ret2
       exact⟨none,0,by rw[hR3.out];rfl,by rw[hR3.out];exact qq _ _ _ _,by rw[hR3.out];exact HR5.out,by rw[hR3.out];exact Hok3.out,Hg5.out⟩
    ·obtain⟨q0,fa,fe⟩:=s3
     have hd':ok=true∧fa=0∧fe=0:=by simp[nT] at hd;exact hd
     obtain⟨rfl,rfl,rfl⟩:=hd';have hn:Hid (Calls Iy 93 #[.pointer (some ⟨g,0,none⟩)] w4 fun e w'=>e=.returned (.agg #[.int .i64 (0:Int),.int .i64 (0:Int)])∧Below w4.heap.size w4 w'):=by
      obtain⟨A,c,hr,_⟩:=HR4.out;exact eK g A l.length c q0 0 0 w4 hr
     clear hd
     go_wp2_with fail
     refine hn.out.mono ?_;rintro e w5 ⟨rfl,hb5⟩;have HO5:=hid (an HO4.out hb5);have HR5:=hid (HR4.out.below hb5);have Hg5:=hid (aq Hg4.out (bE hb5));have B5:=hid (B4.out.below hb5 B4.out.lt);have RF:=hid (ag B5.out);obtain⟨w6,hw6⟩:∃v,v=w5.alloc (.cells (aF x).toArray 115):=⟨_,rfl⟩;have B6:=hid (ag (show aj w6 w5.heap.size 115 (aF x).toArray by rw[hw6];exact aj.new w5 _ _ _ rfl));have hb6:Below w5.heap.size w5 w6:=by rw[hw6];exact (Below.refl _ _).alloc (ID _) _
     have HO6:=hid (an HO5.out hb6);have HR6:=hid (HR5.out.below hb6);have Hg6:=hid (aq Hg5.out (bE hb6));have hwb:w.heap.size≤w6.heap.size:=Hg6.out.size;have hx63:xs.length+1≤100001:=by omega
     clear hb5 hb6 hn B4 B5 HR4 HO4 Hg4 HO5 HR5 Hg5
     go_wp2_with (first
      |((with_reducible refine aB 115 ?_);refine aa (by rfl) 115 (.tmp 10) rfl w3.heap.size 0 rfl (aF x) _ RF.out dQ rfl Hz.out ?_)
      |((with_reducible refine wQ 1 ?_);refine ik rfl 33 115 (.tmp 38) rfl (aF x) rfl Tryz.underlying33 Hz.out (by kernel_rfl) (by rw[Hxl.out];decide) (by rw[Hxl.out];decide) ?_;rw[←hw6])
      |(at_builtin;refine wpList_append_own_at (P:=Iy) w6 rfl _ _ 33 rfl w.heap.size 115 z0 zz 3 z0.bytes Tryz.underlying33 hz0 hzz hzs rfl hzc (by decide) _ xs.length (fT aF xs) rfl HO6.out ⟨w5.heap.size,0,none⟩ 1 1 (aF x) rfl (by rw[Hxl.out]) (fun j u hj=>by rw[show (⟨w5.heap.size,0,none⟩:Addr).add j=⟨w5.heap.size,0+j,none⟩ by unfold Addr.add;split<;>simp_all];exact B6.out j u hj) (fun u hu=>Iz.1 (gL x) u (by simpa using hu)) (by unfold maxLen;omega) (IM (IK hx63 hzb) (by decide)) hwb ?_;intro v7 w7 hown7 hg7 _ _))
     obtain⟨A7,c7,hv7,_⟩:=cw hown7;subst hv7;have HL7:Hid (xI 115 3 aF one w w7 base g l s1 n A7 c7 (xs++[x]) (q0,0,0)):=by
      have:=HL.out.next (w2:=w7) (A':=A7) (c':=c7) hlt (by rw[H3.out];rfl) (by rw[H3.out];exact hown7) (by rw[H3.out];exact Ea HR6.out HO6.out hg7 (by decide) (by decide)) (by rw[H3.out];exact Hok3.out) (uG Hg6.out HO6.out hg7);rw[H3.out] at this;exact this
     have hx1:(xs++[x]).length=xs.length+1:=by simp
     go_roundw
     case rel=>exact⟨A7,c7,xs++[x],(q0,0,0),by rw[hx1];omega,by rw[hx1],HL7⟩
     case measure=>simp only;omega
   ·have hltI:¬(xs.length:Int)<(n:Int):=by omega
    have hR3:Hid (r=(s2,xs,true)):=by
     show _=_
     rw[Hr.out,if_pos hnm,HL.out.done (by omega)];rfl
    go_wp2
    go_ret2
    exact⟨A,c,by rw[hR3.out];rfl,by rw[hR3.out];exact HL.out.own,by rw[hR3.out];exact HL.out.rd,by rw[hR3.out];exact HL.out.ok,HL.out.gr⟩
 ·have hnmI:¬(n:Int)≤(most:Int):=by omega
  have hR3:Hid (r=(s1,[],false)):=by
   show _=_
   rw[Hr.out,if_neg hnm]
  go_wp2
  go_loopw [9] (fun v wr=>v=.slice none 0 0∧wr=w2) (fun _ _=>0)
  case atStart=>exact⟨rfl,rfl⟩
  case round =>
   obtain⟨rfl,rfl⟩:=hrel
   go_wp2
   go_ret2
   exact⟨none,0,by rw[hR3.out];rfl,by rw[hR3.out];exact qq _ _ _ _,by rw[hR3.out];exact HR.out,by rw[hR3.out];exact Ok1.out,Hg.out⟩
theorem Fz{base g:Nat}{l:List UInt8}{s:St}{w:World}(one:St→St×aU×Bool)(F:FuncId)(hF:pW Iy F=true)(most:Nat)(hm:most≤100000)(h:eY w base g l s)(hs:em l s)(hl:l.length≤1000000000)
  (hone:∀s w,eY w base g l s→em l s→Calls Iy F #[.pointer (some ⟨g,0,none⟩)] w (wN w base g l (.tuple #[.agg (ah (one s).2.1).toArray,.bool (one s).2.2]) (one s).1)) (hsh:∀s,(ah (one s).2.1).length=27) :
  Calls Iy 95 #[.pointer (some ⟨g,0,none⟩),.int .i64 (most:Int),.func (.func F) #[] #[]] w (GK 56 27 ah w base g l (gI l one most s)):=by
 obtain⟨z0,hz0⟩:∃z,(Iy.info? 56)=some z:=⟨_,rfl⟩;obtain⟨zz,hzz,hzs,hzb,hzc⟩:∃z,z0.zero=some z∧z0.size=27∧z0.bytes≤1000∧z.cells.size=27:=by
  have e:(Iy.info? 56).bind (fun i=>i.zero.map (fun z=>(i.size,decide (i.bytes≤1000),z.cells.size)))=some (27,true,27):=by kernel_rfl
  rw[hz0] at e;obtain⟨z,h1,h2⟩:=IB.1 (show z0.zero.map _=some _ from e);simp only[IY.injEq,decide_eq_true_eq] at h2;exact⟨z,h1,h2.1,h2.2.1,h2.2.2⟩
 obtain⟨s1,n,h1⟩:∃u n,fS l s=(u,n):=⟨_,_,rfl⟩;have ok1:=kM hs;rw[h1] at ok1;have hn:n≤1152921504606846977:=by have:=congrArg Prod.snd h1;simp only[fS] at this;omega
 have hQ:gI l one most s=if n≤most then ((fC one n s1).1,(fC one n s1).2.getD [],(fC one n s1).2.isSome) else (s1,[],false):=by unfold gI;rw[h1]
 obtain⟨r,hr⟩:∃r,r=gI l one most s:=⟨_,rfl⟩;rw[←hr];rw[hQ] at hr;have Hr:=hid hr;have H:=hid h;have Hs:=hid hs;have H1:=hid h1;have Ok1:=hid ok1;have Hone:=hid hone;have Hsh:=hid hsh;have hgw:=h.lt;clear hQ hr h hs h1 ok1 hone hsh;go_enter Tryz.func95,Tryz.ntmps95
 go_wp2_with fail
 refine (gN H.out Hs.out hl).mono ?_;rw[H1.out];rintro e w2 ⟨rfl,hR,_,hg⟩;have HR:=hid hR;have Hg:=hid hg;clear hR hg H Hs;by_cases hnm:n≤most
 ·have hnmI:(n:Int)≤(most:Int):=by omega
  have H0:Hid (xI 56 27 ah one w w2 base g l s1 n none 0 [] s1):=⟨qq _ _ _ _,HR.out,Ok1.out,Hg.out,by simp⟩;clear HR Hg Ok1 H1
  go_wp2
  go_loopw [9] (fun v wr=>∃(A:Option Addr) (c:Nat) (xs:List aU) (s:St),xs.length≤n∧v=.slice A xs.length c∧Hid (xI 56 27 ah one w wr base g l s1 n A c xs s)) (fun v _=>n-(match v with | .slice _ k _=>k|_=>0))
  case atStart=>exact⟨none,0,[],s1,by simp,rfl,H0⟩
  case round =>
   obtain⟨A,c,xs,s2,hk,rfl,HL⟩:=hrel;rename World=>wr
   by_cases hlt:xs.length<n
   ·have hltI:(xs.length:Int)<(n:Int):=by omega
    obtain⟨s3,x,ok,h3⟩:∃u x b,one s2=(u,x,b):=⟨_,_,_,rfl⟩;have hone:=Hone.out s2 wr HL.out.rd HL.out.ok;have hsh:=Hsh.out s2;rw[h3] at hone hsh;have H3:=hid h3;have Hxl:=hid hsh;clear h3 hsh
    go_wp2_with fail
    rw[ul hF];simp only[Oper.upon];refine hone.mono ?_;rintro e w3 ⟨rfl,hR,hok3,hg⟩;obtain⟨k0,hk0⟩:∃cs,aj wr g 195 cs:=HL.out.rd.blkE;have hown:=HL.out.own.kept hg (aK HL.out.own hk0 (by decide));obtain⟨x4,w4,X4,Y4,T4,B4,L4⟩:=ei w3 56 (ah dU) (ah x) (by rw[Hxl.out];rfl);rw[gU] at X4;have HO4:=hid (an hown L4.out);have HR4:=hid (hR.below L4.out);have Hg4:=hid (aq (aq HL.out.gr hg) (bE L4.out));have Hok3:=hid hok3;have Hz:Hid ((Iy.info? 56).map (·.size)=some (ah x).length):=by show _=_;rw[Hxl.out];kernel_rfl
    clear hone hR hok3 hg hk0 hown;go_upto_region 5 with (first
     |(rw[←X4.out];(with_reducible refine aR 56 ?_);refine wpList_store_mid rfl 56 (.tmp 10) (.tmp 27) rfl w3.heap.size 0 (ah x).toArray rfl rfl T4.out (by rw[IE];exact Hz.out) (eS _) ?_))
    rw[←Y4.out];clear X4 Y4 T4;have hb1:(one s2).1=s3:=by rw[H3.out]
    rcases hd:(ok&&nT s3) with _|_
    ·have hR3:Hid (r=(s3,[],false)):=by
      show _=_
      rw[Hr.out,if_pos hnm,HL.out.bad hlt (by rw[H3.out];exact hd),hb1];rfl
     rcases ok with _|_
     ·go_wp2
      go_ret2
      exact⟨none,0,by rw[hR3.out];rfl,by rw[hR3.out];exact qq _ _ _ _,by rw[hR3.out];exact HR4.out,by rw[hR3.out];exact Hok3.out,Hg4.out⟩
     ·obtain⟨q0,fa,fe⟩:=s3
      have hd':¬(fa=0∧fe=0):=fun e=>by simp[nT,e.1,e.2] at hd
      have hn:Hid (Calls Iy 93 #[.pointer (some ⟨g,0,none⟩)] w4 fun e w'=>e=.returned (.agg #[.int .i64 (fa:Int),.int .i64 (fe:Int)])∧Below w4.heap.size w4 w'):=by
       obtain⟨A,c,hr,_⟩:=HR4.out;exact eK g A l.length c q0 fa fe w4 hr
      clear hd
      go_wp2_with fail
      refine hn.out.mono ?_;rintro e w5 ⟨rfl,hb5⟩;have HR5:=hid (HR4.out.below hb5);have Hg5:=hid (aq Hg4.out (bE hb5));clear hb5 hn;by_cases e1:fa=0
      ·have e2:¬(fe:Int)=0:=by omega
       subst e1;clear hd'
       go_wp2
       go_ret2
       exact⟨none,0,by rw[hR3.out];rfl,by rw[hR3.out];exact qq _ _ _ _,by rw[hR3.out];exact HR5.out,by rw[hR3.out];exact Hok3.out,Hg5.out⟩
      ·have e2:¬(fa:Int)=0:=by omega
       clear hd'
       go_wp2
       go_ret2
       exact⟨none,0,by rw[hR3.out];rfl,by rw[hR3.out];exact qq _ _ _ _,by rw[hR3.out];exact HR5.out,by rw[hR3.out];exact Hok3.out,Hg5.out⟩
    ·obtain⟨q0,fa,fe⟩:=s3
     have hd':ok=true∧fa=0∧fe=0:=by simp[nT] at hd;exact hd
     obtain⟨rfl,rfl,rfl⟩:=hd';have hn:Hid (Calls Iy 93 #[.pointer (some ⟨g,0,none⟩)] w4 fun e w'=>e=.returned (.agg #[.int .i64 (0:Int),.int .i64 (0:Int)])∧Below w4.heap.size w4 w'):=by
      obtain⟨A,c,hr,_⟩:=HR4.out;exact eK g A l.length c q0 0 0 w4 hr
     clear hd
     go_wp2_with fail
     refine hn.out.mono ?_;rintro e w5 ⟨rfl,hb5⟩;have HO5:=hid (an HO4.out hb5);have HR5:=hid (HR4.out.below hb5);have Hg5:=hid (aq Hg4.out (bE hb5));have B5:=hid (B4.out.below hb5 B4.out.lt);have RF:=hid (ag B5.out);obtain⟨w6,hw6⟩:∃v,v=w5.alloc (.cells (ah x).toArray 56):=⟨_,rfl⟩;have B6:=hid (ag (show aj w6 w5.heap.size 56 (ah x).toArray by rw[hw6];exact aj.new w5 _ _ _ rfl));have hb6:Below w5.heap.size w5 w6:=by rw[hw6];exact (Below.refl _ _).alloc (ID _) _
     have HO6:=hid (an HO5.out hb6);have HR6:=hid (HR5.out.below hb6);have Hg6:=hid (aq Hg5.out (bE hb6));have hwb:w.heap.size≤w6.heap.size:=Hg6.out.size;have hx63:xs.length+1≤100001:=by omega
     clear hb5 hb6 hn B4 B5 HR4 HO4 Hg4 HO5 HR5 Hg5
     go_wp2_with (first
      |((with_reducible refine aB 56 ?_);refine aa (by rfl) 56 (.tmp 10) rfl w3.heap.size 0 rfl (ah x) _ RF.out bL rfl Hz.out ?_)
      |((with_reducible refine wQ 1 ?_);refine ik rfl 30 56 (.tmp 38) rfl (ah x) rfl Tryz.underlying30 Hz.out (by kernel_rfl) (by rw[Hxl.out];decide) (by rw[Hxl.out];decide) ?_;rw[←hw6])
      |(at_builtin;refine wpList_append_own_at (P:=Iy) w6 rfl _ _ 30 rfl w.heap.size 56 z0 zz 27 z0.bytes Tryz.underlying30 hz0 hzz hzs rfl hzc (by decide) _ xs.length (fT ah xs) rfl HO6.out ⟨w5.heap.size,0,none⟩ 1 1 (ah x) rfl (by rw[Hxl.out]) (fun j u hj=>by rw[show (⟨w5.heap.size,0,none⟩:Addr).add j=⟨w5.heap.size,0+j,none⟩ by unfold Addr.add;split<;>simp_all];exact B6.out j u hj) (fun u hu=>Iz.1 (eS x) u (by simpa using hu)) (by unfold maxLen;omega) (IM (IK hx63 hzb) (by decide)) hwb ?_;intro v7 w7 hown7 hg7 _ _))
     obtain⟨A7,c7,hv7,_⟩:=cw hown7;subst hv7;have HL7:Hid (xI 56 27 ah one w w7 base g l s1 n A7 c7 (xs++[x]) (q0,0,0)):=by
      have:=HL.out.next (w2:=w7) (A':=A7) (c':=c7) hlt (by rw[H3.out];rfl) (by rw[H3.out];exact hown7) (by rw[H3.out];exact Ea HR6.out HO6.out hg7 (by decide) (by decide)) (by rw[H3.out];exact Hok3.out) (uG Hg6.out HO6.out hg7);rw[H3.out] at this;exact this
     have hx1:(xs++[x]).length=xs.length+1:=by simp
     go_roundw
     case rel=>exact⟨A7,c7,xs++[x],(q0,0,0),by rw[hx1];omega,by rw[hx1],HL7⟩
     case measure=>simp only;omega
   ·have hltI:¬(xs.length:Int)<(n:Int):=by omega
    have hR3:Hid (r=(s2,xs,true)):=by
     show _=_
     rw[Hr.out,if_pos hnm,HL.out.done (by omega)];rfl
    go_wp2
    go_ret2
    exact⟨A,c,by rw[hR3.out];rfl,by rw[hR3.out];exact HL.out.own,by rw[hR3.out];exact HL.out.rd,by rw[hR3.out];exact HL.out.ok,HL.out.gr⟩
 ·have hnmI:¬(n:Int)≤(most:Int):=by omega
  have hR3:Hid (r=(s1,[],false)):=by
   show _=_
   rw[Hr.out,if_neg hnm]
  go_wp2
  go_loopw [9] (fun v wr=>v=.slice none 0 0∧wr=w2) (fun _ _=>0)
  case atStart=>exact⟨rfl,rfl⟩
  case round =>
   obtain⟨rfl,rfl⟩:=hrel
   go_wp2
   go_ret2
   exact⟨none,0,by rw[hR3.out];rfl,by rw[hR3.out];exact qq _ _ _ _,by rw[hR3.out];exact HR.out,by rw[hR3.out];exact Ok1.out,Hg.out⟩
theorem FA{base g:Nat}{l:List UInt8}{s:St}{w:World}(one:St→St×dE×Bool)(F:FuncId)(hF:pW Iy F=true)(most:Nat)(hm:most≤100000)(h:eY w base g l s)(hs:em l s)(hl:l.length≤1000000000)
  (hone:∀s w,eY w base g l s→em l s→Calls Iy F #[.pointer (some ⟨g,0,none⟩)] w (wN w base g l (.tuple #[.agg (aw (one s).2.1).toArray,.bool (one s).2.2]) (one s).1)) (hsh:∀s,(aw (one s).2.1).length=41) :
  Calls Iy 99 #[.pointer (some ⟨g,0,none⟩),.int .i64 (most:Int),.func (.func F) #[] #[]] w (GK 120 41 aw w base g l (gI l one most s)):=by
 obtain⟨z0,hz0⟩:∃z,(Iy.info? 120)=some z:=⟨_,rfl⟩;obtain⟨zz,hzz,hzs,hzb,hzc⟩:∃z,z0.zero=some z∧z0.size=41∧z0.bytes≤1000∧z.cells.size=41:=by
  have e:(Iy.info? 120).bind (fun i=>i.zero.map (fun z=>(i.size,decide (i.bytes≤1000),z.cells.size)))=some (41,true,41):=by kernel_rfl
  rw[hz0] at e;obtain⟨z,h1,h2⟩:=IB.1 (show z0.zero.map _=some _ from e);simp only[IY.injEq,decide_eq_true_eq] at h2;exact⟨z,h1,h2.1,h2.2.1,h2.2.2⟩
 obtain⟨s1,n,h1⟩:∃u n,fS l s=(u,n):=⟨_,_,rfl⟩;have ok1:=kM hs;rw[h1] at ok1;have hn:n≤1152921504606846977:=by have:=congrArg Prod.snd h1;simp only[fS] at this;omega
 have hQ:gI l one most s=if n≤most then ((fC one n s1).1,(fC one n s1).2.getD [],(fC one n s1).2.isSome) else (s1,[],false):=by unfold gI;rw[h1]
 obtain⟨r,hr⟩:∃r,r=gI l one most s:=⟨_,rfl⟩;rw[←hr];rw[hQ] at hr;have Hr:=hid hr;have H:=hid h;have Hs:=hid hs;have H1:=hid h1;have Ok1:=hid ok1;have Hone:=hid hone;have Hsh:=hid hsh;have hgw:=h.lt;clear hQ hr h hs h1 ok1 hone hsh;go_enter Tryz.func99,Tryz.ntmps99
 go_wp2_with fail
 refine (gN H.out Hs.out hl).mono ?_;rw[H1.out];rintro e w2 ⟨rfl,hR,_,hg⟩;have HR:=hid hR;have Hg:=hid hg;clear hR hg H Hs;by_cases hnm:n≤most
 ·have hnmI:(n:Int)≤(most:Int):=by omega
  have H0:Hid (xI 120 41 aw one w w2 base g l s1 n none 0 [] s1):=⟨qq _ _ _ _,HR.out,Ok1.out,Hg.out,by simp⟩;clear HR Hg Ok1 H1
  go_wp2
  go_loopw [9] (fun v wr=>∃(A:Option Addr) (c:Nat) (xs:List dE) (s:St),xs.length≤n∧v=.slice A xs.length c∧Hid (xI 120 41 aw one w wr base g l s1 n A c xs s)) (fun v _=>n-(match v with | .slice _ k _=>k|_=>0))
  case atStart=>exact⟨none,0,[],s1,by simp,rfl,H0⟩
  case round =>
   obtain⟨A,c,xs,s2,hk,rfl,HL⟩:=hrel;rename World=>wr
   by_cases hlt:xs.length<n
   ·have hltI:(xs.length:Int)<(n:Int):=by omega
    obtain⟨s3,x,ok,h3⟩:∃u x b,one s2=(u,x,b):=⟨_,_,_,rfl⟩;have hone:=Hone.out s2 wr HL.out.rd HL.out.ok;have hsh:=Hsh.out s2;rw[h3] at hone hsh;have H3:=hid h3;have Hxl:=hid hsh;clear h3 hsh
    go_wp2_with fail
    rw[ul hF];simp only[Oper.upon];refine hone.mono ?_;rintro e w3 ⟨rfl,hR,hok3,hg⟩;obtain⟨k0,hk0⟩:∃cs,aj wr g 195 cs:=HL.out.rd.blkE;have hown:=HL.out.own.kept hg (aK HL.out.own hk0 (by decide));obtain⟨x4,w4,X4,Y4,T4,B4,L4⟩:=ei w3 120 (aw jX) (aw x) (by rw[Hxl.out];rfl);rw[jo] at X4;have HO4:=hid (an hown L4.out);have HR4:=hid (hR.below L4.out);have Hg4:=hid (aq (aq HL.out.gr hg) (bE L4.out));have Hok3:=hid hok3;have Hz:Hid ((Iy.info? 120).map (·.size)=some (aw x).length):=by show _=_;rw[Hxl.out];kernel_rfl
    clear hone hR hok3 hg hk0 hown;go_upto_region 5 with (first
     |(rw[←X4.out];(with_reducible refine aR 120 ?_);refine wpList_store_mid rfl 120 (.tmp 10) (.tmp 27) rfl w3.heap.size 0 (aw x).toArray rfl rfl T4.out (by rw[IE];exact Hz.out) (ij _) ?_))
    rw[←Y4.out];clear X4 Y4 T4;have hb1:(one s2).1=s3:=by rw[H3.out]
    rcases hd:(ok&&nT s3) with _|_
    ·have hR3:Hid (r=(s3,[],false)):=by
      show _=_
      rw[Hr.out,if_pos hnm,HL.out.bad hlt (by rw[H3.out];exact hd),hb1];rfl
     rcases ok with _|_
     ·go_wp2
      go_ret2
      exact⟨none,0,by rw[hR3.out];rfl,by rw[hR3.out];exact qq _ _ _ _,by rw[hR3.out];exact HR4.out,by rw[hR3.out];exact Hok3.out,Hg4.out⟩
     ·obtain⟨q0,fa,fe⟩:=s3
      have hd':¬(fa=0∧fe=0):=fun e=>by simp[nT,e.1,e.2] at hd
      have hn:Hid (Calls Iy 93 #[.pointer (some ⟨g,0,none⟩)] w4 fun e w'=>e=.returned (.agg #[.int .i64 (fa:Int),.int .i64 (fe:Int)])∧Below w4.heap.size w4 w'):=by
       obtain⟨A,c,hr,_⟩:=HR4.out;exact eK g A l.length c q0 fa fe w4 hr
      clear hd
      go_wp2_with fail
      refine hn.out.mono ?_;rintro e w5 ⟨rfl,hb5⟩;have HR5:=hid (HR4.out.below hb5);have Hg5:=hid (aq Hg4.out (bE hb5));clear hb5 hn;by_cases e1:fa=0
      ·have e2:¬(fe:Int)=0:=by omega
       subst e1;clear hd'
       go_wp2
       go_ret2
       exact⟨none,0,by rw[hR3.out];rfl,by rw[hR3.out];exact qq _ _ _ _,by rw[hR3.out];exact HR5.out,by rw[hR3.out];exact Hok3.out,Hg5.out⟩
      ·have e2:¬(fa:Int)=0:=by omega
       clear hd'
       go_wp2
       go_ret2
       exact⟨none,0,by rw[hR3.out];rfl,by rw[hR3.out];exact qq _ _ _ _,by rw[hR3.out];exact HR5.out,by rw[hR3.out];exact Hok3.out,Hg5.out⟩
    ·obtain⟨q0,fa,fe⟩:=s3
     have hd':ok=true∧fa=0∧fe=0:=by simp[nT] at hd;exact hd
     obtain⟨rfl,rfl,rfl⟩:=hd';have hn:Hid (Calls Iy 93 #[.pointer (some ⟨g,0,none⟩)] w4 fun e w'=>e=.returned (.agg #[.int .i64 (0:Int),.int .i64 (0:Int)])∧Below w4.heap.size w4 w'):=by
      obtain⟨A,c,hr,_⟩:=HR4.out;exact eK g A l.length c q0 0 0 w4 hr
     clear hd
     go_wp2_with fail
     refine hn.out.mono ?_;rintro e w5 ⟨rfl,hb5⟩;have HO5:=hid (an HO4.out hb5);have HR5:=hid (HR4.out.below hb5);have Hg5:=hid (aq Hg4.out (bE hb5));have B5:=hid (B4.out.below hb5 B4.out.lt);have RF:=hid (ag B5.out);obtain⟨w6,hw6⟩:∃v,v=w5.alloc (.cells (aw x).toArray 120):=⟨_,rfl⟩;have B6:=hid (ag (show aj w6 w5.heap.size 120 (aw x).toArray by rw[hw6];exact aj.new w5 _ _ _ rfl));have hb6:Below w5.heap.size w5 w6:=by rw[hw6];exact (Below.refl _ _).alloc (ID _) _
     have HO6:=hid (an HO5.out hb6);have HR6:=hid (HR5.out.below hb6);have Hg6:=hid (aq Hg5.out (bE hb6));have hwb:w.heap.size≤w6.heap.size:=Hg6.out.size;have hx63:xs.length+1≤100001:=by omega
     clear hb5 hb6 hn B4 B5 HR4 HO4 Hg4 HO5 HR5 Hg5
     go_wp2_with (first
      |((with_reducible refine aB 120 ?_);refine aa (by rfl) 120 (.tmp 10) rfl w3.heap.size 0 rfl (aw x) _ RF.out bI rfl Hz.out ?_)
      |((with_reducible refine wQ 1 ?_);refine ik rfl 34 120 (.tmp 38) rfl (aw x) rfl Tryz.underlying34 Hz.out (by kernel_rfl) (by rw[Hxl.out];decide) (by rw[Hxl.out];decide) ?_;rw[←hw6])
      |(at_builtin;refine wpList_append_own_at (P:=Iy) w6 rfl _ _ 34 rfl w.heap.size 120 z0 zz 41 z0.bytes Tryz.underlying34 hz0 hzz hzs rfl hzc (by decide) _ xs.length (fT aw xs) rfl HO6.out ⟨w5.heap.size,0,none⟩ 1 1 (aw x) rfl (by rw[Hxl.out]) (fun j u hj=>by rw[show (⟨w5.heap.size,0,none⟩:Addr).add j=⟨w5.heap.size,0+j,none⟩ by unfold Addr.add;split<;>simp_all];exact B6.out j u hj) (fun u hu=>Iz.1 (ij x) u (by simpa using hu)) (by unfold maxLen;omega) (IM (IK hx63 hzb) (by decide)) hwb ?_;intro v7 w7 hown7 hg7 _ _))
     obtain⟨A7,c7,hv7,_⟩:=cw hown7;subst hv7;have HL7:Hid (xI 120 41 aw one w w7 base g l s1 n A7 c7 (xs++[x]) (q0,0,0)):=by
      have:=HL.out.next (w2:=w7) (A':=A7) (c':=c7) hlt (by rw[H3.out];rfl) (by rw[H3.out];exact hown7) (by rw[H3.out];exact Ea HR6.out HO6.out hg7 (by decide) (by decide)) (by rw[H3.out];exact Hok3.out) (uG Hg6.out HO6.out hg7);rw[H3.out] at this;exact this
     have hx1:(xs++[x]).length=xs.length+1:=by simp
     go_roundw
     case rel=>exact⟨A7,c7,xs++[x],(q0,0,0),by rw[hx1];omega,by rw[hx1],HL7⟩
     case measure=>simp only;omega
   ·have hltI:¬(xs.length:Int)<(n:Int):=by omega
    have hR3:Hid (r=(s2,xs,true)):=by
     show _=_
     rw[Hr.out,if_pos hnm,HL.out.done (by omega)];rfl
    go_wp2
    go_ret2
    exact⟨A,c,by rw[hR3.out];rfl,by rw[hR3.out];exact HL.out.own,by rw[hR3.out];exact HL.out.rd,by rw[hR3.out];exact HL.out.ok,HL.out.gr⟩
 ·have hnmI:¬(n:Int)≤(most:Int):=by omega
  have hR3:Hid (r=(s1,[],false)):=by
   show _=_
   rw[Hr.out,if_neg hnm]
  go_wp2
  go_loopw [9] (fun v wr=>v=.slice none 0 0∧wr=w2) (fun _ _=>0)
  case atStart=>exact⟨rfl,rfl⟩
  case round =>
   obtain⟨rfl,rfl⟩:=hrel
   go_wp2
   go_ret2
   exact⟨none,0,by rw[hR3.out];rfl,by rw[hR3.out];exact qq _ _ _ _,by rw[hR3.out];exact HR.out,by rw[hR3.out];exact Ok1.out,Hg.out⟩
theorem uH(l:List UInt8)(s:St):(cF l s 255).2.length≤255:=by
 unfold cF;split
 ·simp
 ·rename_i h
  have:=ju l (dJ l s).1 (dJ l s).2.2 (dJ l s).2.1;omega
theorem wR{α:Type}{one:St→St×α×Bool}{P:α→Prop}(h:∀s,P (one s).2.1):∀(k:Nat) (s:St) (xs:List α),(fC one k s).2=some xs→xs.length=k∧∀x∈xs,P x
 |0,s,xs,e=>by simp only[fC,IX.injEq] at e;subst e;simp
 |k+1,s,xs,e=>by
  unfold fC at e;split at e
  ·obtain⟨ys,h1,rfl⟩:=IB.1 e
   obtain⟨h2,h3⟩:=wR h k _ ys h1;refine⟨by simp[h2],fun x hx=>?_⟩;rcases IT.1 hx with rfl|hx
   ·exact h s
   ·exact h3 x hx
  ·cases e
theorem rZ{α:Type}{l:List UInt8}{one:St→St×α×Bool}{most:Nat}{s:St}{P:α→Prop}(h:∀s,P (one s).2.1):(gI l one most s).2.1.length≤most∧∀x∈(gI l one most s).2.1,P x:=by
 unfold gI;split
 ·rename_i hm
  rcases he:(fC one (fS l s).2 (fS l s).1).2 with _|xs
  ·simp
  ·obtain⟨h1,h2⟩:=wR h _ _ xs he
   simp only[Option.getD_some];exact⟨by omega,h2⟩
 ·simp
theorem oA(l:List UInt8):∀(k:Nat) (s:St),(jU l (k+1) s).1=(fS l (jU l k s).1).1∧(jU l (k+1) s).2=(jU l k s).2++[(fS l (jU l k s).1).2]
 |0,s=>⟨rfl,rfl⟩
 |k+1,s=>by
  have h:=oA l k (fS l s).1;exact⟨h.1,by rw[jU];show (fS l s).2::_=_;rw[h.2];rfl⟩
theorem uI{α:Type}{cs:α→List Value}{sz:Nat}{w:World}{base:Nat}{T:TypeId}{A:Option Addr}{c:Nat}{xs:List α}(h:w.ownsRow base T sz (.slice A xs.length c) xs.length (fT cs xs))(hs:∀x∈xs,(cs x).length=sz):RW cs sz w w.heap.size A xs:=fun hn=>by
 obtain⟨g,cap,hv,_,hlt⟩:=h.form (by omega);have hA:A=some ⟨g,0,none⟩:=by injection hv
 subst hA;refine⟨g,0,rfl,hlt,fun j v hj i u hu=>?_⟩;have:=h.cells (g:=g) rfl (j*sz+i) u (Dh (P:=fun x=>(cs x).length=sz) (fun _ h=>h) hs hj hu);rw[IV];rw[show (⟨g,0,none⟩:Addr).add (j*sz+i)=⟨g,j*sz+i,none⟩ by unfold Addr.add;split<;>simp_all] at this;exact this
structure iX(w:World)(base:Nat)(x:nJ)(s:bA):Prop where
 b:w.ownsRow base 56 27 (.slice x.b s.pool.backs.length x.cb) s.pool.backs.length (fT ah s.pool.backs)
 h:w.ownsRow base 115 3 (.slice x.h s.healths.length x.ch) s.healths.length (fT aF s.healths)
 f:w.ownsRow base 120 41 (.slice x.f s.flows.length x.cf) s.flows.length (fT aw s.flows)
 ok:iU s
 nb:s.pool.backs.length≤1024∧∀b∈s.pool.backs,b.name.length≤255
 nh:s.healths.length≤1024∧∀h∈s.healths,h.name.length≤255
 nf:s.flows.length≤4096∧∀f∈s.flows,f.name.length≤255
theorem iX.held{w:World}{base:Nat}{x:nJ}{s:bA}(h:iX w base x s):md w w.heap.size x s :=
 ⟨⟨uI h.b fun b hb=>bu (h.ok.backs b hb),uI h.h fun _ _=>rfl,uI h.f fun f hf=>ib (h.ok.flows f hf)⟩,h.ok,⟨jb h.b,by have:=h.nb.1;omega⟩,⟨jb h.h,by have:=h.nh.1;omega⟩,⟨jb h.f,by have:=h.nf.1;omega⟩,
  fun b hb=>by have:=h.nb.2 b hb;omega,fun b hb=>by have:=h.nh.2 b hb;omega,fun b hb=>by have:=h.nf.2 b hb;omega⟩
theorem iX.below{w w':World}{base:Nat}{x:nJ}{s:bA}(h:iX w base x s)(hb:Below w.heap.size w w'):iX w' base x s:=⟨an h.b hb,an h.h hb,an h.f hb,h.ok,h.nb,h.nh,h.nf⟩
theorem iX.more{w:World}{base base':Nat}{x:nJ}{s:bA}(h:iX w base x s)(hb:base'≤base):iX w base' x s:=⟨bP h.b hb,bP h.h hb,bP h.f hb,h.ok,h.nb,h.nh,h.nf⟩
def gO:nJ:=⟨none,0,none,0,none,0⟩
theorem iX.zero(w:World)(base:Nat):iX w base gO dl:=⟨qq _ _ _ _,qq _ _ _ _,qq _ _ _ _,jm,by simp[dl],by simp[dl],by simp[dl]⟩
theorem r5(l:List UInt8)(s:St):au (gA l s).2.1∧(gA l s).2.1.name.length≤255:=by
 unfold gA fN;simp only;split
 ·exact⟨mj l s false,by simp only[eg];exact uH l s⟩
 ·exact⟨aE,by decide⟩
theorem yU(l:List UInt8)(s:St):(gz l s).2.1.name.length≤255:=by simp only[gz];exact uH l s
theorem wS(l:List UInt8)(s:St):cy (jV l s).2.1.key∧(jV l s).2.1.name.length≤255:=⟨by simp only[jV];exact tu l s,by have h:=uH l (p6 l s).1;simpa only[jV] using h⟩
theorem wT{base g:Nat}{l:List UInt8}(hl:l.length≤1000000000)(s:St)(w:World)(h:eY w base g l s)(hs:em l s) :
  Calls Iy 96 #[.pointer (some ⟨g,0,none⟩)] w (wN w base g l (.tuple #[.agg (ah (gA l s).2.1).toArray,.bool (gA l s).2.2]) (gA l s).1):=by
 simp only[gA];have hc:=Bm base g l s w h hs hl;unfold qM at hc;generalize (fN l s)=tb at hc ⊢
 generalize (eg l s false).1=q at hc ⊢
 refine Calls.mono hc fun e w' h=>?_
 obtain⟨h0,h1,h2,h3⟩:=h;exact⟨h0,h1,h2,h3.1,h3.2.1,h3.2.2.1,h3.2.2.2.1,fun k hk hne=>h3.2.2.2.2 k hk (fun e=>hne (by rw[e])) (by simp)⟩
def uJ(w:World)(l:List UInt8)(e:Ending)(w':World):Prop :=
 Below w.heap.size w w'∧(jk l=none→e=.returned (.tuple #[.agg (cU gO dl).toArray,.int .i64 3]))∧∀s,jk l=some s→∃x,e=.returned (.tuple #[.agg (cU x s).toArray,.int .i64 0])∧iX w' w.heap.size x s
def nv(n:Nat):Value:=.int .i64 (n:Int)
def wU(ver b h f:Value)(ns:List Nat)(k:Nat):List Value:=ver::b::h::f::(ns.map nv++IF k (zv 0))
theorem nA(ver b h f:Value)(ns:List Nat)(k:Nat):wU ver b h f ns (k+1)=(ver::b::h::f::ns.map nv)++zv 0::IF k (zv 0):=by simp[wU,List.replicate_succ]
theorem uK(ver b h f:Value)(ns:List Nat)(n k:Nat):(ver::b::h::f::ns.map nv)++nv n::IF k (zv 0)=wU ver b h f (ns++[n]) k:=by simp[wU]
structure xJ(w wr:World)(g bx:Nat)(l:List UInt8)(s:St)(cs:List Value):Prop where
 rd:eY wr (w.heap.size+2) g l s
 ok:em l s
 res:aj wr w.heap.size 37 (cU gO dl).toArray
 box:aj wr bx 37 cs.toArray
 bel:Below w.heap.size w wr
 gn:w.heap.size≠g∧bx≠g∧w.heap.size≠bx∧w.heap.size≤g∧w.heap.size≤bx
section
variable {w wr w':World} {g bx:Nat} {l:List UInt8} {s s':St} {cs cs':List Value}
theorem xJ.after(h:xJ w wr g bx l s cs)(hr:eY w' (w.heap.size+2) g l s')(ok:em l s')(hg:wr.grownBy w' (some g)):xJ w w' g bx l s' cs :=
 ⟨hr,ok,h.res.grown hg (by simpa using h.gn.1),h.box.grown hg (by simpa using h.gn.2.1),h.bel.grown hg h.bel.size (fun k hk=>by injection hk with hk;have:=h.gn.2.2.2.1;omega),h.gn⟩
theorem xJ.below(h:xJ w wr g bx l s cs)(hb:Below wr.heap.size wr w'):xJ w w' g bx l s cs :=
 ⟨h.rd.below hb,h.ok,h.res.below hb h.res.lt,h.box.below hb h.box.lt,h.bel.trans (hb.mono h.bel.size),h.gn⟩
theorem xJ.set_(h:xJ w wr g bx l s cs){pre post:List Value}{u v:Value}{n:Nat}(hcs:cs=pre++u::post)(hn:pre.length=n)(hd:pre++v::post=cs'):xJ w (wr.setCell ⟨bx,n,none⟩ v) g bx l s cs':=by
 have h1:=(mp h.box hcs hn).2.2 v;have hg:=a8 wr ⟨bx,n,none⟩ v;rw[hd] at h1;exact⟨h.rd.off hg h.box (by decide) (by decide),h.ok,h.res.grown hg (by simpa using h.gn.2.2.1),h1,h.bel.grown hg h.bel.size (fun k hk=>by injection hk with hk;have e:bx=k:=hk;have:=h.gn.2.2.2.2;omega),h.gn⟩
theorem xJ.cell(h:xJ w wr g bx l s cs){pre post:List Value}{u:Value}{n:Nat}(hcs:cs=pre++u::post)(hn:pre.length=n):wr.cell? ⟨bx,n,none⟩=some u∧wr.frozen? ⟨bx,n,none⟩=false:=⟨(mp h.box hcs hn).1,(mp h.box hcs hn).2.1⟩
end
theorem uL(x:nJ)(s:bA):(cU x s).toArray.all (·.oneCell')=true:=all_oneCell_toArray (by
 intro u hu;simp only[cU,IT,List.mem_map] at hu;rcases hu with rfl|rfl|rfl|rfl|rfl|rfl|⟨z,_,rfl⟩<;>rfl)
theorem Ao:(cU gO dl).toArray=(#[.int .i64 0,.slice none 0 0,.slice none 0 0,.slice none 0 0,.int .i64 0,.int .i64 0,.int .i64 0,.int .i64 0,.int .i64 0,.int .i64 0,.int .i64 0,.int .i64 0,.int .i64 0,.int .i64 0,.int .i64 0,.int .i64 0,.int .i64 0]:Array Value):=rfl
theorem GL{ns:List Nat}(h:ns.length=13)(v:Nat)(x:nJ)(bs:List aU)(hs:List dq)(fs:List dE):wU (nv v) (.slice x.b bs.length x.cb) (.slice x.h hs.length x.ch) (.slice x.f fs.length x.cf) ns 0=cU x (ux (ns++[v]) bs hs fs):=by
 match ns,h with
 |[a,b,c,d,e,f,g,i,j,k,m,n,o],_=>rfl
structure Ca(w wr:World)(g bx:Nat)(l:List UInt8)(s:St)(cs:List Value)(x:nJ)(bs:List aU)(hs:List dq)(fs:List dE):Prop where
 r:xJ w wr g bx l s cs
 b:wr.ownsRow w.heap.size 56 27 (.slice x.b bs.length x.cb) bs.length (fT ah bs)
 h:wr.ownsRow w.heap.size 115 3 (.slice x.h hs.length x.ch) hs.length (fT aF hs)
 f:wr.ownsRow w.heap.size 120 41 (.slice x.f fs.length x.cf) fs.length (fT aw fs)
section
variable {w wr w':World} {g bx:Nat} {l:List UInt8} {s s':St} {cs cs':List Value} {x:nJ} {bs:List aU} {hs:List dq} {fs:List dE}
theorem Ca.after(h:Ca w wr g bx l s cs x bs hs fs)(hr:eY w' (w.heap.size+2) g l s')(ok:em l s')(hg:wr.grownBy w' (some g)):Ca w w' g bx l s' cs x bs hs fs:=by
 obtain⟨k,hb⟩:=h.r.rd.blkE;exact⟨h.r.after hr ok hg,h.b.kept hg (aK h.b hb (by decide)),h.h.kept hg (aK h.h hb (by decide)),h.f.kept hg (aK h.f hb (by decide))⟩
theorem Ca.below(h:Ca w wr g bx l s cs x bs hs fs)(hb:Below wr.heap.size wr w'):Ca w w' g bx l s cs x bs hs fs:=⟨h.r.below hb,an h.b hb,an h.h hb,an h.f hb⟩
theorem Ca.set_(h:Ca w wr g bx l s cs x bs hs fs){pre post:List Value}{u v:Value}{n:Nat}(hcs:cs=pre++u::post)(hn:pre.length=n)(hd:pre++v::post=cs'):Ca w (wr.setCell ⟨bx,n,none⟩ v) g bx l s cs' x bs hs fs:=by
 have hg:=a8 wr ⟨bx,n,none⟩ v;exact⟨h.r.set_ hcs hn hd,h.b.kept hg (aK h.b h.r.box (by decide)),h.h.kept hg (aK h.h h.r.box (by decide)),h.f.kept hg (aK h.f h.r.box (by decide))⟩
end
theorem wV(A:Option Addr)(n c:Nat)(l:List UInt8)(w:World)(hn:n=l.length)(hb:BS w w.heap.size A l)(hl:n≤1000000000) :
  Calls Iy 45 #[.slice A n c] w (uJ w l):=by
 subst hn;obtain⟨W1,hW1⟩:∃W,W=w.alloc (.cells (cU gO dl).toArray 37):=⟨_,rfl⟩;obtain⟨W,hW⟩:∃W,W=W1.alloc (.cells (cU gO dl).toArray 37):=⟨_,rfl⟩;have hs1:W1.heap.size=w.heap.size+1:=by rw[hW1];simp
 have hs2:W.heap.size=w.heap.size+2:=by rw[hW];simp[hs1]
 have hX1:aj W1 w.heap.size 37 (cU gO dl).toArray:=by rw[hW1];exact aj.new w _ _ _ rfl
 have hY:aj W w.heap.size 37 (cU gO dl).toArray:=by rw[hW];exact hX1.alloc _
 have hX:aj W (w.heap.size+1) 37 (cU gO dl).toArray:=by rw[hW];exact aj.new W1 _ _ _ hs1
 have HB:Hid (Below w.heap.size w W):=by rw[hW,hW1];exact ((Below.refl _ _).alloc (ID _) _).alloc (by simp) _
 obtain⟨bx,hbx⟩:∃b,b=w.heap.size+1:=⟨_,rfl⟩;rw[←hbx] at hX;have HA:=hid ((hb.below HB.out).more HB.out.size);rw[Ao] at hW1 hW;have HW1:=hid hW1;have HW:=hid hW;have HX:=hid hX;have HY:=hid hY;have Hbx:=hid hbx;have Hs2:=hid hs2;clear hW1 hW hX hY hbx hs1 hs2 hX1 hb;go_enter Tryz.func45,Tryz.ntmps45
 go_upto_region 2 with fail
 rw[←HW1.out,←HW.out,←Hbx.out];clear HW HW1
 go_wp2_with fail
 refine (mX A l.length c l W rfl HA.out hl).mono ?_;rintro e w2 ⟨g,rfl,hg1,hg2,hr,hbel⟩;have H2:Hid (xJ w w2 g bx l (0,0,0) (wU (zv 0) (.slice none 0 0) (.slice none 0 0) (.slice none 0 0) [] 13)):=by
  have e:=Hbx.out;have e2:=Hs2.out;refine⟨by rw[e2] at hr;exact hr,⟨IN _,IN _,IN _⟩,HY.out.below hbel HY.out.lt,HX.out.below hbel HX.out.lt,HB.out.trans (hbel.mono HB.out.size),?_⟩;omega
 clear hg1 hg2 hr hbel HA HX HY HB;obtain⟨S,hS⟩:∃S:Nat→St,∀k,S k=(jU l k (0,0,0)).1:=⟨_,fun _=>rfl⟩;obtain⟨N,hN⟩:∃N:Nat→Nat,∀k,N k=(fS l (S k)).2:=⟨_,fun _=>rfl⟩;obtain⟨NS,hNS⟩:∃NS:Nat→List Nat,∀k,NS k=(jU l k (0,0,0)).2:=⟨_,fun _=>rfl⟩;have HSs:Hid (∀k,(fS l (S k)).1=S (k+1)):=fun k=>by rw[hS,hS];exact (oA l k _).1.symm
 have HNs:Hid (∀k,NS k++[N k]=NS (k+1)):=fun k=>by rw[hNS,hNS,hN,hS];exact (oA l k _).2.symm
 have HNl:Hid (∀k,(NS k).length=k):=fun k=>by rw[hNS];exact tt k _
 have HN:=hid hN;have HNS:=hid hNS;have HS:=hid hS;have H20:Hid (xJ w w2 g bx l (S 0) (wU (zv 0) (.slice none 0 0) (.slice none 0 0) (.slice none 0 0) (NS 0) 13)):=by rw[hS,hNS];exact H2
 clear hS hN hNS H2
 go_wp2_with fail
 refine (gN H20.out.rd H20.out.ok hl).mono ?_;rw[HSs.out,←HN.out];rintro e w3 ⟨rfl,hr,ok,hg⟩;have H3:=hid (H20.out.after hr ok hg);clear hr ok hg H20
 go_wp2_with fail
 refine (gN H3.out.rd H3.out.ok hl).mono ?_;rw[HSs.out,←HN.out];rintro e w4 ⟨rfl,hr,ok,hg⟩;have h4:=H3.out.after hr ok hg;have e0:NS 0=[]:=List.eq_nil_of_length_eq_zero (HNl.out 0);rw[e0] at h4;have q4:=h4.cell (nA _ _ _ _ [] 12) (n:=4) rfl;have h5:=h4.set_ (v:=nv (N 0)) (nA _ _ _ _ [] 12) (n:=4) rfl (uK _ _ _ _ _ _ _);have q5:=h5.cell (nA _ _ _ _ _ 11) (n:=5) rfl;have h6:=h5.set_ (v:=nv (N 1)) (nA _ _ _ _ _ 11) (n:=5) rfl (uK _ _ _ _ _ _ _);obtain⟨w5,hw5⟩:∃v,v=(w4.setCell ⟨bx,4,none⟩ (nv (N 0))).setCell ⟨bx,5,none⟩ (nv (N 1)):=⟨_,rfl⟩;rw[←hw5] at h6;have c4:=q4.1;have f4:=q4.2;have c5:=(h4.cell (pre:=[zv 0,.slice none 0 0,.slice none 0 0,.slice none 0 0,zv 0]) (u:=zv 0) (post:=IF 11 (zv 0)) (n:=5) rfl rfl).1;have f5:=q5.2;unfold nv at hw5 f5;have e2:(([]:List Nat)++[N 0])++[N 1]=NS 2 :=by have h1:=HNs.out 0;have h2:=HNs.out 1;rw[e0] at h1;rw[h1];exact h2
 rw[e2] at h6;have H5:=hid h6;clear h4 h5 h6 q4 q5 e0 e2 H3;go_upto_region 4 with fail
 rw[←hw5];clear hw5 c4 c5 f4 f5
 go_wp2
 go_loopw [18] (fun i wr=>∃k:Nat,k≤11∧i=.int .i64 (k:Int)∧Hid (xJ w wr g bx l (S (k+2)) (wU (zv 0) (.slice none 0 0) (.slice none 0 0) (.slice none 0 0) (NS (k+2)) (11-k)))) (fun i _=>11-(intOf i).toNat)
 case atStart=>exact⟨0,by omega,rfl,H5⟩
 case round =>
  obtain⟨k,hk,rfl,HK⟩:=hrel;rename World=>wr
  by_cases hlt:k<11
  ·have hltI:(k:Int)<11:=by omega
   have hk0:(0:Int)≤(k:Int):=by omega
   go_wp2_with fail
   refine (gN HK.out.rd HK.out.ok hl).mono ?_;rw[HSs.out,←HN.out];rintro e w6 ⟨rfl,hr,ok,hg⟩;have h6:=HK.out.after hr ok hg;rw[show 11-k=(10-k)+1 by omega] at h6;have hpl:(zv 0::IP none 0 0::IP none 0 0::IP none 0 0::(NS (k+2)).map nv).length=6+k:=by simp[HNl.out];omega
   have q6:=h6.cell (nA _ _ _ _ _ _) hpl;have h7:=h6.set_ (v:=nv (N (k+2))) (nA _ _ _ _ _ _) hpl (uK _ _ _ _ _ _ _);rw[HNs.out] at h7;obtain⟨w7,hw7⟩:∃v,v=w6.setCell ⟨bx,6+k,none⟩ (nv (N (k+2))):=⟨_,rfl⟩;rw[←hw7] at h7;have H7:Hid (xJ w w7 g bx l (S (k+1+2)) (wU (zv 0) (.slice none 0 0) (.slice none 0 0) (.slice none 0 0) (NS (k+1+2)) (11-(k+1)))):=by
    rw[show 11-(k+1)=10-k by omega];exact h7
   have c6:=q6.1;have f6:=q6.2;unfold nv at hw7;clear hr ok hg h6 h7 hpl q6
   go_wp2
   rw[←hw7];go_roundw
   case rel=>exact⟨k+1,by omega,rfl,H7⟩
   case measure=>simp[intOf];omega
  ·have hltI:¬(k:Int)<11:=by omega
   obtain rfl:k=11:=by omega
   have HO:Hid (Ca w wr g bx l (S 13) (wU (zv 0) (.slice none 0 0) (.slice none 0 0) (.slice none 0 0) (NS 13) 0) gO [] [] []):=⟨HK.out,qq _ _ _ _,qq _ _ _ _,qq _ _ _ _⟩;clear HK H5
   go_wp2_with fail
   refine (gN HO.out.r.rd HO.out.r.ok hl).mono ?_;rw[HSs.out,←HN.out];rintro e w6 ⟨rfl,hr,ok,hg⟩;have h6:=HO.out.after hr ok hg;have q6:=h6.r.cell (pre:=[]) rfl (n:=0) rfl;have h7:=h6.set_ (v:=nv (N 13)) (pre:=[]) rfl (n:=0) rfl (cs':=wU (nv (N 13)) (.slice none 0 0) (.slice none 0 0) (.slice none 0 0) (NS 13) 0) rfl;obtain⟨w7,hw7⟩:∃v,v=w6.setCell ⟨bx,0,none⟩ (nv (N 13)):=⟨_,rfl⟩;rw[←hw7] at h7;have H7:=hid h7;have c6:=q6.1;have f6:=q6.2;unfold nv at hw7;clear hr ok hg h6 h7 q6 HO;go_upto_region 10 with fail
   rw[←hw7];clear hw7 c6 f6;obtain⟨sA,bs,ra,hsA⟩:∃u v b,gI l (gA l) 1024 (S 14)=(u,v,b):=⟨_,_,_,rfl⟩;have PmsA:=hid (rZ (l:=l) (one:=gA l) (most:=1024) (s:=S 14) (P:=fun b=>au b∧b.name.length≤255) (r5 l));rw[hsA] at PmsA;have HsA:=hid hsA
   go_wp2_with fail
   refine (Fz (gA l) 96 (by kernel_rfl) 1024 (by decide) H7.out.r.rd H7.out.r.ok hl (fun s w h hs=>wT hl s w h hs) (fun s=>bu (r5 l s).1)).mono ?_;rw[HsA.out];rintro e w8 ⟨AsA,csA,rfl,hown,hr,ok,hg⟩;have hx:=H7.out.after hr ok hg;have hown:=bP hown H7.out.r.bel.size;have q6:=hx.r.cell (pre:=[nv (N 13)]) rfl (n:=1) rfl;have hz:Ca w w8 g bx l sA (wU (nv (N 13)) (.slice none 0 0) (.slice none 0 0) (.slice none 0 0) (NS 13) 0) ⟨AsA,csA,none,0,none,0⟩ bs [] []:=⟨hx.r,hown,hx.h,hx.f⟩;have h7:=hz.set_ (v:=.slice AsA bs.length csA) (pre:=[nv (N 13)]) rfl (n:=1) rfl (cs':=wU (nv (N 13)) (.slice AsA bs.length csA) (.slice none 0 0) (.slice none 0 0) (NS 13) 0) rfl;obtain⟨w8b,hw7⟩:∃v,v=w8.setCell ⟨bx,1,none⟩ (.slice AsA bs.length csA):=⟨_,rfl⟩;rw[←hw7] at h7;have Hw8:=hid h7;have c6:=q6.1;have f6:=q6.2;clear hown hr ok hg hx hz h7 q6 hsA H7;go_upto_region 12 with fail
   rw[←hw7];clear hw7 c6 f6;obtain⟨sB,hs,rc,hsB⟩:∃u v b,gI l (gz l) 1024 (sA)=(u,v,b):=⟨_,_,_,rfl⟩;have PmsB:=hid (rZ (l:=l) (one:=gz l) (most:=1024) (s:=sA) (P:=fun h=>h.name.length≤255) (yU l));rw[hsB] at PmsB;have HsB:=hid hsB
   go_wp2_with fail
   refine (Fy (gz l) 98 (by kernel_rfl) 1024 (by decide) Hw8.out.r.rd Hw8.out.r.ok hl (fun s w h hs=>yS h hs hl) (fun s=>rfl)).mono ?_;rw[HsB.out];rintro e w9 ⟨AsB,csB,rfl,hown,hr,ok,hg⟩;have hx:=Hw8.out.after hr ok hg;have hown:=bP hown Hw8.out.r.bel.size;have q6:=hx.r.cell (pre:=[nv (N 13),.slice AsA bs.length csA]) rfl (n:=2) rfl;have hz:Ca w w9 g bx l sB (wU (nv (N 13)) (.slice AsA bs.length csA) (.slice none 0 0) (.slice none 0 0) (NS 13) 0) ⟨AsA,csA,AsB,csB,none,0⟩ bs hs []:=⟨hx.r,hx.b,hown,hx.f⟩;have h7:=hz.set_ (v:=.slice AsB hs.length csB) (pre:=[nv (N 13),.slice AsA bs.length csA]) rfl (n:=2) rfl (cs':=wU (nv (N 13)) (.slice AsA bs.length csA) (.slice AsB hs.length csB) (.slice none 0 0) (NS 13) 0) rfl;obtain⟨w9b,hw7⟩:∃v,v=w9.setCell ⟨bx,2,none⟩ (.slice AsB hs.length csB):=⟨_,rfl⟩;rw[←hw7] at h7;have Hw9:=hid h7;have c6:=q6.1;have f6:=q6.2;clear hown hr ok hg hx hz h7 q6 hsB Hw8;go_upto_region 13 with fail
   rw[←hw7];clear hw7 c6 f6;obtain⟨sC,fs,rd,hsC⟩:∃u v b,gI l (jV l) 4096 (sB)=(u,v,b):=⟨_,_,_,rfl⟩;have PmsC:=hid (rZ (l:=l) (one:=jV l) (most:=4096) (s:=sB) (P:=fun f=>cy f.key∧f.name.length≤255) (wS l));rw[hsC] at PmsC;have HsC:=hid hsC
   go_wp2_with fail
   refine (FA (jV l) 100 (by kernel_rfl) 4096 (by decide) Hw9.out.r.rd Hw9.out.r.ok hl (fun s w h hs=>Fx h hs hl) (fun s=>ib (wS l s).1)).mono ?_;rw[HsC.out];rintro e wa ⟨AsC,csC,rfl,hown,hr,ok,hg⟩;have hx:=Hw9.out.after hr ok hg;have hown:=bP hown Hw9.out.r.bel.size;have q6:=hx.r.cell (pre:=[nv (N 13),.slice AsA bs.length csA,.slice AsB hs.length csB]) rfl (n:=3) rfl;have hz:Ca w wa g bx l sC (wU (nv (N 13)) (.slice AsA bs.length csA) (.slice AsB hs.length csB) (.slice none 0 0) (NS 13) 0) ⟨AsA,csA,AsB,csB,AsC,csC⟩ bs hs fs:=⟨hx.r,hx.b,hx.h,hown⟩;have h7:=hz.set_ (v:=.slice AsC fs.length csC) (pre:=[nv (N 13),.slice AsA bs.length csA,.slice AsB hs.length csB]) rfl (n:=3) rfl (cs':=wU (nv (N 13)) (.slice AsA bs.length csA) (.slice AsB hs.length csB) (.slice AsC fs.length csC) (NS 13) 0) rfl;obtain⟨wab,hw7⟩:∃v,v=wa.setCell ⟨bx,3,none⟩ (.slice AsC fs.length csC):=⟨_,rfl⟩;rw[←hw7] at h7;have Hwa:=hid h7;have c6:=q6.1;have f6:=q6.2;clear hown hr ok hg hx hz h7 q6 hsC Hw9;go_upto_region 14 with fail
   rw[←hw7];clear hw7 c6 f6
   go_wp2_with fail
   refine (pQ _ g l sC wab Hwa.out.r.rd Hwa.out.r.ok hl).mono ?_;rintro e wd ⟨rfl,hr,hg⟩;obtain⟨q0,fa,fe,hq⟩:∃a b c,jM l sC=(a,b,c):=⟨_,_,_,rfl⟩;have hD:=Hwa.out.after hr (xS Hwa.out.r.ok) hg;rw[hq,GL (HNl.out 13) (N 13) ⟨AsA,csA,AsB,csB,AsC,csC⟩ bs hs fs,HNs.out] at hD;obtain⟨st,hst⟩:∃st,st=ux (NS (13+1)) bs hs fs:=⟨_,rfl⟩;obtain⟨xx,hxx⟩:∃x:nJ,x=⟨AsA,csA,AsB,csB,AsC,csC⟩:=⟨_,rfl⟩;rw[←hst,←hxx] at hD;have hcnt:(NS (13+1)).length=14:=HNl.out 14;have hok:iU st:=by rw[hst];exact⟨fun b hb=>(PmsA.out.2 b hb).1,fun f hf=>(PmsC.out.2 f hf).1,(Fk hcnt bs hs fs).2⟩
   have HSO:Hid (iX wd w.heap.size xx st):=by
    rw[hst,hxx];refine⟨by have:=hD.b;rw[hxx] at this;exact this,by have:=hD.h;rw[hxx] at this;exact this,by have:=hD.f;rw[hxx] at this;exact this,by rw[←hst];exact hok,⟨PmsA.out.1,fun b hb=>(PmsA.out.2 b hb).2⟩,PmsB.out,⟨PmsC.out.1,fun f hf=>(PmsC.out.2 f hf).2⟩⟩
   have HD:=hid hD;have Hst:=hid hst;have Hq:=hid hq;have Hres:Hid (jk l=if ra&&(rc&&(rd&&(nT (q0,fa,fe)&&eM st))) then some st else none):=by
    show _=_
    have e1:jU l 14 (0,0,0)=(S 14,NS 14):=by rw[HS.out,HNS.out]
    unfold jk;simp only[e1];rw[show S 14=S (13+1) from rfl,HsA.out];simp only[HsB.out,HsC.out,Hq.out,←show ux (NS 14) bs hs fs=st from Hst.out.symm]
   have hin:=HSO.out.held;have Hsz:=hid (kS (x:=xx) hok);have l1:bx<wd.heap.size:=HD.out.r.box.lt;have hrd:∃A c,Rd wd g A l.length c q0 fa fe:=by obtain⟨A,c,h,_⟩:=HD.out.r.rd;exact⟨A,c,h⟩
   obtain⟨Ar,cr,hrd⟩:=hrd;have Hrd:Hid (∀u,Below wd.heap.size wd u→Rd u g Ar l.length cr q0 fa fe):=fun u hu=>(show aj _ _ _ _ from hrd).below hu (show aj _ _ _ _ from hrd).lt
   have Hin:=hid hin;have Hok:=hid hok;have RF:=hid (ag HD.out.r.box);clear hr hg hq hD hst hxx hcnt hok hin hrd Hwa PmsA PmsB PmsC;go_upto_region 15 with fail
   refine IR ?_
   repeat ((first|refine po ?_|refine gs RF.out l1 eB Hsz.out ?_|refine gc (fun u hu=>eK g Ar l.length cr q0 fa fe u (Hrd.out u hu)) ?_|refine gc (fun u hu=>jA xx st u (Hin.out.on hu)) ?_|refine gp ?_|refine pt ?_);simp only[ld,lg,lf,IC])
   refine gp (v:=.bool (!nT (q0,fa,fe))) ?_ (hv:=fun hb u hc=>by
    simp only[mK hb];by_cases e1:fa=0
    ·by_cases e2:fe=0
     ·subst e1 e2
      go_simp
      rfl
     ·have e3:¬(fe:Int)=0:=by omega
      subst e1;go_simp
      simp[nT,e2]
    ·have e3:¬(fa:Int)=0:=by omega
     go_simp
     simp[nT,e1])
   simp only[ld,lg,lf,IC];obtain⟨T,hT⟩:∃T,T=(!ra||!rc||!rd||!nT (q0,fa,fe)||!eM st):=⟨_,rfl⟩
   repeat ((first|refine po ?_|refine gs RF.out l1 eB Hsz.out ?_|refine gc (fun u hu=>jA xx st u (Hin.out.on hu)) ?_|refine gp ?_|refine pt ?_);simp only[ld,lg,lf,IC])
   rw[←hT];refine IW fun we hbe=>?_
   have He:=hid (HD.out.below hbe);have HSe:=hid (HSO.out.below hbe);have HT:=hid hT;clear hT hbe HD HSO Hrd Hin;rcases T with _|_
   ·have hT:(ra&&(rc&&(rd&&(nT (q0,fa,fe)&&eM st))))=true:=by have:=HT.out;revert this;cases ra<;>cases rc<;>cases rd<;>cases nT (q0,fa,fe)<;>cases eM st<;>simp
    have hR:jk l=some st:=by rw[Hres.out,hT];rfl
    have HR:=hid hR;obtain⟨W7,hW7,T7,B7,G7⟩:=ga (cs:=cU xx st) He.out.r.res (by rw[l8 Hok.out];rfl);have RG:=hid (ag He.out.r.box);have HSf:Hid (iX W7 w.heap.size xx st):=⟨HSe.out.b.kept G7.out (aK HSe.out.b He.out.r.res (by decide)),HSe.out.h.kept G7.out (aK HSe.out.h He.out.r.res (by decide)),HSe.out.f.kept G7.out (aK HSe.out.f He.out.r.res (by decide)),HSe.out.ok,HSe.out.nb,HSe.out.nh,HSe.out.nf⟩;have Hbl:Hid (Below w.heap.size w W7):=He.out.r.bel.grown G7.out He.out.r.bel.size (fun k hk=>by injection hk with hk;omega);clear hT hR HT RF
    go_wp2_with (first
     |((with_reducible refine aB 37 ?_);refine aa (by rfl) 37 (.tmp 4) rfl bx 0 rfl (cU xx st) _ RG.out eB rfl Hsz.out ?_)
     |((with_reducible refine aR 37 ?_);refine wpList_store_mid rfl 37 (.tmp 2) (.tmp 74) rfl w.heap.size 0 (cU xx st).toArray rfl rfl T7.out Hsz.out (uL _ _) ?_))
    rw[←hW7.out];refine bodyPost_ret (v:=.tuple #[.agg (cU xx st).toArray,.int .i64 0]) (aN (P:=Iy) (p:=2) (u:=3) rfl _ _ w.heap.size _ _ _ _ rfl B7.out eB rfl Hsz.out) rfl ?_;unfold uJ;rw[HR.out];refine⟨Hbl.out,fun h=>(by cases h),fun s hs=>?_⟩;injection hs with hs
    rw[←hs];exact⟨xx,rfl,HSf.out⟩
   ·have hT:(ra&&(rc&&(rd&&(nT (q0,fa,fe)&&eM st))))=false:=by have:=HT.out;revert this;cases ra<;>cases rc<;>cases rd<;>cases nT (q0,fa,fe)<;>cases eM st<;>simp
    have hR:jk l=none:=by rw[Hres.out,hT];rfl
    have HR:=hid hR;obtain⟨W7,hW7,T7,B7,G7⟩:=ga (cs:=cU gO dl) He.out.r.res rfl;have Hs0:=hid (kS (x:=gO) jm);have Hbl:Hid (Below w.heap.size w W7):=He.out.r.bel.grown G7.out He.out.r.bel.size (fun k hk=>by injection hk with hk;omega);clear hT hR HT RF
    go_wp2_with ((with_reducible refine aR 37 ?_);rw[←Ao];refine wpList_store_mid rfl 37 (.tmp 2) (.tmp 73) rfl w.heap.size 0 (cU gO dl).toArray rfl rfl T7.out Hs0.out (uL _ _) ?_)
    rw[←hW7.out];refine bodyPost_ret (v:=.tuple #[.agg (cU gO dl).toArray,.int .i64 3]) (aN (P:=Iy) (p:=2) (u:=3) rfl _ _ w.heap.size _ _ _ _ rfl B7.out eB rfl Hs0.out) rfl ?_;unfold uJ;rw[HR.out];exact⟨Hbl.out,fun _=>rfl,fun s hs=>(by cases hs)⟩
structure ek where
 f:Option Addr
 cf:Nat
 o:Option Addr
 co:Nat
def ky(p:ek×dI):List Value:=bh p.1.f p.2.act.frame.length p.1.cf p.1.o p.2.o.out.length p.1.co p.2
structure jY where
 v:Option Addr
 cv:Nat
 st:nJ
 e:Option Addr
 ce:Nat
def av(x:jY)(s:cE):List Value:=am x.v s.conf.vips.length x.cv s.conf++(zv s.first::zv s.lost::(cU x.st s.st++[.slice x.e s.evs.length x.ce]))
structure fk(w:World)(B:Nat)(x:jY)(xs:List (ek×dI))(s:cE):Prop where
 vs:VS w B x.v s.conf.vips
 cv:s.conf.vips.length≤x.cv∧s.conf.vips.length≤1000000
 st:md w B x.st s.st
 sh:bV s
 ev:s.evs=xs.map (·.2)
 evs:RW ky 42 w B x.e xs
 ce:s.evs.length≤x.ce∧s.evs.length≤1000000
 fr:∀p∈xs,BS w B p.1.f p.2.act.frame∧BS w B p.1.o p.2.o.out
theorem fk.below{w w':World}{B:Nat}{x:jY}{xs:List (ek×dI)}{s:cE}(h:fk w B x xs s)(hb:Below B w w'):fk w' B x xs s :=
 ⟨h.vs.below hb,h.cv,h.st.below hb,h.sh,h.ev,h.evs.below hb,h.ce,fun p hp=>⟨(h.fr p hp).1.below hb,(h.fr p hp).2.below hb⟩⟩
theorem fk.more{w:World}{B B':Nat}{x:jY}{xs:List (ek×dI)}{s:cE}(h:fk w B x xs s)(hb:B≤B'):fk w B' x xs s :=
 ⟨h.vs.more hb,h.cv,h.st.more hb,h.sh,h.ev,h.evs.more hb,h.ce,fun p hp=>⟨(h.fr p hp).1.more hb,(h.fr p hp).2.more hb⟩⟩
theorem fk.on{w w':World}{x:jY}{xs:List (ek×dI)}{s:cE}(h:fk w w.heap.size x xs s)(hb:Below w.heap.size w w'):fk w' w'.heap.size x xs s:=(h.below hb).more hb.size
theorem eG{x:jY}{s:cE}(h:bV s):(av x s).length=74:=by
 simp[av,dD h.conf,l8 h.st]
section
variable {w:World} {g:Nat} {t:TypeId} {x:jY} {s:cE}
theorem jK(h:bV s)(hb:aj w g t (av x s).toArray):w.rangeAt g 0 (am x.v s.conf.vips.length x.cv s.conf):=fun j v hj=>by
 rw[hb.cell,IJ,av,IH (by have:=(II.1 hj).1;omega),IV];exact hj
theorem fx(h:bV s)(hb:aj w g t (av x s).toArray)(j:Nat):w.cell? ⟨g,54+j,none⟩=(zv s.first::zv s.lost::(cU x.st s.st++[.slice x.e s.evs.length x.ce]))[j]?:=by
 have h1:=dD (A:=x.v) (n:=s.conf.vips.length) (c:=x.cv) h.conf;rw[hb.cell,IJ,av,IG (by omega),h1,Nat.add_sub_cancel_left]
theorem k8(h:bV s)(hb:aj w g t (av x s).toArray):w.rangeAt g 56 (cU x.st s.st):=fun j v hj=>by
 have:=fx h hb (2+j);rw[show 54+(2+j)=56+j by omega] at this;rw[this,show 2+j=(j+1)+1 by omega,IA,IA,IH (II.1 hj).1];exact hj
theorem mq(h:bV s)(hb:aj w g t (av x s).toArray):w.cell? ⟨g,73,none⟩=some (.slice x.e s.evs.length x.ce):=by
 have:=fx h hb 19;rw[this,IA,IA,IG (by rw[l8 h.st];omega),l8 h.st];rfl
end
theorem aH:Iy.underlying 40=some (.struct (Iy.fieldsOf 40)):=by kernel_rfl
theorem wW:(Iy.info? 40).map (·.size)=some 74:=by kernel_rfl
theorem fp{x:jY}{s:cE}(h:bV s):(Iy.info? 40).map (·.size)=some (av x s).length:=by rw[eG h];exact wW
theorem r6{x:jY}{xs:List (ek×dI)}{s:cE}{w:World}(h:fk w w.heap.size x xs s) :
  Calls Iy 29 #[.agg (av x s).toArray] w fun e w'=>e=.returned (.bool (fE s))∧Below w.heap.size w w':=by
 obtain⟨W,hW⟩:∃W,W=w.alloc (.cells (av x s).toArray 40):=⟨_,rfl⟩;have HY:Hid (aj W w.heap.size 40 (av x s).toArray):=by rw[hW];exact aj.new w _ _ _ rfl
 have HB:Hid (Below w.heap.size w W):=by rw[hW];exact (Below.refl _ _).alloc (ID _) _
 have HS:=hid (h.on HB.out);have HW:=hid hW;have l1:w.heap.size<W.heap.size:=HY.out.lt;have Hsh:=hid h.sh;have b0:W.cell? ⟨w.heap.size,54,none⟩=some (zv s.first):=fx Hsh.out HY.out 0;have b1:W.cell? ⟨w.heap.size,55,none⟩=some (zv s.lost):=fx Hsh.out HY.out 1;unfold zv at b0 b1;clear hW h;go_enter Tryz.func29,Tryz.ntmps29
 go_upto_region 1 with fail
 rw[←HW.out];clear HW;obtain⟨T,hT⟩:∃T,T=(k7 s.conf s.st&&eM s.st&&decide (0≤s.first)&&decide (s.first≤1152921504606846976)&&decide (0≤s.lost)&&decide (s.lost≤s.first)):=⟨_,rfl⟩;refine IR ?_
 repeat ((first|refine pa ?_|refine sl (jK Hsh.out HY.out) l1 dV (by rw[dD Hsh.out.conf];exact cB) ?_|refine sl (k8 Hsh.out HY.out) l1 eB (kS Hsh.out.st) ?_|refine gs (k8 Hsh.out HY.out) l1 eB (kS Hsh.out.st) ?_|refine cl (fun u hu=>uD x.v s.conf.vips.length x.cv s.conf x.st s.st Hsh.out.conf u rfl HS.out.cv.1 ((HS.out.on hu).vs) HS.out.cv.2 (HS.out.on hu).st) ?_|refine gc (fun u hu=>jA x.st s.st u (HS.out.on hu).st) ?_|refine gp ?_|refine pt ?_);simp only[ld,lg,lf,IC])
 rw[←hT];refine IW fun w2 hb2=>?_
 have Hb2:=hid (HB.out.trans (hb2.mono HB.out.size));have HT:Hid (fE s=T):=by show _=_;rw[hT];unfold fE dh;simp only[Bool.and_assoc]
 clear hb2 hT
 go_wp2
 go_ret
 exact⟨by rw[HT.out];rfl,Hb2.out⟩
theorem nB{p:ek×dI}(h:aP p.2):(ky p).length=42:=km h
theorem kz{p:ek×dI}(h:aP p.2):(Iy.info? 65).map (·.size)=some (ky p).length:=ll h
theorem qT(p:ek×dI):(ky p).toArray.all (·.oneCell')=true:=pT _ _ _ _ _ _ _
section
variable {w:World} {B:Nat} {x:jY} {xs:List (ek×dI)} {s:cE}
theorem fk.len(h:fk w B x xs s):s.evs.length=xs.length:=by rw[h.ev,List.length_map]
theorem fk.shp(h:fk w B x xs s){p:ek×dI}(hp:p∈xs):aP p.2:=h.sh.evs _ (by rw[h.ev];exact List.mem_map_of_mem hp)
end
theorem r7{α:Type}{f:α→Bool}{xs:List α}{k:Nat}{x:α}(h:(xs.take k).all f=true)(hx:xs[k]?=some x)(hf:f x=true):(xs.take (k+1)).all f=true:=by
 rw[List.take_add_one,hx,List.all_append,h];simp[hf]
theorem iY{x:jY}{xs:List (ek×dI)}{s:cE}{w:World}(h:fk w w.heap.size x xs s) :
  Calls Iy 13 #[.agg (av x s).toArray] w fun e w'=>e=.returned (.bool (iL s))∧Below w.heap.size w w':=by
 obtain⟨W,hW⟩:∃W,W=w.alloc (.cells (av x s).toArray 40):=⟨_,rfl⟩;have HY:Hid (aj W w.heap.size 40 (av x s).toArray):=by rw[hW];exact aj.new w _ _ _ rfl
 have HB:Hid (Below w.heap.size w W):=by rw[hW];exact (Below.refl _ _).alloc (ID _) _
 have HS:=hid (h.on HB.out);have HW:=hid hW;have l1:w.heap.size<W.heap.size:=HY.out.lt;obtain⟨n,hn⟩:∃n,n=s.evs.length:=⟨_,rfl⟩;have hnx:Hid (n=xs.length):=by show _=_;rw[hn,h.len]
 have b0:W.cell? ⟨w.heap.size,73,none⟩=some (.slice x.e n x.ce):=by rw[hn];exact mq h.sh HY.out
 have hn1:n≤x.ce:=by rw[hn];exact h.ce.1
 have hn2:n≤1000000:=by rw[hn];exact h.ce.2
 have Hsz:=hid (fp (x:=x) h.sh);have Hsb:Hid (iL s=(xs.all (fun p=>aG p.2)&&fE s)):=by show _=_;unfold iL;rw[h.ev,List.all_map];rfl
 clear hW h hn;go_enter Tryz.func13,Tryz.ntmps13
 go_upto_region 1 with fail
 rw[←HW.out];clear HW
 go_wp2
 go_loopw [8] (fun i wr=>∃k:Nat,k≤n∧i=.int .i64 (k:Int)∧Hid (Below W.heap.size W wr)∧Hid ((xs.take k).all (fun p=>aG p.2)=true)) (fun i _=>n-(intOf i).toNat)
 case atStart=>exact⟨0,by omega,rfl,Below.refl _ _,by simp[Hid]⟩
 case round =>
  obtain⟨k,hk,rfl,hbel,hat⟩:=hrel;rename World=>wr
  by_cases hlt:k<n
  ·have hltI:(k:Int)<(n:Int):=by omega
   have hk0:(0:Int)≤(k:Int):=by omega
   obtain⟨b,o,hA,hbB,hc⟩:=(HS.out.evs.below hbel.out) (by rw[←hnx.out];omega);obtain⟨p,hp⟩:∃p,xs[k]?=some p:=⟨_,List.getElem?_eq_getElem (by rw[←hnx.out];exact hlt)⟩;have hpm:p∈xs:=List.mem_of_getElem? hp;have Hrg:=hid (hc k p hp);have Hps:=hid (HS.out.shp hpm);have Hz:=hid (kz (p:=p) Hps.out);obtain⟨x1,y1,X1,Y1,T1,B1,L1⟩:=ei wr 65 (bh none 0 0 none 0 0 mZ) (ky p) (by rw[nB Hps.out];rfl);rw[kL] at X1;have HB1:Hid (Below W.heap.size W y1):=hbel.out.trans (L1.out.mono hbel.out.size);have hfr:=(HS.out.on HB1.out).fr p hpm;have Hfr:=hid hfr.1;have Hat:Hid (aG p.2=true→(xs.take (k+1)).all (fun p=>aG p.2)=true):=fun hr=>r7 hat.out hp hr
   have Hno:Hid (aG p.2=false→iL s=false):=fun hr=>by
    rw[Hsb.out,List.all_eq_false.2 ⟨p,hpm,by simp[hr]⟩];rfl
   clear hc hp hpm hfr hat;rw[hA];clear hA b0;go_upto_region 4 with (first
    |((with_reducible refine aB 65 ?_);refine aa (by rfl) 65 (.tmp 10) rfl b (o+k*42) rfl (ky p) _ Hrg.out eh rfl Hz.out ?_)
    |(rw[←X1.out];(with_reducible refine aR 65 ?_);refine wpList_store_mid rfl 65 (.tmp 4) (.tmp 11) rfl wr.heap.size 0 (ky p).toArray rfl rfl T1.out (by rw[IE];exact Hz.out) (qT _) ?_))
   rw[←Y1.out];have l3:wr.heap.size<y1.heap.size:=B1.out.lt;refine IR ?_;simp only[Act.put]
   repeat ((first|refine sl (ag B1.out) l3 eh Hz.out ?_|refine cl (fun u hu=>og p.1.f p.1.cf p.1.o p.1.co p.2 Hps.out u ((Hfr.out.below hu).more hu.size)) ?_|refine pt ?_);simp only[ld,lg,lf,IC])
   refine IW fun w2 hb2=>?_
   have Hb2:=hid (HB1.out.trans (hb2.mono HB1.out.size));clear hb2 X1 Y1 T1 HB1 hbel Hrg;rcases hv:aG p.2 with _|_
   ·have Hr:=hid (Hno.out hv)
    simp only[hv,IS,IU];clear hv
    go_wp2
    go_ret
    exact⟨by rw[Hr.out];rfl,HB.out.trans (Hb2.out.mono HB.out.size)⟩
   ·have Hr:=hid (Hat.out hv)
    simp only[hv,IS,IU];clear hv
    go_wp2
    go_roundw
    case rel=>exact⟨k+1,by omega,by go_num,Hb2,Hr⟩
    case measure=>simp[intOf];omega
  ·have hltI:¬(k:Int)<(n:Int):=by omega
   have Hall:Hid (xs.all (fun p=>aG p.2)=true):=by
    show _=_
    have:=hat.out;rw[List.take_of_length_le (by rw[←hnx.out];omega)] at this;exact this
   have Hyr:=hid (HY.out.below hbel.out l1);have l2:w.heap.size<wr.heap.size:=Hyr.out.lt;clear b0 hat;go_upto_region 7 with fail
   refine IR ?_
   repeat ((first|refine sl (ag Hyr.out) l2 aH Hsz.out ?_|refine cl (fun u hu=>r6 ((HS.out.on hbel.out).on hu)) ?_|refine pt ?_);simp only[ld,lg,lf,IC])
   refine IW fun w2 hb2=>?_
   have Hb2:=hid (HB.out.trans ((hbel.out.trans (hb2.mono hbel.out.size)).mono HB.out.size));clear hb2
   go_wp2
   go_ret
   exact⟨by rw[Hsb.out,Hall.out];rfl,Hb2.out⟩
theorem pv(p:ek×dI)(hp:aP p.2)(w:World)(hf:BS w w.heap.size p.1.f p.2.act.frame) :
  Calls Iy 20 #[.agg (ky p).toArray] w (ix w (aG p.2) (cA p.2)):=by
 obtain⟨W,hW⟩:∃W,W=w.alloc (.cells (ky p).toArray 65):=⟨_,rfl⟩;have HY:Hid (aj W w.heap.size 65 (ky p).toArray):=by rw[hW];exact aj.new w _ _ _ rfl
 have HB:Hid (Below w.heap.size w W):=by rw[hW];exact (Below.refl _ _).alloc (ID _) _
 have Hf:=hid ((hf.below HB.out).more HB.out.size);have HW:=hid hW;have Hp:=hid hp;have RF:=hid (ag HY.out);have Hz:=hid (kz (p:=p) hp);clear hW hf hp;go_enter Tryz.func20,Tryz.ntmps20
 go_upto_region 1 with fail
 rw[←HW.out];clear HW
 go_wp2_with ((with_reducible refine aB 65 ?_);refine aa (by rfl) 65 (.tmp 1) rfl w.heap.size 0 rfl (ky p) _ RF.out eh rfl Hz.out ?_)
 refine (Dq p.1.f p.1.cf p.1.o p.1.co p.2 Hp.out W Hf.out).mono ?_;rintro e w2 ⟨hb2,hno,hyes⟩;have Hb2:=hid (HB.out.trans (hb2.mono HB.out.size));rcases hr:aG p.2 with _|_
 ·obtain rfl:=hno hr
  clear hno hyes hb2
  go_wp2
  go_ret2
  unfold ix;rw[hr];exact⟨Hb2.out,fun _=>rfl,fun h=>(by cases h)⟩
 ·obtain⟨A2,c2,rfl,hown⟩:=hyes hr
  have hlen:=gG Hp.out hr;obtain⟨m,hm⟩:∃m,m=bT p.2:=⟨_,rfl⟩;have Hm:=hid hm;rw[←hm] at hown hlen ⊢;have Hb:=hid (BS.of_own hown).1;have hl:m.length≤1048576:=by omega
  have Hr:=hid hr;clear hno hyes hb2 hown hm hlen hr
  go_wp2_with fail
  refine (rR A2 m.length c2 m w2 rfl Hb.out hl).mono ?_;rintro e w3 ⟨A3,c3,rfl,hown,hb3⟩;have Hb3:=hid (Hb2.out.trans (hb3.mono Hb2.out.size));have Ho3:=hid (bP hown Hb2.out.size);clear hown hb3
  go_wp2
  go_ret2
  unfold ix cA;rw[Hr.out];refine⟨Hb3.out,fun h=>(by cases h),fun _=>?_⟩;rw[←Hm.out];exact⟨A3,c3,rfl,Ho3.out⟩
