import Derived.Test.YtaafkokfdgfabaaGreatP13
import Derived.Test.YtaafkokfdgfabaaGreatP16
import Derived.Test.YtaafkokfdgfabaaGreatP19
import Derived.Test.YtaafkokfdgfabaaGreatP20
import Derived.Test.YtaafkokfdgfabaaGreatP22
set_option maxHeartbeats 8000000
set_option maxRecDepth 100000
set_option linter.unusedVariables false
set_option linter.unusedSimpArgs false
open Bool renaming and_eq_true→qq,false_eq_true→IL,or_eq_false_iff→IN,or_eq_true→IP,or_false→I3
open Int renaming toNat_natCast→IS
open List renaming length_append→Iy,append_assoc→Iz,length_drop→IE,flatMap_cons→IF,eq_nil_of_length_eq_zero→IH,append_nil→IK,all_eq_true→IM,take_succ_cons→IQ,drop_drop→IR,take_append_drop→IU,reverse_reverse→IV,drop_left→IW,range→IX,length_take→IY,length_cons→IZ,length→I0,length_nil→I2
open Nat renaming add_assoc→IA,zero_le→IG,shiftLeft_zero→II,two_pow_pos→IT,mul_assoc→I4,add_zero→I6,pow_succ→I8,mul_comm→I9,le_refl→Ja
open Prod renaming ext→IC
open UInt8 renaming toNat_inj→I1
namespace Go.Proofs.YtaafkokfdgfabaaGreat
open Go.RowKit
open Lib (hid)
open FloatKind renaming f64→ID
open Ieee renaming double→IB,Datum→IJ
open Op renaming bytesLess→I7
open Tryz renaming prog→I5
theorem lD{k m:Nat}(h:m<256^k)(big:Bool):ja (bY k m big) big=m:=by
 unfold ja bY;cases big
 ·simp only[IL,if_false]
  exact j0 k m h
 ·simp only[if_true]
  rw[kF];exact j0 k m h
theorem nr(l:List UInt8)(big:Bool):bY l.length (ja l big) big=l:=by
 unfold ja bY;cases big
 ·simp only[IL,if_false]
  exact rm
 ·simp only[if_true]
  have e:=kF l.reverse;rw[IV] at e;have e2:=rm (l:=l.reverse);rw[List.length_reverse,←e] at e2;rw[e2,IV]
section
variable {l:List UInt8} {s:St} {x r:List UInt8} {bad:Bool}
theorem Gu(h:(dJ l s).1.2.2=0):∃n k,dJ l s=(s,n,k)∧s.2.2=0∧cC (l.drop s.1)=(n,k,0):=by
 have h0:s.2.2=0:=by
  unfold dJ at h;split at h
  ·exact h
  ·omega
 have hv:(cC (l.drop s.1)).2.2=0:=by
  unfold dJ at h;rw[if_neg (by omega)] at h;split at h
  ·exact absurd h (ly (by assumption))
  ·omega
 rcases hg:cC (l.drop s.1) with ⟨m,k,e⟩
 rw[hg] at hv;simp only at hv;subst hv;refine⟨m,k,?_,h0,rfl⟩;unfold dJ;rw[if_neg (by omega),hg];simp
theorem oh(h:s.2.2=0)(hl:s.1≤l.length){m:Int}(hm:(x.length:Int)≤m)(hx:x.length<18446744073709551616)(e:l.drop s.1=bw x++r):cF l s m=(fq s (bw x).length,x):=by
 have hlen:=congrArg I0 e;rw[IE] at hlen;unfold bw at e hlen ⊢;rw[Iz] at e;have hg:cC (l.drop s.1)=(x.length,(aC x.length).length,0):=by rw[e];exact mT _ hx _
 have hp:dJ l s=(s,x.length,(aC x.length).length):=by
  unfold dJ;rw[if_neg (by omega),hg];simp
 unfold cF;rw[hp];simp only;rw[if_neg (by omega)];unfold fd;simp only[Iy] at hlen ⊢;rw[if_neg (by omega),if_neg (by omega),←IR,e,IW,List.take_left];simp[fq,IA]
theorem p5{m:Int}(h:(cF l s m).1.2.2=0)(hl:s.1≤l.length):cd l s (bw (cF l s m).2) (cF l s m).1∧((cF l s m).2.length:Int)≤m:=by
 unfold cF at h ⊢;split at h
 ·exact absurd h (ly (by decide))
 ·rename_i h0
  rw[if_neg h0];have hp0:(dJ l s).1.2.2=0:=by
   by_cases hz:(dJ l s).1.2.2=0
   ·exact hz
   ·unfold fd at h
    rw[if_pos hz] at h;exact h
  obtain⟨n,k,hp,hs,hg⟩:=Gu hp0;obtain⟨hn,hk1,hkl,hk,hv⟩:=j7 hg;rw[hp] at h h0 ⊢;simp only at h h0 ⊢;rw[IE] at hkl;unfold fd at h ⊢;rw[if_neg (by omega)] at h ⊢;split at h
  ·exact absurd h (ly (by decide))
  ·rename_i h1
   rw[if_neg h1];simp only;have hxl:((l.drop (s.1+k)).take n).length=n:=by rw[IY,IE];omega
   have e:l.drop s.1=bw ((l.drop (s.1+k)).take n)++l.drop (s.1+k+n):=by
    unfold bw;have d1:l.drop (s.1+k+n)=((l.drop s.1).drop k).drop n:=by rw[IR,IR,IA]
    have d2:l.drop (s.1+k)=(l.drop s.1).drop k:=by rw[IR]
    rw[hxl,hv,d1,d2,Iz,IU,IU]
   have E:=cd.of hs hl e;have hE:(bw ((l.drop (s.1+k)).take n)).length=k+n:=by unfold bw;rw[Iy,hxl,←hk]
   rw[hE] at E;refine⟨?_,by rw[hxl];omega⟩;have ha:fq s (k+n)=(s.1+k+n,s.2.1,s.2.2):=by simp[fq,IA]
   rw[←ha];exact E
theorem ur(h:s.2.2=0)(hl:s.1≤l.length){b:Bool}(e:l.drop s.1=ea b++r):ep l s bad=(fq s (ea b).length,bad,b):=by
 have hn:=kK (n:=1) h hl (by rw[cP];rfl) (by rw[cP];decide) (by rw[cP];decide) true e;unfold ep;rw[hn];cases b
 ·simp[ea,dF]
 ·simp[ea,dF]
theorem ut(h:(ep l s bad).1.2.2=0)(hb:(ep l s bad).2.1=false):bad=false∧cd l s (ea (ep l s bad).2.2) (ep l s bad).1:=by
 unfold ep at h hb ⊢;obtain⟨x,hx,he,ev⟩:=oW (n:=1) (by decide) (by decide) true h;obtain⟨c,rfl⟩:=oX hx;rw[dF] at ev;simp only[ev,IN,decide_eq_false_iff_not] at hb ⊢;refine⟨hb.1,?_⟩;have hc:c=0∨c=1:=by
  rcases (by omega:c.toNat=0∨c.toNat=1) with h1|h1
  ·exact .inl (I1.1 h1)
  ·exact .inr (I1.1 h1)
 rcases hc with rfl|rfl
 ·exact he
 ·exact he
theorem DH{n:Nat}(hn:n<18446744073709551616)(hc:br n=n):pG (dK n)=n:=by
 unfold dK;rw[hc];exact lD (k:=8) (m:=n) (by omega) true
theorem vM(h:s.2.2=0)(hl:s.1≤l.length){n:Nat}(hn:n<18446744073709551616)(hc:br n=n)(e:l.drop s.1=dK n++r):cR l s bad=(fq s (dK n).length,bad,n):=by
 unfold cR;rw[jP (n:=8) h hl (by rw[eR];rfl) e];unfold kI;simp only[DH hn hc,eR,hc,and_self,if_true,Bool.not_true,I3]
theorem vN(h:(cR l s bad).1.2.2=0)(hb:(cR l s bad).2.1=false):bad=false∧cd l s (dK (cR l s bad).2.2) (cR l s bad).1∧br (cR l s bad).2.2=(cR l s bad).2.2:=by
 unfold cR at h hb ⊢;obtain⟨x,hx,he,ev⟩:=mM (n:=8) (by decide) h;have hx8:x.length=8:=hx;simp only[ev,IN] at hb ⊢;refine⟨hb.1,?_⟩;have h2:=hb.2;unfold kI at h2 ⊢;by_cases hw:x.length=8∧br (pG x)=pG x
 ·rw[if_pos hw]
  refine⟨?_,hw.2⟩;have:dK (pG x)=x:=by
   unfold dK;rw[hw.2];have:=nr x true;rw[hx8] at this;exact this
  simp only[this];exact he
 ·rw[if_neg hw] at h2
  simp at h2
def vO(b:aU):Prop:=br b.wt=b.wt
theorem DI{p:Int}(h:0≤p∧p≤65535):((ja (bY 2 p.toNat true) true:Nat):Int)=p:=by
 rw[lD (by omega)];omega
theorem DJ{b:aU}(hs:au b)(ht:dM b=true)(hc:vO b)(h:s.2.2=0)(hl:s.1≤l.length)(e:l.drop s.1=aD b++r):eg l s bad=(fq s (aD b).length,bad,b):=by
 unfold dM at ht;simp only[qq,decide_eq_true_eq,bF] at ht;obtain⟨hn,hp⟩:=ht;have h16:b.addr.2.length=16:=hs.addr;have h6:=hs.mac;unfold aD at e;simp only[Iz] at e;have h1:=oh (m:=255) h hl (by omega) (by omega) e;have E1:=cd.of h hl e;have e1:=E1.rest e;have h2:=ur (bad:=bad) E1.ok' E1.le' e1;have E2:=cd.of E1.ok' E1.le' e1;have e2:=E2.rest e1;have h3:=jP (n:=16) E2.ok' E2.le' (by rw[h16];rfl) e2;have E3:=cd.of E2.ok' E2.le' e2;have e3:=E3.rest e2;have h4:=kK (n:=2) E3.ok' E3.le' (by rw[az];rfl) (by rw[az];decide) (by rw[az];decide) true e3;have E4:=cd.of E3.ok' E3.le' e3;have e4:=E4.rest e3;have h5:=jP (n:=6) E4.ok' E4.le' (by rw[h6];rfl) e4;have E5:=cd.of E4.ok' E4.le' e4;have e5:=E5.rest e4;have h7:=vM (bad:=bad) E5.ok' E5.le' hs.wt hc e5;have E6:=cd.of E5.ok' E5.le' e5;have e6:=E6.rest e5;have h8:=ur (bad:=bad) E6.ok' E6.le' e6;unfold eg;simp only[h1,h2,h3,h4,h5,h7,h8];have p1:lA b.addr.2 16=b.addr.2:=by simp[lA,h16]
 have p2:lA b.mac 6=b.mac:=by simp[lA,h6]
 rw[p1,p2,DI hp];simp only[cH,aD,Iy,IA]
theorem Fh{x:List UInt8}(hx:x.length=2):bY 2 ((ja x true:Nat):Int).toNat true=x:=by
 have:=nr x true;rw[hx] at this;rw[IS];exact this
theorem DK{x:List UInt8}(hx:x.length=1):bY 1 ((ja x true:Nat):Int).toNat true=x:=by
 have:=nr x true;rw[hx] at this;rw[IS];exact this
theorem Gv(ok:em l s)(h:(eg l s bad).1.2.2=0)(hb:(eg l s bad).2.1=false) :
  bad=false∧cd l s (aD (eg l s bad).2.2) (eg l s bad).1∧dM (eg l s bad).2.2=true∧vO (eg l s bad).2.2∧em l (eg l s bad).1:=by
 rcases h1:cF l s 255 with ⟨s1,nm⟩
 rcases h2:ep l s1 bad with ⟨s2,b2,sx⟩
 rcases h3:bG l s2 16 with ⟨s3,ad⟩
 rcases h4:aT l s3 2 true with ⟨s4,po⟩
 rcases h5:bG l s4 6 with ⟨s5,mc⟩
 rcases h6:cR l s5 b2 with ⟨s6,b6,wt⟩
 rcases h7:ep l s6 b6 with ⟨s7,b7,dr⟩
 have hb7:eg l s bad=(s7,b7,{ name:=nm,addr:=(sx,lA ad 16),port:=(po:Int),mac:=lA mc 6,wt:=wt,drain:=dr }):=by
  unfold eg;simp only[h1,h2,h3,h4,h5,h6,h7]
 rw[hb7] at h hb ⊢;simp only at h hb ⊢;have F7:=ut (l:=l) (s:=s6) (bad:=b6) (by rw[h7];exact h) (by rw[h7];exact hb);rw[h7] at F7;obtain⟨hb6,E7⟩:=F7;have F6:=vN (l:=l) (s:=s5) (bad:=b2) (by rw[h6];exact E7.ok) (by rw[h6];exact hb6);rw[h6] at F6;obtain⟨hb2,E6,hcan⟩:=F6;obtain⟨x5,hx5,E5,y5⟩:=mM (l:=l) (s:=s4) (n:=6) (by decide) (by rw[h5];exact E6.ok);rw[h5] at E5 y5;obtain⟨x4,hx4,E4,y4⟩:=oW (l:=l) (s:=s3) (n:=2) (by decide) (by decide) true (by rw[h4];exact E5.ok);rw[h4] at E4 y4;obtain⟨x3,hx3,E3,y3⟩:=mM (l:=l) (s:=s2) (n:=16) (by decide) (by rw[h3];exact E4.ok);rw[h3] at E3 y3;have F2:=ut (l:=l) (s:=s1) (bad:=bad) (by rw[h2];exact E3.ok) (by rw[h2];exact hb2);rw[h2] at F2;obtain⟨hbad,E2⟩:=F2;have F1:=p5 (l:=l) (s:=s) (m:=255) (by rw[h1];exact E2.ok) ok.1;rw[h1] at F1;obtain⟨E1,hnm⟩:=F1;simp only at y3 y4 y5 E1 E2 E3 E4 E5 E6 E7 hnm hcan;subst y3 y4 y5;have hx3':ad.length=16:=hx3;have hx4':x4.length=2:=hx4;have hx5':mc.length=6:=hx5;have p1:lA ad 16=ad:=by simp[lA,hx3']
 have p2:lA mc 6=mc:=by simp[lA,hx5']
 have hp:ja x4 true≤65535:=by
  obtain⟨a,b,rfl⟩:=zS hx4';rw[lz];have:=a.toNat_lt;have:=b.toNat_lt;omega
 rw[p1,p2];refine⟨hbad,?_,?_,hcan,⟨E7.le',?_,?_⟩⟩
 ·unfold aD
  simp only;rw[Fh hx4'];exact E1.trans (E2.trans (E3.trans (E4.trans (E5.trans (E6.trans E7)))))
 ·unfold dM
  simp only[qq,decide_eq_true_eq,bF];exact⟨by omega,by omega,by omega⟩
 ·rw[E7.at_,E6.at_,E5.at_,E4.at_,E3.at_,E2.at_,E1.at_]
  exact ok.2.1
 ·rw[E7.ok']
  decide
end
def vP(a:ca):Prop:=br a.owt=a.owt∧vO a.back
def DL(e:dI):Prop:=vP e.act
theorem jQ:br 0=0:=by decide
theorem nQ:vO dU:=jQ
theorem vQ{a b:aU}(h:bz a b=true)(ha:vO a)(hb:vO b):a=b:=by
 simp only[bz,qq,beq_iff_eq] at h;obtain⟨h1,h2,h3,h4,h5,h6⟩:=h;unfold vO at ha hb;rw[ha,hb] at h5;cases a
 cases b
 simp_all
theorem yu{a b:ca}(h:aV a b=true)(ha:vP a)(hb:vP b):a=b:=by
 simp only[aV,qq,beq_iff_eq] at h;obtain⟨h1,h2,h3,h4,h5,h6,h7,h8⟩:=h;rw[ha.1,hb.1] at h5;have h6:=vQ h6 ha.2 hb.2;cases a
 cases b
 simp_all
theorem DM{a:ca}(h:vP a):vP (bX a):=by
 unfold bX;split
 ·exact⟨jQ,nQ⟩
 ·split
  ·split
   ·exact⟨jQ,h.2⟩
   ·split
    ·exact⟨h.1,nQ⟩
    ·exact⟨jQ,nQ⟩
  ·split
   ·exact⟨jQ,nQ⟩
   ·exact⟨jQ,nQ⟩
theorem yv{a:ca}(h:bj a=true)(hc:vP a):a=bX a:=by
 simp only[bj,qq] at h;exact yu h.2.2.1 hc (DM hc)
section
variable {l:List UInt8} {s:St} {r:List UInt8} {bad:Bool}
theorem zX{z:Int}(h0:0≤z)(h1:z≤255)(h:s.2.2=0)(hl:s.1≤l.length)(e:l.drop s.1=bY 1 z.toNat true++r):∃k:Nat,aT l s 1 true=(fq s (bY 1 z.toNat true).length,k)∧(k:Int)=z:=by
 refine⟨_,kK (n:=1) h hl (by rw[az];rfl) (by rw[az];decide) (by rw[az];decide) true e,?_⟩;rw[lD (by omega)];omega
theorem zY(h:(aT l s 1 true).1.2.2=0):cd l s (bY 1 ((aT l s 1 true).2:Int).toNat true) (aT l s 1 true).1:=by
 obtain⟨x,hx,he,ev⟩:=oW (n:=1) (by decide) (by decide) true h;rw[ev,DK hx];exact he
theorem Hi{a:ca}(hs:aA a)(hp:bj a=true)(hc:vP a)(h:s.2.2=0)(hl:s.1≤l.length)(e:l.drop s.1=ba a++r):hJ l s bad=(fq s (ba a).length,bad,a):=by
 have ho:=yv hp hc;simp only[bj,qq,decide_eq_true_eq,bF] at hp;obtain⟨⟨hk1,hk4⟩,hop,_,hfr,hon,hnm,hbt⟩:=hp;unfold ba at e;rw[Iz] at e;obtain⟨k,hk,hkz⟩:=zX (by omega) (by omega) h hl e;have E1:=cd.of h hl e;have e1:=E1.rest e;unfold hJ;simp only[hk];rw[hkz];by_cases k1:a.kind=1
 ·rw[if_pos k1] at e1 ⊢
  have h2:=oh (m:=131072) E1.ok' E1.le' (by omega) (by omega) e1;have hA:a={ cL with kind:=a.kind,frame:=a.frame }:=by
   have:=ho;unfold bX at this;rw[if_pos k1] at this;exact this
  simp only[h2];refine IC ?_ (IC rfl hA.symm);simp only[cH,ba,if_pos k1,Iy]
 ·rw[if_neg k1] at e1 ⊢
  by_cases k2:a.kind=2
  ·rw[if_pos k2] at e1 ⊢
   have hoz:1≤a.op∧a.op≤5:=by
    rw[k2] at hop;simp only[bne_self_eq_false,Bool.false_or] at hop;exact bF.1 hop
   rw[Iz] at e1;obtain⟨j,hj,hjz⟩:=zX (by omega) (by omega) E1.ok' E1.le' e1;have E2:=cd.of E1.ok' E1.le' e1;have e2:=E2.rest e1;simp only[hj];rw[hjz];by_cases k3:a.op=1
   ·rw[if_pos k3] at e2 ⊢
    have h3:=DJ (bad:=bad) hs.back hbt hc.2 E2.ok' E2.le' e2;have hA:a={ cL with kind:=a.kind,op:=a.op,back:=a.back }:=by
     have:=ho;unfold bX at this;rw[if_neg k1,if_pos k2,if_pos k3] at this;exact this
    simp only[h3];refine IC ?_ (IC rfl hA.symm);simp only[cH,ba,if_neg k1,if_pos k2,if_pos k3,Iy,IA]
   ·rw[if_neg k3] at e2 ⊢
    rw[Iz] at e2;have h3:=oh (m:=255) E2.ok' E2.le' (by omega) (by omega) e2;have E3:=cd.of E2.ok' E2.le' e2;have e3:=E3.rest e2;simp only[h3];by_cases k4:a.op=3
    ·rw[if_pos k4] at e3 ⊢
     have h4:=vM (bad:=bad) E3.ok' E3.le' hs.owt hc.1 e3;have hA:a={ cL with kind:=a.kind,op:=a.op,oname:=a.oname,owt:=a.owt }:=by
      have:=ho;unfold bX at this;rw[if_neg k1,if_pos k2,if_neg k3,if_pos k4] at this;exact this
     simp only[h4];refine IC ?_ (IC rfl hA.symm);simp only[cH,ba,if_neg k1,if_pos k2,if_neg k3,if_pos k4,Iy,IA]
    ·rw[if_neg k4] at ⊢
     have hA:a={ cL with kind:=a.kind,op:=a.op,oname:=a.oname }:=by
      have:=ho;unfold bX at this;rw[if_neg k1,if_pos k2,if_neg k3,if_neg k4] at this;exact this
     refine IC ?_ (IC rfl hA.symm);simp only[cH,ba,if_neg k1,if_pos k2,if_neg k3,if_neg k4,Iy,I2,I6,IA]
  ·rw[if_neg k2] at e1 ⊢
   by_cases k3:a.kind=3
   ·rw[if_pos k3] at e1 ⊢
    rw[Iz] at e1;have h3:=oh (m:=255) E1.ok' E1.le' (by omega) (by omega) e1;have E3:=cd.of E1.ok' E1.le' e1;have e3:=E3.rest e1;have h4:=ur (bad:=bad) E3.ok' E3.le' e3;have hA:a={ cL with kind:=a.kind,name:=a.name,well:=a.well }:=by
     have:=ho;unfold bX at this;rw[if_neg k1,if_neg k2,if_pos k3] at this;exact this
    simp only[h3,h4];refine IC ?_ (IC rfl hA.symm);simp only[cH,ba,if_neg k1,if_neg k2,if_pos k3,Iy,IA]
   ·rw[if_neg k3] at ⊢
    have hA:a={ cL with kind:=a.kind }:=by
     have:=ho;unfold bX at this;rw[if_neg k1,if_neg k2,if_neg k3] at this;exact this
    refine IC ?_ (IC rfl hA.symm);simp only[cH,ba,if_neg k1,if_neg k2,if_neg k3,Iy,I2,I6]
theorem Hj(ok:em l s)(h:(hJ l s bad).1.2.2=0)(hb:(hJ l s bad).2.1=false):bad=false∧cd l s (ba (hJ l s bad).2.2) (hJ l s bad).1∧vP (hJ l s bad).2.2:=by
 rcases h1:aT l s 1 true with ⟨s1,k⟩
 have B1:=zY (l:=l) (s:=s);rw[h1] at B1;simp only at B1;by_cases k1:(k:Int)=1
 ·rcases h2:cF l s1 131072 with ⟨s2,fr⟩
  have hA:hJ l s bad=(s2,bad,{ cL with kind:=(k:Int),frame:=fr }):=by
   unfold hJ;simp only[h1,h2,if_pos k1]
  rw[hA] at h hb ⊢;simp only at h hb ⊢;have ok1:em l s1:=by have:=cK ok 1 true;rw[h1] at this;exact this
  have F2:=p5 (l:=l) (s:=s1) (m:=131072) (by rw[h2];exact h) ok1.1;rw[h2] at F2;refine⟨hb,?_,jQ,nQ⟩;have E1:=B1 F2.1.ok;simp only[ba,if_pos k1];exact E1.trans F2.1
 ·by_cases k2:(k:Int)=2
  ·rcases h2:aT l s1 1 true with ⟨s2,j⟩
   have B2:=zY (l:=l) (s:=s1);rw[h2] at B2;simp only at B2;have ok1:em l s1:=by have:=cK ok 1 true;rw[h1] at this;exact this
   have ok2:em l s2:=by have:=cK ok1 1 true;rw[h2] at this;exact this
   by_cases k3:(j:Int)=1
   ·rcases h3:eg l s2 bad with ⟨s3,b3,bk⟩
    have hA:hJ l s bad=(s3,b3,{ cL with kind:=(k:Int),op:=(j:Int),back:=bk }):=by
     unfold hJ;simp only[h1,h2,h3,if_neg k1,if_pos k2,if_pos k3]
    rw[hA] at h hb ⊢;simp only at h hb ⊢;have F3:=Gv (l:=l) (s:=s2) (bad:=bad) ok2 (by rw[h3];exact h) (by rw[h3];exact hb);rw[h3] at F3;obtain⟨hbad,E3,_,hcb,_⟩:=F3;have E2:=B2 E3.ok;have E1:=B1 E2.ok;refine⟨hbad,?_,jQ,hcb⟩;simp only[ba,if_neg k1,if_pos k2,if_pos k3];exact E1.trans (E2.trans E3)
   ·rcases h3:cF l s2 255 with ⟨s3,nm⟩
    by_cases k4:(j:Int)=3
    ·rcases h4:cR l s3 bad with ⟨s4,b4,wt⟩
     have hA:hJ l s bad=(s4,b4,{ cL with kind:=(k:Int),op:=(j:Int),oname:=nm,owt:=wt }):=by
      unfold hJ;simp only[h1,h2,h3,h4,if_neg k1,if_pos k2,if_neg k3,if_pos k4]
     rw[hA] at h hb ⊢;simp only at h hb ⊢;have F4:=vN (l:=l) (s:=s3) (bad:=bad) (by rw[h4];exact h) (by rw[h4];exact hb);rw[h4] at F4;obtain⟨hbad,E4,hcw⟩:=F4;have F3:=p5 (l:=l) (s:=s2) (m:=255) (by rw[h3];exact E4.ok) ok2.1;rw[h3] at F3;have E2:=B2 F3.1.ok;have E1:=B1 E2.ok;refine⟨hbad,?_,hcw,nQ⟩;simp only[ba,if_neg k1,if_pos k2,if_neg k3,if_pos k4];exact E1.trans (E2.trans (F3.1.trans E4))
    ·have hA:hJ l s bad=(s3,bad,{ cL with kind:=(k:Int),op:=(j:Int),oname:=nm }):=by
      unfold hJ;simp only[h1,h2,h3,if_neg k1,if_pos k2,if_neg k3,if_neg k4]
     rw[hA] at h hb ⊢;simp only at h hb ⊢;have F3:=p5 (l:=l) (s:=s2) (m:=255) (by rw[h3];exact h) ok2.1;rw[h3] at F3;have E2:=B2 F3.1.ok;have E1:=B1 E2.ok;refine⟨hb,?_,jQ,nQ⟩;simp only[ba,if_neg k1,if_pos k2,if_neg k3,if_neg k4,IK];exact E1.trans (E2.trans F3.1)
  ·by_cases k3:(k:Int)=3
   ·rcases h2:cF l s1 255 with ⟨s2,nm⟩
    rcases h3:ep l s2 bad with ⟨s3,b3,we⟩
    have ok1:em l s1:=by have:=cK ok 1 true;rw[h1] at this;exact this
    have hA:hJ l s bad=(s3,b3,{ cL with kind:=(k:Int),name:=nm,well:=we }):=by
     unfold hJ;simp only[h1,h2,h3,if_neg k1,if_neg k2,if_pos k3]
    rw[hA] at h hb ⊢;simp only at h hb ⊢;have F3:=ut (l:=l) (s:=s2) (bad:=bad) (by rw[h3];exact h) (by rw[h3];exact hb);rw[h3] at F3;obtain⟨hbad,E3⟩:=F3;have F2:=p5 (l:=l) (s:=s1) (m:=255) (by rw[h2];exact E3.ok) ok1.1;rw[h2] at F2;have E1:=B1 F2.1.ok;refine⟨hbad,?_,jQ,nQ⟩;simp only[ba,if_neg k1,if_neg k2,if_pos k3];exact E1.trans (F2.1.trans E3)
   ·have hA:hJ l s bad=(s1,bad,{ cL with kind:=(k:Int) }):=by
     unfold hJ;simp only[h1,if_neg k1,if_neg k2,if_neg k3]
    rw[hA] at h hb ⊢;simp only at h hb ⊢;refine⟨hb,?_,jQ,nQ⟩;simp only[ba,if_neg k1,if_neg k2,if_neg k3,IK];exact B1 h
end
def yw(l:List UInt8):St×Bool×dI :=
 let t0:=hJ l (0,0,0) false
 let t1:=aT l t0.1 1 true
 let t2:=aT l t1.1 1 true
 let t3:=ep l t2.1 t0.2.1
 let t4:=g9 l t3.1
 let t5:=cF l t4.1 255
 let t6:=g9 l t5.1
 let t7:=aT l t6.1 4 false
 (t7.1,t3.2.1,{ act:=t0.2.2,o:={ err:=(t1.2:Int),reason:=(t2.2:Int),hit:=t3.2.2,version:=((min t4.2 1099511627777:Nat):Int),name:=t5.2,out:=[] },len:=((min t6.2 262145:Nat):Int),sum:=t7.2 })
theorem DN(l:List UInt8):EM l=(jM l (yw l).1,(yw l).2):=by
 rcases h0:hJ l (0,0,0) false with ⟨s0,b0,ac⟩
 rcases h1:aT l s0 1 true with ⟨s1,q1⟩
 rcases h2:aT l s1 1 true with ⟨s2,q2⟩
 rcases h3:ep l s2 b0 with ⟨s3,b3,hit⟩
 rcases h4:g9 l s3 with ⟨s4,v4⟩
 rcases h5:cF l s4 255 with ⟨s5,nm⟩
 rcases h6:g9 l s5 with ⟨s6,v6⟩
 rcases h7:aT l s6 4 false with ⟨s7,q7⟩
 unfold EM yw;simp only[h0,h1,h2,h3,h4,h5,h6,h7]
theorem uu{l:List UInt8}{s:St}{bad:Bool}(ok:em l s):em l (ep l s bad).1:=cK ok 1 true
theorem tn{l:List UInt8}{s:St}{bad:Bool}(ok:em l s):em l (cR l s bad).1:=dX ok 8
theorem Fi{l:List UInt8}{s:St}{bad:Bool}(ok:em l s):em l (eg l s bad).1:=by
 rcases h1:cF l s 255 with ⟨s1,nm⟩
 rcases h2:ep l s1 bad with ⟨s2,b2,sx⟩
 rcases h3:bG l s2 16 with ⟨s3,ad⟩
 rcases h4:aT l s3 2 true with ⟨s4,po⟩
 rcases h5:bG l s4 6 with ⟨s5,mc⟩
 rcases h6:cR l s5 b2 with ⟨s6,b6,wt⟩
 rcases h7:ep l s6 b6 with ⟨s7,b7,dr⟩
 unfold eg;simp only[h1,h2,h3,h4,h5,h6,h7];have o1:=j3 ok 255;rw[h1] at o1;have o2:=uu (bad:=bad) o1;rw[h2] at o2;have o3:=dX o2 16;rw[h3] at o3;have o4:=cK o3 2 true;rw[h4] at o4;have o5:=dX o4 6;rw[h5] at o5;have o6:=tn (bad:=b2) o5;rw[h6] at o6;have o7:=uu (bad:=b6) o6;rw[h7] at o7;exact o7
theorem tp(l:List UInt8)(s:St)(bad:Bool)(Q:St→Bool→ca→Prop)
  (h1:Q (cF l (aT l s 1 true).1 131072).1 bad { cL with kind:=((aT l s 1 true).2:Int),frame:=(cF l (aT l s 1 true).1 131072).2 })
  (h2:Q (eg l (aT l (aT l s 1 true).1 1 true).1 bad).1 (eg l (aT l (aT l s 1 true).1 1 true).1 bad).2.1 { cL with kind:=((aT l s 1 true).2:Int),op:=((aT l (aT l s 1 true).1 1 true).2:Int),back:=(eg l (aT l (aT l s 1 true).1 1 true).1 bad).2.2 })
  (h3:Q (cR l (cF l (aT l (aT l s 1 true).1 1 true).1 255).1 bad).1 (cR l (cF l (aT l (aT l s 1 true).1 1 true).1 255).1 bad).2.1 { cL with kind:=((aT l s 1 true).2:Int),op:=((aT l (aT l s 1 true).1 1 true).2:Int),oname:=(cF l (aT l (aT l s 1 true).1 1 true).1 255).2,owt:=(cR l (cF l (aT l (aT l s 1 true).1 1 true).1 255).1 bad).2.2 })
  (h4:Q (cF l (aT l (aT l s 1 true).1 1 true).1 255).1 bad { cL with kind:=((aT l s 1 true).2:Int),op:=((aT l (aT l s 1 true).1 1 true).2:Int),oname:=(cF l (aT l (aT l s 1 true).1 1 true).1 255).2 })
  (h5:Q (ep l (cF l (aT l s 1 true).1 255).1 bad).1 (ep l (cF l (aT l s 1 true).1 255).1 bad).2.1 { cL with kind:=((aT l s 1 true).2:Int),name:=(cF l (aT l s 1 true).1 255).2,well:=(ep l (cF l (aT l s 1 true).1 255).1 bad).2.2 })
  (h6:Q (aT l s 1 true).1 bad { cL with kind:=((aT l s 1 true).2:Int) }):Q (hJ l s bad).1 (hJ l s bad).2.1 (hJ l s bad).2.2:=by
 unfold hJ;by_cases k1:((aT l s 1 true).2:Int)=1
 ·simp only[if_pos k1];exact h1
 ·simp only[if_neg k1]
  by_cases k2:((aT l s 1 true).2:Int)=2
  ·simp only[if_pos k2]
   by_cases k3:((aT l (aT l s 1 true).1 1 true).2:Int)=1
   ·simp only[if_pos k3];exact h2
   ·simp only[if_neg k3]
    by_cases k4:((aT l (aT l s 1 true).1 1 true).2:Int)=3
    ·simp only[if_pos k4];exact h3
    ·simp only[if_neg k4];exact h4
  ·simp only[if_neg k2]
   by_cases k3:((aT l s 1 true).2:Int)=3
   ·simp only[if_pos k3];exact h5
   ·simp only[if_neg k3];exact h6
theorem Gw{l:List UInt8}{s:St}{bad:Bool}(ok:em l s):em l (hJ l s bad).1:=by
 have ok1:=cK ok 1 true;have ok2:=cK ok1 1 true;have a1:=j3 ok1 131072;have a3:=j3 ok2 255;have a5:=j3 ok1 255;have a2:=Fi (bad:=bad) ok2;have a4:=tn (bad:=bad) a3;have a6:=uu (bad:=bad) a5;exact tp l s bad (fun x _ _=>em l x) a1 a2 a4 a3 a6 ok1
theorem yx(l:List UInt8)(s:St)(bad:Bool):aA (hJ l s bad).2.2:=by
 have h0:(0:Nat)<18446744073709551616:=by decide
 exact tp l s bad (fun _ _ x=>aA x) ⟨aE,h0⟩ ⟨mj _ _ _,h0⟩ ⟨aE,o8 _⟩ ⟨aE,h0⟩ ⟨aE,h0⟩ ⟨aE,h0⟩
section
variable {l r:List UInt8}
theorem Gx{e:dI}(hs:aP e)(hr:aG e=true)(hc:DL e)(h:l=bT e++r):yw l=(fq (0,0,0) (bT e).length,false,e):=by
 simp only[aG,qq,decide_eq_true_eq,bF] at hr;obtain⟨hp,⟨he0,he9⟩,⟨hr0,hr9⟩,⟨hv0,hv9⟩,hn,ho,hl0,hl9⟩:=hr;have e0:l.drop ((0,0,0):St).1=ba e.act++(bY 1 e.o.err.toNat true++(bY 1 e.o.reason.toNat true++(ea e.o.hit++(aC e.o.version.toNat++(bw e.o.name++(aC e.len.toNat++(bY 4 e.sum false++r))))))):=by
  rw[h];simp[bT,Iz]
 have h0:=Hi (bad:=false) hs.act hp hc (s:=(0,0,0)) rfl (IG _) e0;have E0:=cd.of (s:=(0,0,0)) rfl (IG _) e0;have e1:=E0.rest e0;obtain⟨k1,h1,z1⟩:=zX he0 (by omega) E0.ok' E0.le' e1;have E1:=cd.of E0.ok' E0.le' e1;have e2:=E1.rest e1;obtain⟨k2,h2,z2⟩:=zX hr0 (by omega) E1.ok' E1.le' e2;have E2:=cd.of E1.ok' E1.le' e2;have e3:=E2.rest e2;have h3:=ur (bad:=false) E2.ok' E2.le' e3;have E3:=cd.of E2.ok' E2.le' e3;have e4:=E3.rest e3;have h4:=tj E3.ok' E3.le' (by omega) e4;have E4:=cd.of E3.ok' E3.le' e4;have e5:=E4.rest e4;have h5:=oh (m:=255) E4.ok' E4.le' (by omega) (by omega) e5;have E5:=cd.of E4.ok' E4.le' e5;have e6:=E5.rest e5;have h6:=tj E5.ok' E5.le' (by omega) e6;have E6:=cd.of E5.ok' E5.le' e6;have e7:=E6.rest e6;have h7:=kK (n:=4) E6.ok' E6.le' (by rw[az];rfl) (by rw[az];decide) (by rw[az];decide) false e7;have hsum:=hs.sum;rw[lD (by omega)] at h7;unfold yw;simp only[h0,h1,h2,h3,h4,h5,h6,h7];refine IC ?_ (IC rfl ?_)
 ·simp only[cH,bT,Iy,IA]
 ·have m4:((min e.o.version.toNat 1099511627777:Nat):Int)=e.o.version:=by omega
  have m6:((min e.len.toNat 262145:Nat):Int)=e.len:=by omega
  simp only[z1,z2,m4,m6];have hout:e.o.out=[]:=IH ho;rw[←hout]
theorem zZ{e:dI}(hs:aP e)(hr:aG e=true)(hc:DL e):fg (bT e)=some e:=by
 have h:=Gx (r:=[]) hs hr hc (by rw[IK]:bT e=bT e++[]);unfold fg;rw[DN,h];simp only;rw[yr (by simp[fq]),if_pos];rw[hr];rfl
theorem Fj{f:dI}(h:fg l=some f):l=bT f∧aG f=true∧aP f∧DL f:=by
 unfold fg at h;split at h
 ·rename_i hc
  injection h with h
  rw[qq] at hc;obtain⟨hok,hr⟩:=hc;rw[h] at hr;unfold rJ at hok;simp only[qq,Bool.not_eq_true',decide_eq_true_eq] at hok;obtain⟨hbad,_,hz⟩:=hok;rw[DN] at hbad hz h;simp only at hbad hz h;obtain⟨hge,hend⟩:=Dt hz;rw[hend] at hz;have ok0:em l (0,0,0):=⟨IG _,IG _,IG _⟩;rcases h0:hJ l (0,0,0) false with ⟨s0,b0,ac⟩
  rcases h1:aT l s0 1 true with ⟨s1,q1⟩
  rcases h2:aT l s1 1 true with ⟨s2,q2⟩
  rcases h3:ep l s2 b0 with ⟨s3,b3,hit⟩
  rcases h4:g9 l s3 with ⟨s4,v4⟩
  rcases h5:cF l s4 255 with ⟨s5,nm⟩
  rcases h6:g9 l s5 with ⟨s6,v6⟩
  rcases h7:aT l s6 4 false with ⟨s7,q7⟩
  have hA:yw l=(s7,b3,{ act:=ac,o:={ err:=(q1:Int),reason:=(q2:Int),hit:=hit,version:=((min v4 1099511627777:Nat):Int),name:=nm,out:=[] },len:=((min v6 262145:Nat):Int),sum:=q7 }):=by
   unfold yw;simp only[h0,h1,h2,h3,h4,h5,h6,h7]
  rw[hA] at hbad hz hge h;simp only at hbad hz hge h;subst h;simp only[aG,qq,decide_eq_true_eq,bF] at hr;have hr':=hr;obtain⟨hp,he,hre,⟨hv0,hv9⟩,hn,ho,hl0,hl9⟩:=hr';have okA:em l s0:=by
   have:=Gw (l:=l) (bad:=false) ok0;rw[h0] at this;exact this
  have ok1:em l s1:=by have:=cK okA 1 true;rw[h1] at this;exact this
  have ok2:em l s2:=by have:=cK ok1 1 true;rw[h2] at this;exact this
  have ok3:em l s3:=by have:=cK ok2 1 true;unfold ep at h3;injection h3 with h3;rw[←h3];exact this
  have ok4:em l s4:=by have:=n0 ok3;rw[h4] at this;exact this
  have ok5:em l s5:=by have:=j3 ok4 255;rw[h5] at this;exact this
  obtain⟨x7,hx7,E7,y7⟩:=oW (l:=l) (s:=s6) (n:=4) (by decide) (by decide) false (by rw[h7];exact hz);rw[h7] at E7 y7;simp only at E7 y7;have F6:=Ds (l:=l) (s:=s5) (by rw[h6];exact E7.ok) ok5.1;rw[h6] at F6;obtain⟨_,E6⟩:=F6;have F5:=p5 (l:=l) (s:=s4) (m:=255) (by rw[h5];exact E6.ok) ok4.1;rw[h5] at F5;obtain⟨E5,_⟩:=F5;have F4:=Ds (l:=l) (s:=s3) (by rw[h4];exact E5.ok) ok3.1;rw[h4] at F4;obtain⟨_,E4⟩:=F4;have F3:=ut (l:=l) (s:=s2) (bad:=b0) (by rw[h3];exact E4.ok) (by rw[h3];exact hbad);rw[h3] at F3;obtain⟨hb0,E3⟩:=F3;have E2:=zY (l:=l) (s:=s1) (by rw[h2];exact E3.ok);rw[h2] at E2;have E1:=zY (l:=l) (s:=s0) (by rw[h1];exact E2.ok);rw[h1] at E1;have F0:=Hj (l:=l) (s:=(0,0,0)) (bad:=false) ok0 (by rw[h0];exact E1.ok) (by rw[h0];exact hb0);rw[h0] at F0;obtain⟨_,E0,hcan⟩:=F0;simp only at E6 E5 E4 E3 E2 E1 E0 hcan;have hsh0:=yx l (0,0,0) false;rw[h0] at hsh0;have m4:((min v4 1099511627777:Nat):Int)=(v4:Int):=by omega
  have m6:((min v6 262145:Nat):Int)=(v6:Int):=by omega
  have hx7':x7.length=4:=hx7;have hq7:q7<4294967296:=by have:=zW l s6;rw[h7] at this;exact this
  have hput:bY 4 q7 false=x7:=by
   rw[y7];have:=nr x7 false;rw[hx7'] at this;exact this
  refine⟨?_,?_,⟨hsh0,hq7⟩,hcan⟩
  ·have E:=E0.trans (E1.trans (E2.trans (E3.trans (E4.trans (E5.trans (E6.trans E7))))))
   have hE:=E.eq;have hto:=E.to;rw[hto] at hge;simp only[fq,Nat.zero_add] at hge hE;rw[List.drop_zero,List.drop_of_length_le hge,IK] at hE;unfold bT;simp only[m4,m6,IS,hput];exact hE
  ·simp only[aG,qq,decide_eq_true_eq,bF]
   exact hr
 ·cases h
theorem Bu{f:dI}:fg l=some f↔l=bT f∧aG f=true∧aP f∧DL f :=
 ⟨Fj,fun ⟨h1,h2,h3,h4⟩=>by rw[h1];exact zZ h3 h2 h4⟩
end
def nR(b:aU):aU:={ b with wt:=br b.wt }
def pf(a:ca):ca:={ a with back:=nR a.back,owt:=br a.owt }
def i9(e:dI):dI:={ e with act:=pf e.act }
theorem DO(e:dI):DL (i9 e):=⟨fz _,fz _⟩
theorem rM{e:dI}(h:aP e):aP (i9 e):=⟨⟨⟨h.act.back.addr,h.act.back.mac,mG h.act.back.wt⟩,mG h.act.owt⟩,h.sum⟩
theorem Bv(n:Nat):dK (br n)=dK n:=by unfold dK;rw[fz]
theorem yy(e:dI):bT (i9 e)=bT e:=by
 unfold bT i9 ba pf aD nR;simp only[Bv]
theorem By(e:dI):ip (i9 e) e=true:=by
 simp[ip,aV,bz,i9,pf,nR,fz]
theorem yz(a:ca):bj (pf a)=bj a:=by
 have h:aV (pf a) (bX (pf a))=aV a (bX a):=by
  unfold bX pf;simp only;split
  ·simp[aV,bz,nR,fz]
  ·split
   ·split
    ·simp[aV,bz,nR,fz]
    ·split
     ·simp[aV,bz,nR,fz]
     ·simp[aV,bz,nR,fz]
   ·split
    ·simp[aV,bz,nR,fz]
    ·simp[aV,bz,nR,fz]
 unfold bj;rw[h];rfl
theorem yA(e:dI):aG (i9 e)=aG e:=by
 unfold aG;rw[show (i9 e).act=pf e.act from rfl,yz];rfl
theorem tq{e:dI}(hs:aP e)(hr:aG e=true):fg (bT e)=some (i9 e):=by
 rw[←yy];exact zZ (rM hs) (by rw[yA];exact hr) (DO e)
def dt(n:Nat):Bool:=decide (n≤4652007308841189376)||decide (n=9223372036854775808)
def fP(n:Nat):Nat:=if n%9223372036854775808=0 then 0 else n
def eu(b:aU):Bool:=de b.addr&&(gy b.name&&(dh b.port 1 65535&&dt b.wt))
def eE(bs:List aU)(i:Nat):Bool :=
 match bs[i]? with
 |some b=>eu b&&(br b.wt==br (fP b.wt)&&(decide (i=0)||(match bs[i-1]? with|some c=>I7 c.name b.name|none=>true)))
 |none=>true
def bU(p:my):Bool:=dh p.version 0 1099511627776&&(decide (p.backs.length≤1024)&&(IX p.backs.length).all (eE p.backs))
def dC(k:fL):Bool:=(k.src.1==k.dst.1)&&(de k.src&&(de k.dst&&(dh k.proto 0 255&&(dh k.sport 0 65535&&dh k.dport 0 65535))))
def du(f:dE):Bool:=dC f.key&&(gy f.name&&(dh f.state 1 5&&(dh f.seen 0 1099511627776&&dh f.no 0 1152921504606846976)))
def aZ(t:fL):List UInt8:=(if t.src.1 then 6 else 4)::(t.src.2++(t.dst.2++(bY 1 t.proto.toNat true++(bY 2 t.sport.toNat true++bY 2 t.dport.toNat true))))
def fQ(a b:dE):Bool:=if a.no=b.no then I7 (aZ a.key) (aZ b.key) else decide (a.no<b.no)
def dW(h:dq):Bool:=decide (h.name.length≤255)&&dh h.run 0 99
def eM(s:bA):Bool :=
 bU s.pool&&(decide (s.healths.length≤1024)&&(decide (s.flows.length≤4096)&&(dh s.tick 0 1099511627776&&(dh s.no 0 1152921504606846976 &&
  (s.count.all (fun n=>dh n 0 1152921504606846976)&&(s.healths.all dW&&s.flows.all du))))))
def aL(h:dq):List UInt8:=bw h.name++(ea h.down++aC h.run.toNat)
def bR(f:dE):List UInt8:=aZ f.key++(bw f.name++(aC f.state.toNat++(aC f.seen.toNat++aC f.no.toNat)))
def eV{α:Type}(enc:α→List UInt8)(xs:List α):List UInt8:=aC xs.length++xs.flatMap enc
def iy(s:bA):List Nat:=s.tick.toNat::s.no.toNat::(s.count.map Int.toNat++[s.pool.version.toNat])
def eF(s:bA):List UInt8:=aJ (iy s)++(eV aD s.pool.backs++(eV aL s.healths++eV bR s.flows))
def fS(l:List UInt8)(s:St):St×Nat:=((g9 l s).1,min (g9 l s).2 1152921504606846977)
def nT(s:St):Bool:=decide (s.2.1=0)&&decide (s.2.2=0)
def fC{α:Type}(one:St→St×α×Bool):Nat→St→St×Option (List α)
 |0,s=>(s,some [])
 |k+1,s=>if (one s).2.2&&nT (one s).1 then ((fC one k (one s).1).1,(fC one k (one s).1).2.map ((one s).2.1::·)) else ((one s).1,none)
def gI{α:Type}(l:List UInt8)(one:St→St×α×Bool)(most:Nat)(s:St):St×List α×Bool :=
 if (fS l s).2≤most then ((fC one (fS l s).2 (fS l s).1).1,((fC one (fS l s).2 (fS l s).1).2.getD []),(fC one (fS l s).2 (fS l s).1).2.isSome) else ((fS l s).1,[],false)
def jU(l:List UInt8):Nat→St→St×List Nat
 |0,s=>(s,[])
 |k+1,s=>((jU l k (fS l s).1).1,(fS l s).2::(jU l k (fS l s).1).2)
def gz(l:List UInt8)(s:St):St×dq×Bool :=
 let t1:=cF l s 255
 let t2:=aT l t1.1 1 true
 let t3:=fS l t2.1
 (t3.1,{ name:=t1.2,down:=t2.2==1,run:=(t3.2:Int) },decide (t2.2≤1))
def p6(l:List UInt8)(s:St):St×fL×Bool :=
 let t1:=aT l s 1 true
 let t2:=bG l t1.1 16
 let t3:=bG l t2.1 16
 let t4:=aT l t3.1 1 true
 let t5:=aT l t4.1 2 true
 let t6:=aT l t5.1 2 true
 (t6.1,{ src:=(t1.2==6,ej t2.2 16),dst:=(t1.2==6,ej t3.2 16),proto:=(t4.2:Int),sport:=(t5.2:Int),dport:=(t6.2:Int) },t1.2==6||t1.2==4)
def jV(l:List UInt8)(s:St):St×dE×Bool :=
 let t1:=p6 l s
 let t2:=cF l t1.1 255
 let t3:=fS l t2.1
 let t4:=fS l t3.1
 let t5:=fS l t4.1
 (t5.1,{ key:=t1.2.1,name:=t2.2,state:=(t3.2:Int),seen:=(t4.2:Int),no:=(t5.2:Int) },t1.2.2)
def gA(l:List UInt8)(s:St):St×aU×Bool:=((eg l s false).1,(fN l s).1,(fN l s).2)
def ux(ns:List Nat)(bs:List aU)(hs:List dq)(fs:List dE):bA :=
 { pool:={ version:=(ns.getD 13 0:Nat),backs:=bs },healths:=hs,flows:=fs,tick:=(ns.getD 0 0:Nat),no:=(ns.getD 1 0:Nat),count:=((ns.drop 2).take 11).map Int.ofNat }
def jk(l:List UInt8):Option bA :=
 let t1:=jU l 14 (0,0,0)
 let a:=gI l (gA l) 1024 t1.1
 let c:=gI l (gz l) 1024 a.1
 let d:=gI l (jV l) 4096 c.1
 if a.2.2&&(c.2.2&&(d.2.2&&(nT (jM l d.1)&&eM (ux t1.2 a.2.1 c.2.1 d.2.1)))) then some (ux t1.2 a.2.1 c.2.1 d.2.1) else none
section
variable {l:List UInt8} {s:St} {r:List UInt8}
theorem p7(h0:s.2.2=0)(hl:s.1≤l.length){m:Nat}(hm:m≤1152921504606846976)(e:l.drop s.1=aC m++r):fS l s=(fq s (aC m).length,m):=by
 unfold fS;rw[tj h0 hl (by omega) e,Nat.min_eq_left (by omega)]
theorem kM(h:em l s):em l (fS l s).1:=n0 h
theorem tt:∀(k:Nat) (s:St),(jU l k s).2.length=k
 |0,s=>rfl
 |k+1,s=>by simp[jU,tt k]
theorem Ad:∀(ns:List Nat) (s:St),s.2.2=0→s.1≤l.length→(∀n∈ns,n≤1152921504606846976)→∀{r:List UInt8},l.drop s.1=aJ ns++r→jU l ns.length s=(fq s (aJ ns).length,ns)
 |[],s,_,_,_,_,_=>rfl
 |n::ns,s,h0,hl,hn,r,e=>by
  rw[aJ,Iz] at e;have h1:=p7 h0 hl (hn n (by simp)) e;have E1:=cd.of h0 hl e;have ih:=Ad ns _ E1.ok' E1.le' (fun u hu=>hn u (by simp[hu])) (E1.rest e);rw[IZ,jU,h1];simp only;rw[ih];simp[cH,aJ]
theorem DR{α:Type}{enc:α→List UInt8}{one:St→St×α×Bool}{P:α→Prop}
  (F:∀(x:α) (s:St) (r:List UInt8),P x→s.2.1=0→s.2.2=0→s.1≤l.length→l.drop s.1=enc x++r→one s=(fq s (enc x).length,x,true)) :
  ∀(xs:List α) (s:St),(∀x∈xs,P x)→s.2.1=0→s.2.2=0→s.1≤l.length→∀{r:List UInt8},l.drop s.1=xs.flatMap enc++r→fC one xs.length s=(fq s (xs.flatMap enc).length,some xs)
 |[],s,_,_,_,_,_,_=>rfl
 |x::xs,s,hP,h1,h0,hl,r,e=>by
  rw[IF,Iz] at e;have h:=F x s _ (hP x (by simp)) h1 h0 hl e;have E1:=cd.of h0 hl e;have ih:=DR F xs _ (fun u hu=>hP u (by simp[hu])) (by rw[E1.at_];exact h1) E1.ok' E1.le' (E1.rest e);rw[IZ,fC,h];simp only;rw[if_pos (by simp[nT,fq,h1,h0]),ih];simp[cH]
theorem yF{α:Type}{enc:α→List UInt8}{one:St→St×α×Bool}{P:α→Prop}
  (F:∀(x:α) (s:St) (r:List UInt8),P x→s.2.1=0→s.2.2=0→s.1≤l.length→l.drop s.1=enc x++r→one s=(fq s (enc x).length,x,true)) {most:Nat} (hmo:most≤1000000)
  (xs:List α) (hP:∀x∈xs,P x) (hx:xs.length≤most) (h1:s.2.1=0) (h0:s.2.2=0) (hl:s.1≤l.length) (e:l.drop s.1=eV enc xs++r):gI l one most s=(fq s (eV enc xs).length,xs,true):=by
 unfold eV at e;rw[Iz] at e;have h:=p7 h0 hl (by omega) e;have E1:=cd.of h0 hl e;have h2:=DR F xs _ hP (by rw[E1.at_];exact h1) E1.ok' E1.le' (E1.rest e);unfold gI;rw[h];simp only;rw[if_pos hx,h2];simp[cH,eV]
end
section
variable {l:List UInt8} {s:St} {r:List UInt8}
theorem DS{h:dq}(hr:dW h=true)(h0:s.2.2=0)(hl:s.1≤l.length)(e:l.drop s.1=aL h++r):gz l s=(fq s (aL h).length,h,true):=by
 simp only[dW,qq,decide_eq_true_eq,bF] at hr;obtain⟨hn,hr0,hr9⟩:=hr;unfold aL at e;simp only[Iz] at e;have h1:=oh (m:=255) h0 hl (by omega) (by omega) e;have E1:=cd.of h0 hl e;have e1:=E1.rest e;have h2:=kK (n:=1) E1.ok' E1.le' (by rw[cP];rfl) (by rw[cP];decide) (by rw[cP];decide) true e1;have E2:=cd.of E1.ok' E1.le' e1;have e2:=E2.rest e1;have h3:=p7 E2.ok' E2.le' (by omega) e2;unfold gz;simp only[h1,h2,h3];rcases h with ⟨nm,d,run⟩
 simp only at hr0 hr9 ⊢;have hz:((run.toNat:Nat):Int)=run:=by omega
 rw[hz];cases d
 ·simp[cH,aL,ea,dF,IA,Nat.add_comm,Nat.add_left_comm]
 ·simp[cH,aL,ea,dF,IA,Nat.add_comm,Nat.add_left_comm]
theorem Gy(h:em l s):em l (p6 l s).1:=cK (cK (cK (dX (dX (cK h _ _) _) _) _ _) _ _) _ _
theorem tu(l:List UInt8)(s:St):cy (p6 l s).2.1:=by
 rcases h1:aT l s 1 true with ⟨s1,fm⟩
 rcases h3:bG l s1 16 with ⟨s2,sb⟩
 rcases h4:bG l s2 16 with ⟨s3,db⟩
 unfold p6;simp only[h1,h3,h4];exact⟨eX (ii (n:=16) h3),eX (ii (n:=16) h4)⟩
theorem Ia{t:fL}(ht:cy t)(hr:dC t=true)(h0:s.2.2=0)(hl:s.1≤l.length)(e:l.drop s.1=aZ t++r):p6 l s=(fq s (aZ t).length,t,true):=by
 simp only[dC,qq,beq_iff_eq,bF] at hr;obtain⟨hf,_,_,hp,hsp,hdp⟩:=hr;have hs16:t.src.2.length=16:=ht.src;have hd16:t.dst.2.length=16:=ht.dst;obtain⟨c,hc⟩:∃c:UInt8,c=if t.src.1 then 6 else 4:=⟨_,rfl⟩
 unfold aZ at e;rw[←hc,show c::(t.src.2++(t.dst.2++(bY 1 t.proto.toNat true++(bY 2 t.sport.toNat true++bY 2 t.dport.toNat true))))++r=[c]++(t.src.2++(t.dst.2++(bY 1 t.proto.toNat true++(bY 2 t.sport.toNat true++(bY 2 t.dport.toNat true++r))))) by simp] at e;have h1:=kK (n:=1) h0 hl (x:=[c]) rfl (by simp) (by simp) true e;have E1:=cd.of h0 hl e;have e1:=E1.rest e;have h2:=jP (n:=16) E1.ok' E1.le' (by rw[hs16];rfl) e1;have E2:=cd.of E1.ok' E1.le' e1;have e2:=E2.rest e1;have h3:=jP (n:=16) E2.ok' E2.le' (by rw[hd16];rfl) e2;have E3:=cd.of E2.ok' E2.le' e2;have e3:=E3.rest e2;have h4:=kK (n:=1) E3.ok' E3.le' (by rw[az];rfl) (by rw[az];decide) (by rw[az];decide) true e3;have E4:=cd.of E3.ok' E3.le' e3;have e4:=E4.rest e3;have h5:=kK (n:=2) E4.ok' E4.le' (by rw[az];rfl) (by rw[az];decide) (by rw[az];decide) true e4;have E5:=cd.of E4.ok' E4.le' e4;have e5:=E5.rest e4;have h6:=kK (n:=2) E5.ok' E5.le' (by rw[az];rfl) (by rw[az];decide) (by rw[az];decide) true e5;rw[lD (by omega)] at h4 h5 h6;unfold p6;simp only[h1,h2,h3,h4,h5,h6];rcases t with ⟨⟨s6,sb⟩,⟨d6,db⟩,pr,sp,dp⟩
 simp only at hf hp hsp hdp hs16 hd16 hc ⊢;subst hf;rw[lE hs16,lE hd16,dF];have z1:((pr.toNat:Nat):Int)=pr:=by omega
 have z2:((sp.toNat:Nat):Int)=sp:=by omega
 have z3:((dp.toNat:Nat):Int)=dp:=by omega
 rw[z1,z2,z3];cases s6
 ·have:c=4:=hc
  subst this;simp[cH,aZ,IA,Nat.add_comm,Nat.add_left_comm]
 ·have:c=6:=hc
  subst this;simp[cH,aZ,IA,Nat.add_comm,Nat.add_left_comm]
theorem jl{n:List UInt8}(h:gy n=true):n.length≤24:=by
 simp only[gy,qq,decide_eq_true_eq] at h;exact h.2
theorem Gz{f:dE}(hk:cy f.key)(hr:du f=true)(h0:s.2.2=0)(hl:s.1≤l.length)(e:l.drop s.1=bR f++r):jV l s=(fq s (bR f).length,f,true):=by
 simp only[du,qq,bF] at hr;obtain⟨hkn,hnm,hst,hse,hno⟩:=hr;have hnl:=jl hnm;unfold bR at e;simp only[Iz] at e;have h1:=Ia hk hkn h0 hl e;have E1:=cd.of h0 hl e;have e1:=E1.rest e;have h2:=oh (m:=255) E1.ok' E1.le' (by omega) (by omega) e1;have E2:=cd.of E1.ok' E1.le' e1;have e2:=E2.rest e1;have h3:=p7 E2.ok' E2.le' (by omega) e2;have E3:=cd.of E2.ok' E2.le' e2;have e3:=E3.rest e2;have h4:=p7 E3.ok' E3.le' (by omega) e3;have E4:=cd.of E3.ok' E3.le' e3;have e4:=E4.rest e3;have h5:=p7 E4.ok' E4.le' (by omega) e4;unfold jV;simp only[h1,h2,h3,h4,h5];rcases f with ⟨k,nm,st,se,no⟩
 simp only at hst hse hno ⊢;have z1:((st.toNat:Nat):Int)=st:=by omega
 have z2:((se.toNat:Nat):Int)=se:=by omega
 have z3:((no.toNat:Nat):Int)=no:=by omega
 rw[z1,z2,z3];simp[cH,bR,IA]
theorem nu{b:aU}(h:eu b=true):dM b=true:=by
 simp only[eu,qq] at h;have:=jl h.2.1;have hp:=bF.1 h.2.2.1;simp only[dM,qq,decide_eq_true_eq,bF];omega
theorem rP{n:Nat}(h:dt n=true):br n=n:=by
 have hn:kC n=false:=by
  simp only[dt,IP,decide_eq_true_eq] at h;rcases hb:kC n with _|_
  ·rfl
  ·have:=ub n hb
   omega
 unfold br;rw[hn];rfl
theorem DT{b:aU}(h:eu b=true):vO b:=by
 simp only[eu,qq] at h;exact rP h.2.2.2
theorem Bz{b:aU}(hs:au b)(hr:eu b=true)(h1:s.2.1=0)(h0:s.2.2=0)(hl:s.1≤l.length)(e:l.drop s.1=aD b++r):gA l s=(fq s (aD b).length,b,true):=by
 have h:=DJ (bad:=false) hs (nu hr) (DT hr) h0 hl e;unfold gA fN;rw[h];have:rJ (fq s (aD b).length) false=true:=by simp[rJ,fq,h1,h0]
 simp only[this,if_true]
end
theorem vU{bs:List aU}(h:(IX bs.length).all (eE bs)=true):∀b∈bs,eu b=true:=by
 intro b hb;obtain⟨i,hi,rfl⟩:=List.getElem_of_mem hb;rw[IM] at h;have:=h i (List.mem_range.2 hi);unfold eE at this;rw[List.getElem?_eq_getElem hi] at this;simp only[qq] at this;exact this.1
structure DU(s:bA):Prop where
 ver:0≤s.pool.version∧s.pool.version≤1099511627776
 bl:s.pool.backs.length≤1024
 backs:∀b∈s.pool.backs,eu b=true
 hl:s.healths.length≤1024
 fl:s.flows.length≤4096
 tick:0≤s.tick∧s.tick≤1099511627776
 no:0≤s.no∧s.no≤1152921504606846976
 count:∀n∈s.count,0≤n∧n≤1152921504606846976
 healths:∀h∈s.healths,dW h=true
 flows:∀f∈s.flows,du f=true
theorem pi{s:bA}(h:eM s=true):DU s:=by
 simp only[eM,bU,qq,decide_eq_true_eq,bF] at h;obtain⟨⟨h1,h2,h3⟩,h4,h5,h6,h7,h8,h9,h10⟩:=h;exact⟨h1,h2,vU h3,h4,h5,h6,h7,fun n hn=>bF.1 (IM.1 h8 n hn),IM.1 h9,IM.1 h10⟩
theorem tx{s:bA}(h:DU s):∀n∈iy s,n≤1152921504606846976:=by
 intro n hn;have:=h.tick;have:=h.no;have:=h.ver;simp only[iy,List.mem_cons,List.mem_append,List.mem_map,List.mem_nil_iff,or_false] at hn;rcases hn with rfl|rfl|⟨z,hz,rfl⟩|rfl
 ·omega
 ·omega
 ·have:=h.count z hz;omega
 ·omega
theorem rQ{s:bA}(h:s.count.length=11):(iy s).length=14:=by simp[iy,h]
theorem BA{s:bA}(h:s.count.length=11)(hr:DU s):ux (iy s) s.pool.backs s.healths s.flows=s:=by
 obtain⟨⟨ver,backs⟩,healths,flows,tick,no,count⟩:=s;have h1:=hr.tick;have h2:=hr.no;have h3:=hr.ver;have h4:=hr.count;simp only at h h1 h2 h3 h4;match count,h with
 |[a,b,c,d,e,f,g,i,j,k,m],_ =>
  have ha:=h4 a (by simp);have hb:=h4 b (by simp);have hc:=h4 c (by simp);have hd:=h4 d (by simp);have he:=h4 e (by simp);have hf:=h4 f (by simp);have hg:=h4 g (by simp);have hi:=h4 i (by simp);have hj:=h4 j (by simp);have hk:=h4 k (by simp);have hm:=h4 m (by simp);simp[ux,iy];omega
theorem Fk{ns:List Nat}(h:ns.length=14)(bs:List aU)(hs:List dq)(fs:List dE):iy (ux ns bs hs fs)=ns∧(ux ns bs hs fs).count.length=11:=by
 match ns,h with
 |[a,b,c,d,e,f,g,i,j,k,m,n,o,p],_=>exact⟨rfl,rfl⟩
theorem yG{s:bA}(ok:iU s)(h:eM s=true):jk (eF s)=some s:=by
 have hr:=pi h;obtain⟨l,hl⟩:∃l,l=eF s:=⟨_,rfl⟩;rw[←hl];have e0:l.drop ((0,0,0):St).1=aJ (iy s)++(eV aD s.pool.backs++(eV aL s.healths++(eV bR s.flows++[]))):=by
  rw[hl];simp[eF]
 have h1:=Ad (iy s) (0,0,0) rfl (IG _) (tx hr) e0;rw[rQ ok.count] at h1;have E1:=cd.of (s:=(0,0,0)) rfl (IG _) e0;have e1:=E1.rest e0;have h2:=yF (one:=gA l) (P:=fun b=>au b∧eu b=true) (enc:=aD) (most:=1024) (fun x s r hP a0 a1 a2 a3=>Bz hP.1 hP.2 a0 a1 a2 a3) (by decide) s.pool.backs (fun b hb=>⟨ok.backs b hb,hr.backs b hb⟩) hr.bl (by rw[E1.at_]) E1.ok' E1.le' e1;have E2:=cd.of E1.ok' E1.le' e1;have e2:=E2.rest e1;have h3:=yF (one:=gz l) (P:=fun b=>dW b=true) (enc:=aL) (most:=1024) (fun x s r hP a0 a1 a2 a3=>DS hP a1 a2 a3) (by decide) s.healths hr.healths hr.hl (by rw[E2.at_,E1.at_]) E2.ok' E2.le' e2;have E3:=cd.of E2.ok' E2.le' e2;have e3:=E3.rest e2;have h4:=yF (one:=jV l) (P:=fun f=>cy f.key∧du f=true) (enc:=bR) (most:=4096) (fun x s r hP a0 a1 a2 a3=>Gz hP.1 hP.2 a1 a2 a3) (by decide) s.flows (fun f hf=>⟨ok.flows f hf,hr.flows f hf⟩) hr.fl (by rw[E3.at_,E2.at_,E1.at_]) E3.ok' E3.le' e3;have E4:=cd.of E3.ok' E3.le' e3;have hend:jM l (fq (fq (fq (fq (0,0,0) (aJ (iy s)).length) (eV aD s.pool.backs).length) (eV aL s.healths).length) (eV bR s.flows).length)=(fq (fq (fq (fq (0,0,0) (aJ (iy s)).length) (eV aD s.pool.backs).length) (eV aL s.healths).length) (eV bR s.flows).length):=by
  refine yr ?_;rw[hl];simp[eF,fq,IA]
 unfold jk;simp only[h1,h2,h3,h4,hend,BA ok.count hr,h];rw[if_pos (by simp[nT,fq])]
structure cE where
 conf:bf
 first:Int
 lost:Int
 st:bA
 evs:List dI
structure bV(s:cE):Prop where
 conf:ao s.conf
 st:iU s.st
 evs:∀e∈s.evs,aP e
def dl:bA:={ pool:={ version:=0,backs:=[] },healths:=[],flows:=[],tick:=0,no:=0,count:=List.replicate 11 0 }
def dS:cE:={ conf:=bH,first:=0,lost:=0,st:=dl,evs:=[] }
theorem jm:iU dl:=⟨by simp[dl],by simp[dl],by simp[dl]⟩
theorem dP:bV dS:=⟨jI,jm,by simp[dS]⟩
def fD(a b:fL):Bool:=a.src==b.src&&(a.dst==b.dst&&(a.proto==b.proto&&(a.sport==b.sport&&a.dport==b.dport)))
theorem tB{a b:fL}:fD a b=true↔a=b:=by cases a;cases b;simp[fD]
def dY(c:bf)(s:bA)(i:Nat):Bool :=
 match s.healths[i]?,s.pool.backs[i]? with
 |some h,some b=>h.name==b.name&&(decide (0≤h.run)&&decide (h.run<(if h.down then c.rise else c.fall)))
 |_,_=>true
def fh(s:bA)(i:Nat):Bool :=
 match s.flows[i]? with
 |some f=>du f&&(decide (f.seen≤s.tick)&&(decide (1≤f.no)&&(decide (f.no≤s.no)&&(!((s.flows.take i).any fun g=>fD g.key f.key)&&(decide (i=0)||(match s.flows[i-1]? with|some g=>fQ g f|none=>true))))))
 |none=>true
def k7(c:bf)(s:bA):Bool :=
 aQ c&&(bU s.pool&&(decide (s.healths.length=s.pool.backs.length)&&(decide ((s.flows.length:Int)≤c.room)&&(dh s.tick 0 1099511627776&&(dh s.no 0 1152921504606846976 &&
  (s.count.all (fun n=>dh n 0 1152921504606846976)&&((IX s.healths.length).all (dY c s)&&(IX s.flows.length).all (fh s))))))))
def fE(s:cE):Bool:=k7 s.conf s.st&&(eM s.st&&(dh s.first 0 1152921504606846976&&dh s.lost 0 s.first))
def iL(s:cE):Bool:=s.evs.all aG&&fE s
def kO:List UInt8:=[119,97,121,49]
def da(s:cE):List UInt8:=kO++(aC s.first.toNat++(aC s.lost.toNat++bM s.conf))
def dB(s:cE):List UInt8:=dA (da s)++dA (eF s.st)
def cA(e:dI):List UInt8:=dA (bT e)
def cg(s:cE):List UInt8:=dB s++s.evs.flatMap cA
def BJ(l:List UInt8):St×Nat:=g9 l (bG l (0,0,0) 4).1
def yL(l:List UInt8):St×Nat:=g9 l (BJ l).1
def BK(l:List UInt8):St×List UInt8:=bG l (yL l).1 ((l.length-(yL l).1.1:Nat):Int)
def gJ(l:List UInt8):Option cE :=
 if (bG l (0,0,0) 4).2=kO then
  match cz (BK l).2 with
  |some c=>if nT (BK l).1 then some { conf:=c,first:=(min (BJ l).2 1152921504606846977:Nat),lost:=(min (yL l).2 1152921504606846977:Nat),st:=dl,evs:=[] } else none
  |none=>none
 else none
def mB:Nat→List UInt8→List dI×Nat×Nat
 |0,_=>([],0,0)
 |k+1,l =>
  if l=[] then ([],0,0)
  else if (bc l).2.2≠0 then ([],0,(bc l).2.2)
  else match fg (bc l).1 with
   |none=>([],0,3)
   |some e=>(e::(mB k (l.drop (bc l).2.1)).1,(bc l).2.1+(mB k (l.drop (bc l).2.1)).2.1,(mB k (l.drop (bc l).2.1)).2.2)
def fj(l:List UInt8):List dI×Nat×Nat:=mB l.length l
def bW(b:List UInt8):cE×Nat×Nat :=
 if (bc b).2.2≠0 then (dS,0,(bc b).2.2)
 else match gJ (bc b).1 with
  |none=>(dS,0,3)
  |some h =>
   if (bc (b.drop (bc b).2.1)).2.2≠0 then (dS,0,(bc (b.drop (bc b).2.1)).2.2)
   else match jk (bc (b.drop (bc b).2.1)).1 with
    |none=>(dS,0,3)
    |some st =>
     if fE { h with st:=st } then
      ({ h with st:=st,evs:=(fj (b.drop ((bc b).2.1+(bc (b.drop (bc b).2.1)).2.1))).1 },(bc b).2.1+(bc (b.drop (bc b).2.1)).2.1+(fj (b.drop ((bc b).2.1+(bc (b.drop (bc b).2.1)).2.1))).2.1,(fj (b.drop ((bc b).2.1+(bc (b.drop (bc b).2.1)).2.1))).2.2)
     else (dS,0,3)
theorem kx{l body:List UInt8}{n:Nat}(h:bc l=(body,n,0)):1≤n∧n≤l.length∧l.take n=dA body∧body.length≤1048576:=by
 obtain⟨m,j,_,h2,h3,h4,_,h6,h7,h8⟩:=vV h;exact⟨by omega,h4,h7,by omega⟩
theorem pl:∀(k j:Nat) (l:List UInt8),l.length≤k→l.length≤j→mB k l=mB j l
 |0,0,l,_,_=>rfl
 |0,j+1,l,h,_=>by
  have:l=[]:=IH (by omega);simp[mB,this]
 |k+1,0,l,_,h=>by
  have:l=[]:=IH (by omega);simp[mB,this]
 |k+1,j+1,l,h1,h2=>by
  unfold mB;by_cases hl:l=[]
  ·rw[if_pos hl,if_pos hl]
  ·rw[if_neg hl,if_neg hl]
   by_cases hn:(bc l).2.2≠0
   ·rw[if_pos hn,if_pos hn]
   ·rw[if_neg hn,if_neg hn]
    have hp:=kx (l:=l) (body:=(bc l).1) (n:=(bc l).2.1) (IC rfl (IC rfl (by simpa using hn)));rw[pl k j (l.drop (bc l).2.1) (by rw[IE];omega) (by rw[IE];omega)]
theorem rS:fj []=([],0,0):=rfl
theorem uA{l:List UInt8}(hl:l≠[]):fj l =
  if (bc l).2.2≠0 then ([],0,(bc l).2.2)
  else match fg (bc l).1 with
   |none=>([],0,3)
   |some e=>(e::(fj (l.drop (bc l).2.1)).1,(bc l).2.1+(fj (l.drop (bc l).2.1)).2.1,(fj (l.drop (bc l).2.1)).2.2):=by
 have h0:0<l.length:=List.length_pos_iff.2 hl;obtain⟨k,hk⟩:∃k,l.length=k+1:=⟨l.length-1,by omega⟩;have e:fj l=mB (k+1) l:=by unfold fj;rw[hk]
 rw[e,mB,if_neg hl];by_cases hn:(bc l).2.2≠0
 ·rw[if_pos hn,if_pos hn]
 ·rw[if_neg hn,if_neg hn]
  have hp:=kx (l:=l) (body:=(bc l).1) (n:=(bc l).2.1) (IC rfl (IC rfl (by simpa using hn)));have hd:mB k (l.drop (bc l).2.1)=fj (l.drop (bc l).2.1):=by
   unfold fj;exact pl _ _ _ (by rw[IE];omega) (Ja _)
  rw[hd]
theorem wB{l:List UInt8}(hl:l≠[]){body:List UInt8}{n w:Nat}(h:bc l=(body,n,w))(hw:w≠0):fj l=([],0,w):=by
 rw[uA hl,h,if_pos hw]
theorem Fq{l:List UInt8}{body:List UInt8}{n:Nat}(h:bc l=(body,n,0))(he:fg body=none):fj l=([],0,3):=by
 have hp:=kx h;rw[uA (by intro e;rw[e] at hp;simp at hp;omega),h];simp only[ne_eq,not_true,if_false,he]
theorem p8{l:List UInt8}{body:List UInt8}{n:Nat}{e:dI}(h:bc l=(body,n,0))(he:fg body=some e):fj l=(e::(fj (l.drop n)).1,n+(fj (l.drop n)).2.1,(fj (l.drop n)).2.2):=by
 have hp:=kx h;rw[uA (by intro e;rw[e] at hp;simp at hp;omega),h];simp only[ne_eq,not_true,if_false,he]
theorem GB(body:List UInt8):dA body≠[]:=by
 intro e;have:=cT body;rw[e] at this;simp at this
section
variable {l r:List UInt8}
theorem Io{c:bf}{first lost:Int}(hs:ao c)(hr:iW c)(hf:0≤first∧first≤1152921504606846976)(hl:0≤lost∧lost≤1152921504606846976) :
  gJ (kO++(aC first.toNat++(aC lost.toNat++bM c)))=some { conf:=c,first:=first,lost:=lost,st:=dl,evs:=[] }:=by
 obtain⟨l,hL⟩:∃l,l=kO++(aC first.toNat++(aC lost.toNat++bM c)):=⟨_,rfl⟩;rw[←hL];have e0:l.drop ((0,0,0):St).1=kO++(aC first.toNat++(aC lost.toNat++bM c)):=by rw[hL];rfl
 have h1:=jP (n:=4) (s:=(0,0,0)) rfl (IG _) rfl e0;have E1:=cd.of (s:=(0,0,0)) rfl (IG _) e0;have e1:=E1.rest e0;have h2:=tj E1.ok' E1.le' (by omega) e1;have E2:=cd.of E1.ok' E1.le' e1;have e2:=E2.rest e1;have h3:=tj E2.ok' E2.le' (by omega) e2;have E3:=cd.of E2.ok' E2.le' e2;have e3:=E3.rest e2;have g1:BJ l=(fq (fq (0,0,0) kO.length) (aC first.toNat).length,first.toNat):=by unfold BJ;rw[h1];exact h2
 have g2:yL l=(fq (fq (fq (0,0,0) kO.length) (aC first.toNat).length) (aC lost.toNat).length,lost.toNat):=by unfold yL;rw[g1];exact h3
 have e3':l.drop (fq (fq (fq (0,0,0) kO.length) (aC first.toNat).length) (aC lost.toNat).length).1=bM c++[]:=by rw[e3,IK]
 have hlen:((l.length-(fq (fq (fq (0,0,0) kO.length) (aC first.toNat).length) (aC lost.toNat).length).1:Nat):Int)=((bM c).length:Int):=by
  have:=congrArg I0 e3;rw[IE] at this;rw[this]
 have h4:=jP E3.ok' E3.le' hlen e3';have g3:BK l=(fq (fq (fq (fq (0,0,0) kO.length) (aC first.toNat).length) (aC lost.toNat).length) (bM c).length,bM c):=by unfold BK;rw[g2];exact h4
 unfold gJ;rw[h1,if_pos rfl,g3,g1,g2];simp only;rw[qr.2 ⟨rfl,hr,hs⟩];simp only;rw[if_pos (by simp[nT,fq])];have z1:((min first.toNat 1152921504606846977:Nat):Int)=first:=by omega
 have z2:((min lost.toNat 1152921504606846977:Nat):Int)=lost:=by omega
 rw[z1,z2]
theorem Gd:∀(es:List dI),(∀e∈es,aP e∧aG e=true)→∀(r:List UInt8),fj (es.flatMap cA++r)=(es.map i9++(fj r).1,(es.flatMap cA).length+(fj r).2.1,(fj r).2.2)
 |[],_,r=>by simp
 |e::es,h,r=>by
  have he:=h e (by simp);have hn:bc (cA e++(es.flatMap cA++r))=(bT e,(cA e).length,0):=pk (by have:=gG he.1 he.2;omega) _;have ih:=Gd es (fun x hx=>h x (by simp[hx])) r;rw[IF,Iz,p8 hn (tq he.1 he.2),IW,ih];simp[IA]
theorem Ag:∀(es:List dI),(∀e∈es,aP e∧aG e=true)→∀(j:Nat),j<(es.flatMap cA).length →
  ∃k,k<es.length∧((es.take k).flatMap cA).length≤j∧j<((es.take (k+1)).flatMap cA).length ∧
   fj ((es.flatMap cA).take j)=((es.take k).map i9,((es.take k).flatMap cA).length,if j=((es.take k).flatMap cA).length then 0 else 2)
 |[],_,j,hj=>by simp at hj
 |e::es,h,j,hj=>by
  have he:=h e (by simp);have hb:(bT e).length≤1048576:=by have:=gG he.1 he.2;omega
  rw[IF] at hj ⊢;by_cases hlt:j<(cA e).length
  ·refine⟨0,by simp,by simp,by simpa using hlt,?_⟩
   rw[List.take_append_of_le_length (by omega)];by_cases h0:j=0
   ·subst h0
    simp[rS]
   ·have hc:bc ((cA e).take j)=([],0,2):=DW hb hlt
    rw[wB (by intro e2;have:=congrArg I0 e2;rw[IY] at this;simp at this;have:=GB (bT e);simp_all [cA]) hc (by decide)];simp[h0]
  ·obtain⟨k,h1,h2,h3,h4⟩:=Ag es (fun x hx=>h x (by simp[hx])) (j-(cA e).length) (by rw[Iy] at hj;omega)
   have hn:bc (cA e++(es.flatMap cA).take (j-(cA e).length))=(bT e,(cA e).length,0):=pk hb _;refine⟨k+1,by simpa using h1,?_,?_,?_⟩
   ·rw[IQ,IF,Iy];omega
   ·rw[IQ,IF,Iy];omega
   ·rw[List.take_append,List.take_of_length_le (by omega),p8 hn (tq he.1 he.2),IW,h4,IQ,IF,List.map_cons,Iy]
    simp only[Prod.mk.injEq,true_and];by_cases hq:j-(cA e).length=((es.take k).flatMap cA).length
    ·rw[if_pos hq,if_pos (by omega)]
    ·rw[if_neg hq,if_neg (by omega)]
end
theorem Fr{m k:Nat}(h:0<m):0<m <<< k:=by rw[Nat.shiftLeft_eq];exact Nat.mul_pos h (IT k)
theorem GC{a b:Int}:compare a b=if a<b then .lt else if a=b then .eq else .gt:=by
 show compareOfLessAndEq a b=_
 rfl
theorem tC:IB.read 0=.number false 0 (-1074):=by decide
theorem BL:IB.read 4652007308841189376=.number false (4503599627370496+4292493394837504) (-43):=by decide
theorem uB(n:Nat):IB.read n =
  if n%9223372036854775808<4503599627370496 then .number (n/9223372036854775808%2==1) (n%9223372036854775808) (-1074)
  else if n%9223372036854775808<9218868437227405312 then .number (n/9223372036854775808%2==1) (4503599627370496+n%9223372036854775808%4503599627370496) (-1074+(n%9223372036854775808/4503599627370496-1:Nat))
  else if n%9223372036854775808=9218868437227405312 then .infinity (n/9223372036854775808%2==1)
  else .nan (n/9223372036854775808%2==1) (n%9223372036854775808-9218868437227405312):=rfl
theorem qO(neg:Bool)(x k k':Nat):compare (Ieee.signed neg x k) (Ieee.signed false 0 k')=if x=0 then .eq else if neg then .lt else .gt:=by
 rw[GC];have h0:((0 <<< k':Nat):Int)=0:=by rw[Nat.zero_shiftLeft];rfl
 unfold Ieee.signed;simp only[IL,if_false,h0];by_cases hx:x=0
 ·subst hx
  rw[Nat.zero_shiftLeft];cases neg<;>simp
 ·have:=Fr (m:=x) (k:=k) (by omega)
  rw[if_neg hx];cases neg
  ·simp only[IL,if_false]
   rw[if_neg (by omega),if_neg (by omega)]
  ·simp only[if_true]
   rw[if_pos (by omega)]
theorem GD(n:Nat)(hn:n<18446744073709551616):(ID.format.order n 0==some .gt||ID.format.order n 0==some .eq)=(!kC n&&(decide (n<9223372036854775808)||decide (n=9223372036854775808))):=by
 show ((IB.read n).order (IB.read 0)==some .gt||(IB.read n).order (IB.read 0)==some .eq)=_
 rw[tC];obtain⟨N,hN⟩:∃N,N=kC n:=⟨_,rfl⟩;have hnan:N=true→9218868437227405312<n%9223372036854775808:=fun h=>ub n (by rw[←hN];exact h)
 have hnot:N=false→n%9223372036854775808≤9218868437227405312:=fun h=>zJ n (by rw[←hN];exact h)
 rw[←hN,uB];clear hN;have hs:n/9223372036854775808%2=0∧n<9223372036854775808∧n%9223372036854775808=n∨n/9223372036854775808%2=1∧9223372036854775808≤n∧n%9223372036854775808=n-9223372036854775808:=by omega
 split
 ·have:N=false:=by cases N;rfl;have:=hnan rfl;omega
  subst this;simp only[IJ.order,qO];rcases hs with ⟨h1,h2,h3⟩|⟨h1,h2,h3⟩
  ·rw[h1,h3,decide_eq_true h2]
   by_cases h0:n=0
   ·subst h0;rfl
   ·rw[if_neg h0];rfl
  ·rw[h1,h3,decide_eq_false (by omega)]
   by_cases h0:n=9223372036854775808
   ·subst h0;rfl
   ·rw[if_neg (by omega),decide_eq_false h0];rfl
 ·rename_i hb
  split
  ·rename_i hi
   have:N=false:=by cases N;rfl;have:=hnan rfl;omega
   subst this;simp only[IJ.order,qO];rw[if_neg (by omega)];rcases hs with ⟨h1,h2,h3⟩|⟨h1,h2,h3⟩
   ·rw[h1,decide_eq_true h2];rfl
   ·rw[h1,decide_eq_false (by omega),decide_eq_false (by omega)];rfl
  ·rename_i hi
   split
   ·rename_i hq
    have:N=false:=by cases N;rfl;have:=hnan rfl;omega
    subst this;rcases hs with ⟨h1,h2,h3⟩|⟨h1,h2,h3⟩
    ·rw[h1,decide_eq_true h2];rfl
    ·rw[h1,decide_eq_false (by omega),decide_eq_false (by omega)];rfl
   ·rename_i hq
    have:N=true:=by cases N;have:=hnot rfl;omega;rfl
    subst this;rfl
theorem GE(n:Nat):(ID.format.order n 0==some .eq)=decide (n%9223372036854775808=0):=by
 show ((IB.read n).order (IB.read 0)==some .eq)=_
 rw[tC,uB];split
 ·simp only[IJ.order,qO]
  by_cases h0:n%9223372036854775808=0
  ·rw[if_pos h0,decide_eq_true h0];rfl
  ·rw[if_neg h0,decide_eq_false h0]
   split<;>rfl
 ·rename_i hb
  rw[decide_eq_false (by omega)];split
  ·simp only[IJ.order,qO]
   rw[if_neg (by omega)];split<;>rfl
  ·split
   ·simp only[IJ.order]
    split<;>rfl
   ·rfl
theorem Ge(x k:Nat):Ieee.signed false x k=((x <<< k:Nat):Int):=rfl
theorem GF(n:Nat)(hn:n<9223372036854775808):(ID.format.order n 4652007308841189376==some .lt||ID.format.order n 4652007308841189376==some .eq)=decide (n≤4652007308841189376):=by
 show ((IB.read n).order (IB.read 4652007308841189376)==some .lt||(IB.read n).order (IB.read 4652007308841189376)==some .eq)=_
 rw[BL,uB];have e1:n/9223372036854775808%2=0:=by omega
 have e2:n%9223372036854775808=n:=by omega
 rw[e1,e2];split
 ·rename_i hb
  rw[decide_eq_true (by omega)];simp only[IJ.order,show ((0:Nat)==1)=false from rfl,Ge,GC];rw[show min (-1074:Int) (-43)=-1074 by decide,show ((-1074:Int) - -1074).toNat=0 by decide,show ((-43:Int) - -1074).toNat=1031 by decide];have h2:(4503599627370496+4292493394837504) <<< 1031>4503599627370496:=by decide
  rw[II,if_pos (by omega)];rfl
 ·rename_i hb
  split
  ·rename_i hi
   obtain⟨e,he⟩:∃e,e=n/4503599627370496-1:=⟨_,rfl⟩;have hee:n/4503599627370496=e+1:=by omega
   rw[←he];simp only[IJ.order,show ((0:Nat)==1)=false from rfl,Ge,GC];rcases Nat.lt_trichotomy e 1031 with h|h|h
   ·rw[show min (-1074+(e:Int)) (-43)=-1074+(e:Int) by omega,show (-1074+(e:Int)-(-1074+(e:Int))).toNat=0 by omega]
    obtain⟨k,hk⟩:∃k,(-43-(-1074+(e:Int))).toNat=k+1:=⟨1031-e-1,by omega⟩;rw[hk,II];have h3:(4503599627370496+4292493394837504)*2≤(4503599627370496+4292493394837504) <<< (k+1):=by
     rw[Nat.shiftLeft_eq,I8];have:=IT k;rw[I9 (2^k) 2,←I4];exact Nat.le_mul_of_pos_right _ this
    rw[if_pos (by omega),decide_eq_true (by omega)];rfl
   ·subst h
    rw[show min (-1074+((1031:Nat):Int)) (-43)=-43 by decide,show (-1074+((1031:Nat):Int) - -43).toNat=0 by decide,show ((-43:Int) - -43).toNat=0 by decide,II,II];by_cases hle:n<4652007308841189376
    ·rw[if_pos (by omega),decide_eq_true (by omega)];rfl
    ·by_cases heq:n=4652007308841189376
     ·rw[if_neg (by omega),if_pos (by omega),decide_eq_true (by omega)];rfl
     ·rw[if_neg (by omega),if_neg (by omega),decide_eq_false (by omega)];rfl
   ·rw[show min (-1074+(e:Int)) (-43)=-43 by omega,show ((-43:Int) - -43).toNat=0 by decide]
    obtain⟨k,hk⟩:∃k,(-1074+(e:Int) - -43).toNat=k+1:=⟨e-1031-1,by omega⟩;rw[hk,II];have h3:(4503599627370496+n%4503599627370496)*2≤(4503599627370496+n%4503599627370496) <<< (k+1):=by
     rw[Nat.shiftLeft_eq,I8];have:=IT k;rw[I9 (2^k) 2,←I4];exact Nat.le_mul_of_pos_right _ this
    rw[if_neg (by omega),if_neg (by omega),decide_eq_false (by omega)];rfl
  ·rename_i hi
   rw[decide_eq_false (by omega)];split
   ·simp[IJ.order]
   ·simp[IJ.order]
theorem yM:(ID.format.order 9223372036854775808 4652007308841189376==some .lt||ID.format.order 9223372036854775808 4652007308841189376==some .eq)=true:=by decide
theorem rT(n:Nat)(hn:n<18446744073709551616)(w:World):Calls I5 186 #[.float .f64 n] w fun e w'=>e=.returned (.bool (dt n))∧w=w':=by
 have h1:=GD n hn;by_cases hp:!kC n&&(decide (n<9223372036854775808)||decide (n=9223372036854775808))
 ·rw[hp] at h1
  have h2:(ID.format.order n 4652007308841189376==some .lt||ID.format.order n 4652007308841189376==some .eq)=dt n:=by
   simp only[qq,IP,decide_eq_true_eq,Bool.not_eq_true'] at hp;rcases hp.2 with h|h
   ·rw[GF n h];unfold dt;rw[decide_eq_false (show ¬n=9223372036854775808 by omega),I3]
   ·subst h;rw[yM];rfl
  go_enter Tryz.func186,Tryz.ntmps186
  go_wp2
  go_ret
  exact⟨by rw[←h2];rfl,rfl⟩
 ·rw[Bool.not_eq_true] at hp
  rw[hp] at h1;have h2:dt n=false:=by
   rw[←Bool.not_eq_true];intro h;simp only[Bool.and_eq_false_iff,IN,decide_eq_false_iff_not,Bool.not_eq_false'] at hp;rcases hp with h3|h3
   ·have:=ub n h3
    simp only[dt,IP,decide_eq_true_eq] at h;omega
   ·simp only[dt,IP,decide_eq_true_eq] at h
    omega
  go_enter Tryz.func186,Tryz.ntmps186
  go_wp2
  go_ret
  exact⟨by rw[h2];rfl,rfl⟩
theorem ov(n:Nat)(hn:n<18446744073709551616)(w:World):Calls I5 166 #[.float .f64 n] w fun e w'=>e=.returned (.float .f64 (fP n))∧w=w':=by
 have h1:=GE n;by_cases hz:n%9223372036854775808=0
 ·rw[decide_eq_true hz] at h1
  have h2:fP n=0:=by unfold fP;rw[if_pos hz]
  rw[h2];clear hz h2;go_enter Tryz.func166,Tryz.ntmps166
  go_wp2
  go_ret
  exact⟨rfl,rfl⟩
 ·rw[decide_eq_false hz] at h1
  have h2:fP n=n:=by unfold fP;rw[if_neg hz]
  rw[h2];clear hz h2;go_enter Tryz.func166,Tryz.ntmps166
  go_wp2
  go_ret
  exact⟨rfl,rfl⟩
theorem BM{w:World}{g:Nat}{t:TypeId}{b:aU}(h:aj w g t (ah b).toArray)(hs:au b)(B:Nat)(hB:g<B):BS w B (some ⟨g,6,none⟩) (b.addr.2.drop 4):=fun hp=>by
 refine⟨_,rfl,hB,fun j c hj=>?_⟩;rw[List.getElem?_drop] at hj;have e:((⟨g,6,none⟩:Addr).add j)=⟨g,6+j,none⟩:=by unfold Addr.add;split<;>simp_all
 have:=nc h hs (5+j) (.int .u8 (c.toNat:Int)) (by
  rw[show 5+j=(4+j)+1 by omega,ai,List.getElem?_cons_succ,ab,List.getElem?_map,hj];rfl)
 rw[e,show 6+j=1+(5+j) by omega];exact this
theorem pm(b:aU)(hb0:au b)(hn:b.name.length≤1000000000)(w:World) :
  Calls I5 164 #[.agg (ah b).toArray] w fun e w'=>e=.returned (.bool (eu b))∧Below w.heap.size w w':=by
 have Hb:=hid hb0;clear hb0;obtain⟨W,hW⟩:∃W,W=w.alloc (.cells (ah b).toArray 56):=⟨_,rfl⟩;have HX:Hid (aj W w.heap.size 56 (ah b).toArray):=by rw[hW];exact aj.new w _ _ _ rfl
 have HB:Hid (Below w.heap.size w W):=by rw[hW];exact (Below.refl _ _).alloc (Ja _) _
 have d0:=jx HX.out;have d3:=uh HX.out Hb.out;have HS:=hid (BM HX.out Hb.out W.heap.size HX.out.lt);have Hdl:Hid (12=(b.addr.2.drop 4).length):=by show _=_;have:b.addr.2.length=16:=Hb.out.addr;simp;omega
 have Hwt:=hid Hb.out.wt;have HW:=hid hW;clear hW;rcases h6:b.addr.1 with _|_
 ·rw[h6] at d3
  have Hsh:Hid (de b.addr=gD b.addr.2):=by show _=_;unfold de;rw[h6];rfl
  clear h6;go_enter Tryz.func164,Tryz.ntmps164
  go_upto_region 1 with fail
  rw[←HW.out];clear HW
  go_wp2_with fail
  refine (iQ (Or.inr (Or.inl rfl)) _ _ _ (b.addr.2.drop 4) _ _ Hdl.out HS.out (by omega)).mono ?_;rintro e w1 ⟨rfl,rfl⟩;rcases ht:gD b.addr.2 with _|_
  ·have Hr2:Hid (eu b=false):=by show _=_;unfold eu;rw[Hsh.out,ht];rfl
   have ht2:(b.addr.2.drop 4).all (·== 0)=false:=ht;rw[ht2];clear ht ht2
   go_wp2
   go_ret
   exact⟨by rw[Hr2.out];rfl,HB.out⟩
  ·have Hr:Hid (eu b=(gy b.name&&(dh b.port 1 65535&&dt b.wt))):=by show _=_;unfold eu;rw[Hsh.out,ht];rfl
   have ht2:(b.addr.2.drop 4).all (·== 0)=true:=ht;rw[ht2];clear ht ht2
   go_wp2_with fail
   refine (rH b.name hn W).mono ?_;rintro e w2 ⟨rfl,hb2⟩;have HX2:=hid (aj.below HX.out hb2 HX.out.lt);have HB2:=hid (HB.out.trans (hb2.mono HB.out.size));have d1:=jy HX2.out Hb.out;have d2:=lv HX2.out Hb.out;clear hb2;rcases hnm:gy b.name with _|_
   ·have Hr2:Hid (eu b=false):=by show _=_;rw[Hr.out,hnm];rfl
    clear hnm
    go_wp2
    go_ret
    exact⟨by rw[Hr2.out];rfl,HB2.out⟩
   ·by_cases p1:1≤b.port
    ·by_cases p2:b.port≤65535
     ·have Hr2:Hid (eu b=dt b.wt):=by show _=_;rw[Hr.out,hnm];unfold dh;rw[decide_eq_true p1,decide_eq_true p2];rfl
      clear hnm
      go_wp2_with fail
      refine (rT b.wt Hwt.out w2).mono ?_;rintro e w3 ⟨rfl,rfl⟩
      go_wp2
      go_ret
      exact⟨by rw[Hr2.out];rfl,HB2.out⟩
     ·have Hr2:Hid (eu b=false):=by show _=_;rw[Hr.out];unfold dh;rw[decide_eq_false p2];simp
      clear hnm
      go_wp2
      go_ret
      exact⟨by rw[Hr2.out];rfl,HB2.out⟩
    ·have Hr2:Hid (eu b=false):=by show _=_;rw[Hr.out];unfold dh;rw[decide_eq_false p1];simp
     clear hnm
     go_wp2
     go_ret
     exact⟨by rw[Hr2.out];rfl,HB2.out⟩
 ·rw[h6] at d3
  have Hr:Hid (eu b=(gy b.name&&(dh b.port 1 65535&&dt b.wt))):=by show _=_;unfold eu de;rw[h6];rfl
  clear h6;go_enter Tryz.func164,Tryz.ntmps164
  go_upto_region 1 with fail
  rw[←HW.out];clear HW
  go_wp2_with fail
  refine (rH b.name hn W).mono ?_;rintro e w2 ⟨rfl,hb2⟩;have HX2:=hid (aj.below HX.out hb2 HX.out.lt);have HB2:=hid (HB.out.trans (hb2.mono HB.out.size));have d1:=jy HX2.out Hb.out;have d2:=lv HX2.out Hb.out;clear hb2;rcases hnm:gy b.name with _|_
  ·have Hr2:Hid (eu b=false):=by show _=_;rw[Hr.out,hnm];rfl
   clear hnm
   go_wp2
   go_ret
   exact⟨by rw[Hr2.out];rfl,HB2.out⟩
  ·by_cases p1:1≤b.port
   ·by_cases p2:b.port≤65535
    ·have Hr2:Hid (eu b=dt b.wt):=by show _=_;rw[Hr.out,hnm];unfold dh;rw[decide_eq_true p1,decide_eq_true p2];rfl
     clear hnm
     go_wp2_with fail
     refine (rT b.wt Hwt.out w2).mono ?_;rintro e w3 ⟨rfl,rfl⟩
     go_wp2
     go_ret
     exact⟨by rw[Hr2.out];rfl,HB2.out⟩
    ·have Hr2:Hid (eu b=false):=by show _=_;rw[Hr.out];unfold dh;rw[decide_eq_false p2];simp
     clear hnm
     go_wp2
     go_ret
     exact⟨by rw[Hr2.out];rfl,HB2.out⟩
   ·have Hr2:Hid (eu b=false):=by show _=_;rw[Hr.out];unfold dh;rw[decide_eq_false p1];simp
    clear hnm
    go_wp2
    go_ret
    exact⟨by rw[Hr2.out];rfl,HB2.out⟩
