import Derived.Test.YtaafkokfdgfabaaGreatP10
import Derived.Test.YtaafkokfdgfabaaGreatP13
import Derived.Test.YtaafkokfdgfabaaGreatP16
import Derived.Test.YtaafkokfdgfabaaGreatP19
import Derived.Test.YtaafkokfdgfabaaGreatP21
import Derived.Test.YtaafkokfdgfabaaGreatP22
set_option maxHeartbeats 8000000
namespace Go.Proofs.YtaafkokfdgfabaaGreat
open Go.RowKit
set_option linter.unusedVariables false
set_option linter.unusedSimpArgs false
theorem jU {k m:Nat} (h:m<256 ^ k) (big:Bool):gP (bT k m big) big=m:=by
 unfold gP bT;cases big
 ·simp only [Bool.false_eq_true,if_false]
  exact iF k m h
 ·simp only [if_true]
  rw [jf];exact iF k m h
theorem ly (l:List UInt8) (big:Bool):bT l.length (gP l big) big=l:=by
 unfold gP bT;cases big
 ·simp only [Bool.false_eq_true,if_false]
  exact oV
 ·simp only [if_true]
  have e:=jf l.reverse;rw [List.reverse_reverse] at e;have e2:=oV (l:=l.reverse);rw [List.length_reverse,←e] at e2;rw [e2,List.reverse_reverse]
section
variable {l:List UInt8} {s:St} {x r:List UInt8} {bad:Bool}
theorem DM (h:(cN l s).1.2.2=0):∃ n k,cN l s=(s,n,k)∧s.2.2=0∧bM (l.drop s.1)=(n,k,0):=by
 have h0:s.2.2=0:=by
  unfold cN at h;split at h
  ·exact h
  ·omega
 have hv:(bM (l.drop s.1)).2.2=0:=by
  unfold cN at h;rw [if_neg (by omega)] at h;split at h
  ·exact absurd h (jP (by assumption))
  ·omega
 rcases hg:bM (l.drop s.1) with ⟨m,k,e⟩
 rw [hg] at hv;simp only at hv;subst hv;refine ⟨m,k,?_,h0,rfl⟩;unfold cN;rw [if_neg (by omega),hg];simp
theorem me (h:s.2.2=0) (hl:s.1≤l.length) {m:Int} (hm:(x.length:Int)≤m) (hx:x.length<18446744073709551616) (e:l.drop s.1=bC x ++ r):bO l s m=(eg s (bC x).length,x):=by
 have hlen:=congrArg List.length e;rw [List.length_drop] at hlen;unfold bC at e hlen ⊢;rw [List.append_assoc] at e;have hg:bM (l.drop s.1)=(x.length,(aE x.length).length,0):=by rw [e];exact k7 _ hx _
 have hp:cN l s=(s,x.length,(aE x.length).length):=by
  unfold cN;rw [if_neg (by omega),hg];simp
 unfold bO;rw [hp];simp only;rw [if_neg (by omega)];unfold eb;simp only [List.length_append] at hlen ⊢;rw [if_neg (by omega),if_neg (by omega),←List.drop_drop,e,List.drop_left,List.take_left];simp [eg,Nat.add_assoc]
theorem nP {m:Int} (h:(bO l s m).1.2.2=0) (hl:s.1≤l.length):bw l s (bC (bO l s m).2) (bO l s m).1∧((bO l s m).2.length:Int)≤m:=by
 unfold bO at h ⊢;split at h
 ·exact absurd h (jP (by decide))
 ·rename_i h0
  rw [if_neg h0];have hp0:(cN l s).1.2.2=0:=by
   by_cases hz:(cN l s).1.2.2=0
   ·exact hz
   ·unfold eb at h
    rw [if_pos hz] at h;exact h
  obtain ⟨n,k,hp,hs,hg⟩:=DM hp0;obtain ⟨hn,hk1,hkl,hk,hv⟩:=iL hg;rw [hp] at h h0 ⊢;simp only at h h0 ⊢;rw [List.length_drop] at hkl;unfold eb at h ⊢;rw [if_neg (by omega)] at h ⊢;split at h
  ·exact absurd h (jP (by decide))
  ·rename_i h1
   rw [if_neg h1];simp only;have hxl:((l.drop (s.1 + k)).take n).length=n:=by rw [List.length_take,List.length_drop];omega
   have e:l.drop s.1=bC ((l.drop (s.1 + k)).take n) ++ l.drop (s.1 + k + n):=by
    unfold bC;have d1:l.drop (s.1 + k + n)=((l.drop s.1).drop k).drop n:=by rw [List.drop_drop,List.drop_drop,Nat.add_assoc]
    have d2:l.drop (s.1 + k)=(l.drop s.1).drop k:=by rw [List.drop_drop]
    rw [hxl,hv,d1,d2,List.append_assoc,List.take_append_drop,List.take_append_drop]
   have E:=bw.of hs hl e;have hE:(bC ((l.drop (s.1 + k)).take n)).length=k + n:=by unfold bC;rw [List.length_append,hxl,←hk]
   rw [hE] at E;refine ⟨?_,by rw [hxl];omega⟩;have ha:eg s (k + n)=(s.1 + k + n,s.2.1,s.2.2):=by simp [eg,Nat.add_assoc]
   rw [←ha];exact E
theorem rD (h:s.2.2=0) (hl:s.1≤l.length) {b:Bool} (e:l.drop s.1=fH b ++ r):dD l s bad=(eg s (fH b).length,bad,b):=by
 have hn:=jh (n:=1) h hl (by rw [cJ];rfl) (by rw [cJ];decide) (by rw [cJ];decide) true e;unfold dD;rw [hn];cases b
 ·simp [fH,cK]
 ·simp [fH,cK]
theorem rE (h:(dD l s bad).1.2.2=0) (hb:(dD l s bad).2.1=false):bad=false∧bw l s (fH (dD l s bad).2.2) (dD l s bad).1:=by
 unfold dD at h hb ⊢;obtain ⟨x,hx,he,ev⟩:=mP (n:=1) (by decide) (by decide) true h;obtain ⟨c,rfl⟩:=mQ hx;rw [cK] at ev;simp only [ev,Bool.or_eq_false_iff,decide_eq_false_iff_not] at hb ⊢;refine ⟨hb.1,?_⟩;have hc:c=0∨c=1:=by
  rcases (by omega:c.toNat=0∨c.toNat=1) with h1 | h1
  ·exact .inl (UInt8.toNat_inj.1 h1)
  ·exact .inr (UInt8.toNat_inj.1 h1)
 rcases hc with rfl | rfl
 ·exact he
 ·exact he
theorem AV {n:Nat} (hn:n<18446744073709551616) (hc:bj n=n):nC (eJ n)=n:=by
 unfold eJ;rw [hc];exact jU (k:=8) (m:=n) (by omega) true
theorem sZ (h:s.2.2=0) (hl:s.1≤l.length) {n:Nat} (hn:n<18446744073709551616) (hc:bj n=n) (e:l.drop s.1=eJ n ++ r):bZ l s bad=(eg s (eJ n).length,bad,n):=by
 unfold bZ;rw [iy (n:=8) h hl (by rw [fd];rfl) e];unfold jg;simp only [AV hn hc,fd,hc,and_self,if_true,Bool.not_true,Bool.or_false]
theorem s8 (h:(bZ l s bad).1.2.2=0) (hb:(bZ l s bad).2.1=false):bad=false∧bw l s (eJ (bZ l s bad).2.2) (bZ l s bad).1∧bj (bZ l s bad).2.2=(bZ l s bad).2.2:=by
 unfold bZ at h hb ⊢;obtain ⟨x,hx,he,ev⟩:=kS (n:=8) (by decide) h;have hx8:x.length=8:=hx;simp only [ev,Bool.or_eq_false_iff] at hb ⊢;refine ⟨hb.1,?_⟩;have h2:=hb.2;unfold jg at h2 ⊢;by_cases hw:x.length=8∧bj (nC x)=nC x
 ·rw [if_pos hw]
  refine ⟨?_,hw.2⟩;have:eJ (nC x)=x:=by
   unfold eJ;rw [hw.2];have:=ly x true;rw [hx8] at this;exact this
  simp only [this];exact he
 ·rw [if_neg hw] at h2
  simp at h2
def s9 (b:aR):Prop:=bj b.wt=b.wt
theorem AW {p:Int} (h:0≤p∧p≤65535):((gP (bT 2 p.toNat true) true:Nat):Int)=p:=by
 rw [jU (by omega)];omega
theorem AX {b:aR} (hs:ar b) (ht:ff b=true) (hc:s9 b) (h:s.2.2=0) (hl:s.1≤l.length) (e:l.drop s.1=aD b ++ r):dy l s bad=(eg s (aD b).length,bad,b):=by
 unfold ff at ht;simp only [Bool.and_eq_true,decide_eq_true_eq,bF] at ht;obtain ⟨hn,hp⟩:=ht;have h16:b.addr.2.length=16:=hs.addr;have h6:=hs.mac;unfold aD at e;simp only [List.append_assoc] at e;have h1:=me (m:=255) h hl (by omega) (by omega) e;have E1:=bw.of h hl e;have e1:=E1.rest e;have h2:=rD (bad:=bad) E1.ok' E1.le' e1;have E2:=bw.of E1.ok' E1.le' e1;have e2:=E2.rest e1;have h3:=iy (n:=16) E2.ok' E2.le' (by rw [h16];rfl) e2;have E3:=bw.of E2.ok' E2.le' e2;have e3:=E3.rest e2;have h4:=jh (n:=2) E3.ok' E3.le' (by rw [av];rfl) (by rw [av];decide) (by rw [av];decide) true e3;have E4:=bw.of E3.ok' E3.le' e3;have e4:=E4.rest e3;have h5:=iy (n:=6) E4.ok' E4.le' (by rw [h6];rfl) e4;have E5:=bw.of E4.ok' E4.le' e4;have e5:=E5.rest e4;have h7:=sZ (bad:=bad) E5.ok' E5.le' hs.wt hc e5;have E6:=bw.of E5.ok' E5.le' e5;have e6:=E6.rest e5;have h8:=rD (bad:=bad) E6.ok' E6.le' e6;unfold dy;simp only [h1,h2,h3,h4,h5,h7,h8];have p1:jR b.addr.2 16=b.addr.2:=by simp [jR,h16]
 have p2:jR b.mac 6=b.mac:=by simp [jR,h6]
 rw [p1,p2,AW hp];simp only [bR,aD,List.length_append,Nat.add_assoc]
theorem CI {x:List UInt8} (hx:x.length=2):bT 2 ((gP x true:Nat):Int).toNat true=x:=by
 have:=ly x true;rw [hx] at this;rw [Int.toNat_natCast];exact this
theorem AY {x:List UInt8} (hx:x.length=1):bT 1 ((gP x true:Nat):Int).toNat true=x:=by
 have:=ly x true;rw [hx] at this;rw [Int.toNat_natCast];exact this
theorem DN (ok:dA l s) (h:(dy l s bad).1.2.2=0) (hb:(dy l s bad).2.1=false) :
  bad=false∧bw l s (aD (dy l s bad).2.2) (dy l s bad).1∧ff (dy l s bad).2.2=true∧s9 (dy l s bad).2.2∧dA l (dy l s bad).1:=by
 rcases h1:bO l s 255 with ⟨s1,nm⟩
 rcases h2:dD l s1 bad with ⟨s2,b2,sx⟩
 rcases h3:bc l s2 16 with ⟨s3,ad⟩
 rcases h4:aG l s3 2 true with ⟨s4,po⟩
 rcases h5:bc l s4 6 with ⟨s5,mc⟩
 rcases h6:bZ l s5 b2 with ⟨s6,b6,wt⟩
 rcases h7:dD l s6 b6 with ⟨s7,b7,dr⟩
 have hb7:dy l s bad=(s7,b7,{ name:=nm,addr:=(sx,jR ad 16),port:=(po:Int),mac:=jR mc 6,wt:=wt,drain:=dr }):=by
  unfold dy;simp only [h1,h2,h3,h4,h5,h6,h7]
 rw [hb7] at h hb ⊢;simp only at h hb ⊢;have F7:=rE (l:=l) (s:=s6) (bad:=b6) (by rw [h7];exact h) (by rw [h7];exact hb);rw [h7] at F7;obtain ⟨hb6,E7⟩:=F7;have F6:=s8 (l:=l) (s:=s5) (bad:=b2) (by rw [h6];exact E7.ok) (by rw [h6];exact hb6);rw [h6] at F6;obtain ⟨hb2,E6,hcan⟩:=F6;obtain ⟨x5,hx5,E5,y5⟩:=kS (l:=l) (s:=s4) (n:=6) (by decide) (by rw [h5];exact E6.ok);rw [h5] at E5 y5;obtain ⟨x4,hx4,E4,y4⟩:=mP (l:=l) (s:=s3) (n:=2) (by decide) (by decide) true (by rw [h4];exact E5.ok);rw [h4] at E4 y4;obtain ⟨x3,hx3,E3,y3⟩:=kS (l:=l) (s:=s2) (n:=16) (by decide) (by rw [h3];exact E4.ok);rw [h3] at E3 y3;have F2:=rE (l:=l) (s:=s1) (bad:=bad) (by rw [h2];exact E3.ok) (by rw [h2];exact hb2);rw [h2] at F2;obtain ⟨hbad,E2⟩:=F2;have F1:=nP (l:=l) (s:=s) (m:=255) (by rw [h1];exact E2.ok) ok.1;rw [h1] at F1;obtain ⟨E1,hnm⟩:=F1;simp only at y3 y4 y5 E1 E2 E3 E4 E5 E6 E7 hnm hcan;subst y3 y4 y5;have hx3':ad.length=16:=hx3;have hx4':x4.length=2:=hx4;have hx5':mc.length=6:=hx5;have p1:jR ad 16=ad:=by simp [jR,hx3']
 have p2:jR mc 6=mc:=by simp [jR,hx5']
 have hp:gP x4 true≤65535:=by
  obtain ⟨a,b,rfl⟩:=wQ hx4';rw [jQ];have:=a.toNat_lt;have:=b.toNat_lt;omega
 rw [p1,p2];refine ⟨hbad,?_,?_,hcan,⟨E7.le',?_,?_⟩⟩
 ·unfold aD
  simp only;rw [CI hx4'];exact E1.trans (E2.trans (E3.trans (E4.trans (E5.trans (E6.trans E7)))))
 ·unfold ff
  simp only [Bool.and_eq_true,decide_eq_true_eq,bF];exact ⟨by omega,by omega,by omega⟩
 ·rw [E7.at_,E6.at_,E5.at_,E4.at_,E3.at_,E2.at_,E1.at_]
  exact ok.2.1
 ·rw [E7.ok']
  decide
end
end Go.Proofs.YtaafkokfdgfabaaGreat
namespace Go.Proofs.YtaafkokfdgfabaaGreat
open Go.RowKit
set_option linter.unusedVariables false
set_option linter.unusedSimpArgs false
def ta (a:bY):Prop:=bj a.owt=a.owt∧s9 a.back
def AZ (e:dR):Prop:=ta e.act
theorem iz:bj 0=0:=by decide
theorem lP:s9 dt:=iz
theorem tc {a b:aR} (h:bv a b=true) (ha:s9 a) (hb:s9 b):a=b:=by
 simp only [bv,Bool.and_eq_true,beq_iff_eq] at h;obtain ⟨h1,h2,h3,h4,h5,h6⟩:=h;unfold s9 at ha hb;rw [ha,hb] at h5;cases a
 cases b
 simp_all
theorem uV {a b:bY} (h:cF a b=true) (ha:ta a) (hb:ta b):a=b:=by
 simp only [cF,Bool.and_eq_true,beq_iff_eq] at h;obtain ⟨h1,h2,h3,h4,h5,h6,h7,h8⟩:=h;rw [ha.1,hb.1] at h5;have h6:=tc h6 ha.2 hb.2;cases a
 cases b
 simp_all
theorem A0 {a:bY} (h:ta a):ta (dv a):=by
 unfold dv;split
 ·exact ⟨iz,lP⟩
 ·split
  ·split
   ·exact ⟨iz,h.2⟩
   ·split
    ·exact ⟨h.1,lP⟩
    ·exact ⟨iz,lP⟩
  ·split
   ·exact ⟨iz,lP⟩
   ·exact ⟨iz,lP⟩
theorem uW {a:bY} (h:dS a=true) (hc:ta a):a=dv a:=by
 simp only [dS,Bool.and_eq_true] at h;exact uV h.2.2.1 hc (A0 hc)
section
variable {l:List UInt8} {s:St} {r:List UInt8} {bad:Bool}
theorem wV {z:Int} (h0:0≤z) (h1:z≤255) (h:s.2.2=0) (hl:s.1≤l.length) (e:l.drop s.1=bT 1 z.toNat true ++ r):∃ k:Nat,aG l s 1 true=(eg s (bT 1 z.toNat true).length,k)∧(k:Int)=z:=by
 refine ⟨_,jh (n:=1) h hl (by rw [av];rfl) (by rw [av];decide) (by rw [av];decide) true e,?_⟩;rw [jU (by omega)];omega
theorem wW (h:(aG l s 1 true).1.2.2=0):bw l s (bT 1 ((aG l s 1 true).2:Int).toNat true) (aG l s 1 true).1:=by
 obtain ⟨x,hx,he,ev⟩:=mP (n:=1) (by decide) (by decide) true h;rw [ev,AY hx];exact he
theorem Ek {a:bY} (hs:az a) (hp:dS a=true) (hc:ta a) (h:s.2.2=0) (hl:s.1≤l.length) (e:l.drop s.1=aV a ++ r):fJ l s bad=(eg s (aV a).length,bad,a):=by
 have ho:=uW hp hc;simp only [dS,Bool.and_eq_true,decide_eq_true_eq,bF] at hp;obtain ⟨⟨hk1,hk4⟩,hop,_,hfr,hon,hnm,hbt⟩:=hp;unfold aV at e;rw [List.append_assoc] at e;obtain ⟨k,hk,hkz⟩:=wV (by omega) (by omega) h hl e;have E1:=bw.of h hl e;have e1:=E1.rest e;unfold fJ;simp only [hk];rw [hkz];by_cases k1:a.kind=1
 ·rw [if_pos k1] at e1 ⊢
  have h2:=me (m:=131072) E1.ok' E1.le' (by omega) (by omega) e1;have hA:a={ da with kind:=a.kind,frame:=a.frame }:=by
   have:=ho;unfold dv at this;rw [if_pos k1] at this;exact this
  simp only [h2];refine Prod.ext ?_ (Prod.ext rfl hA.symm);simp only [bR,aV,if_pos k1,List.length_append]
 ·rw [if_neg k1] at e1 ⊢
  by_cases k2:a.kind=2
  ·rw [if_pos k2] at e1 ⊢
   have hoz:1≤a.op∧a.op≤5:=by
    rw [k2] at hop;simp only [bne_self_eq_false,Bool.false_or] at hop;exact bF.1 hop
   rw [List.append_assoc] at e1;obtain ⟨j,hj,hjz⟩:=wV (by omega) (by omega) E1.ok' E1.le' e1;have E2:=bw.of E1.ok' E1.le' e1;have e2:=E2.rest e1;simp only [hj];rw [hjz];by_cases k3:a.op=1
   ·rw [if_pos k3] at e2 ⊢
    have h3:=AX (bad:=bad) hs.back hbt hc.2 E2.ok' E2.le' e2;have hA:a={ da with kind:=a.kind,op:=a.op,back:=a.back }:=by
     have:=ho;unfold dv at this;rw [if_neg k1,if_pos k2,if_pos k3] at this;exact this
    simp only [h3];refine Prod.ext ?_ (Prod.ext rfl hA.symm);simp only [bR,aV,if_neg k1,if_pos k2,if_pos k3,List.length_append,Nat.add_assoc]
   ·rw [if_neg k3] at e2 ⊢
    rw [List.append_assoc] at e2;have h3:=me (m:=255) E2.ok' E2.le' (by omega) (by omega) e2;have E3:=bw.of E2.ok' E2.le' e2;have e3:=E3.rest e2;simp only [h3];by_cases k4:a.op=3
    ·rw [if_pos k4] at e3 ⊢
     have h4:=sZ (bad:=bad) E3.ok' E3.le' hs.owt hc.1 e3;have hA:a={ da with kind:=a.kind,op:=a.op,oname:=a.oname,owt:=a.owt }:=by
      have:=ho;unfold dv at this;rw [if_neg k1,if_pos k2,if_neg k3,if_pos k4] at this;exact this
     simp only [h4];refine Prod.ext ?_ (Prod.ext rfl hA.symm);simp only [bR,aV,if_neg k1,if_pos k2,if_neg k3,if_pos k4,List.length_append,Nat.add_assoc]
    ·rw [if_neg k4] at ⊢
     have hA:a={ da with kind:=a.kind,op:=a.op,oname:=a.oname }:=by
      have:=ho;unfold dv at this;rw [if_neg k1,if_pos k2,if_neg k3,if_neg k4] at this;exact this
     refine Prod.ext ?_ (Prod.ext rfl hA.symm);simp only [bR,aV,if_neg k1,if_pos k2,if_neg k3,if_neg k4,List.length_append,List.length_nil,Nat.add_zero,Nat.add_assoc]
  ·rw [if_neg k2] at e1 ⊢
   by_cases k3:a.kind=3
   ·rw [if_pos k3] at e1 ⊢
    rw [List.append_assoc] at e1;have h3:=me (m:=255) E1.ok' E1.le' (by omega) (by omega) e1;have E3:=bw.of E1.ok' E1.le' e1;have e3:=E3.rest e1;have h4:=rD (bad:=bad) E3.ok' E3.le' e3;have hA:a={ da with kind:=a.kind,name:=a.name,well:=a.well }:=by
     have:=ho;unfold dv at this;rw [if_neg k1,if_neg k2,if_pos k3] at this;exact this
    simp only [h3,h4];refine Prod.ext ?_ (Prod.ext rfl hA.symm);simp only [bR,aV,if_neg k1,if_neg k2,if_pos k3,List.length_append,Nat.add_assoc]
   ·rw [if_neg k3] at ⊢
    have hA:a={ da with kind:=a.kind }:=by
     have:=ho;unfold dv at this;rw [if_neg k1,if_neg k2,if_neg k3] at this;exact this
    refine Prod.ext ?_ (Prod.ext rfl hA.symm);simp only [bR,aV,if_neg k1,if_neg k2,if_neg k3,List.length_append,List.length_nil,Nat.add_zero]
theorem El (ok:dA l s) (h:(fJ l s bad).1.2.2=0) (hb:(fJ l s bad).2.1=false):bad=false∧bw l s (aV (fJ l s bad).2.2) (fJ l s bad).1∧ta (fJ l s bad).2.2:=by
 rcases h1:aG l s 1 true with ⟨s1,k⟩
 have B1:=wW (l:=l) (s:=s);rw [h1] at B1;simp only at B1;by_cases k1:(k:Int)=1
 ·rcases h2:bO l s1 131072 with ⟨s2,fr⟩
  have hA:fJ l s bad=(s2,bad,{ da with kind:=(k:Int),frame:=fr }):=by
   unfold fJ;simp only [h1,h2,if_pos k1]
  rw [hA] at h hb ⊢;simp only at h hb ⊢;have ok1:dA l s1:=by have:=bU ok 1 true;rw [h1] at this;exact this
  have F2:=nP (l:=l) (s:=s1) (m:=131072) (by rw [h2];exact h) ok1.1;rw [h2] at F2;refine ⟨hb,?_,iz,lP⟩;have E1:=B1 F2.1.ok;simp only [aV,if_pos k1];exact E1.trans F2.1
 ·by_cases k2:(k:Int)=2
  ·rcases h2:aG l s1 1 true with ⟨s2,j⟩
   have B2:=wW (l:=l) (s:=s1);rw [h2] at B2;simp only at B2;have ok1:dA l s1:=by have:=bU ok 1 true;rw [h1] at this;exact this
   have ok2:dA l s2:=by have:=bU ok1 1 true;rw [h2] at this;exact this
   by_cases k3:(j:Int)=1
   ·rcases h3:dy l s2 bad with ⟨s3,b3,bk⟩
    have hA:fJ l s bad=(s3,b3,{ da with kind:=(k:Int),op:=(j:Int),back:=bk }):=by
     unfold fJ;simp only [h1,h2,h3,if_neg k1,if_pos k2,if_pos k3]
    rw [hA] at h hb ⊢;simp only at h hb ⊢;have F3:=DN (l:=l) (s:=s2) (bad:=bad) ok2 (by rw [h3];exact h) (by rw [h3];exact hb);rw [h3] at F3;obtain ⟨hbad,E3,_,hcb,_⟩:=F3;have E2:=B2 E3.ok;have E1:=B1 E2.ok;refine ⟨hbad,?_,iz,hcb⟩;simp only [aV,if_neg k1,if_pos k2,if_pos k3];exact E1.trans (E2.trans E3)
   ·rcases h3:bO l s2 255 with ⟨s3,nm⟩
    by_cases k4:(j:Int)=3
    ·rcases h4:bZ l s3 bad with ⟨s4,b4,wt⟩
     have hA:fJ l s bad=(s4,b4,{ da with kind:=(k:Int),op:=(j:Int),oname:=nm,owt:=wt }):=by
      unfold fJ;simp only [h1,h2,h3,h4,if_neg k1,if_pos k2,if_neg k3,if_pos k4]
     rw [hA] at h hb ⊢;simp only at h hb ⊢;have F4:=s8 (l:=l) (s:=s3) (bad:=bad) (by rw [h4];exact h) (by rw [h4];exact hb);rw [h4] at F4;obtain ⟨hbad,E4,hcw⟩:=F4;have F3:=nP (l:=l) (s:=s2) (m:=255) (by rw [h3];exact E4.ok) ok2.1;rw [h3] at F3;have E2:=B2 F3.1.ok;have E1:=B1 E2.ok;refine ⟨hbad,?_,hcw,lP⟩;simp only [aV,if_neg k1,if_pos k2,if_neg k3,if_pos k4];exact E1.trans (E2.trans (F3.1.trans E4))
    ·have hA:fJ l s bad=(s3,bad,{ da with kind:=(k:Int),op:=(j:Int),oname:=nm }):=by
      unfold fJ;simp only [h1,h2,h3,if_neg k1,if_pos k2,if_neg k3,if_neg k4]
     rw [hA] at h hb ⊢;simp only at h hb ⊢;have F3:=nP (l:=l) (s:=s2) (m:=255) (by rw [h3];exact h) ok2.1;rw [h3] at F3;have E2:=B2 F3.1.ok;have E1:=B1 E2.ok;refine ⟨hb,?_,iz,lP⟩;simp only [aV,if_neg k1,if_pos k2,if_neg k3,if_neg k4,List.append_nil];exact E1.trans (E2.trans F3.1)
  ·by_cases k3:(k:Int)=3
   ·rcases h2:bO l s1 255 with ⟨s2,nm⟩
    rcases h3:dD l s2 bad with ⟨s3,b3,we⟩
    have ok1:dA l s1:=by have:=bU ok 1 true;rw [h1] at this;exact this
    have hA:fJ l s bad=(s3,b3,{ da with kind:=(k:Int),name:=nm,well:=we }):=by
     unfold fJ;simp only [h1,h2,h3,if_neg k1,if_neg k2,if_pos k3]
    rw [hA] at h hb ⊢;simp only at h hb ⊢;have F3:=rE (l:=l) (s:=s2) (bad:=bad) (by rw [h3];exact h) (by rw [h3];exact hb);rw [h3] at F3;obtain ⟨hbad,E3⟩:=F3;have F2:=nP (l:=l) (s:=s1) (m:=255) (by rw [h2];exact E3.ok) ok1.1;rw [h2] at F2;have E1:=B1 F2.1.ok;refine ⟨hbad,?_,iz,lP⟩;simp only [aV,if_neg k1,if_neg k2,if_pos k3];exact E1.trans (F2.1.trans E3)
   ·have hA:fJ l s bad=(s1,bad,{ da with kind:=(k:Int) }):=by
     unfold fJ;simp only [h1,if_neg k1,if_neg k2,if_neg k3]
    rw [hA] at h hb ⊢;simp only at h hb ⊢;refine ⟨hb,?_,iz,lP⟩;simp only [aV,if_neg k1,if_neg k2,if_neg k3,List.append_nil];exact B1 h
end
def uX (l:List UInt8):St × Bool × dR :=
 let t0:=fJ l (0,0,0) false
 let t1:=aG l t0.1 1 true
 let t2:=aG l t1.1 1 true
 let t3:=dD l t2.1 t0.2.1
 let t4:=fI l t3.1
 let t5:=bO l t4.1 255
 let t6:=fI l t5.1
 let t7:=aG l t6.1 4 false
 (t7.1,t3.2.1,{ act:=t0.2.2,o:={ err:=(t1.2:Int),reason:=(t2.2:Int),hit:=t3.2.2,version:=((min t4.2 1099511627777:Nat):Int),name:=t5.2,out:=[] },len:=((min t6.2 262145:Nat):Int),sum:=t7.2 })
theorem Be (l:List UInt8):Cj l=(iw l (uX l).1,(uX l).2):=by
 rcases h0:fJ l (0,0,0) false with ⟨s0,b0,ac⟩
 rcases h1:aG l s0 1 true with ⟨s1,q1⟩
 rcases h2:aG l s1 1 true with ⟨s2,q2⟩
 rcases h3:dD l s2 b0 with ⟨s3,b3,hit⟩
 rcases h4:fI l s3 with ⟨s4,v4⟩
 rcases h5:bO l s4 255 with ⟨s5,nm⟩
 rcases h6:fI l s5 with ⟨s6,v6⟩
 rcases h7:aG l s6 4 false with ⟨s7,q7⟩
 unfold Cj uX;simp only [h0,h1,h2,h3,h4,h5,h6,h7]
theorem rF {l:List UInt8} {s:St} {bad:Bool} (ok:dA l s):dA l (dD l s bad).1:=bU ok 1 true
theorem qD {l:List UInt8} {s:St} {bad:Bool} (ok:dA l s):dA l (bZ l s bad).1:=cY ok 8
theorem CJ {l:List UInt8} {s:St} {bad:Bool} (ok:dA l s):dA l (dy l s bad).1:=by
 rcases h1:bO l s 255 with ⟨s1,nm⟩
 rcases h2:dD l s1 bad with ⟨s2,b2,sx⟩
 rcases h3:bc l s2 16 with ⟨s3,ad⟩
 rcases h4:aG l s3 2 true with ⟨s4,po⟩
 rcases h5:bc l s4 6 with ⟨s5,mc⟩
 rcases h6:bZ l s5 b2 with ⟨s6,b6,wt⟩
 rcases h7:dD l s6 b6 with ⟨s7,b7,dr⟩
 unfold dy;simp only [h1,h2,h3,h4,h5,h6,h7];have o1:=iG ok 255;rw [h1] at o1;have o2:=rF (bad:=bad) o1;rw [h2] at o2;have o3:=cY o2 16;rw [h3] at o3;have o4:=bU o3 2 true;rw [h4] at o4;have o5:=cY o4 6;rw [h5] at o5;have o6:=qD (bad:=b2) o5;rw [h6] at o6;have o7:=rF (bad:=b6) o6;rw [h7] at o7;exact o7
theorem qE (l:List UInt8) (s:St) (bad:Bool) (Q:St→Bool→bY→Prop)
  (h1:Q (bO l (aG l s 1 true).1 131072).1 bad { da with kind:=((aG l s 1 true).2:Int),frame:=(bO l (aG l s 1 true).1 131072).2 })
  (h2:Q (dy l (aG l (aG l s 1 true).1 1 true).1 bad).1 (dy l (aG l (aG l s 1 true).1 1 true).1 bad).2.1 { da with kind:=((aG l s 1 true).2:Int),op:=((aG l (aG l s 1 true).1 1 true).2:Int),back:=(dy l (aG l (aG l s 1 true).1 1 true).1 bad).2.2 })
  (h3:Q (bZ l (bO l (aG l (aG l s 1 true).1 1 true).1 255).1 bad).1 (bZ l (bO l (aG l (aG l s 1 true).1 1 true).1 255).1 bad).2.1 { da with kind:=((aG l s 1 true).2:Int),op:=((aG l (aG l s 1 true).1 1 true).2:Int),oname:=(bO l (aG l (aG l s 1 true).1 1 true).1 255).2,owt:=(bZ l (bO l (aG l (aG l s 1 true).1 1 true).1 255).1 bad).2.2 })
  (h4:Q (bO l (aG l (aG l s 1 true).1 1 true).1 255).1 bad { da with kind:=((aG l s 1 true).2:Int),op:=((aG l (aG l s 1 true).1 1 true).2:Int),oname:=(bO l (aG l (aG l s 1 true).1 1 true).1 255).2 })
  (h5:Q (dD l (bO l (aG l s 1 true).1 255).1 bad).1 (dD l (bO l (aG l s 1 true).1 255).1 bad).2.1 { da with kind:=((aG l s 1 true).2:Int),name:=(bO l (aG l s 1 true).1 255).2,well:=(dD l (bO l (aG l s 1 true).1 255).1 bad).2.2 })
  (h6:Q (aG l s 1 true).1 bad { da with kind:=((aG l s 1 true).2:Int) }):Q (fJ l s bad).1 (fJ l s bad).2.1 (fJ l s bad).2.2:=by
 unfold fJ;by_cases k1:((aG l s 1 true).2:Int)=1
 ·simp only [if_pos k1];exact h1
 ·simp only [if_neg k1]
  by_cases k2:((aG l s 1 true).2:Int)=2
  ·simp only [if_pos k2]
   by_cases k3:((aG l (aG l s 1 true).1 1 true).2:Int)=1
   ·simp only [if_pos k3];exact h2
   ·simp only [if_neg k3]
    by_cases k4:((aG l (aG l s 1 true).1 1 true).2:Int)=3
    ·simp only [if_pos k4];exact h3
    ·simp only [if_neg k4];exact h4
  ·simp only [if_neg k2]
   by_cases k3:((aG l s 1 true).2:Int)=3
   ·simp only [if_pos k3];exact h5
   ·simp only [if_neg k3];exact h6
theorem DO {l:List UInt8} {s:St} {bad:Bool} (ok:dA l s):dA l (fJ l s bad).1:=by
 have ok1:=bU ok 1 true;have ok2:=bU ok1 1 true;have a1:=iG ok1 131072;have a3:=iG ok2 255;have a5:=iG ok1 255;have a2:=CJ (bad:=bad) ok2;have a4:=qD (bad:=bad) a3;have a6:=rF (bad:=bad) a5;exact qE l s bad (fun x _ _=>dA l x) a1 a2 a4 a3 a6 ok1
theorem uY (l:List UInt8) (s:St) (bad:Bool):az (fJ l s bad).2.2:=by
 have h0:(0:Nat)<18446744073709551616:=by decide
 exact qE l s bad (fun _ _ x=>az x) ⟨aA,h0⟩ ⟨km _ _ _,h0⟩ ⟨aA,mU _⟩ ⟨aA,h0⟩ ⟨aA,h0⟩ ⟨aA,h0⟩
section
variable {l r:List UInt8}
theorem DP {e:dR} (hs:aH e) (hr:aO e=true) (hc:AZ e) (h:l=bG e ++ r):uX l=(eg (0,0,0) (bG e).length,false,e):=by
 simp only [aO,Bool.and_eq_true,decide_eq_true_eq,bF] at hr;obtain ⟨hp,⟨he0,he9⟩,⟨hr0,hr9⟩,⟨hv0,hv9⟩,hn,ho,hl0,hl9⟩:=hr;have e0:l.drop ((0,0,0):St).1=aV e.act ++ (bT 1 e.o.err.toNat true ++ (bT 1 e.o.reason.toNat true ++ (fH e.o.hit ++ (aE e.o.version.toNat ++ (bC e.o.name ++ (aE e.len.toNat ++ (bT 4 e.sum false ++ r))))))):=by
  rw [h];simp [bG,List.append_assoc]
 have h0:=Ek (bad:=false) hs.act hp hc (s:=(0,0,0)) rfl (Nat.zero_le _) e0;have E0:=bw.of (s:=(0,0,0)) rfl (Nat.zero_le _) e0;have e1:=E0.rest e0;obtain ⟨k1,h1,z1⟩:=wV he0 (by omega) E0.ok' E0.le' e1;have E1:=bw.of E0.ok' E0.le' e1;have e2:=E1.rest e1;obtain ⟨k2,h2,z2⟩:=wV hr0 (by omega) E1.ok' E1.le' e2;have E2:=bw.of E1.ok' E1.le' e2;have e3:=E2.rest e2;have h3:=rD (bad:=false) E2.ok' E2.le' e3;have E3:=bw.of E2.ok' E2.le' e3;have e4:=E3.rest e3;have h4:=qA E3.ok' E3.le' (by omega) e4;have E4:=bw.of E3.ok' E3.le' e4;have e5:=E4.rest e4;have h5:=me (m:=255) E4.ok' E4.le' (by omega) (by omega) e5;have E5:=bw.of E4.ok' E4.le' e5;have e6:=E5.rest e5;have h6:=qA E5.ok' E5.le' (by omega) e6;have E6:=bw.of E5.ok' E5.le' e6;have e7:=E6.rest e6;have h7:=jh (n:=4) E6.ok' E6.le' (by rw [av];rfl) (by rw [av];decide) (by rw [av];decide) false e7;have hsum:=hs.sum;rw [jU (by omega)] at h7;unfold uX;simp only [h0,h1,h2,h3,h4,h5,h6,h7];refine Prod.ext ?_ (Prod.ext rfl ?_)
 ·simp only [bR,bG,List.length_append,Nat.add_assoc]
 ·have m4:((min e.o.version.toNat 1099511627777:Nat):Int)=e.o.version:=by omega
  have m6:((min e.len.toNat 262145:Nat):Int)=e.len:=by omega
  simp only [z1,z2,m4,m6];have hout:e.o.out=[]:=List.eq_nil_of_length_eq_zero ho;rw [←hout]
theorem wX {e:dR} (hs:aH e) (hr:aO e=true) (hc:AZ e):ec (bG e)=some e:=by
 have h:=DP (r:=[]) hs hr hc (by rw [List.append_nil]:bG e=bG e ++ []);unfold ec;rw [Be,h];simp only;rw [uT (by simp [eg]),if_pos];rw [hr];rfl
theorem CK {f:dR} (h:ec l=some f):l=bG f∧aO f=true∧aH f∧AZ f:=by
 unfold ec at h;split at h
 ·rename_i hc
  injection h with h
  rw [Bool.and_eq_true] at hc;obtain ⟨hok,hr⟩:=hc;rw [h] at hr;unfold pw at hok;simp only [Bool.and_eq_true,Bool.not_eq_true',decide_eq_true_eq] at hok;obtain ⟨hbad,_,hz⟩:=hok;rw [Be] at hbad hz h;simp only at hbad hz h;obtain ⟨hge,hend⟩:=AI hz;rw [hend] at hz;have ok0:dA l (0,0,0):=⟨Nat.zero_le _,Nat.zero_le _,Nat.zero_le _⟩
  rcases h0:fJ l (0,0,0) false with ⟨s0,b0,ac⟩
  rcases h1:aG l s0 1 true with ⟨s1,q1⟩
  rcases h2:aG l s1 1 true with ⟨s2,q2⟩
  rcases h3:dD l s2 b0 with ⟨s3,b3,hit⟩
  rcases h4:fI l s3 with ⟨s4,v4⟩
  rcases h5:bO l s4 255 with ⟨s5,nm⟩
  rcases h6:fI l s5 with ⟨s6,v6⟩
  rcases h7:aG l s6 4 false with ⟨s7,q7⟩
  have hA:uX l=(s7,b3,{ act:=ac,o:={ err:=(q1:Int),reason:=(q2:Int),hit:=hit,version:=((min v4 1099511627777:Nat):Int),name:=nm,out:=[] },len:=((min v6 262145:Nat):Int),sum:=q7 }):=by
   unfold uX;simp only [h0,h1,h2,h3,h4,h5,h6,h7]
  rw [hA] at hbad hz hge h;simp only at hbad hz hge h;subst h;simp only [aO,Bool.and_eq_true,decide_eq_true_eq,bF] at hr;have hr':=hr;obtain ⟨hp,he,hre,⟨hv0,hv9⟩,hn,ho,hl0,hl9⟩:=hr';have okA:dA l s0:=by
   have:=DO (l:=l) (bad:=false) ok0;rw [h0] at this;exact this
  have ok1:dA l s1:=by have:=bU okA 1 true;rw [h1] at this;exact this
  have ok2:dA l s2:=by have:=bU ok1 1 true;rw [h2] at this;exact this
  have ok3:dA l s3:=by have:=bU ok2 1 true;unfold dD at h3;injection h3 with h3;rw [←h3];exact this
  have ok4:dA l s4:=by have:=lV ok3;rw [h4] at this;exact this
  have ok5:dA l s5:=by have:=iG ok4 255;rw [h5] at this;exact this
  obtain ⟨x7,hx7,E7,y7⟩:=mP (l:=l) (s:=s6) (n:=4) (by decide) (by decide) false (by rw [h7];exact hz);rw [h7] at E7 y7;simp only at E7 y7;have F6:=AH (l:=l) (s:=s5) (by rw [h6];exact E7.ok) ok5.1;rw [h6] at F6;obtain ⟨_,E6⟩:=F6;have F5:=nP (l:=l) (s:=s4) (m:=255) (by rw [h5];exact E6.ok) ok4.1;rw [h5] at F5;obtain ⟨E5,_⟩:=F5;have F4:=AH (l:=l) (s:=s3) (by rw [h4];exact E5.ok) ok3.1;rw [h4] at F4;obtain ⟨_,E4⟩:=F4;have F3:=rE (l:=l) (s:=s2) (bad:=b0) (by rw [h3];exact E4.ok) (by rw [h3];exact hbad);rw [h3] at F3;obtain ⟨hb0,E3⟩:=F3;have E2:=wW (l:=l) (s:=s1) (by rw [h2];exact E3.ok);rw [h2] at E2;have E1:=wW (l:=l) (s:=s0) (by rw [h1];exact E2.ok);rw [h1] at E1;have F0:=El (l:=l) (s:=(0,0,0)) (bad:=false) ok0 (by rw [h0];exact E1.ok) (by rw [h0];exact hb0);rw [h0] at F0;obtain ⟨_,E0,hcan⟩:=F0;simp only at E6 E5 E4 E3 E2 E1 E0 hcan;have hsh0:=uY l (0,0,0) false;rw [h0] at hsh0;have m4:((min v4 1099511627777:Nat):Int)=(v4:Int):=by omega
  have m6:((min v6 262145:Nat):Int)=(v6:Int):=by omega
  have hx7':x7.length=4:=hx7;have hq7:q7<4294967296:=by have:=wU l s6;rw [h7] at this;exact this
  have hput:bT 4 q7 false=x7:=by
   rw [y7];have:=ly x7 false;rw [hx7'] at this;exact this
  refine ⟨?_,?_,⟨hsh0,hq7⟩,hcan⟩
  ·have E:=E0.trans (E1.trans (E2.trans (E3.trans (E4.trans (E5.trans (E6.trans E7))))))
   have hE:=E.eq;have hto:=E.to;rw [hto] at hge;simp only [eg,Nat.zero_add] at hge hE;rw [List.drop_zero,List.drop_of_length_le hge,List.append_nil] at hE;unfold bG;simp only [m4,m6,Int.toNat_natCast,hput];exact hE
  ·simp only [aO,Bool.and_eq_true,decide_eq_true_eq,bF]
   exact hr
 ·cases h
theorem yx {f:dR}:ec l=some f↔l=bG f∧aO f=true∧aH f∧AZ f :=
 ⟨CK,fun ⟨h1,h2,h3,h4⟩=>by rw [h1];exact wX h3 h2 h4⟩
end
def mX (b:aR):aR:={ b with wt:=bj b.wt }
def oh (a:bY):bY:={ a with back:=mX a.back,owt:=bj a.owt }
def jj (e:dR):dR:={ e with act:=oh e.act }
theorem Bf (e:dR):AZ (jj e):=⟨eN _,eN _⟩
theorem uZ {e:dR} (h:aH e):aH (jj e):=⟨⟨⟨h.act.back.addr,h.act.back.mac,kI h.act.back.wt⟩,kI h.act.owt⟩,h.sum⟩
theorem yy (n:Nat):eJ (bj n)=eJ n:=by unfold eJ;rw [eN]
theorem u0 (e:dR):bG (jj e)=bG e:=by
 unfold bG jj aV oh aD mX;simp only [yy]
theorem u5 (a:bY):dS (oh a)=dS a:=by
 have h:cF (oh a) (dv (oh a))=cF a (dv a):=by
  unfold dv oh;simp only;split
  ·simp [cF,bv,mX,eN]
  ·split
   ·split
    ·simp [cF,bv,mX,eN]
    ·split
     ·simp [cF,bv,mX,eN]
     ·simp [cF,bv,mX,eN]
   ·split
    ·simp [cF,bv,mX,eN]
    ·simp [cF,bv,mX,eN]
 unfold dS;rw [h];rfl
theorem u6 (e:dR):aO (jj e)=aO e:=by
 unfold aO;rw [show (jj e).act=oh e.act from rfl,u5];rfl
theorem qF {e:dR} (hs:aH e) (hr:aO e=true):ec (bG e)=some (jj e):=by
 rw [←u0];exact wX (uZ hs) (by rw [u6];exact hr) (Bf e)
end Go.Proofs.YtaafkokfdgfabaaGreat
namespace Go.Proofs.YtaafkokfdgfabaaGreat
open Go.RowKit
set_option linter.unusedVariables false
set_option linter.unusedSimpArgs false
def fD (n:Nat):Bool:=decide (n≤4652007308841189376) || decide (n=9223372036854775808)
def i6 (n:Nat):Nat:=if n % 9223372036854775808=0 then 0 else n
def ex (b:aR):Bool:=dH b.addr && (i3 b.name && (d9 b.port 1 65535 && fD b.wt))
def gK (bs:List aR) (i:Nat):Bool :=
 match bs[i]? with
 | some b=>ex b && (bj b.wt == bj (i6 b.wt) && (decide (i=0) || (match bs[i - 1]? with | some c=>Op.bytesLess c.name b.name | none=>true)))
 | none=>true
def cI (p:ob):Bool:=d9 p.version 0 1099511627776 && (decide (p.backs.length≤1024) && (List.range p.backs.length).all (gK p.backs))
def eG (k:eZ):Bool:=(k.src.1 == k.dst.1) && (dH k.src && (dH k.dst && (d9 k.proto 0 255 && (d9 k.sport 0 65535 && d9 k.dport 0 65535))))
def eH (f:dB):Bool:=eG f.key && (i3 f.name && (d9 f.state 1 5 && (d9 f.seen 0 1099511627776 && d9 f.no 0 1152921504606846976)))
def bI (t:eZ):List UInt8:=(if t.src.1 then 6 else 4) :: (t.src.2 ++ (t.dst.2 ++ (bT 1 t.proto.toNat true ++ (bT 2 t.sport.toNat true ++ bT 2 t.dport.toNat true))))
def kT (a b:dB):Bool:=if a.no=b.no then Op.bytesLess (bI a.key) (bI b.key) else decide (a.no<b.no)
def eQ (h:cZ):Bool:=decide (h.name.length≤255) && d9 h.run 0 99
def eU (s:bq):Bool :=
 cI s.pool && (decide (s.healths.length≤1024) && (decide (s.flows.length≤4096) && (d9 s.tick 0 1099511627776 && (d9 s.no 0 1152921504606846976 &&
  (s.count.all (fun n=>d9 n 0 1152921504606846976) && (s.healths.all eQ && s.flows.all eH))))))
def aS (h:cZ):List UInt8:=bC h.name ++ (fH h.down ++ aE h.run.toNat)
def ct (f:dB):List UInt8:=bI f.key ++ (bC f.name ++ (aE f.state.toNat ++ (aE f.seen.toNat ++ aE f.no.toNat)))
def eI {α:Type} (enc:α→List UInt8) (xs:List α):List UInt8:=aE xs.length ++ xs.flatMap enc
def gL (s:bq):List Nat:=s.tick.toNat :: s.no.toNat :: (s.count.map Int.toNat ++ [s.pool.version.toNat])
def eR (s:bq):List UInt8:=aJ (gL s) ++ (eI aD s.pool.backs ++ (eI aS s.healths ++ eI ct s.flows))
def eK (l:List UInt8) (s:St):St × Nat:=((fI l s).1,min (fI l s).2 1152921504606846977)
def lR (s:St):Bool:=decide (s.2.1=0) && decide (s.2.2=0)
def ey {α:Type} (one:St→St × α × Bool):Nat→St→St × Option (List α)
 | 0,s=>(s,some [])
 | k + 1,s=>if (one s).2.2 && lR (one s).1 then ((ey one k (one s).1).1,(ey one k (one s).1).2.map ((one s).2.1 :: ·)) else ((one s).1,none)
def fk {α:Type} (l:List UInt8) (one:St→St × α × Bool) (most:Nat) (s:St):St × List α × Bool :=
 if (eK l s).2≤most then ((ey one (eK l s).2 (eK l s).1).1,((ey one (eK l s).2 (eK l s).1).2.getD []),(ey one (eK l s).2 (eK l s).1).2.isSome) else ((eK l s).1,[],false)
def iB (l:List UInt8):Nat→St→St × List Nat
 | 0,s=>(s,[])
 | k + 1,s=>((iB l k (eK l s).1).1,(eK l s).2 :: (iB l k (eK l s).1).2)
def e9 (l:List UInt8) (s:St):St × cZ × Bool :=
 let t1:=bO l s 255
 let t2:=aG l t1.1 1 true
 let t3:=eK l t2.1
 (t3.1,{ name:=t1.2,down:=t2.2 == 1,run:=(t3.2:Int) },decide (t2.2≤1))
def nQ (l:List UInt8) (s:St):St × eZ × Bool :=
 let t1:=aG l s 1 true
 let t2:=bc l t1.1 16
 let t3:=bc l t2.1 16
 let t4:=aG l t3.1 1 true
 let t5:=aG l t4.1 2 true
 let t6:=aG l t5.1 2 true
 (t6.1,{ src:=(t1.2 == 6,dz t2.2 16),dst:=(t1.2 == 6,dz t3.2 16),proto:=(t4.2:Int),sport:=(t5.2:Int),dport:=(t6.2:Int) },t1.2 == 6 || t1.2 == 4)
def iC (l:List UInt8) (s:St):St × dB × Bool :=
 let t1:=nQ l s
 let t2:=bO l t1.1 255
 let t3:=eK l t2.1
 let t4:=eK l t3.1
 let t5:=eK l t4.1
 (t5.1,{ key:=t1.2.1,name:=t2.2,state:=(t3.2:Int),seen:=(t4.2:Int),no:=(t5.2:Int) },t1.2.2)
def fc (l:List UInt8) (s:St):St × aR × Bool:=((dy l s false).1,(eE l s).1,(eE l s).2)
def rI (ns:List Nat) (bs:List aR) (hs:List cZ) (fs:List dB):bq :=
 { pool:={ version:=(ns.getD 13 0:Nat),backs:=bs },healths:=hs,flows:=fs,tick:=(ns.getD 0 0:Nat),no:=(ns.getD 1 0:Nat),count:=((ns.drop 2).take 11).map Int.ofNat }
def gT (l:List UInt8):Option bq :=
 let t1:=iB l 14 (0,0,0)
 let a:=fk l (fc l) 1024 t1.1
 let c:=fk l (e9 l) 1024 a.1
 let d:=fk l (iC l) 4096 c.1
 if a.2.2 && (c.2.2 && (d.2.2 && (lR (iw l d.1) && eU (rI t1.2 a.2.1 c.2.1 d.2.1)))) then some (rI t1.2 a.2.1 c.2.1 d.2.1) else none
section
variable {l:List UInt8} {s:St} {r:List UInt8}
theorem nR (h0:s.2.2=0) (hl:s.1≤l.length) {m:Nat} (hm:m≤1152921504606846976) (e:l.drop s.1=aE m ++ r):eK l s=(eg s (aE m).length,m):=by
 unfold eK;rw [qA h0 hl (by omega) e,Nat.min_eq_left (by omega)]
theorem jk (h:dA l s):dA l (eK l s).1:=lV h
theorem qG:∀ (k:Nat) (s:St),(iB l k s).2.length=k
 | 0,s=>rfl
 | k + 1,s=>by simp [iB,qG k]
theorem xe:∀ (ns:List Nat) (s:St),s.2.2=0→s.1≤l.length→(∀ n ∈ ns,n≤1152921504606846976)→∀ {r:List UInt8},l.drop s.1=aJ ns ++ r→iB l ns.length s=(eg s (aJ ns).length,ns)
 | [],s,_,_,_,_,_=>rfl
 | n :: ns,s,h0,hl,hn,r,e=>by
  rw [aJ,List.append_assoc] at e;have h1:=nR h0 hl (hn n (by simp)) e;have E1:=bw.of h0 hl e;have ih:=xe ns _ E1.ok' E1.le' (fun u hu=>hn u (by simp [hu])) (E1.rest e);rw [List.length_cons,iB,h1];simp only;rw [ih];simp [bR,aJ]
theorem Bi {α:Type} {enc:α→List UInt8} {one:St→St × α × Bool} {P:α→Prop}
  (F:∀ (x:α) (s:St) (r:List UInt8),P x→s.2.1=0→s.2.2=0→s.1≤l.length→l.drop s.1=enc x ++ r→one s=(eg s (enc x).length,x,true)) :
  ∀ (xs:List α) (s:St),(∀ x ∈ xs,P x)→s.2.1=0→s.2.2=0→s.1≤l.length→∀ {r:List UInt8},l.drop s.1=xs.flatMap enc ++ r→ey one xs.length s=(eg s (xs.flatMap enc).length,some xs)
 | [],s,_,_,_,_,_,_=>rfl
 | x :: xs,s,hP,h1,h0,hl,r,e=>by
  rw [List.flatMap_cons,List.append_assoc] at e;have h:=F x s _ (hP x (by simp)) h1 h0 hl e;have E1:=bw.of h0 hl e;have ih:=Bi F xs _ (fun u hu=>hP u (by simp [hu])) (by rw [E1.at_];exact h1) E1.ok' E1.le' (E1.rest e);rw [List.length_cons,ey,h];simp only;rw [if_pos (by simp [lR,eg,h1,h0]),ih];simp [bR]
theorem vd {α:Type} {enc:α→List UInt8} {one:St→St × α × Bool} {P:α→Prop}
  (F:∀ (x:α) (s:St) (r:List UInt8),P x→s.2.1=0→s.2.2=0→s.1≤l.length→l.drop s.1=enc x ++ r→one s=(eg s (enc x).length,x,true)) {most:Nat} (hmo:most≤1000000)
  (xs:List α) (hP:∀ x ∈ xs,P x) (hx:xs.length≤most) (h1:s.2.1=0) (h0:s.2.2=0) (hl:s.1≤l.length) (e:l.drop s.1=eI enc xs ++ r):fk l one most s=(eg s (eI enc xs).length,xs,true):=by
 unfold eI at e;rw [List.append_assoc] at e;have h:=nR h0 hl (by omega) e;have E1:=bw.of h0 hl e;have h2:=Bi F xs _ hP (by rw [E1.at_];exact h1) E1.ok' E1.le' (E1.rest e);unfold fk;rw [h];simp only;rw [if_pos hx,h2];simp [bR,eI]
end
end Go.Proofs.YtaafkokfdgfabaaGreat
namespace Go.Proofs.YtaafkokfdgfabaaGreat
open Go.RowKit
set_option linter.unusedVariables false
set_option linter.unusedSimpArgs false
section
variable {l:List UInt8} {s:St} {r:List UInt8}
theorem Bj {h:cZ} (hr:eQ h=true) (h0:s.2.2=0) (hl:s.1≤l.length) (e:l.drop s.1=aS h ++ r):e9 l s=(eg s (aS h).length,h,true):=by
 simp only [eQ,Bool.and_eq_true,decide_eq_true_eq,bF] at hr;obtain ⟨hn,hr0,hr9⟩:=hr;unfold aS at e;simp only [List.append_assoc] at e;have h1:=me (m:=255) h0 hl (by omega) (by omega) e;have E1:=bw.of h0 hl e;have e1:=E1.rest e;have h2:=jh (n:=1) E1.ok' E1.le' (by rw [cJ];rfl) (by rw [cJ];decide) (by rw [cJ];decide) true e1;have E2:=bw.of E1.ok' E1.le' e1;have e2:=E2.rest e1;have h3:=nR E2.ok' E2.le' (by omega) e2;unfold e9;simp only [h1,h2,h3];rcases h with ⟨nm,d,run⟩
 simp only at hr0 hr9 ⊢;have hz:((run.toNat:Nat):Int)=run:=by omega
 rw [hz];cases d
 ·simp [bR,aS,fH,cK,Nat.add_assoc,Nat.add_comm,Nat.add_left_comm]
 ·simp [bR,aS,fH,cK,Nat.add_assoc,Nat.add_comm,Nat.add_left_comm]
theorem DQ (h:dA l s):dA l (nQ l s).1:=bU (bU (bU (cY (cY (bU h _ _) _) _) _ _) _ _) _ _
theorem qH (l:List UInt8) (s:St):cz (nQ l s).2.1:=by
 rcases h1:aG l s 1 true with ⟨s1,fm⟩
 rcases h3:bc l s1 16 with ⟨s2,sb⟩
 rcases h4:bc l s2 16 with ⟨s3,db⟩
 unfold nQ;simp only [h1,h3,h4];exact ⟨dY (fO (n:=16) h3),dY (fO (n:=16) h4)⟩
theorem Eo {t:eZ} (ht:cz t) (hr:eG t=true) (h0:s.2.2=0) (hl:s.1≤l.length) (e:l.drop s.1=bI t ++ r):nQ l s=(eg s (bI t).length,t,true):=by
 simp only [eG,Bool.and_eq_true,beq_iff_eq,bF] at hr;obtain ⟨hf,_,_,hp,hsp,hdp⟩:=hr;have hs16:t.src.2.length=16:=ht.src;have hd16:t.dst.2.length=16:=ht.dst;obtain ⟨c,hc⟩:∃ c:UInt8,c=if t.src.1 then 6 else 4:=⟨_,rfl⟩
 unfold bI at e;rw [←hc,show c :: (t.src.2 ++ (t.dst.2 ++ (bT 1 t.proto.toNat true ++ (bT 2 t.sport.toNat true ++ bT 2 t.dport.toNat true)))) ++ r=[c] ++ (t.src.2 ++ (t.dst.2 ++ (bT 1 t.proto.toNat true ++ (bT 2 t.sport.toNat true ++ (bT 2 t.dport.toNat true ++ r))))) by simp] at e;have h1:=jh (n:=1) h0 hl (x:=[c]) rfl (by simp) (by simp) true e;have E1:=bw.of h0 hl e;have e1:=E1.rest e;have h2:=iy (n:=16) E1.ok' E1.le' (by rw [hs16];rfl) e1;have E2:=bw.of E1.ok' E1.le' e1;have e2:=E2.rest e1;have h3:=iy (n:=16) E2.ok' E2.le' (by rw [hd16];rfl) e2;have E3:=bw.of E2.ok' E2.le' e2;have e3:=E3.rest e2;have h4:=jh (n:=1) E3.ok' E3.le' (by rw [av];rfl) (by rw [av];decide) (by rw [av];decide) true e3;have E4:=bw.of E3.ok' E3.le' e3;have e4:=E4.rest e3;have h5:=jh (n:=2) E4.ok' E4.le' (by rw [av];rfl) (by rw [av];decide) (by rw [av];decide) true e4;have E5:=bw.of E4.ok' E4.le' e4;have e5:=E5.rest e4;have h6:=jh (n:=2) E5.ok' E5.le' (by rw [av];rfl) (by rw [av];decide) (by rw [av];decide) true e5;rw [jU (by omega)] at h4 h5 h6;unfold nQ;simp only [h1,h2,h3,h4,h5,h6];rcases t with ⟨⟨s6,sb⟩,⟨d6,db⟩,pr,sp,dp⟩
 simp only at hf hp hsp hdp hs16 hd16 hc ⊢;subst hf;rw [jV hs16,jV hd16,cK];have z1:((pr.toNat:Nat):Int)=pr:=by omega
 have z2:((sp.toNat:Nat):Int)=sp:=by omega
 have z3:((dp.toNat:Nat):Int)=dp:=by omega
 rw [z1,z2,z3];cases s6
 ·have:c=4:=hc
  subst this;simp [bR,bI,Nat.add_assoc,Nat.add_comm,Nat.add_left_comm]
 ·have:c=6:=hc
  subst this;simp [bR,bI,Nat.add_assoc,Nat.add_comm,Nat.add_left_comm]
theorem iQ {n:List UInt8} (h:i3 n=true):n.length≤24:=by
 simp only [i3,Bool.and_eq_true,decide_eq_true_eq] at h;exact h.2
theorem DR {f:dB} (hk:cz f.key) (hr:eH f=true) (h0:s.2.2=0) (hl:s.1≤l.length) (e:l.drop s.1=ct f ++ r):iC l s=(eg s (ct f).length,f,true):=by
 simp only [eH,Bool.and_eq_true,bF] at hr;obtain ⟨hkn,hnm,hst,hse,hno⟩:=hr;have hnl:=iQ hnm;unfold ct at e;simp only [List.append_assoc] at e;have h1:=Eo hk hkn h0 hl e;have E1:=bw.of h0 hl e;have e1:=E1.rest e;have h2:=me (m:=255) E1.ok' E1.le' (by omega) (by omega) e1;have E2:=bw.of E1.ok' E1.le' e1;have e2:=E2.rest e1;have h3:=nR E2.ok' E2.le' (by omega) e2;have E3:=bw.of E2.ok' E2.le' e2;have e3:=E3.rest e2;have h4:=nR E3.ok' E3.le' (by omega) e3;have E4:=bw.of E3.ok' E3.le' e3;have e4:=E4.rest e3;have h5:=nR E4.ok' E4.le' (by omega) e4;unfold iC;simp only [h1,h2,h3,h4,h5];rcases f with ⟨k,nm,st,se,no⟩
 simp only at hst hse hno ⊢;have z1:((st.toNat:Nat):Int)=st:=by omega
 have z2:((se.toNat:Nat):Int)=se:=by omega
 have z3:((no.toNat:Nat):Int)=no:=by omega
 rw [z1,z2,z3];simp [bR,ct,Nat.add_assoc]
theorem nS {b:aR} (h:ex b=true):ff b=true:=by
 simp only [ex,Bool.and_eq_true] at h;have:=iQ h.2.1;have hp:=bF.1 h.2.2.1;simp only [ff,Bool.and_eq_true,decide_eq_true_eq,bF];omega
theorem ve {n:Nat} (h:fD n=true):bj n=n:=by
 have hn:ju n=false:=by
  simp only [fD,Bool.or_eq_true,decide_eq_true_eq] at h;rcases hb:ju n with _ | _
  ·rfl
  ·have:=ri n hb
   omega
 unfold bj;rw [hn];rfl
theorem Bk {b:aR} (h:ex b=true):s9 b:=by
 simp only [ex,Bool.and_eq_true] at h;exact ve h.2.2.2
theorem yz {b:aR} (hs:ar b) (hr:ex b=true) (h1:s.2.1=0) (h0:s.2.2=0) (hl:s.1≤l.length) (e:l.drop s.1=aD b ++ r):fc l s=(eg s (aD b).length,b,true):=by
 have h:=AX (bad:=false) hs (nS hr) (Bk hr) h0 hl e;unfold fc eE;rw [h];have:pw (eg s (aD b).length) false=true:=by simp [pw,eg,h1,h0]
 simp only [this,if_true]
end
end Go.Proofs.YtaafkokfdgfabaaGreat
namespace Go.Proofs.YtaafkokfdgfabaaGreat
open Go.RowKit
set_option linter.unusedVariables false
set_option linter.unusedSimpArgs false
theorem th {bs:List aR} (h:(List.range bs.length).all (gK bs)=true):∀ b ∈ bs,ex b=true:=by
 intro b hb;obtain ⟨i,hi,rfl⟩:=List.getElem_of_mem hb;rw [List.all_eq_true] at h;have:=h i (List.mem_range.2 hi);unfold gK at this;rw [List.getElem?_eq_getElem hi] at this;simp only [Bool.and_eq_true] at this;exact this.1
structure Bm (s:bq):Prop where
 ver:0≤s.pool.version∧s.pool.version≤1099511627776
 bl:s.pool.backs.length≤1024
 backs:∀ b ∈ s.pool.backs,ex b=true
 hl:s.healths.length≤1024
 fl:s.flows.length≤4096
 tick:0≤s.tick∧s.tick≤1099511627776
 no:0≤s.no∧s.no≤1152921504606846976
 count:∀ n ∈ s.count,0≤n∧n≤1152921504606846976
 healths:∀ h ∈ s.healths,eQ h=true
 flows:∀ f ∈ s.flows,eH f=true
theorem pD {s:bq} (h:eU s=true):Bm s:=by
 simp only [eU,cI,Bool.and_eq_true,decide_eq_true_eq,bF] at h;obtain ⟨⟨h1,h2,h3⟩,h4,h5,h6,h7,h8,h9,h10⟩:=h;exact ⟨h1,h2,th h3,h4,h5,h6,h7,fun n hn=>bF.1 (List.all_eq_true.1 h8 n hn),List.all_eq_true.1 h9,List.all_eq_true.1 h10⟩
theorem qI {s:bq} (h:Bm s):∀ n ∈ gL s,n≤1152921504606846976:=by
 intro n hn;have:=h.tick;have:=h.no;have:=h.ver;simp only [gL,List.mem_cons,List.mem_append,List.mem_map,List.mem_nil_iff,or_false] at hn;rcases hn with rfl | rfl | ⟨z,hz,rfl⟩ | rfl
 ·omega
 ·omega
 ·have:=h.count z hz;omega
 ·omega
theorem pE {s:bq} (h:s.count.length=11):(gL s).length=14:=by simp [gL,h]
theorem yA {s:bq} (h:s.count.length=11) (hr:Bm s):rI (gL s) s.pool.backs s.healths s.flows=s:=by
 obtain ⟨⟨ver,backs⟩,healths,flows,tick,no,count⟩:=s;have h1:=hr.tick;have h2:=hr.no;have h3:=hr.ver;have h4:=hr.count;simp only at h h1 h2 h3 h4;match count,h with
 | [a,b,c,d,e,f,g,i,j,k,m],_ =>
  have ha:=h4 a (by simp);have hb:=h4 b (by simp);have hc:=h4 c (by simp);have hd:=h4 d (by simp);have he:=h4 e (by simp);have hf:=h4 f (by simp);have hg:=h4 g (by simp);have hi:=h4 i (by simp);have hj:=h4 j (by simp);have hk:=h4 k (by simp);have hm:=h4 m (by simp);simp [rI,gL];omega
theorem CL {ns:List Nat} (h:ns.length=14) (bs:List aR) (hs:List cZ) (fs:List dB):gL (rI ns bs hs fs)=ns∧(rI ns bs hs fs).count.length=11:=by
 match ns,h with
 | [a,b,c,d,e,f,g,i,j,k,m,n,o,p],_=>exact ⟨rfl,rfl⟩
theorem vf {s:bq} (ok:hM s) (h:eU s=true):gT (eR s)=some s:=by
 have hr:=pD h;obtain ⟨l,hl⟩:∃ l,l=eR s:=⟨_,rfl⟩
 rw [←hl];have e0:l.drop ((0,0,0):St).1=aJ (gL s) ++ (eI aD s.pool.backs ++ (eI aS s.healths ++ (eI ct s.flows ++ []))):=by
  rw [hl];simp [eR]
 have h1:=xe (gL s) (0,0,0) rfl (Nat.zero_le _) (qI hr) e0;rw [pE ok.count] at h1;have E1:=bw.of (s:=(0,0,0)) rfl (Nat.zero_le _) e0;have e1:=E1.rest e0;have h2:=vd (one:=fc l) (P:=fun b=>ar b∧ex b=true) (enc:=aD) (most:=1024) (fun x s r hP a0 a1 a2 a3=>yz hP.1 hP.2 a0 a1 a2 a3) (by decide) s.pool.backs (fun b hb=>⟨ok.backs b hb,hr.backs b hb⟩) hr.bl (by rw [E1.at_]) E1.ok' E1.le' e1;have E2:=bw.of E1.ok' E1.le' e1;have e2:=E2.rest e1;have h3:=vd (one:=e9 l) (P:=fun b=>eQ b=true) (enc:=aS) (most:=1024) (fun x s r hP a0 a1 a2 a3=>Bj hP a1 a2 a3) (by decide) s.healths hr.healths hr.hl (by rw [E2.at_,E1.at_]) E2.ok' E2.le' e2;have E3:=bw.of E2.ok' E2.le' e2;have e3:=E3.rest e2;have h4:=vd (one:=iC l) (P:=fun f=>cz f.key∧eH f=true) (enc:=ct) (most:=4096) (fun x s r hP a0 a1 a2 a3=>DR hP.1 hP.2 a1 a2 a3) (by decide) s.flows (fun f hf=>⟨ok.flows f hf,hr.flows f hf⟩) hr.fl (by rw [E3.at_,E2.at_,E1.at_]) E3.ok' E3.le' e3;have E4:=bw.of E3.ok' E3.le' e3;have hend:iw l (eg (eg (eg (eg (0,0,0) (aJ (gL s)).length) (eI aD s.pool.backs).length) (eI aS s.healths).length) (eI ct s.flows).length)=(eg (eg (eg (eg (0,0,0) (aJ (gL s)).length) (eI aD s.pool.backs).length) (eI aS s.healths).length) (eI ct s.flows).length):=by
  refine uT ?_;rw [hl];simp [eR,eg,Nat.add_assoc]
 unfold gT;simp only [h1,h2,h3,h4,hend,yA ok.count hr,h];rw [if_pos (by simp [lR,eg])]
end Go.Proofs.YtaafkokfdgfabaaGreat
namespace Go.Proofs.YtaafkokfdgfabaaGreat
open Go.RowKit
set_option linter.unusedVariables false
set_option linter.unusedSimpArgs false
structure cO where
 conf:bf
 first:Int
 lost:Int
 st:bq
 evs:List dR
structure bA (s:cO):Prop where
 conf:ap s.conf
 st:hM s.st
 evs:∀ e ∈ s.evs,aH e
def cA:bq:={ pool:={ version:=0,backs:=[] },healths:=[],flows:=[],tick:=0,no:=0,count:=List.replicate 11 0 }
def cV:cO:={ conf:=bg,first:=0,lost:=0,st:=cA,evs:=[] }
theorem gV:hM cA:=⟨by simp [cA],by simp [cA],by simp [cA]⟩
theorem cT:bA cV:=⟨io,gV,by simp [cV]⟩
def jm (a b:eZ):Bool:=a.src == b.src && (a.dst == b.dst && (a.proto == b.proto && (a.sport == b.sport && a.dport == b.dport)))
theorem qK {a b:eZ}:jm a b=true↔a=b:=by cases a;cases b;simp [jm]
def fP (c:bf) (s:bq) (i:Nat):Bool :=
 match s.healths[i]?,s.pool.backs[i]? with
 | some h,some b=>h.name == b.name && (decide (0≤h.run) && decide (h.run<(if h.down then c.rise else c.fall)))
 | _,_=>true
def jB (s:bq) (i:Nat):Bool :=
 match s.flows[i]? with
 | some f=>eH f && (decide (f.seen≤s.tick) && (decide (1≤f.no) && (decide (f.no≤s.no) && (!((s.flows.take i).any fun g=>jm g.key f.key) && (decide (i=0) || (match s.flows[i - 1]? with | some g=>kT g f | none=>true))))))
 | none=>true
def nT (c:bf) (s:bq):Bool :=
 bB c && (cI s.pool && (decide (s.healths.length=s.pool.backs.length) && (decide ((s.flows.length:Int)≤c.room) && (d9 s.tick 0 1099511627776 && (d9 s.no 0 1152921504606846976 &&
  (s.count.all (fun n=>d9 n 0 1152921504606846976) && ((List.range s.healths.length).all (fP c s) && (List.range s.flows.length).all (jB s))))))))
def iq (s:cO):Bool:=nT s.conf s.st && (eU s.st && (d9 s.first 0 1152921504606846976 && d9 s.lost 0 s.first))
def lJ (s:cO):Bool:=s.evs.all aO && iq s
def jY:List UInt8:=[119,97,121,49]
def cU (s:cO):List UInt8:=jY ++ (aE s.first.toNat ++ (aE s.lost.toNat ++ bD s.conf))
def dc (s:cO):List UInt8:=dG (cU s) ++ dG (eR s.st)
def ca (e:dR):List UInt8:=dG (bG e)
def cB (s:cO):List UInt8:=dc s ++ s.evs.flatMap ca
def yJ (l:List UInt8):St × Nat:=fI l (bc l (0,0,0) 4).1
def vm (l:List UInt8):St × Nat:=fI l (yJ l).1
def yK (l:List UInt8):St × List UInt8:=bc l (vm l).1 ((l.length - (vm l).1.1:Nat):Int)
def fp (l:List UInt8):Option cO :=
 if (bc l (0,0,0) 4).2=jY then
  match bE (yK l).2 with
  | some c=>if lR (yK l).1 then some { conf:=c,first:=(min (yJ l).2 1152921504606846977:Nat),lost:=(min (vm l).2 1152921504606846977:Nat),st:=cA,evs:=[] } else none
  | none=>none
 else none
def kF:Nat→List UInt8→List dR × Nat × Nat
 | 0,_=>([],0,0)
 | k + 1,l =>
  if l=[] then ([],0,0)
  else if (aP l).2.2≠0 then ([],0,(aP l).2.2)
  else match ec (aP l).1 with
   | none=>([],0,3)
   | some e=>(e :: (kF k (l.drop (aP l).2.1)).1,(aP l).2.1 + (kF k (l.drop (aP l).2.1)).2.1,(kF k (l.drop (aP l).2.1)).2.2)
def ed (l:List UInt8):List dR × Nat × Nat:=kF l.length l
def bu (b:List UInt8):cO × Nat × Nat :=
 if (aP b).2.2≠0 then (cV,0,(aP b).2.2)
 else match fp (aP b).1 with
  | none=>(cV,0,3)
  | some h =>
   if (aP (b.drop (aP b).2.1)).2.2≠0 then (cV,0,(aP (b.drop (aP b).2.1)).2.2)
   else match gT (aP (b.drop (aP b).2.1)).1 with
    | none=>(cV,0,3)
    | some st =>
     if iq { h with st:=st } then
      ({ h with st:=st,evs:=(ed (b.drop ((aP b).2.1 + (aP (b.drop (aP b).2.1)).2.1))).1 },(aP b).2.1 + (aP (b.drop (aP b).2.1)).2.1 + (ed (b.drop ((aP b).2.1 + (aP (b.drop (aP b).2.1)).2.1))).2.1,(ed (b.drop ((aP b).2.1 + (aP (b.drop (aP b).2.1)).2.1))).2.2)
     else (cV,0,3)
theorem i7 {l body:List UInt8} {n:Nat} (h:aP l=(body,n,0)):1≤n∧n≤l.length∧l.take n=dG body∧body.length≤1048576:=by
 obtain ⟨m,j,_,h2,h3,h4,_,h6,h7,h8⟩:=tj h;exact ⟨by omega,h4,h7,by omega⟩
theorem ni:∀ (k j:Nat) (l:List UInt8),l.length≤k→l.length≤j→kF k l=kF j l
 | 0,0,l,_,_=>rfl
 | 0,j + 1,l,h,_=>by
  have:l=[]:=List.eq_nil_of_length_eq_zero (by omega);simp [kF,this]
 | k + 1,0,l,_,h=>by
  have:l=[]:=List.eq_nil_of_length_eq_zero (by omega);simp [kF,this]
 | k + 1,j + 1,l,h1,h2=>by
  unfold kF;by_cases hl:l=[]
  ·rw [if_pos hl,if_pos hl]
  ·rw [if_neg hl,if_neg hl]
   by_cases hn:(aP l).2.2≠0
   ·rw [if_pos hn,if_pos hn]
   ·rw [if_neg hn,if_neg hn]
    have hp:=i7 (l:=l) (body:=(aP l).1) (n:=(aP l).2.1) (Prod.ext rfl (Prod.ext rfl (by simpa using hn)));rw [ni k j (l.drop (aP l).2.1) (by rw [List.length_drop];omega) (by rw [List.length_drop];omega)]
theorem pG:ed []=([],0,0):=rfl
theorem rL {l:List UInt8} (hl:l≠[]):ed l =
  if (aP l).2.2≠0 then ([],0,(aP l).2.2)
  else match ec (aP l).1 with
   | none=>([],0,3)
   | some e=>(e :: (ed (l.drop (aP l).2.1)).1,(aP l).2.1 + (ed (l.drop (aP l).2.1)).2.1,(ed (l.drop (aP l).2.1)).2.2):=by
 have h0:0<l.length:=List.length_pos_iff.2 hl;obtain ⟨k,hk⟩:∃ k,l.length=k + 1:=⟨l.length - 1,by omega⟩
 have e:ed l=kF (k + 1) l:=by unfold ed;rw [hk]
 rw [e,kF,if_neg hl];by_cases hn:(aP l).2.2≠0
 ·rw [if_pos hn,if_pos hn]
 ·rw [if_neg hn,if_neg hn]
  have hp:=i7 (l:=l) (body:=(aP l).1) (n:=(aP l).2.1) (Prod.ext rfl (Prod.ext rfl (by simpa using hn)));have hd:kF k (l.drop (aP l).2.1)=ed (l.drop (aP l).2.1):=by
   unfold ed;exact ni _ _ _ (by rw [List.length_drop];omega) (Nat.le_refl _)
  rw [hd]
theorem tx {l:List UInt8} (hl:l≠[]) {body:List UInt8} {n w:Nat} (h:aP l=(body,n,w)) (hw:w≠0):ed l=([],0,w):=by
 rw [rL hl,h,if_pos hw]
theorem CQ {l:List UInt8} {body:List UInt8} {n:Nat} (h:aP l=(body,n,0)) (he:ec body=none):ed l=([],0,3):=by
 have hp:=i7 h;rw [rL (by intro e;rw [e] at hp;simp at hp;omega),h];simp only [ne_eq,not_true,if_false,he]
theorem nU {l:List UInt8} {body:List UInt8} {n:Nat} {e:dR} (h:aP l=(body,n,0)) (he:ec body=some e):ed l=(e :: (ed (l.drop n)).1,n + (ed (l.drop n)).2.1,(ed (l.drop n)).2.2):=by
 have hp:=i7 h;rw [rL (by intro e;rw [e] at hp;simp at hp;omega),h];simp only [ne_eq,not_true,if_false,he]
end Go.Proofs.YtaafkokfdgfabaaGreat
namespace Go.Proofs.YtaafkokfdgfabaaGreat
open Go.RowKit
set_option linter.unusedVariables false
set_option linter.unusedSimpArgs false
theorem DT (body:List UInt8):dG body≠[]:=by
 intro e;have:=cL body;rw [e] at this;simp at this
section
variable {l r:List UInt8}
theorem Ez {c:bf} {first lost:Int} (hs:ap c) (hr:gJ c) (hf:0≤first∧first≤1152921504606846976) (hl:0≤lost∧lost≤1152921504606846976) :
  fp (jY ++ (aE first.toNat ++ (aE lost.toNat ++ bD c)))=some { conf:=c,first:=first,lost:=lost,st:=cA,evs:=[] }:=by
 obtain ⟨l,hL⟩:∃ l,l=jY ++ (aE first.toNat ++ (aE lost.toNat ++ bD c)):=⟨_,rfl⟩
 rw [←hL];have e0:l.drop ((0,0,0):St).1=jY ++ (aE first.toNat ++ (aE lost.toNat ++ bD c)):=by rw [hL];rfl
 have h1:=iy (n:=4) (s:=(0,0,0)) rfl (Nat.zero_le _) rfl e0;have E1:=bw.of (s:=(0,0,0)) rfl (Nat.zero_le _) e0;have e1:=E1.rest e0;have h2:=qA E1.ok' E1.le' (by omega) e1;have E2:=bw.of E1.ok' E1.le' e1;have e2:=E2.rest e1;have h3:=qA E2.ok' E2.le' (by omega) e2;have E3:=bw.of E2.ok' E2.le' e2;have e3:=E3.rest e2;have g1:yJ l=(eg (eg (0,0,0) jY.length) (aE first.toNat).length,first.toNat):=by unfold yJ;rw [h1];exact h2
 have g2:vm l=(eg (eg (eg (0,0,0) jY.length) (aE first.toNat).length) (aE lost.toNat).length,lost.toNat):=by unfold vm;rw [g1];exact h3
 have e3':l.drop (eg (eg (eg (0,0,0) jY.length) (aE first.toNat).length) (aE lost.toNat).length).1=bD c ++ []:=by rw [e3,List.append_nil]
 have hlen:((l.length - (eg (eg (eg (0,0,0) jY.length) (aE first.toNat).length) (aE lost.toNat).length).1:Nat):Int)=((bD c).length:Int):=by
  have:=congrArg List.length e3;rw [List.length_drop] at this;rw [this]
 have h4:=iy E3.ok' E3.le' hlen e3';have g3:yK l=(eg (eg (eg (eg (0,0,0) jY.length) (aE first.toNat).length) (aE lost.toNat).length) (bD c).length,bD c):=by unfold yK;rw [g2];exact h4
 unfold fp;rw [h1,if_pos rfl,g3,g1,g2];simp only;rw [ou.2 ⟨rfl,hr,hs⟩];simp only;rw [if_pos (by simp [lR,eg])];have z1:((min first.toNat 1152921504606846977:Nat):Int)=first:=by omega
 have z2:((min lost.toNat 1152921504606846977:Nat):Int)=lost:=by omega
 rw [z1,z2]
theorem Du:∀ (es:List dR),(∀ e ∈ es,aH e∧aO e=true)→∀ (r:List UInt8),ed (es.flatMap ca ++ r)=(es.map jj ++ (ed r).1,(es.flatMap ca).length + (ed r).2.1,(ed r).2.2)
 | [],_,r=>by simp
 | e :: es,h,r=>by
  have he:=h e (by simp);have hn:aP (ca e ++ (es.flatMap ca ++ r))=(bG e,(ca e).length,0):=nc (by have:=im he.1 he.2;omega) _;have ih:=Du es (fun x hx=>h x (by simp [hx])) r;rw [List.flatMap_cons,List.append_assoc,nU hn (qF he.1 he.2),List.drop_left,ih];simp [Nat.add_assoc]
theorem xg:∀ (es:List dR),(∀ e ∈ es,aH e∧aO e=true)→∀ (j:Nat),j<(es.flatMap ca).length →
  ∃ k,k<es.length∧((es.take k).flatMap ca).length≤j∧j<((es.take (k + 1)).flatMap ca).length ∧
   ed ((es.flatMap ca).take j)=((es.take k).map jj,((es.take k).flatMap ca).length,if j=((es.take k).flatMap ca).length then 0 else 2)
 | [],_,j,hj=>by simp at hj
 | e :: es,h,j,hj=>by
  have he:=h e (by simp);have hb:(bG e).length≤1048576:=by have:=im he.1 he.2;omega
  rw [List.flatMap_cons] at hj ⊢;by_cases hlt:j<(ca e).length
  ·refine ⟨0,by simp,by simp,by simpa using hlt,?_⟩
   rw [List.take_append_of_le_length (by omega)];by_cases h0:j=0
   ·subst h0
    simp [pG]
   ·have hc:aP ((ca e).take j)=([],0,2):=Bo hb hlt
    rw [tx (by intro e2;have:=congrArg List.length e2;rw [List.length_take] at this;simp at this;have:=DT (bG e);simp_all [ca]) hc (by decide)];simp [h0]
  ·obtain ⟨k,h1,h2,h3,h4⟩:=xg es (fun x hx=>h x (by simp [hx])) (j - (ca e).length) (by rw [List.length_append] at hj;omega)
   have hn:aP (ca e ++ (es.flatMap ca).take (j - (ca e).length))=(bG e,(ca e).length,0):=nc hb _;refine ⟨k + 1,by simpa using h1,?_,?_,?_⟩
   ·rw [List.take_succ_cons,List.flatMap_cons,List.length_append];omega
   ·rw [List.take_succ_cons,List.flatMap_cons,List.length_append];omega
   ·rw [List.take_append,List.take_of_length_le (by omega),nU hn (qF he.1 he.2),List.drop_left,h4,List.take_succ_cons,List.flatMap_cons,List.map_cons,List.length_append]
    simp only [Prod.mk.injEq,true_and];by_cases hq:j - (ca e).length=((es.take k).flatMap ca).length
    ·rw [if_pos hq,if_pos (by omega)]
    ·rw [if_neg hq,if_neg (by omega)]
end
end Go.Proofs.YtaafkokfdgfabaaGreat
namespace Go.Proofs.YtaafkokfdgfabaaGreat
open Go.RowKit
set_option linter.unusedVariables false
set_option linter.unusedSimpArgs false
theorem CR {m k:Nat} (h:0<m):0<m <<< k:=by rw [Nat.shiftLeft_eq];exact Nat.mul_pos h (Nat.two_pow_pos k)
theorem DU {a b:Int}:compare a b=if a<b then .lt else if a=b then .eq else .gt:=by
 show compareOfLessAndEq a b=_
 rfl
theorem qL:Ieee.double.read 0=.number false 0 (-1074):=by decide
theorem yL:Ieee.double.read 4652007308841189376=.number false (4503599627370496 + 4292493394837504) (-43):=by decide
theorem rM (n:Nat):Ieee.double.read n =
  if n % 9223372036854775808<4503599627370496 then .number (n / 9223372036854775808 % 2 == 1) (n % 9223372036854775808) (-1074)
  else if n % 9223372036854775808<9218868437227405312 then .number (n / 9223372036854775808 % 2 == 1) (4503599627370496 + n % 9223372036854775808 % 4503599627370496) (-1074 + (n % 9223372036854775808 / 4503599627370496 - 1:Nat))
  else if n % 9223372036854775808=9218868437227405312 then .infinity (n / 9223372036854775808 % 2 == 1)
  else .nan (n / 9223372036854775808 % 2 == 1) (n % 9223372036854775808 - 9218868437227405312):=rfl
theorem oJ (neg:Bool) (x k k':Nat):compare (Ieee.signed neg x k) (Ieee.signed false 0 k')=if x=0 then .eq else if neg then .lt else .gt:=by
 rw [DU];have h0:((0 <<< k':Nat):Int)=0:=by rw [Nat.zero_shiftLeft];rfl
 unfold Ieee.signed;simp only [Bool.false_eq_true,if_false,h0];by_cases hx:x=0
 ·subst hx
  rw [Nat.zero_shiftLeft];cases neg <;> simp
 ·have:=CR (m:=x) (k:=k) (by omega)
  rw [if_neg hx];cases neg
  ·simp only [Bool.false_eq_true,if_false]
   rw [if_neg (by omega),if_neg (by omega)]
  ·simp only [if_true]
   rw [if_pos (by omega)]
theorem DV (n:Nat) (hn:n<18446744073709551616):(FloatKind.f64.format.order n 0 == some .gt || FloatKind.f64.format.order n 0 == some .eq)=(!ju n && (decide (n<9223372036854775808) || decide (n=9223372036854775808))):=by
 show ((Ieee.double.read n).order (Ieee.double.read 0) == some .gt || (Ieee.double.read n).order (Ieee.double.read 0) == some .eq)=_
 rw [qL];obtain ⟨N,hN⟩:∃ N,N=ju n:=⟨_,rfl⟩
 have hnan:N=true→9218868437227405312<n % 9223372036854775808:=fun h=>ri n (by rw [←hN];exact h)
 have hnot:N=false→n % 9223372036854775808≤9218868437227405312:=fun h=>wE n (by rw [←hN];exact h)
 rw [←hN,rM];clear hN;have hs:n / 9223372036854775808 % 2=0∧n<9223372036854775808∧n % 9223372036854775808=n∨n / 9223372036854775808 % 2=1∧9223372036854775808≤n∧n % 9223372036854775808=n - 9223372036854775808:=by omega
 split
 ·have:N=false:=by cases N;rfl;have:=hnan rfl;omega
  subst this;simp only [Ieee.Datum.order,oJ];rcases hs with ⟨h1,h2,h3⟩ | ⟨h1,h2,h3⟩
  ·rw [h1,h3,decide_eq_true h2]
   by_cases h0:n=0
   ·subst h0;rfl
   ·rw [if_neg h0];rfl
  ·rw [h1,h3,decide_eq_false (by omega)]
   by_cases h0:n=9223372036854775808
   ·subst h0;rfl
   ·rw [if_neg (by omega),decide_eq_false h0];rfl
 ·rename_i hb
  split
  ·rename_i hi
   have:N=false:=by cases N;rfl;have:=hnan rfl;omega
   subst this;simp only [Ieee.Datum.order,oJ];rw [if_neg (by omega)];rcases hs with ⟨h1,h2,h3⟩ | ⟨h1,h2,h3⟩
   ·rw [h1,decide_eq_true h2];rfl
   ·rw [h1,decide_eq_false (by omega),decide_eq_false (by omega)];rfl
  ·rename_i hi
   split
   ·rename_i hq
    have:N=false:=by cases N;rfl;have:=hnan rfl;omega
    subst this;rcases hs with ⟨h1,h2,h3⟩ | ⟨h1,h2,h3⟩
    ·rw [h1,decide_eq_true h2];rfl
    ·rw [h1,decide_eq_false (by omega),decide_eq_false (by omega)];rfl
   ·rename_i hq
    have:N=true:=by cases N;have:=hnot rfl;omega;rfl
    subst this;rfl
theorem DW (n:Nat):(FloatKind.f64.format.order n 0 == some .eq)=decide (n % 9223372036854775808=0):=by
 show ((Ieee.double.read n).order (Ieee.double.read 0) == some .eq)=_
 rw [qL,rM];split
 ·simp only [Ieee.Datum.order,oJ]
  by_cases h0:n % 9223372036854775808=0
  ·rw [if_pos h0,decide_eq_true h0];rfl
  ·rw [if_neg h0,decide_eq_false h0]
   split <;> rfl
 ·rename_i hb
  rw [decide_eq_false (by omega)];split
  ·simp only [Ieee.Datum.order,oJ]
   rw [if_neg (by omega)];split <;> rfl
  ·split
   ·simp only [Ieee.Datum.order]
    split <;> rfl
   ·rfl
theorem Dv (x k:Nat):Ieee.signed false x k=((x <<< k:Nat):Int):=rfl
theorem DX (n:Nat) (hn:n<9223372036854775808):(FloatKind.f64.format.order n 4652007308841189376 == some .lt || FloatKind.f64.format.order n 4652007308841189376 == some .eq)=decide (n≤4652007308841189376):=by
 show ((Ieee.double.read n).order (Ieee.double.read 4652007308841189376) == some .lt || (Ieee.double.read n).order (Ieee.double.read 4652007308841189376) == some .eq)=_
 rw [yL,rM];have e1:n / 9223372036854775808 % 2=0:=by omega
 have e2:n % 9223372036854775808=n:=by omega
 rw [e1,e2];split
 ·rename_i hb
  rw [decide_eq_true (by omega)];simp only [Ieee.Datum.order,show ((0:Nat) == 1)=false from rfl,Dv,DU];rw [show min (-1074:Int) (-43)=-1074 by decide,show ((-1074:Int) - -1074).toNat=0 by decide,show ((-43:Int) - -1074).toNat=1031 by decide];have h2:(4503599627370496 + 4292493394837504) <<< 1031>4503599627370496:=by decide
  rw [Nat.shiftLeft_zero,if_pos (by omega)];rfl
 ·rename_i hb
  split
  ·rename_i hi
   obtain ⟨e,he⟩:∃ e,e=n / 4503599627370496 - 1:=⟨_,rfl⟩
   have hee:n / 4503599627370496=e + 1:=by omega
   rw [←he];simp only [Ieee.Datum.order,show ((0:Nat) == 1)=false from rfl,Dv,DU];rcases Nat.lt_trichotomy e 1031 with h | h | h
   ·rw [show min (-1074 + (e:Int)) (-43)=-1074 + (e:Int) by omega,show (-1074 + (e:Int) - (-1074 + (e:Int))).toNat=0 by omega]
    obtain ⟨k,hk⟩:∃ k,(-43 - (-1074 + (e:Int))).toNat=k + 1:=⟨1031 - e - 1,by omega⟩
    rw [hk,Nat.shiftLeft_zero];have h3:(4503599627370496 + 4292493394837504) * 2≤(4503599627370496 + 4292493394837504) <<< (k + 1):=by
     rw [Nat.shiftLeft_eq,Nat.pow_succ];have:=Nat.two_pow_pos k;rw [Nat.mul_comm (2 ^ k) 2,←Nat.mul_assoc];exact Nat.le_mul_of_pos_right _ this
    rw [if_pos (by omega),decide_eq_true (by omega)];rfl
   ·subst h
    rw [show min (-1074 + ((1031:Nat):Int)) (-43)=-43 by decide,show (-1074 + ((1031:Nat):Int) - -43).toNat=0 by decide,show ((-43:Int) - -43).toNat=0 by decide,Nat.shiftLeft_zero,Nat.shiftLeft_zero];by_cases hle:n<4652007308841189376
    ·rw [if_pos (by omega),decide_eq_true (by omega)];rfl
    ·by_cases heq:n=4652007308841189376
     ·rw [if_neg (by omega),if_pos (by omega),decide_eq_true (by omega)];rfl
     ·rw [if_neg (by omega),if_neg (by omega),decide_eq_false (by omega)];rfl
   ·rw [show min (-1074 + (e:Int)) (-43)=-43 by omega,show ((-43:Int) - -43).toNat=0 by decide]
    obtain ⟨k,hk⟩:∃ k,(-1074 + (e:Int) - -43).toNat=k + 1:=⟨e - 1031 - 1,by omega⟩
    rw [hk,Nat.shiftLeft_zero];have h3:(4503599627370496 + n % 4503599627370496) * 2≤(4503599627370496 + n % 4503599627370496) <<< (k + 1):=by
     rw [Nat.shiftLeft_eq,Nat.pow_succ];have:=Nat.two_pow_pos k;rw [Nat.mul_comm (2 ^ k) 2,←Nat.mul_assoc];exact Nat.le_mul_of_pos_right _ this
    rw [if_neg (by omega),if_neg (by omega),decide_eq_false (by omega)];rfl
  ·rename_i hi
   rw [decide_eq_false (by omega)];split
   ·simp [Ieee.Datum.order]
   ·simp [Ieee.Datum.order]
theorem vo:(FloatKind.f64.format.order 9223372036854775808 4652007308841189376 == some .lt || FloatKind.f64.format.order 9223372036854775808 4652007308841189376 == some .eq)=true:=by decide
theorem pH (n:Nat) (hn:n<18446744073709551616) (w:World):Calls Tryz.prog 186 #[.float .f64 n] w fun e w'=>e=.returned (.bool (fD n))∧w=w':=by
 have h1:=DV n hn;by_cases hp:!ju n && (decide (n<9223372036854775808) || decide (n=9223372036854775808))
 ·rw [hp] at h1
  have h2:(FloatKind.f64.format.order n 4652007308841189376 == some .lt || FloatKind.f64.format.order n 4652007308841189376 == some .eq)=fD n:=by
   simp only [Bool.and_eq_true,Bool.or_eq_true,decide_eq_true_eq,Bool.not_eq_true'] at hp;rcases hp.2 with h | h
   ·rw [DX n h];unfold fD;rw [decide_eq_false (show ¬ n=9223372036854775808 by omega),Bool.or_false]
   ·subst h;rw [vo];rfl
  go_enter Tryz.func186,Tryz.ntmps186
  go_wp2
  go_ret
  exact ⟨by rw [←h2];rfl,rfl⟩
 ·rw [Bool.not_eq_true] at hp
  rw [hp] at h1;have h2:fD n=false:=by
   rw [←Bool.not_eq_true];intro h;simp only [Bool.and_eq_false_iff,Bool.or_eq_false_iff,decide_eq_false_iff_not,Bool.not_eq_false'] at hp;rcases hp with h3 | h3
   ·have:=ri n h3
    simp only [fD,Bool.or_eq_true,decide_eq_true_eq] at h;omega
   ·simp only [fD,Bool.or_eq_true,decide_eq_true_eq] at h
    omega
  go_enter Tryz.func186,Tryz.ntmps186
  go_wp2
  go_ret
  exact ⟨by rw [h2];rfl,rfl⟩
theorem mi (n:Nat) (hn:n<18446744073709551616) (w:World):Calls Tryz.prog 166 #[.float .f64 n] w fun e w'=>e=.returned (.float .f64 (i6 n))∧w=w':=by
 have h1:=DW n;by_cases hz:n % 9223372036854775808=0
 ·rw [decide_eq_true hz] at h1
  have h2:i6 n=0:=by unfold i6;rw [if_pos hz]
  rw [h2];clear hz h2;go_enter Tryz.func166,Tryz.ntmps166
  go_wp2
  go_ret
  exact ⟨rfl,rfl⟩
 ·rw [decide_eq_false hz] at h1
  have h2:i6 n=n:=by unfold i6;rw [if_neg hz]
  rw [h2];clear hz h2;go_enter Tryz.func166,Tryz.ntmps166
  go_wp2
  go_ret
  exact ⟨rfl,rfl⟩
theorem yM {w:World} {g:Nat} {t:TypeId} {b:aR} (h:ah w g t (ae b).toArray) (hs:ar b) (B:Nat) (hB:g<B):BS w B (some ⟨g,6,none⟩) (b.addr.2.drop 4):=fun hp=>by
 refine ⟨_,rfl,hB,fun j c hj=>?_⟩;rw [List.getElem?_drop] at hj;have e:((⟨g,6,none⟩:Addr).add j)=⟨g,6 + j,none⟩:=by unfold Addr.add;split <;> simp_all
 have:=oF h hs (5 + j) (.int .u8 (c.toNat:Int)) (by
  rw [show 5 + j=(4 + j) + 1 by omega,ag,List.getElem?_cons_succ,ab,List.getElem?_map,hj];rfl)
 rw [e,show 6 + j=1 + (5 + j) by omega];exact this
set_option maxRecDepth 100000 in
theorem nj (b:aR) (hb0:ar b) (hn:b.name.length≤1000000000) (w:World) :
  Calls Tryz.prog 164 #[.agg (ae b).toArray] w fun e w'=>e=.returned (.bool (ex b))∧Below w.heap.size w w':=by
 have Hb:=Lib.hid hb0;clear hb0;obtain ⟨W,hW⟩:∃ W,W=w.alloc (.cells (ae b).toArray 56):=⟨_,rfl⟩
 have HX:Hid (ah W w.heap.size 56 (ae b).toArray):=by rw [hW];exact ah.new w _ _ _ rfl
 have HB:Hid (Below w.heap.size w W):=by rw [hW];exact (Below.refl _ _).alloc (Nat.le_refl _) _
 have d0:=ll HX.out;have d3:=uJ HX.out Hb.out;have HS:=Lib.hid (yM HX.out Hb.out W.heap.size HX.out.lt);have Hdl:Hid (12=(b.addr.2.drop 4).length):=by show _=_;have:b.addr.2.length=16:=Hb.out.addr;simp;omega
 have Hwt:=Lib.hid Hb.out.wt;have HW:=Lib.hid hW;clear hW;rcases h6:b.addr.1 with _ | _
 ·rw [h6] at d3
  have Hsh:Hid (dH b.addr=kC b.addr.2):=by show _=_;unfold dH;rw [h6];rfl
  clear h6;go_enter Tryz.func164,Tryz.ntmps164
  go_upto_region 1 with fail
  rw [←HW.out];clear HW
  go_wp2_with fail
  refine (gD (Or.inr (Or.inl rfl)) _ _ _ (b.addr.2.drop 4) _ _ Hdl.out HS.out (by omega)).mono ?_;rintro e w1 ⟨rfl,rfl⟩;rcases ht:kC b.addr.2 with _ | _
  ·have Hr2:Hid (ex b=false):=by show _=_;unfold ex;rw [Hsh.out,ht];rfl
   have ht2:(b.addr.2.drop 4).all (·== 0)=false:=ht;rw [ht2];clear ht ht2
   go_wp2
   go_ret
   exact ⟨by rw [Hr2.out];rfl,HB.out⟩
  ·have Hr:Hid (ex b=(i3 b.name && (d9 b.port 1 65535 && fD b.wt))):=by show _=_;unfold ex;rw [Hsh.out,ht];rfl
   have ht2:(b.addr.2.drop 4).all (·== 0)=true:=ht;rw [ht2];clear ht ht2
   go_wp2_with fail
   refine (pu b.name hn W).mono ?_;rintro e w2 ⟨rfl,hb2⟩;have HX2:=Lib.hid (ah.below HX.out hb2 HX.out.lt);have HB2:=Lib.hid (HB.out.trans (hb2.mono HB.out.size));have d1:=kb HX2.out Hb.out;have d2:=lM HX2.out Hb.out;clear hb2;rcases hnm:i3 b.name with _ | _
   ·have Hr2:Hid (ex b=false):=by show _=_;rw [Hr.out,hnm];rfl
    clear hnm
    go_wp2
    go_ret
    exact ⟨by rw [Hr2.out];rfl,HB2.out⟩
   ·by_cases p1:1≤b.port
    ·by_cases p2:b.port≤65535
     ·have Hr2:Hid (ex b=fD b.wt):=by show _=_;rw [Hr.out,hnm];unfold d9;rw [decide_eq_true p1,decide_eq_true p2];rfl
      clear hnm
      go_wp2_with fail
      refine (pH b.wt Hwt.out w2).mono ?_;rintro e w3 ⟨rfl,rfl⟩
      go_wp2
      go_ret
      exact ⟨by rw [Hr2.out];rfl,HB2.out⟩
     ·have Hr2:Hid (ex b=false):=by show _=_;rw [Hr.out];unfold d9;rw [decide_eq_false p2];simp
      clear hnm
      go_wp2
      go_ret
      exact ⟨by rw [Hr2.out];rfl,HB2.out⟩
    ·have Hr2:Hid (ex b=false):=by show _=_;rw [Hr.out];unfold d9;rw [decide_eq_false p1];simp
     clear hnm
     go_wp2
     go_ret
     exact ⟨by rw [Hr2.out];rfl,HB2.out⟩
 ·rw [h6] at d3
  have Hr:Hid (ex b=(i3 b.name && (d9 b.port 1 65535 && fD b.wt))):=by show _=_;unfold ex dH;rw [h6];rfl
  clear h6;go_enter Tryz.func164,Tryz.ntmps164
  go_upto_region 1 with fail
  rw [←HW.out];clear HW
  go_wp2_with fail
  refine (pu b.name hn W).mono ?_;rintro e w2 ⟨rfl,hb2⟩;have HX2:=Lib.hid (ah.below HX.out hb2 HX.out.lt);have HB2:=Lib.hid (HB.out.trans (hb2.mono HB.out.size));have d1:=kb HX2.out Hb.out;have d2:=lM HX2.out Hb.out;clear hb2;rcases hnm:i3 b.name with _ | _
  ·have Hr2:Hid (ex b=false):=by show _=_;rw [Hr.out,hnm];rfl
   clear hnm
   go_wp2
   go_ret
   exact ⟨by rw [Hr2.out];rfl,HB2.out⟩
  ·by_cases p1:1≤b.port
   ·by_cases p2:b.port≤65535
    ·have Hr2:Hid (ex b=fD b.wt):=by show _=_;rw [Hr.out,hnm];unfold d9;rw [decide_eq_true p1,decide_eq_true p2];rfl
     clear hnm
     go_wp2_with fail
     refine (pH b.wt Hwt.out w2).mono ?_;rintro e w3 ⟨rfl,rfl⟩
     go_wp2
     go_ret
     exact ⟨by rw [Hr2.out];rfl,HB2.out⟩
    ·have Hr2:Hid (ex b=false):=by show _=_;rw [Hr.out];unfold d9;rw [decide_eq_false p2];simp
     clear hnm
     go_wp2
     go_ret
     exact ⟨by rw [Hr2.out];rfl,HB2.out⟩
   ·have Hr2:Hid (ex b=false):=by show _=_;rw [Hr.out];unfold d9;rw [decide_eq_false p1];simp
    clear hnm
    go_wp2
    go_ret
    exact ⟨by rw [Hr2.out];rfl,HB2.out⟩
end Go.Proofs.YtaafkokfdgfabaaGreat
