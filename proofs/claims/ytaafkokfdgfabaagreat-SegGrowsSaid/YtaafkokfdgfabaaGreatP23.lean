import Derived.Test.YtaafkokfdgfabaaGreatP10
import Derived.Test.YtaafkokfdgfabaaGreatP16
import Derived.Test.YtaafkokfdgfabaaGreatP19
import Derived.Test.YtaafkokfdgfabaaGreatP21
import Derived.Test.YtaafkokfdgfabaaGreatP22
set_option maxHeartbeats 8000000
namespace Go.Proofs.YtaafkokfdgfabaaGreat
open Go.RowKit
set_option linter.unusedVariables false
set_option linter.unusedSimpArgs false
theorem kF {k m:Nat} (h:m<256 ^ k) (big:Bool):ix (cd k m big) big=m:=by
 unfold ix cd;cases big
 ·simp only [Bool.false_eq_true,if_false]
  exact jd k m h
 ·simp only [if_true]
  rw [jR];exact jd k m h
theorem mx (l:List UInt8) (big:Bool):cd l.length (ix l big) big=l:=by
 unfold ix cd;cases big
 ·simp only [Bool.false_eq_true,if_false]
  exact qa
 ·simp only [if_true]
  have e:=jR l.reverse;rw [List.reverse_reverse] at e;have e2:=qa (l:=l.reverse);rw [List.length_reverse,←e] at e2;rw [e2,List.reverse_reverse]
section
variable {l:List UInt8} {s:St} {x r:List UInt8} {bad:Bool}
theorem Fw (h:(dq l s).1.2.2=0):∃ n k,dq l s=(s,n,k)∧s.2.2=0∧bX (l.drop s.1)=(n,k,0):=by
 have h0:s.2.2=0:=by
  unfold dq at h;split at h
  ·exact h
  ·omega
 have hv:(bX (l.drop s.1)).2.2=0:=by
  unfold dq at h;rw [if_neg (by omega)] at h;split at h
  ·exact absurd h (kA (by assumption))
  ·omega
 rcases hg:bX (l.drop s.1) with ⟨m,k,e⟩
 rw [hg] at hv;simp only at hv;subst hv;refine ⟨m,k,?_,h0,rfl⟩;unfold dq;rw [if_neg (by omega),hg];simp
theorem np (h:s.2.2=0) (hl:s.1≤l.length) {m:Int} (hm:(x.length:Int)≤m) (hx:x.length<18446744073709551616) (e:l.drop s.1=bI x ++ r):bO l s m=(ep s (bI x).length,x):=by
 have hlen:=congrArg List.length e;rw [List.length_drop] at hlen;unfold bI at e hlen ⊢;rw [List.append_assoc] at e;have hg:bX (l.drop s.1)=(x.length,(aI x.length).length,0):=by rw [e];exact mh _ hx _
 have hp:dq l s=(s,x.length,(aI x.length).length):=by
  unfold dq;rw [if_neg (by omega),hg];simp
 unfold bO;rw [hp];simp only;rw [if_neg (by omega)];unfold eC;simp only [List.length_append] at hlen ⊢;rw [if_neg (by omega),if_neg (by omega),←List.drop_drop,e,List.drop_left,List.take_left];simp [ep,Nat.add_assoc]
theorem li {m:Int} (h:(bO l s m).1.2.2=0) (hl:s.1≤l.length):br l s (bI (bO l s m).2) (bO l s m).1∧((bO l s m).2.length:Int)≤m:=by
 unfold bO at h ⊢;split at h
 ·exact absurd h (kA (by decide))
 ·rename_i h0
  rw [if_neg h0];have hp0:(dq l s).1.2.2=0:=by
   by_cases hz:(dq l s).1.2.2=0
   ·exact hz
   ·unfold eC at h
    rw [if_pos hz] at h;exact h
  obtain ⟨n,k,hp,hs,hg⟩:=Fw hp0;obtain ⟨hn,hk1,hkl,hk,hv⟩:=jj hg;rw [hp] at h h0 ⊢;simp only at h h0 ⊢;rw [List.length_drop] at hkl;unfold eC at h ⊢;rw [if_neg (by omega)] at h ⊢;split at h
  ·exact absurd h (kA (by decide))
  ·rename_i h1
   rw [if_neg h1];simp only;have hxl:((l.drop (s.1 + k)).take n).length=n:=by rw [List.length_take,List.length_drop];omega
   have e:l.drop s.1=bI ((l.drop (s.1 + k)).take n) ++ l.drop (s.1 + k + n):=by
    unfold bI;have d1:l.drop (s.1 + k + n)=((l.drop s.1).drop k).drop n:=by rw [List.drop_drop,List.drop_drop,Nat.add_assoc]
    have d2:l.drop (s.1 + k)=(l.drop s.1).drop k:=by rw [List.drop_drop]
    rw [hxl,hv,d1,d2,List.append_assoc,List.take_append_drop,List.take_append_drop]
   have E:=br.of hs hl e;have hE:(bI ((l.drop (s.1 + k)).take n)).length=k + n:=by unfold bI;rw [List.length_append,hxl,←hk]
   rw [hE] at E;refine ⟨?_,by rw [hxl];omega⟩;have ha:ep s (k + n)=(s.1 + k + n,s.2.1,s.2.2):=by simp [ep,Nat.add_assoc]
   rw [←ha];exact E
theorem tf (h:s.2.2=0) (hl:s.1≤l.length) {b:Bool} (e:l.drop s.1=fP b ++ r):dQ l s bad=(ep s (fP b).length,bad,b):=by
 have hn:=jU (n:=1) h hl (by rw [dd];rfl) (by rw [dd];decide) (by rw [dd];decide) true e;unfold dQ;rw [hn];cases b
 ·simp [fP,cL]
 ·simp [fP,cL]
theorem tg (h:(dQ l s bad).1.2.2=0) (hb:(dQ l s bad).2.1=false):bad=false∧br l s (fP (dQ l s bad).2.2) (dQ l s bad).1:=by
 unfold dQ at h hb ⊢;obtain ⟨x,hx,he,ev⟩:=jC (n:=1) (by decide) (by decide) true h;obtain ⟨c,rfl⟩:=lc hx;rw [cL] at ev;simp only [ev,Bool.or_eq_false_iff,decide_eq_false_iff_not] at hb ⊢;refine ⟨hb.1,?_⟩;have hc:c=0∨c=1:=by
  rcases (by omega:c.toNat=0∨c.toNat=1) with h1 | h1
  ·exact .inl (UInt8.toNat_inj.1 h1)
  ·exact .inr (UInt8.toNat_inj.1 h1)
 rcases hc with rfl | rfl
 ·exact he
 ·exact he
theorem CS {n:Nat} (hn:n<18446744073709551616) (hc:bv n=n):oP (fj n)=n:=by
 unfold fj;rw [hc];exact kF (k:=8) (m:=n) (by omega) true
theorem uE (h:s.2.2=0) (hl:s.1≤l.length) {n:Nat} (hn:n<18446744073709551616) (hc:bv n=n) (e:l.drop s.1=fj n ++ r):cy l s bad=(ep s (fj n).length,bad,n):=by
 unfold cy;rw [i5 (n:=8) h hl (by rw [fK];rfl) e];unfold jS;simp only [CS hn hc,fK,hc,and_self,if_true,Bool.not_true,Bool.or_false]
theorem uF (h:(cy l s bad).1.2.2=0) (hb:(cy l s bad).2.1=false):bad=false∧br l s (fj (cy l s bad).2.2) (cy l s bad).1∧bv (cy l s bad).2.2=(cy l s bad).2.2:=by
 unfold cy at h hb ⊢;obtain ⟨x,hx,he,ev⟩:=iB (n:=8) (by decide) h;have hx8:x.length=8:=hx;simp only [ev,Bool.or_eq_false_iff] at hb ⊢;refine ⟨hb.1,?_⟩;have h2:=hb.2;unfold jS at h2 ⊢;by_cases hw:x.length=8∧bv (oP x)=oP x
 ·rw [if_pos hw]
  refine ⟨?_,hw.2⟩;have:fj (oP x)=x:=by
   unfold fj;rw [hw.2];have:=mx x true;rw [hx8] at this;exact this
  simp only [this];exact he
 ·rw [if_neg hw] at h2
  simp at h2
def uG (b:aU):Prop:=bv b.wt=b.wt
theorem CT {p:Int} (h:0≤p∧p≤65535):((ix (cd 2 p.toNat true) true:Nat):Int)=p:=by
 rw [kF (by omega)];omega
theorem CU {b:aU} (hs:au b) (ht:fL b=true) (hc:uG b) (h:s.2.2=0) (hl:s.1≤l.length) (e:l.drop s.1=aD b ++ r):dI l s bad=(ep s (aD b).length,bad,b):=by
 unfold fL at ht;simp only [Bool.and_eq_true,decide_eq_true_eq,bE] at ht;obtain ⟨hn,hp⟩:=ht;have h16:b.addr.2.length=16:=hs.addr;have h6:=hs.mac;unfold aD at e;simp only [List.append_assoc] at e;have h1:=np (m:=255) h hl (by omega) (by omega) e;have E1:=br.of h hl e;have e1:=E1.rest e;have h2:=tf (bad:=bad) E1.ok' E1.le' e1;have E2:=br.of E1.ok' E1.le' e1;have e2:=E2.rest e1;have h3:=i5 (n:=16) E2.ok' E2.le' (by rw [h16];rfl) e2;have E3:=br.of E2.ok' E2.le' e2;have e3:=E3.rest e2;have h4:=jU (n:=2) E3.ok' E3.le' (by rw [aw];rfl) (by rw [aw];decide) (by rw [aw];decide) true e3;have E4:=br.of E3.ok' E3.le' e3;have e4:=E4.rest e3;have h5:=i5 (n:=6) E4.ok' E4.le' (by rw [h6];rfl) e4;have E5:=br.of E4.ok' E4.le' e4;have e5:=E5.rest e4;have h7:=uE (bad:=bad) E5.ok' E5.le' hs.wt hc e5;have E6:=br.of E5.ok' E5.le' e5;have e6:=E6.rest e5;have h8:=tf (bad:=bad) E6.ok' E6.le' e6;unfold dI;simp only [h1,h2,h3,h4,h5,h7,h8];have p1:kC b.addr.2 16=b.addr.2:=by simp [kC,h16]
 have p2:kC b.mac 6=b.mac:=by simp [kC,h6]
 rw [p1,p2,CT hp];simp only [ca,aD,List.length_append,Nat.add_assoc]
theorem th {x:List UInt8} (hx:x.length=2):cd 2 ((ix x true:Nat):Int).toNat true=x:=by
 have:=mx x true;rw [hx] at this;rw [Int.toNat_natCast];exact this
theorem uH {x:List UInt8} (hx:x.length=1):cd 1 ((ix x true:Nat):Int).toNat true=x:=by
 have:=mx x true;rw [hx] at this;rw [Int.toNat_natCast];exact this
theorem CV (ok:bY l s) (h:(dI l s bad).1.2.2=0) (hb:(dI l s bad).2.1=false) :
  bad=false∧br l s (aD (dI l s bad).2.2) (dI l s bad).1∧fL (dI l s bad).2.2=true∧uG (dI l s bad).2.2∧bY l (dI l s bad).1:=by
 rcases h1:bO l s 255 with ⟨s1,nm⟩
 rcases h2:dQ l s1 bad with ⟨s2,b2,sx⟩
 rcases h3:a8 l s2 16 with ⟨s3,ad⟩
 rcases h4:aJ l s3 2 true with ⟨s4,po⟩
 rcases h5:a8 l s4 6 with ⟨s5,mc⟩
 rcases h6:cy l s5 b2 with ⟨s6,b6,wt⟩
 rcases h7:dQ l s6 b6 with ⟨s7,b7,dr⟩
 have hb7:dI l s bad=(s7,b7,{ name:=nm,addr:=(sx,kC ad 16),port:=(po:Int),mac:=kC mc 6,wt:=wt,drain:=dr }):=by
  unfold dI;simp only [h1,h2,h3,h4,h5,h6,h7]
 rw [hb7] at h hb ⊢;simp only at h hb ⊢;have F7:=tg (l:=l) (s:=s6) (bad:=b6) (by rw [h7];exact h) (by rw [h7];exact hb);rw [h7] at F7;obtain ⟨hb6,E7⟩:=F7;have F6:=uF (l:=l) (s:=s5) (bad:=b2) (by rw [h6];exact E7.ok) (by rw [h6];exact hb6);rw [h6] at F6;obtain ⟨hb2,E6,hcan⟩:=F6;obtain ⟨x5,hx5,E5,y5⟩:=iB (l:=l) (s:=s4) (n:=6) (by decide) (by rw [h5];exact E6.ok);rw [h5] at E5 y5;obtain ⟨x4,hx4,E4,y4⟩:=jC (l:=l) (s:=s3) (n:=2) (by decide) (by decide) true (by rw [h4];exact E5.ok);rw [h4] at E4 y4;obtain ⟨x3,hx3,E3,y3⟩:=iB (l:=l) (s:=s2) (n:=16) (by decide) (by rw [h3];exact E4.ok);rw [h3] at E3 y3;have F2:=tg (l:=l) (s:=s1) (bad:=bad) (by rw [h2];exact E3.ok) (by rw [h2];exact hb2);rw [h2] at F2;obtain ⟨hbad,E2⟩:=F2;have F1:=li (l:=l) (s:=s) (m:=255) (by rw [h1];exact E2.ok) ok.1;rw [h1] at F1;obtain ⟨E1,hnm⟩:=F1;simp only at y3 y4 y5 E1 E2 E3 E4 E5 E6 E7 hnm hcan;subst y3 y4 y5;have hx3':ad.length=16:=hx3;have hx4':x4.length=2:=hx4;have hx5':mc.length=6:=hx5;have p1:kC ad 16=ad:=by simp [kC,hx3']
 have p2:kC mc 6=mc:=by simp [kC,hx5']
 have hp:ix x4 true≤65535:=by
  obtain ⟨a,b,rfl⟩:=yQ hx4';rw [kB];have:=a.toNat_lt;have:=b.toNat_lt;omega
 rw [p1,p2];refine ⟨hbad,?_,?_,hcan,⟨E7.le',?_,?_⟩⟩
 ·unfold aD
  simp only;rw [th hx4'];exact E1.trans (E2.trans (E3.trans (E4.trans (E5.trans (E6.trans E7)))))
 ·unfold fL
  simp only [Bool.and_eq_true,decide_eq_true_eq,bE];exact ⟨by omega,by omega,by omega⟩
 ·rw [E7.at_,E6.at_,E5.at_,E4.at_,E3.at_,E2.at_,E1.at_]
  exact ok.2.1
 ·rw [E7.ok']
  decide
end
end Go.Proofs.YtaafkokfdgfabaaGreat
namespace Go.Proofs.YtaafkokfdgfabaaGreat
open Go.RowKit
set_option linter.unusedVariables false
set_option linter.unusedSimpArgs false
def uI (a:cz):Prop:=bv a.owt=a.owt∧uG a.back
def wY (e:da):Prop:=uI e.act
theorem i6:bv 0=0:=by decide
theorem mQ:uG dN:=i6
theorem uJ {a b:aU} (h:bw a b=true) (ha:uG a) (hb:uG b):a=b:=by
 simp only [bw,Bool.and_eq_true,beq_iff_eq] at h;obtain ⟨h1,h2,h3,h4,h5,h6⟩:=h;unfold uG at ha hb;rw [ha,hb] at h5;cases a
 cases b
 simp_all
theorem wZ {a b:cz} (h:cK a b=true) (ha:uI a) (hb:uI b):a=b:=by
 simp only [cK,Bool.and_eq_true,beq_iff_eq] at h;obtain ⟨h1,h2,h3,h4,h5,h6,h7,h8⟩:=h;rw [ha.1,hb.1] at h5;have h6:=uJ h6 ha.2 hb.2;cases a
 cases b
 simp_all
theorem CW {a:cz} (h:uI a):uI (dO a):=by
 unfold dO;split
 ·exact ⟨i6,mQ⟩
 ·split
  ·split
   ·exact ⟨i6,h.2⟩
   ·split
    ·exact ⟨h.1,mQ⟩
    ·exact ⟨i6,mQ⟩
  ·split
   ·exact ⟨i6,mQ⟩
   ·exact ⟨i6,mQ⟩
theorem xd {a:cz} (h:ek a=true) (hc:uI a):a=dO a:=by
 simp only [ek,Bool.and_eq_true] at h;exact wZ h.2.2.1 hc (CW hc)
section
variable {l:List UInt8} {s:St} {r:List UInt8} {bad:Bool}
theorem yV {z:Int} (h0:0≤z) (h1:z≤255) (h:s.2.2=0) (hl:s.1≤l.length) (e:l.drop s.1=cd 1 z.toNat true ++ r):∃ k:Nat,aJ l s 1 true=(ep s (cd 1 z.toNat true).length,k)∧(k:Int)=z:=by
 refine ⟨_,jU (n:=1) h hl (by rw [aw];rfl) (by rw [aw];decide) (by rw [aw];decide) true e,?_⟩;rw [kF (by omega)];omega
theorem yW (h:(aJ l s 1 true).1.2.2=0):br l s (cd 1 ((aJ l s 1 true).2:Int).toNat true) (aJ l s 1 true).1:=by
 obtain ⟨x,hx,he,ev⟩:=jC (n:=1) (by decide) (by decide) true h;rw [ev,uH hx];exact he
theorem Gg {a:cz} (hs:aA a) (hp:ek a=true) (hc:uI a) (h:s.2.2=0) (hl:s.1≤l.length) (e:l.drop s.1=aZ a ++ r):gh l s bad=(ep s (aZ a).length,bad,a):=by
 have ho:=xd hp hc;simp only [ek,Bool.and_eq_true,decide_eq_true_eq,bE] at hp;obtain ⟨⟨hk1,hk4⟩,hop,_,hfr,hon,hnm,hbt⟩:=hp;unfold aZ at e;rw [List.append_assoc] at e;obtain ⟨k,hk,hkz⟩:=yV (by omega) (by omega) h hl e;have E1:=br.of h hl e;have e1:=E1.rest e;unfold gh;simp only [hk];rw [hkz];by_cases k1:a.kind=1
 ·rw [if_pos k1] at e1 ⊢
  have h2:=np (m:=131072) E1.ok' E1.le' (by omega) (by omega) e1;have hA:a={ dC with kind:=a.kind,frame:=a.frame }:=by
   have:=ho;unfold dO at this;rw [if_pos k1] at this;exact this
  simp only [h2];refine Prod.ext ?_ (Prod.ext rfl hA.symm);simp only [ca,aZ,if_pos k1,List.length_append]
 ·rw [if_neg k1] at e1 ⊢
  by_cases k2:a.kind=2
  ·rw [if_pos k2] at e1 ⊢
   have hoz:1≤a.op∧a.op≤5:=by
    rw [k2] at hop;simp only [bne_self_eq_false,Bool.false_or] at hop;exact bE.1 hop
   rw [List.append_assoc] at e1;obtain ⟨j,hj,hjz⟩:=yV (by omega) (by omega) E1.ok' E1.le' e1;have E2:=br.of E1.ok' E1.le' e1;have e2:=E2.rest e1;simp only [hj];rw [hjz];by_cases k3:a.op=1
   ·rw [if_pos k3] at e2 ⊢
    have h3:=CU (bad:=bad) hs.back hbt hc.2 E2.ok' E2.le' e2;have hA:a={ dC with kind:=a.kind,op:=a.op,back:=a.back }:=by
     have:=ho;unfold dO at this;rw [if_neg k1,if_pos k2,if_pos k3] at this;exact this
    simp only [h3];refine Prod.ext ?_ (Prod.ext rfl hA.symm);simp only [ca,aZ,if_neg k1,if_pos k2,if_pos k3,List.length_append,Nat.add_assoc]
   ·rw [if_neg k3] at e2 ⊢
    rw [List.append_assoc] at e2;have h3:=np (m:=255) E2.ok' E2.le' (by omega) (by omega) e2;have E3:=br.of E2.ok' E2.le' e2;have e3:=E3.rest e2;simp only [h3];by_cases k4:a.op=3
    ·rw [if_pos k4] at e3 ⊢
     have h4:=uE (bad:=bad) E3.ok' E3.le' hs.owt hc.1 e3;have hA:a={ dC with kind:=a.kind,op:=a.op,oname:=a.oname,owt:=a.owt }:=by
      have:=ho;unfold dO at this;rw [if_neg k1,if_pos k2,if_neg k3,if_pos k4] at this;exact this
     simp only [h4];refine Prod.ext ?_ (Prod.ext rfl hA.symm);simp only [ca,aZ,if_neg k1,if_pos k2,if_neg k3,if_pos k4,List.length_append,Nat.add_assoc]
    ·rw [if_neg k4] at ⊢
     have hA:a={ dC with kind:=a.kind,op:=a.op,oname:=a.oname }:=by
      have:=ho;unfold dO at this;rw [if_neg k1,if_pos k2,if_neg k3,if_neg k4] at this;exact this
     refine Prod.ext ?_ (Prod.ext rfl hA.symm);simp only [ca,aZ,if_neg k1,if_pos k2,if_neg k3,if_neg k4,List.length_append,List.length_nil,Nat.add_zero,Nat.add_assoc]
  ·rw [if_neg k2] at e1 ⊢
   by_cases k3:a.kind=3
   ·rw [if_pos k3] at e1 ⊢
    rw [List.append_assoc] at e1;have h3:=np (m:=255) E1.ok' E1.le' (by omega) (by omega) e1;have E3:=br.of E1.ok' E1.le' e1;have e3:=E3.rest e1;have h4:=tf (bad:=bad) E3.ok' E3.le' e3;have hA:a={ dC with kind:=a.kind,name:=a.name,well:=a.well }:=by
     have:=ho;unfold dO at this;rw [if_neg k1,if_neg k2,if_pos k3] at this;exact this
    simp only [h3,h4];refine Prod.ext ?_ (Prod.ext rfl hA.symm);simp only [ca,aZ,if_neg k1,if_neg k2,if_pos k3,List.length_append,Nat.add_assoc]
   ·rw [if_neg k3] at ⊢
    have hA:a={ dC with kind:=a.kind }:=by
     have:=ho;unfold dO at this;rw [if_neg k1,if_neg k2,if_neg k3] at this;exact this
    refine Prod.ext ?_ (Prod.ext rfl hA.symm);simp only [ca,aZ,if_neg k1,if_neg k2,if_neg k3,List.length_append,List.length_nil,Nat.add_zero]
theorem Gh (ok:bY l s) (h:(gh l s bad).1.2.2=0) (hb:(gh l s bad).2.1=false):bad=false∧br l s (aZ (gh l s bad).2.2) (gh l s bad).1∧uI (gh l s bad).2.2:=by
 rcases h1:aJ l s 1 true with ⟨s1,k⟩
 have B1:=yW (l:=l) (s:=s);rw [h1] at B1;simp only at B1;by_cases k1:(k:Int)=1
 ·rcases h2:bO l s1 131072 with ⟨s2,fr⟩
  have hA:gh l s bad=(s2,bad,{ dC with kind:=(k:Int),frame:=fr }):=by
   unfold gh;simp only [h1,h2,if_pos k1]
  rw [hA] at h hb ⊢;simp only at h hb ⊢;have ok1:bY l s1:=by have:=bQ ok 1 true;rw [h1] at this;exact this
  have F2:=li (l:=l) (s:=s1) (m:=131072) (by rw [h2];exact h) ok1.1;rw [h2] at F2;refine ⟨hb,?_,i6,mQ⟩;have E1:=B1 F2.1.ok;simp only [aZ,if_pos k1];exact E1.trans F2.1
 ·by_cases k2:(k:Int)=2
  ·rcases h2:aJ l s1 1 true with ⟨s2,j⟩
   have B2:=yW (l:=l) (s:=s1);rw [h2] at B2;simp only at B2;have ok1:bY l s1:=by have:=bQ ok 1 true;rw [h1] at this;exact this
   have ok2:bY l s2:=by have:=bQ ok1 1 true;rw [h2] at this;exact this
   by_cases k3:(j:Int)=1
   ·rcases h3:dI l s2 bad with ⟨s3,b3,bk⟩
    have hA:gh l s bad=(s3,b3,{ dC with kind:=(k:Int),op:=(j:Int),back:=bk }):=by
     unfold gh;simp only [h1,h2,h3,if_neg k1,if_pos k2,if_pos k3]
    rw [hA] at h hb ⊢;simp only at h hb ⊢;have F3:=CV (l:=l) (s:=s2) (bad:=bad) ok2 (by rw [h3];exact h) (by rw [h3];exact hb);rw [h3] at F3;obtain ⟨hbad,E3,_,hcb,_⟩:=F3;have E2:=B2 E3.ok;have E1:=B1 E2.ok;refine ⟨hbad,?_,i6,hcb⟩;simp only [aZ,if_neg k1,if_pos k2,if_pos k3];exact E1.trans (E2.trans E3)
   ·rcases h3:bO l s2 255 with ⟨s3,nm⟩
    by_cases k4:(j:Int)=3
    ·rcases h4:cy l s3 bad with ⟨s4,b4,wt⟩
     have hA:gh l s bad=(s4,b4,{ dC with kind:=(k:Int),op:=(j:Int),oname:=nm,owt:=wt }):=by
      unfold gh;simp only [h1,h2,h3,h4,if_neg k1,if_pos k2,if_neg k3,if_pos k4]
     rw [hA] at h hb ⊢;simp only at h hb ⊢;have F4:=uF (l:=l) (s:=s3) (bad:=bad) (by rw [h4];exact h) (by rw [h4];exact hb);rw [h4] at F4;obtain ⟨hbad,E4,hcw⟩:=F4;have F3:=li (l:=l) (s:=s2) (m:=255) (by rw [h3];exact E4.ok) ok2.1;rw [h3] at F3;have E2:=B2 F3.1.ok;have E1:=B1 E2.ok;refine ⟨hbad,?_,hcw,mQ⟩;simp only [aZ,if_neg k1,if_pos k2,if_neg k3,if_pos k4];exact E1.trans (E2.trans (F3.1.trans E4))
    ·have hA:gh l s bad=(s3,bad,{ dC with kind:=(k:Int),op:=(j:Int),oname:=nm }):=by
      unfold gh;simp only [h1,h2,h3,if_neg k1,if_pos k2,if_neg k3,if_neg k4]
     rw [hA] at h hb ⊢;simp only at h hb ⊢;have F3:=li (l:=l) (s:=s2) (m:=255) (by rw [h3];exact h) ok2.1;rw [h3] at F3;have E2:=B2 F3.1.ok;have E1:=B1 E2.ok;refine ⟨hb,?_,i6,mQ⟩;simp only [aZ,if_neg k1,if_pos k2,if_neg k3,if_neg k4,List.append_nil];exact E1.trans (E2.trans F3.1)
  ·by_cases k3:(k:Int)=3
   ·rcases h2:bO l s1 255 with ⟨s2,nm⟩
    rcases h3:dQ l s2 bad with ⟨s3,b3,we⟩
    have ok1:bY l s1:=by have:=bQ ok 1 true;rw [h1] at this;exact this
    have hA:gh l s bad=(s3,b3,{ dC with kind:=(k:Int),name:=nm,well:=we }):=by
     unfold gh;simp only [h1,h2,h3,if_neg k1,if_neg k2,if_pos k3]
    rw [hA] at h hb ⊢;simp only at h hb ⊢;have F3:=tg (l:=l) (s:=s2) (bad:=bad) (by rw [h3];exact h) (by rw [h3];exact hb);rw [h3] at F3;obtain ⟨hbad,E3⟩:=F3;have F2:=li (l:=l) (s:=s1) (m:=255) (by rw [h2];exact E3.ok) ok1.1;rw [h2] at F2;have E1:=B1 F2.1.ok;refine ⟨hbad,?_,i6,mQ⟩;simp only [aZ,if_neg k1,if_neg k2,if_pos k3];exact E1.trans (F2.1.trans E3)
   ·have hA:gh l s bad=(s1,bad,{ dC with kind:=(k:Int) }):=by
     unfold gh;simp only [h1,if_neg k1,if_neg k2,if_neg k3]
    rw [hA] at h hb ⊢;simp only at h hb ⊢;refine ⟨hb,?_,i6,mQ⟩;simp only [aZ,if_neg k1,if_neg k2,if_neg k3,List.append_nil];exact B1 h
end
def xe (l:List UInt8):St × Bool × da :=
 let t0:=gh l (0,0,0) false
 let t1:=aJ l t0.1 1 true
 let t2:=aJ l t1.1 1 true
 let t3:=dQ l t2.1 t0.2.1
 let t4:=fJ l t3.1
 let t5:=bO l t4.1 255
 let t6:=fJ l t5.1
 let t7:=aJ l t6.1 4 false
 (t7.1,t3.2.1,{ act:=t0.2.2,o:={ err:=(t1.2:Int),reason:=(t2.2:Int),hit:=t3.2.2,version:=((min t4.2 1099511627777:Nat):Int),name:=t5.2,out:=[] },len:=((min t6.2 262145:Nat):Int),sum:=t7.2 })
theorem CX (l:List UInt8):DT l=(iZ l (xe l).1,(xe l).2):=by
 rcases h0:gh l (0,0,0) false with ⟨s0,b0,ac⟩
 rcases h1:aJ l s0 1 true with ⟨s1,q1⟩
 rcases h2:aJ l s1 1 true with ⟨s2,q2⟩
 rcases h3:dQ l s2 b0 with ⟨s3,b3,hit⟩
 rcases h4:fJ l s3 with ⟨s4,v4⟩
 rcases h5:bO l s4 255 with ⟨s5,nm⟩
 rcases h6:fJ l s5 with ⟨s6,v6⟩
 rcases h7:aJ l s6 4 false with ⟨s7,q7⟩
 unfold DT xe;simp only [h0,h1,h2,h3,h4,h5,h6,h7]
theorem tj {l:List UInt8} {s:St} {bad:Bool} (ok:bY l s):bY l (dQ l s bad).1:=bQ ok 1 true
theorem rX {l:List UInt8} {s:St} {bad:Bool} (ok:bY l s):bY l (cy l s bad).1:=dt ok 8
theorem yX {l:List UInt8} {s:St} {bad:Bool} (ok:bY l s):bY l (dI l s bad).1:=by
 rcases h1:bO l s 255 with ⟨s1,nm⟩
 rcases h2:dQ l s1 bad with ⟨s2,b2,sx⟩
 rcases h3:a8 l s2 16 with ⟨s3,ad⟩
 rcases h4:aJ l s3 2 true with ⟨s4,po⟩
 rcases h5:a8 l s4 6 with ⟨s5,mc⟩
 rcases h6:cy l s5 b2 with ⟨s6,b6,wt⟩
 rcases h7:dQ l s6 b6 with ⟨s7,b7,dr⟩
 unfold dI;simp only [h1,h2,h3,h4,h5,h6,h7];have o1:=ft ok 255;rw [h1] at o1;have o2:=tj (bad:=bad) o1;rw [h2] at o2;have o3:=dt o2 16;rw [h3] at o3;have o4:=bQ o3 2 true;rw [h4] at o4;have o5:=dt o4 6;rw [h5] at o5;have o6:=rX (bad:=b2) o5;rw [h6] at o6;have o7:=tj (bad:=b6) o6;rw [h7] at o7;exact o7
theorem rY (l:List UInt8) (s:St) (bad:Bool) (Q:St→Bool→cz→Prop)
  (h1:Q (bO l (aJ l s 1 true).1 131072).1 bad { dC with kind:=((aJ l s 1 true).2:Int),frame:=(bO l (aJ l s 1 true).1 131072).2 })
  (h2:Q (dI l (aJ l (aJ l s 1 true).1 1 true).1 bad).1 (dI l (aJ l (aJ l s 1 true).1 1 true).1 bad).2.1 { dC with kind:=((aJ l s 1 true).2:Int),op:=((aJ l (aJ l s 1 true).1 1 true).2:Int),back:=(dI l (aJ l (aJ l s 1 true).1 1 true).1 bad).2.2 })
  (h3:Q (cy l (bO l (aJ l (aJ l s 1 true).1 1 true).1 255).1 bad).1 (cy l (bO l (aJ l (aJ l s 1 true).1 1 true).1 255).1 bad).2.1 { dC with kind:=((aJ l s 1 true).2:Int),op:=((aJ l (aJ l s 1 true).1 1 true).2:Int),oname:=(bO l (aJ l (aJ l s 1 true).1 1 true).1 255).2,owt:=(cy l (bO l (aJ l (aJ l s 1 true).1 1 true).1 255).1 bad).2.2 })
  (h4:Q (bO l (aJ l (aJ l s 1 true).1 1 true).1 255).1 bad { dC with kind:=((aJ l s 1 true).2:Int),op:=((aJ l (aJ l s 1 true).1 1 true).2:Int),oname:=(bO l (aJ l (aJ l s 1 true).1 1 true).1 255).2 })
  (h5:Q (dQ l (bO l (aJ l s 1 true).1 255).1 bad).1 (dQ l (bO l (aJ l s 1 true).1 255).1 bad).2.1 { dC with kind:=((aJ l s 1 true).2:Int),name:=(bO l (aJ l s 1 true).1 255).2,well:=(dQ l (bO l (aJ l s 1 true).1 255).1 bad).2.2 })
  (h6:Q (aJ l s 1 true).1 bad { dC with kind:=((aJ l s 1 true).2:Int) }):Q (gh l s bad).1 (gh l s bad).2.1 (gh l s bad).2.2:=by
 unfold gh;by_cases k1:((aJ l s 1 true).2:Int)=1
 ·simp only [if_pos k1];exact h1
 ·simp only [if_neg k1]
  by_cases k2:((aJ l s 1 true).2:Int)=2
  ·simp only [if_pos k2]
   by_cases k3:((aJ l (aJ l s 1 true).1 1 true).2:Int)=1
   ·simp only [if_pos k3];exact h2
   ·simp only [if_neg k3]
    by_cases k4:((aJ l (aJ l s 1 true).1 1 true).2:Int)=3
    ·simp only [if_pos k4];exact h3
    ·simp only [if_neg k4];exact h4
  ·simp only [if_neg k2]
   by_cases k3:((aJ l s 1 true).2:Int)=3
   ·simp only [if_pos k3];exact h5
   ·simp only [if_neg k3];exact h6
theorem Fx {l:List UInt8} {s:St} {bad:Bool} (ok:bY l s):bY l (gh l s bad).1:=by
 have ok1:=bQ ok 1 true;have ok2:=bQ ok1 1 true;have a1:=ft ok1 131072;have a3:=ft ok2 255;have a5:=ft ok1 255;have a2:=yX (bad:=bad) ok2;have a4:=rX (bad:=bad) a3;have a6:=tj (bad:=bad) a5;exact rY l s bad (fun x _ _=>bY l x) a1 a2 a4 a3 a6 ok1
theorem xg (l:List UInt8) (s:St) (bad:Bool):aA (gh l s bad).2.2:=by
 have h0:(0:Nat)<18446744073709551616:=by decide
 exact rY l s bad (fun _ _ x=>aA x) ⟨aF,h0⟩ ⟨jD _ _ _,h0⟩ ⟨aF,om _⟩ ⟨aF,h0⟩ ⟨aF,h0⟩ ⟨aF,h0⟩
section
variable {l r:List UInt8}
theorem Fy {e:da} (hs:aB e) (hr:aL e=true) (hc:wY e) (h:l=bP e ++ r):xe l=(ep (0,0,0) (bP e).length,false,e):=by
 simp only [aL,Bool.and_eq_true,decide_eq_true_eq,bE] at hr;obtain ⟨hp,⟨he0,he9⟩,⟨hr0,hr9⟩,⟨hv0,hv9⟩,hn,ho,hl0,hl9⟩:=hr;have e0:l.drop ((0,0,0):St).1=aZ e.act ++ (cd 1 e.o.err.toNat true ++ (cd 1 e.o.reason.toNat true ++ (fP e.o.hit ++ (aI e.o.version.toNat ++ (bI e.o.name ++ (aI e.len.toNat ++ (cd 4 e.sum false ++ r))))))):=by
  rw [h];simp [bP,List.append_assoc]
 have h0:=Gg (bad:=false) hs.act hp hc (s:=(0,0,0)) rfl (Nat.zero_le _) e0;have E0:=br.of (s:=(0,0,0)) rfl (Nat.zero_le _) e0;have e1:=E0.rest e0;obtain ⟨k1,h1,z1⟩:=yV he0 (by omega) E0.ok' E0.le' e1;have E1:=br.of E0.ok' E0.le' e1;have e2:=E1.rest e1;obtain ⟨k2,h2,z2⟩:=yV hr0 (by omega) E1.ok' E1.le' e2;have E2:=br.of E1.ok' E1.le' e2;have e3:=E2.rest e2;have h3:=tf (bad:=false) E2.ok' E2.le' e3;have E3:=br.of E2.ok' E2.le' e3;have e4:=E3.rest e3;have h4:=rU E3.ok' E3.le' (by omega) e4;have E4:=br.of E3.ok' E3.le' e4;have e5:=E4.rest e4;have h5:=np (m:=255) E4.ok' E4.le' (by omega) (by omega) e5;have E5:=br.of E4.ok' E4.le' e5;have e6:=E5.rest e5;have h6:=rU E5.ok' E5.le' (by omega) e6;have E6:=br.of E5.ok' E5.le' e6;have e7:=E6.rest e6;have h7:=jU (n:=4) E6.ok' E6.le' (by rw [aw];rfl) (by rw [aw];decide) (by rw [aw];decide) false e7;have hsum:=hs.sum;rw [kF (by omega)] at h7;unfold xe;simp only [h0,h1,h2,h3,h4,h5,h6,h7];refine Prod.ext ?_ (Prod.ext rfl ?_)
 ·simp only [ca,bP,List.length_append,Nat.add_assoc]
 ·have m4:((min e.o.version.toNat 1099511627777:Nat):Int)=e.o.version:=by omega
  have m6:((min e.len.toNat 262145:Nat):Int)=e.len:=by omega
  simp only [z1,z2,m4,m6];have hout:e.o.out=[]:=List.eq_nil_of_length_eq_zero ho;rw [←hout]
theorem yY {e:da} (hs:aB e) (hr:aL e=true) (hc:wY e):eD (bP e)=some e:=by
 have h:=Fy (r:=[]) hs hr hc (by rw [List.append_nil]:bP e=bP e ++ []);unfold eD;rw [CX,h];simp only;rw [wW (by simp [ep]),if_pos];rw [hr];rfl
theorem Ei {f:da} (h:eD l=some f):l=bP f∧aL f=true∧aB f∧wY f:=by
 unfold eD at h;split at h
 ·rename_i hc
  injection h with h
  rw [Bool.and_eq_true] at hc;obtain ⟨hok,hr⟩:=hc;rw [h] at hr;unfold pA at hok;simp only [Bool.and_eq_true,Bool.not_eq_true',decide_eq_true_eq] at hok;obtain ⟨hbad,_,hz⟩:=hok;rw [CX] at hbad hz h;simp only at hbad hz h;obtain ⟨hge,hend⟩:=wV hz;rw [hend] at hz;have ok0:bY l (0,0,0):=⟨Nat.zero_le _,Nat.zero_le _,Nat.zero_le _⟩
  rcases h0:gh l (0,0,0) false with ⟨s0,b0,ac⟩
  rcases h1:aJ l s0 1 true with ⟨s1,q1⟩
  rcases h2:aJ l s1 1 true with ⟨s2,q2⟩
  rcases h3:dQ l s2 b0 with ⟨s3,b3,hit⟩
  rcases h4:fJ l s3 with ⟨s4,v4⟩
  rcases h5:bO l s4 255 with ⟨s5,nm⟩
  rcases h6:fJ l s5 with ⟨s6,v6⟩
  rcases h7:aJ l s6 4 false with ⟨s7,q7⟩
  have hA:xe l=(s7,b3,{ act:=ac,o:={ err:=(q1:Int),reason:=(q2:Int),hit:=hit,version:=((min v4 1099511627777:Nat):Int),name:=nm,out:=[] },len:=((min v6 262145:Nat):Int),sum:=q7 }):=by
   unfold xe;simp only [h0,h1,h2,h3,h4,h5,h6,h7]
  rw [hA] at hbad hz hge h;simp only at hbad hz hge h;subst h;simp only [aL,Bool.and_eq_true,decide_eq_true_eq,bE] at hr;have hr':=hr;obtain ⟨hp,he,hre,⟨hv0,hv9⟩,hn,ho,hl0,hl9⟩:=hr';have okA:bY l s0:=by
   have:=Fx (l:=l) (bad:=false) ok0;rw [h0] at this;exact this
  have ok1:bY l s1:=by have:=bQ okA 1 true;rw [h1] at this;exact this
  have ok2:bY l s2:=by have:=bQ ok1 1 true;rw [h2] at this;exact this
  have ok3:bY l s3:=by have:=bQ ok2 1 true;unfold dQ at h3;injection h3 with h3;rw [←h3];exact this
  have ok4:bY l s4:=by have:=kT ok3;rw [h4] at this;exact this
  have ok5:bY l s5:=by have:=ft ok4 255;rw [h5] at this;exact this
  obtain ⟨x7,hx7,E7,y7⟩:=jC (l:=l) (s:=s6) (n:=4) (by decide) (by decide) false (by rw [h7];exact hz);rw [h7] at E7 y7;simp only at E7 y7;have F6:=qy (l:=l) (s:=s5) (by rw [h6];exact E7.ok) ok5.1;rw [h6] at F6;obtain ⟨_,E6⟩:=F6;have F5:=li (l:=l) (s:=s4) (m:=255) (by rw [h5];exact E6.ok) ok4.1;rw [h5] at F5;obtain ⟨E5,_⟩:=F5;have F4:=qy (l:=l) (s:=s3) (by rw [h4];exact E5.ok) ok3.1;rw [h4] at F4;obtain ⟨_,E4⟩:=F4;have F3:=tg (l:=l) (s:=s2) (bad:=b0) (by rw [h3];exact E4.ok) (by rw [h3];exact hbad);rw [h3] at F3;obtain ⟨hb0,E3⟩:=F3;have E2:=yW (l:=l) (s:=s1) (by rw [h2];exact E3.ok);rw [h2] at E2;have E1:=yW (l:=l) (s:=s0) (by rw [h1];exact E2.ok);rw [h1] at E1;have F0:=Gh (l:=l) (s:=(0,0,0)) (bad:=false) ok0 (by rw [h0];exact E1.ok) (by rw [h0];exact hb0);rw [h0] at F0;obtain ⟨_,E0,hcan⟩:=F0;simp only at E6 E5 E4 E3 E2 E1 E0 hcan;have hsh0:=xg l (0,0,0) false;rw [h0] at hsh0;have m4:((min v4 1099511627777:Nat):Int)=(v4:Int):=by omega
  have m6:((min v6 262145:Nat):Int)=(v6:Int):=by omega
  have hx7':x7.length=4:=hx7;have hq7:q7<4294967296:=by have:=yU l s6;rw [h7] at this;exact this
  have hput:cd 4 q7 false=x7:=by
   rw [y7];have:=mx x7 false;rw [hx7'] at this;exact this
  refine ⟨?_,?_,⟨hsh0,hq7⟩,hcan⟩
  ·have E:=E0.trans (E1.trans (E2.trans (E3.trans (E4.trans (E5.trans (E6.trans E7))))))
   have hE:=E.eq;have hto:=E.to;rw [hto] at hge;simp only [ep,Nat.zero_add] at hge hE;rw [List.drop_zero,List.drop_of_length_le hge,List.append_nil] at hE;unfold bP;simp only [m4,m6,Int.toNat_natCast,hput];exact hE
  ·simp only [aL,Bool.and_eq_true,decide_eq_true_eq,bE]
   exact hr
 ·cases h
theorem rZ {f:da}:eD l=some f↔l=bP f∧aL f=true∧aB f∧wY f :=
 ⟨Ei,fun ⟨h1,h2,h3,h4⟩=>by rw [h1];exact yY h3 h2 h4⟩
end
def mR (b:aU):aU:={ b with wt:=bv b.wt }
def ov (a:cz):cz:={ a with back:=mR a.back,owt:=bv a.owt }
def fG (e:da):da:={ e with act:=ov e.act }
theorem CY (e:da):wY (fG e):=⟨eP _,eP _⟩
theorem nq {e:da} (h:aB e):aB (fG e):=⟨⟨⟨h.act.back.addr,h.act.back.mac,lO h.act.back.wt⟩,lO h.act.owt⟩,h.sum⟩
theorem At (n:Nat):fj (bv n)=fj n:=by unfold fj;rw [eP]
theorem xl (e:da):bP (fG e)=bP e:=by
 unfold bP fG aZ ov aD mR;simp only [At]
theorem Aw (e:da):gF (fG e) e=true:=by
 simp [gF,cK,bw,fG,ov,mR,eP]
theorem xm (a:cz):ek (ov a)=ek a:=by
 have h:cK (ov a) (dO (ov a))=cK a (dO a):=by
  unfold dO ov;simp only;split
  ·simp [cK,bw,mR,eP]
  ·split
   ·split
    ·simp [cK,bw,mR,eP]
    ·split
     ·simp [cK,bw,mR,eP]
     ·simp [cK,bw,mR,eP]
   ·split
    ·simp [cK,bw,mR,eP]
    ·simp [cK,bw,mR,eP]
 unfold ek;rw [h];rfl
theorem xn (e:da):aL (fG e)=aL e:=by
 unfold aL;rw [show (fG e).act=ov e.act from rfl,xm];rfl
theorem r5 {e:da} (hs:aB e) (hr:aL e=true):eD (bP e)=some (fG e):=by
 rw [←xl];exact yY (nq hs) (by rw [xn];exact hr) (CY e)
end Go.Proofs.YtaafkokfdgfabaaGreat
namespace Go.Proofs.YtaafkokfdgfabaaGreat
open Go.RowKit
set_option linter.unusedVariables false
set_option linter.unusedSimpArgs false
def fY (n:Nat):Bool:=decide (n≤4652007308841189376) || decide (n=9223372036854775808)
def jF (n:Nat):Nat:=if n % 9223372036854775808=0 then 0 else n
def eT (b:aU):Bool:=dZ b.addr && (jA b.name && (ez b.port 1 65535 && fY b.wt))
def il (bs:List aU) (i:Nat):Bool :=
 match bs[i]? with
 | some b=>eT b && (bv b.wt == bv (jF b.wt) && (decide (i=0) || (match bs[i - 1]? with | some c=>Op.bytesLess c.name b.name | none=>true)))
 | none=>true
def cY (p:lS):Bool:=ez p.version 0 1099511627776 && (decide (p.backs.length≤1024) && (List.range p.backs.length).all (il p.backs))
def fg (k:fz):Bool:=(k.src.1 == k.dst.1) && (dZ k.src && (dZ k.dst && (ez k.proto 0 255 && (ez k.sport 0 65535 && ez k.dport 0 65535))))
def eA (f:dD):Bool:=fg f.key && (jA f.name && (ez f.state 1 5 && (ez f.seen 0 1099511627776 && ez f.no 0 1152921504606846976)))
def bG (t:fz):List UInt8:=(if t.src.1 then 6 else 4) :: (t.src.2 ++ (t.dst.2 ++ (cd 1 t.proto.toNat true ++ (cd 2 t.sport.toNat true ++ cd 2 t.dport.toNat true))))
def lV (a b:dD):Bool:=if a.no=b.no then Op.bytesLess (bG a.key) (bG b.key) else decide (a.no<b.no)
def eE (h:cN):Bool:=decide (h.name.length≤255) && ez h.run 0 99
def fk (s:bh):Bool :=
 cY s.pool && (decide (s.healths.length≤1024) && (decide (s.flows.length≤4096) && (ez s.tick 0 1099511627776 && (ez s.no 0 1152921504606846976 &&
  (s.count.all (fun n=>ez n 0 1152921504606846976) && (s.healths.all eE && s.flows.all eA))))))
def aP (h:cN):List UInt8:=bI h.name ++ (fP h.down ++ aI h.run.toNat)
def bM (f:dD):List UInt8:=bG f.key ++ (bI f.name ++ (aI f.state.toNat ++ (aI f.seen.toNat ++ aI f.no.toNat)))
def ed {α:Type} (enc:α→List UInt8) (xs:List α):List UInt8:=aI xs.length ++ xs.flatMap enc
def im (s:bh):List Nat:=s.tick.toNat :: s.no.toNat :: (s.count.map Int.toNat ++ [s.pool.version.toNat])
def eu (s:bh):List UInt8:=aN (im s) ++ (ed aD s.pool.backs ++ (ed aP s.healths ++ ed bM s.flows))
def dB (l:List UInt8) (s:St):St × Nat:=((fJ l s).1,min (fJ l s).2 1152921504606846977)
def lj (s:St):Bool:=decide (s.2.1=0) && decide (s.2.2=0)
def dJ {α:Type} (one:St→St × α × Bool):Nat→St→St × Option (List α)
 | 0,s=>(s,some [])
 | k + 1,s=>if (one s).2.2 && lj (one s).1 then ((dJ one k (one s).1).1,(dJ one k (one s).1).2.map ((one s).2.1 :: ·)) else ((one s).1,none)
def dS {α:Type} (l:List UInt8) (one:St→St × α × Bool) (most:Nat) (s:St):St × List α × Bool :=
 if (dB l s).2≤most then ((dJ one (dB l s).2 (dB l s).1).1,((dJ one (dB l s).2 (dB l s).1).2.getD []),(dJ one (dB l s).2 (dB l s).1).2.isSome) else ((dB l s).1,[],false)
def fH (l:List UInt8):Nat→St→St × List Nat
 | 0,s=>(s,[])
 | k + 1,s=>((fH l k (dB l s).1).1,(dB l s).2 :: (fH l k (dB l s).1).2)
def cO (l:List UInt8) (s:St):St × cN × Bool :=
 let t1:=bO l s 255
 let t2:=aJ l t1.1 1 true
 let t3:=dB l t2.1
 (t3.1,{ name:=t1.2,down:=t2.2 == 1,run:=(t3.2:Int) },decide (t2.2≤1))
def kj (l:List UInt8) (s:St):St × fz × Bool :=
 let t1:=aJ l s 1 true
 let t2:=a8 l t1.1 16
 let t3:=a8 l t2.1 16
 let t4:=aJ l t3.1 1 true
 let t5:=aJ l t4.1 2 true
 let t6:=aJ l t5.1 2 true
 (t6.1,{ src:=(t1.2 == 6,dR t2.2 16),dst:=(t1.2 == 6,dR t3.2 16),proto:=(t4.2:Int),sport:=(t5.2:Int),dport:=(t6.2:Int) },t1.2 == 6 || t1.2 == 4)
def eB (l:List UInt8) (s:St):St × dD × Bool :=
 let t1:=kj l s
 let t2:=bO l t1.1 255
 let t3:=dB l t2.1
 let t4:=dB l t3.1
 let t5:=dB l t4.1
 (t5.1,{ key:=t1.2.1,name:=t2.2,state:=(t3.2:Int),seen:=(t4.2:Int),no:=(t5.2:Int) },t1.2.2)
def cH (l:List UInt8) (s:St):St × aU × Bool:=((dI l s false).1,(eG l s).1,(eG l s).2)
def tn (ns:List Nat) (bs:List aU) (hs:List cN) (fs:List dD):bh :=
 { pool:={ version:=(ns.getD 13 0:Nat),backs:=bs },healths:=hs,flows:=fs,tick:=(ns.getD 0 0:Nat),no:=(ns.getD 1 0:Nat),count:=((ns.drop 2).take 11).map Int.ofNat }
def gN (l:List UInt8):Option bh :=
 let t1:=fH l 14 (0,0,0)
 let a:=dS l (cH l) 1024 t1.1
 let c:=dS l (cO l) 1024 a.1
 let d:=dS l (eB l) 4096 c.1
 if a.2.2 && (c.2.2 && (d.2.2 && (lj (iZ l d.1) && fk (tn t1.2 a.2.1 c.2.1 d.2.1)))) then some (tn t1.2 a.2.1 c.2.1 d.2.1) else none
section
variable {l:List UInt8} {s:St} {r:List UInt8}
theorem o9 (h0:s.2.2=0) (hl:s.1≤l.length) {m:Nat} (hm:m≤1152921504606846976) (e:l.drop s.1=aI m ++ r):dB l s=(ep s (aI m).length,m):=by
 unfold dB;rw [rU h0 hl (by omega) e,Nat.min_eq_left (by omega)]
theorem pc (h0:(dB l s).1.2.2=0) (hl:s.1≤l.length) (hm:(dB l s).2≤1152921504606846976):br l s (aI (dB l s).2) (dB l s).1:=by
 have h:=qy (l:=l) (s:=s) h0 hl;have e:(dB l s).2=(fJ l s).2:=by unfold dB at hm ⊢;simp only at hm ⊢;omega
 rw [e];exact h.2
theorem dF (h:bY l s):bY l (dB l s).1:=kT h
theorem pd:∀ (k:Nat) (s:St),(fH l k s).2.length=k
 | 0,s=>rfl
 | k + 1,s=>by simp [fH,pd k]
theorem zc:∀ (ns:List Nat) (s:St),s.2.2=0→s.1≤l.length→(∀ n ∈ ns,n≤1152921504606846976)→∀ {r:List UInt8},l.drop s.1=aN ns ++ r→fH l ns.length s=(ep s (aN ns).length,ns)
 | [],s,_,_,_,_,_=>rfl
 | n :: ns,s,h0,hl,hn,r,e=>by
  rw [aN,List.append_assoc] at e;have h1:=o9 h0 hl (hn n (by simp)) e;have E1:=br.of h0 hl e;have ih:=zc ns _ E1.ok' E1.le' (fun u hu=>hn u (by simp [hu])) (E1.rest e);rw [List.length_cons,fH,h1];simp only;rw [ih];simp [ca,aN]
theorem uN:∀ (k:Nat) (s:St),bY l s→bY l (fH l k s).1
 | 0,s,h=>h
 | k + 1,s,h=>uN k _ (dF h)
theorem zd:∀ (k:Nat) (s:St),bY l s→(fH l k s).1.2.2=0→(∀ n ∈ (fH l k s).2,n≤1152921504606846976)→br l s (aN (fH l k s).2) (fH l k s).1
 | 0,s,ok,h0,_=>br.nil h0 ok.1
 | k + 1,s,ok,h0,hn=>by
  have E2:=zd k (dB l s).1 (dF ok) h0 (fun n h=>hn n (by simp [fH,h]));have E1:=pc (l:=l) (s:=s) E2.ok ok.1 (hn _ (by simp [fH]));exact E1.trans E2
theorem jW:lj s=true↔s.2.1=0∧s.2.2=0:=by simp [lj]
theorem C1 {α:Type} {enc:α→List UInt8} {one:St→St × α × Bool} {P:α→Prop}
  (F:∀ (x:α) (s:St) (r:List UInt8),P x→s.2.1=0→s.2.2=0→s.1≤l.length→l.drop s.1=enc x ++ r→one s=(ep s (enc x).length,x,true)) :
  ∀ (xs:List α) (s:St),(∀ x ∈ xs,P x)→s.2.1=0→s.2.2=0→s.1≤l.length→∀ {r:List UInt8},l.drop s.1=xs.flatMap enc ++ r→dJ one xs.length s=(ep s (xs.flatMap enc).length,some xs)
 | [],s,_,_,_,_,_,_=>rfl
 | x :: xs,s,hP,h1,h0,hl,r,e=>by
  rw [List.flatMap_cons,List.append_assoc] at e;have h:=F x s _ (hP x (by simp)) h1 h0 hl e;have E1:=br.of h0 hl e;have ih:=C1 F xs _ (fun u hu=>hP u (by simp [hu])) (by rw [E1.at_];exact h1) E1.ok' E1.le' (E1.rest e);rw [List.length_cons,dJ,h];simp only;rw [if_pos (by simp [lj,ep,h1,h0]),ih];simp [ca]
theorem xt {α:Type} {enc:α→List UInt8} {one:St→St × α × Bool} {P:α→Prop}
  (F:∀ (x:α) (s:St) (r:List UInt8),P x→s.2.1=0→s.2.2=0→s.1≤l.length→l.drop s.1=enc x ++ r→one s=(ep s (enc x).length,x,true)) {most:Nat} (hmo:most≤1000000)
  (xs:List α) (hP:∀ x ∈ xs,P x) (hx:xs.length≤most) (h1:s.2.1=0) (h0:s.2.2=0) (hl:s.1≤l.length) (e:l.drop s.1=ed enc xs ++ r):dS l one most s=(ep s (ed enc xs).length,xs,true):=by
 unfold ed at e;rw [List.append_assoc] at e;have h:=o9 h0 hl (by omega) e;have E1:=br.of h0 hl e;have h2:=C1 F xs _ hP (by rw [E1.at_];exact h1) E1.ok' E1.le' (E1.rest e);unfold dS;rw [h];simp only;rw [if_pos hx,h2];simp [ca,ed]
theorem C2 {α:Type} {enc:α→List UInt8} {one:St→St × α × Bool} {R Q:α→Prop}
  (B:∀ s,bY l s→(one s).2.2=true→lj (one s).1=true→R (one s).2.1→br l s (enc (one s).2.1) (one s).1∧Q (one s).2.1) (O:∀ s,bY l s→bY l (one s).1) :
  ∀ (k:Nat) (s s':St) (xs:List α),bY l s→s.2.2=0→dJ one k s=(s',some xs)→(∀ x ∈ xs,R x)→xs.length=k∧br l s (xs.flatMap enc) s'∧∀ x ∈ xs,Q x
 | 0,s,s',xs,ok,h0,h,hR=>by
  simp only [dJ,Prod.mk.injEq,Option.some.injEq] at h;obtain ⟨rfl,rfl⟩:=h;exact ⟨rfl,br.nil h0 ok.1,by simp⟩
 | k + 1,s,s',xs,ok,h0,h,hR=>by
  unfold dJ at h;split at h
  ·rename_i hc
   rw [Bool.and_eq_true] at hc;rcases hr:dJ one k (one s).1 with ⟨s2,o⟩
   rw [hr] at h;rcases o with _ | ws
   ·simp at h
   ·simp only [Option.map_some,Prod.mk.injEq,Option.some.injEq] at h
    obtain ⟨rfl,rfl⟩:=h;obtain ⟨h1,E2,h3⟩:=C2 B O k _ _ _ (O s ok) (jW.1 hc.2).2 hr (fun x hx=>hR x (by simp [hx]));obtain ⟨E1,h4⟩:=B s ok hc.1 hc.2 (hR _ (by simp));refine ⟨by simp [h1],?_,?_⟩
    ·rw [List.flatMap_cons];exact E1.trans E2
    ·intro u hu
     rcases List.mem_cons.1 hu with rfl | hu
     ·exact h4
     ·exact h3 u hu
  ·simp at h
theorem ze {α:Type} {one:St→St × α × Bool} (O:∀ s,bY l s→bY l (one s).1):∀ (k:Nat) (s:St),bY l s→bY l (dJ one k s).1
 | 0,s,h=>h
 | k + 1,s,h=>by
  unfold dJ;split
  ·exact ze O k _ (O s h)
  ·exact O s h
theorem zh {α:Type} {one:St→St × α × Bool} (O:∀ s,bY l s→bY l (one s).1) {most:Nat} (h:bY l s):bY l (dS l one most s).1:=by
 unfold dS;split
 ·exact ze O _ _ (dF h)
 ·exact dF h
theorem xu {α:Type} {one:St→St × α × Bool} (S:∀ s,bY l s→(one s).1.2.2=0→s.2.2=0):∀ (k:Nat) (s:St),bY l s→s.2.2≠0→(dJ one k s).1.2.2≠0
 | 0,s,_,h=>h
 | k + 1,s,ok,h=>by
  unfold dJ;split
  ·rename_i hc
   rw [Bool.and_eq_true] at hc;exact absurd (S s ok (jW.1 hc.2).2) h
  ·exact fun e=>h (S s ok e)
theorem xv {α:Type} {enc:α→List UInt8} {one:St→St × α × Bool} {R Q:α→Prop}
  (B:∀ s,bY l s→(one s).2.2=true→lj (one s).1=true→R (one s).2.1→br l s (enc (one s).2.1) (one s).1∧Q (one s).2.1) (O:∀ s,bY l s→bY l (one s).1) (S:∀ s,bY l s→(one s).1.2.2=0→s.2.2=0)
  {most:Nat} (hmo:most≤1000000) (ok:bY l s) (h2:(dS l one most s).2.2=true) (h0:(dS l one most s).1.2.2=0) (hR:∀ x ∈ (dS l one most s).2.1,R x) :
  br l s (ed enc (dS l one most s).2.1) (dS l one most s).1∧∀ x ∈ (dS l one most s).2.1,Q x:=by
 unfold dS at h2 h0 hR ⊢;by_cases hm:(dB l s).2≤most
 ·rw [if_pos hm] at h2 h0 hR ⊢
  rcases hr:dJ one (dB l s).2 (dB l s).1 with ⟨s2,o⟩
  rw [hr] at h2 h0 hR;rcases o with _ | xs
  ·simp at h2
  ·simp only [Option.getD_some] at hR h0 ⊢
   have hn0:(dB l s).1.2.2=0:=by
    rcases Nat.eq_zero_or_pos (dB l s).1.2.2 with h | h
    ·exact h
    ·have:=xu S (dB l s).2 (dB l s).1 (dF ok) (by omega)
     rw [hr] at this;exact absurd h0 this
   obtain ⟨h1,E2,h3⟩:=C2 B O _ _ _ _ (dF ok) hn0 hr hR;have E1:=pc (l:=l) (s:=s) hn0 ok.1 (by omega);refine ⟨?_,h3⟩;unfold ed;rw [h1];exact E1.trans E2
 ·rw [if_neg hm] at h2
  simp at h2
end
end Go.Proofs.YtaafkokfdgfabaaGreat
namespace Go.Proofs.YtaafkokfdgfabaaGreat
open Go.RowKit
set_option linter.unusedVariables false
set_option linter.unusedSimpArgs false
section
variable {l:List UInt8} {s:St} {r:List UInt8}
theorem pT (h:(dB l s).1.2.2=0) (ok:bY l s):s.2.2=0:=(qy (l:=l) (s:=s) h ok.1).2.ok
theorem lW {n:Int} (h1:1≤n) (h8:n≤8) {big:Bool} (h:(aJ l s n big).1.2.2=0):s.2.2=0:=by
 obtain ⟨x,_,he,_⟩:=jC h1 h8 big h;exact he.ok
theorem oz {n:Int} (h1:0≤n) (h:(a8 l s n).1.2.2=0):s.2.2=0:=by
 obtain ⟨x,_,he,_⟩:=iB h1 h;exact he.ok
theorem tp {m:Int} (h:(bO l s m).1.2.2=0) (ok:bY l s):s.2.2=0:=(li h ok.1).1.ok
theorem r6 (h:bY l s):bY l (cO l s).1:=dF (bQ (ft h _) _ _)
theorem C3 (ok:bY l s) (h:(cO l s).1.2.2=0):s.2.2=0 :=
 tp (lW (by decide) (by decide) (pT h (bQ (ft ok _) _ _))) ok
theorem C4 {h:cN} (hr:eE h=true) (h0:s.2.2=0) (hl:s.1≤l.length) (e:l.drop s.1=aP h ++ r):cO l s=(ep s (aP h).length,h,true):=by
 simp only [eE,Bool.and_eq_true,decide_eq_true_eq,bE] at hr;obtain ⟨hn,hr0,hr9⟩:=hr;unfold aP at e;simp only [List.append_assoc] at e;have h1:=np (m:=255) h0 hl (by omega) (by omega) e;have E1:=br.of h0 hl e;have e1:=E1.rest e;have h2:=jU (n:=1) E1.ok' E1.le' (by rw [dd];rfl) (by rw [dd];decide) (by rw [dd];decide) true e1;have E2:=br.of E1.ok' E1.le' e1;have e2:=E2.rest e1;have h3:=o9 E2.ok' E2.le' (by omega) e2;unfold cO;simp only [h1,h2,h3];rcases h with ⟨nm,d,run⟩
 simp only at hr0 hr9 ⊢;have hz:((run.toNat:Nat):Int)=run:=by omega
 rw [hz];cases d
 ·simp [ca,aP,fP,cL,Nat.add_assoc,Nat.add_comm,Nat.add_left_comm]
 ·simp [ca,aP,fP,cL,Nat.add_assoc,Nat.add_comm,Nat.add_left_comm]
theorem C5 (ok:bY l s) (h2:(cO l s).2.2=true) (h0:lj (cO l s).1=true) (hr:eE (cO l s).2.1=true):br l s (aP (cO l s).2.1) (cO l s).1∧True:=by
 rcases h1:bO l s 255 with ⟨s1,nm⟩
 rcases h3:aJ l s1 1 true with ⟨s2,dn⟩
 rcases h4:dB l s2 with ⟨s3,run⟩
 have hA:cO l s=(s3,{ name:=nm,down:=dn == 1,run:=(run:Int) },decide (dn≤1)):=by
  unfold cO;simp only [h1,h3,h4]
 rw [hA] at h2 h0 hr ⊢;simp only [decide_eq_true_eq] at h2;simp only [eE,Bool.and_eq_true,decide_eq_true_eq,bE] at hr;have h0':=(jW.1 h0).2;have ok1:bY l s1:=by have:=ft ok 255;rw [h1] at this;exact this
 have ok2:bY l s2:=by have:=bQ ok1 1 true;rw [h3] at this;exact this
 have E3:=pc (l:=l) (s:=s2) (by rw [h4];exact h0') ok2.1 (by rw [h4];simp only;omega);rw [h4] at E3;obtain ⟨x,hx,E2,ev⟩:=jC (l:=l) (s:=s1) (n:=1) (by decide) (by decide) true (by rw [h3];exact E3.ok);rw [h3] at E2 ev;obtain ⟨c,rfl⟩:=lc hx;rw [cL] at ev;have F1:=li (l:=l) (s:=s) (m:=255) (by rw [h1];exact E2.ok) ok.1;rw [h1] at F1;refine ⟨?_,trivial⟩;simp only at ev E2 E3 F1 ⊢;have hc:fP (dn == 1)=[c]:=by
  have hc2:c.toNat≤1:=by omega
  rcases Nat.lt_or_ge c.toNat 1 with h | h
  ·have:dn=0:=by omega
   subst this;have hc0:c=0:=UInt8.toNat_inj.1 (by simp;omega);rw [hc0];rfl
  ·have:dn=1:=by omega
   subst this;have hc0:c=1:=UInt8.toNat_inj.1 (by simp;omega);rw [hc0];rfl
 unfold aP;simp only [hc,Int.toNat_natCast];exact F1.1.trans (E2.trans E3)
theorem tq (h:bY l s):bY l (kj l s).1:=bQ (bQ (bQ (dt (dt (bQ h _ _) _) _) _ _) _ _) _ _
theorem Gk (ok:bY l s) (h:(kj l s).1.2.2=0):s.2.2=0 :=
 lW (by decide) (by decide) (oz (by decide) (oz (by decide) (lW (by decide) (by decide) (lW (by decide) (by decide) (lW (by decide) (by decide) h)))))
theorem pf (l:List UInt8) (s:St):cg (kj l s).2.1:=by
 rcases h1:aJ l s 1 true with ⟨s1,fm⟩
 rcases h3:a8 l s1 16 with ⟨s2,sb⟩
 rcases h4:a8 l s2 16 with ⟨s3,db⟩
 unfold kj;simp only [h1,h3,h4];exact ⟨ew (gy (n:=16) h3),ew (gy (n:=16) h4)⟩
theorem Gl {t:fz} (ht:cg t) (hr:fg t=true) (h0:s.2.2=0) (hl:s.1≤l.length) (e:l.drop s.1=bG t ++ r):kj l s=(ep s (bG t).length,t,true):=by
 simp only [fg,Bool.and_eq_true,beq_iff_eq,bE] at hr;obtain ⟨hf,_,_,hp,hsp,hdp⟩:=hr;have hs16:t.src.2.length=16:=ht.src;have hd16:t.dst.2.length=16:=ht.dst;obtain ⟨c,hc⟩:∃ c:UInt8,c=if t.src.1 then 6 else 4:=⟨_,rfl⟩
 unfold bG at e;rw [←hc,show c :: (t.src.2 ++ (t.dst.2 ++ (cd 1 t.proto.toNat true ++ (cd 2 t.sport.toNat true ++ cd 2 t.dport.toNat true)))) ++ r=[c] ++ (t.src.2 ++ (t.dst.2 ++ (cd 1 t.proto.toNat true ++ (cd 2 t.sport.toNat true ++ (cd 2 t.dport.toNat true ++ r))))) by simp] at e;have h1:=jU (n:=1) h0 hl (x:=[c]) rfl (by simp) (by simp) true e;have E1:=br.of h0 hl e;have e1:=E1.rest e;have h2:=i5 (n:=16) E1.ok' E1.le' (by rw [hs16];rfl) e1;have E2:=br.of E1.ok' E1.le' e1;have e2:=E2.rest e1;have h3:=i5 (n:=16) E2.ok' E2.le' (by rw [hd16];rfl) e2;have E3:=br.of E2.ok' E2.le' e2;have e3:=E3.rest e2;have h4:=jU (n:=1) E3.ok' E3.le' (by rw [aw];rfl) (by rw [aw];decide) (by rw [aw];decide) true e3;have E4:=br.of E3.ok' E3.le' e3;have e4:=E4.rest e3;have h5:=jU (n:=2) E4.ok' E4.le' (by rw [aw];rfl) (by rw [aw];decide) (by rw [aw];decide) true e4;have E5:=br.of E4.ok' E4.le' e4;have e5:=E5.rest e4;have h6:=jU (n:=2) E5.ok' E5.le' (by rw [aw];rfl) (by rw [aw];decide) (by rw [aw];decide) true e5;rw [kF (by omega)] at h4 h5 h6;unfold kj;simp only [h1,h2,h3,h4,h5,h6];rcases t with ⟨⟨s6,sb⟩,⟨d6,db⟩,pr,sp,dp⟩
 simp only at hf hp hsp hdp hs16 hd16 hc ⊢;subst hf;rw [iV hs16,iV hd16,cL];have z1:((pr.toNat:Nat):Int)=pr:=by omega
 have z2:((sp.toNat:Nat):Int)=sp:=by omega
 have z3:((dp.toNat:Nat):Int)=dp:=by omega
 rw [z1,z2,z3];cases s6
 ·have:c=4:=hc
  subst this;simp [ca,bG,Nat.add_assoc,Nat.add_comm,Nat.add_left_comm]
 ·have:c=6:=hc
  subst this;simp [ca,bG,Nat.add_assoc,Nat.add_comm,Nat.add_left_comm]
theorem Gm (ok:bY l s) (h2:(kj l s).2.2=true) (h0:(kj l s).1.2.2=0):br l s (bG (kj l s).2.1) (kj l s).1:=by
 rcases h1:aJ l s 1 true with ⟨s1,fm⟩
 rcases h3:a8 l s1 16 with ⟨s2,sb⟩
 rcases h4:a8 l s2 16 with ⟨s3,db⟩
 rcases h5:aJ l s3 1 true with ⟨s4,pr⟩
 rcases h6:aJ l s4 2 true with ⟨s5,sp⟩
 rcases h7:aJ l s5 2 true with ⟨s6,dp⟩
 have hA:kj l s=(s6,{ src:=(fm == 6,dR sb 16),dst:=(fm == 6,dR db 16),proto:=(pr:Int),sport:=(sp:Int),dport:=(dp:Int) },fm == 6 || fm == 4):=by
  unfold kj;simp only [h1,h3,h4,h5,h6,h7]
 rw [hA] at h2 h0 ⊢;simp only [Bool.or_eq_true,beq_iff_eq] at h2 h0 ⊢;obtain ⟨x6,hx6,E6,v6⟩:=jC (l:=l) (s:=s5) (n:=2) (by decide) (by decide) true (by rw [h7];exact h0);rw [h7] at E6 v6;obtain ⟨x5,hx5,E5,v5⟩:=jC (l:=l) (s:=s4) (n:=2) (by decide) (by decide) true (by rw [h6];exact E6.ok);rw [h6] at E5 v5;obtain ⟨x4,hx4,E4,v4⟩:=jC (l:=l) (s:=s3) (n:=1) (by decide) (by decide) true (by rw [h5];exact E5.ok);rw [h5] at E4 v4;obtain ⟨x3,hx3,E3,v3⟩:=iB (l:=l) (s:=s2) (n:=16) (by decide) (by rw [h4];exact E4.ok);rw [h4] at E3 v3;obtain ⟨x2,hx2,E2,v2⟩:=iB (l:=l) (s:=s1) (n:=16) (by decide) (by rw [h3];exact E3.ok);rw [h3] at E2 v2;obtain ⟨x1,hx1,E1,v1⟩:=jC (l:=l) (s:=s) (n:=1) (by decide) (by decide) true (by rw [h1];exact E2.ok);rw [h1] at E1 v1;simp only at v1 v2 v3 v4 v5 v6 E1 E2 E3 E4 E5 E6;subst v2 v3;obtain ⟨c,rfl⟩:=lc hx1;rw [cL] at v1;have e1:(if (fm == 6)=true then (6:UInt8) else 4)=c:=by
  rcases h2 with h | h
  ·subst h
   exact UInt8.toNat_inj.1 (by simpa using v1)
  ·subst h
   exact UInt8.toNat_inj.1 (by simpa using v1)
 have hx2':sb.length=16:=hx2;have hx3':db.length=16:=hx3;unfold bG;simp only [e1,iV hx2',iV hx3',Int.toNat_natCast,v4,v5,v6];have hx4':x4.length=1:=hx4;have hx5':x5.length=2:=hx5;have hx6':x6.length=2:=hx6;have w4:=uH hx4';have w5:=th hx5';have w6:=th hx6';rw [Int.toNat_natCast] at w4 w5 w6;rw [w4,w5,w6];exact (E1.trans (E2.trans (E3.trans (E4.trans (E5.trans E6)))))
theorem Ej (h:bY l s):bY l (eB l s).1:=by
 simp only [eB];exact dF (dF (dF (ft (tq h) _)))
theorem Fz (ok:bY l s) (h:(eB l s).1.2.2=0):s.2.2=0:=by
 have h1:=tq ok;have h2:=ft h1 255;have h3:=dF h2;simp only [eB] at h;exact Gk ok (tp (pT (pT (pT h (dF h3)) h3) h2) h1)
theorem jo {n:List UInt8} (h:jA n=true):n.length≤24:=by
 simp only [jA,Bool.and_eq_true,decide_eq_true_eq] at h;exact h.2
theorem FA {f:dD} (hk:cg f.key) (hr:eA f=true) (h0:s.2.2=0) (hl:s.1≤l.length) (e:l.drop s.1=bM f ++ r):eB l s=(ep s (bM f).length,f,true):=by
 simp only [eA,Bool.and_eq_true,bE] at hr;obtain ⟨hkn,hnm,hst,hse,hno⟩:=hr;have hnl:=jo hnm;unfold bM at e;simp only [List.append_assoc] at e;have h1:=Gl hk hkn h0 hl e;have E1:=br.of h0 hl e;have e1:=E1.rest e;have h2:=np (m:=255) E1.ok' E1.le' (by omega) (by omega) e1;have E2:=br.of E1.ok' E1.le' e1;have e2:=E2.rest e1;have h3:=o9 E2.ok' E2.le' (by omega) e2;have E3:=br.of E2.ok' E2.le' e2;have e3:=E3.rest e2;have h4:=o9 E3.ok' E3.le' (by omega) e3;have E4:=br.of E3.ok' E3.le' e3;have e4:=E4.rest e3;have h5:=o9 E4.ok' E4.le' (by omega) e4;unfold eB;simp only [h1,h2,h3,h4,h5];rcases f with ⟨k,nm,st,se,no⟩
 simp only at hst hse hno ⊢;have z1:((st.toNat:Nat):Int)=st:=by omega
 have z2:((se.toNat:Nat):Int)=se:=by omega
 have z3:((no.toNat:Nat):Int)=no:=by omega
 rw [z1,z2,z3];simp [ca,bM,Nat.add_assoc]
theorem FB (ok:bY l s) (h2:(eB l s).2.2=true) (h0:lj (eB l s).1=true) (hr:eA (eB l s).2.1=true):br l s (bM (eB l s).2.1) (eB l s).1∧cg (eB l s).2.1.key:=by
 have hsh:=pf l s;rcases h1:kj l s with ⟨s1,k,b1⟩
 rcases h3:bO l s1 255 with ⟨s2,nm⟩
 rcases h4:dB l s2 with ⟨s3,st⟩
 rcases h5:dB l s3 with ⟨s4,se⟩
 rcases h6:dB l s4 with ⟨s5,no⟩
 have hA:eB l s=(s5,{ key:=k,name:=nm,state:=(st:Int),seen:=(se:Int),no:=(no:Int) },b1):=by
  unfold eB;simp only [h1,h3,h4,h5,h6]
 rw [hA] at h2 h0 hr ⊢;simp only at h2;subst h2;simp only [eA,Bool.and_eq_true,bE] at hr;obtain ⟨_,_,hst,hse,hno⟩:=hr;have h0':=(jW.1 h0).2;have ok1:bY l s1:=by have:=tq ok;rw [h1] at this;exact this
 have ok2:bY l s2:=by have:=ft ok1 255;rw [h3] at this;exact this
 have ok3:bY l s3:=by have:=dF ok2;rw [h4] at this;exact this
 have ok4:bY l s4:=by have:=dF ok3;rw [h5] at this;exact this
 have E5:=pc (l:=l) (s:=s4) (by rw [h6];exact h0') ok4.1 (by rw [h6];simp only;omega);rw [h6] at E5;have E4:=pc (l:=l) (s:=s3) (by rw [h5];exact E5.ok) ok3.1 (by rw [h5];simp only;omega);rw [h5] at E4;have E3:=pc (l:=l) (s:=s2) (by rw [h4];exact E4.ok) ok2.1 (by rw [h4];simp only;omega);rw [h4] at E3;have F2:=li (l:=l) (s:=s1) (m:=255) (by rw [h3];exact E3.ok) ok1.1;rw [h3] at F2;have E1:=Gm (l:=l) (s:=s) ok (by rw [h1]) (by rw [h1];exact F2.1.ok);rw [h1] at E1 hsh;refine ⟨?_,hsh⟩;unfold bM;simp only [Int.toNat_natCast];exact E1.trans (F2.1.trans (E3.trans (E4.trans E5)))
theorem pg {b:aU} (h:eT b=true):fL b=true:=by
 simp only [eT,Bool.and_eq_true] at h;have:=jo h.2.1;have hp:=bE.1 h.2.2.1;simp only [fL,Bool.and_eq_true,decide_eq_true_eq,bE];omega
theorem xw {n:Nat} (h:fY n=true):bv n=n:=by
 have hn:j9 n=false:=by
  simp only [fY,Bool.or_eq_true,decide_eq_true_eq] at h;rcases hb:j9 n with _ | _
  ·rfl
  ·have:=sP n hb
   omega
 unfold bv;rw [hn];rfl
theorem C6 {b:aU} (h:eT b=true):uG b:=by
 simp only [eT,Bool.and_eq_true] at h;exact xw h.2.2.2
theorem qD (h:bY l s):bY l (cH l s).1:=by
 have:=yX (bad:=false) h;simp only [cH];exact this
theorem FC (ok:bY l s) (h:(cH l s).1.2.2=0):s.2.2=0:=by
 simp only [cH] at h;have h':=h;unfold dI dQ cy at h';simp only at h';have g6:=lW (by decide) (by decide) h';have g5:=oz (by decide) g6;have g4:=oz (by decide) g5;have g3:=lW (by decide) (by decide) g4;have g2:=oz (by decide) g3;have g1:=lW (by decide) (by decide) g2;exact tp g1 ok
theorem Ay {b:aU} (hs:au b) (hr:eT b=true) (h1:s.2.1=0) (h0:s.2.2=0) (hl:s.1≤l.length) (e:l.drop s.1=aD b ++ r):cH l s=(ep s (aD b).length,b,true):=by
 have h:=CU (bad:=false) hs (pg hr) (C6 hr) h0 hl e;unfold cH eG;rw [h];have:pA (ep s (aD b).length) false=true:=by simp [pA,ep,h1,h0]
 simp only [this,if_true]
theorem Az (ok:bY l s) (h2:(cH l s).2.2=true) (h0:lj (cH l s).1=true):br l s (aD (cH l s).2.1) (cH l s).1∧au (cH l s).2.1:=by
 unfold cH eG at h2 h0 ⊢;simp only at h2 h0 ⊢;split at h2
 ·rename_i hc
  rw [if_pos hc];have hb:(dI l s false).2.1=false:=by
   simp only [pA,Bool.and_eq_true,Bool.not_eq_true'] at hc;exact hc.1
  exact ⟨(CV ok (jW.1 h0).2 hb).2.1,jD l s false⟩
 ·simp at h2
end
end Go.Proofs.YtaafkokfdgfabaaGreat
namespace Go.Proofs.YtaafkokfdgfabaaGreat
open Go.RowKit
set_option linter.unusedVariables false
set_option linter.unusedSimpArgs false
theorem uO {bs:List aU} (h:(List.range bs.length).all (il bs)=true):∀ b ∈ bs,eT b=true:=by
 intro b hb;obtain ⟨i,hi,rfl⟩:=List.getElem_of_mem hb;rw [List.all_eq_true] at h;have:=h i (List.mem_range.2 hi);unfold il at this;rw [List.getElem?_eq_getElem hi] at this;simp only [Bool.and_eq_true] at this;exact this.1
structure C7 (s:bh):Prop where
 ver:0≤s.pool.version∧s.pool.version≤1099511627776
 bl:s.pool.backs.length≤1024
 backs:∀ b ∈ s.pool.backs,eT b=true
 hl:s.healths.length≤1024
 fl:s.flows.length≤4096
 tick:0≤s.tick∧s.tick≤1099511627776
 no:0≤s.no∧s.no≤1152921504606846976
 count:∀ n ∈ s.count,0≤n∧n≤1152921504606846976
 healths:∀ h ∈ s.healths,eE h=true
 flows:∀ f ∈ s.flows,eA f=true
theorem oA {s:bh} (h:fk s=true):C7 s:=by
 simp only [fk,cY,Bool.and_eq_true,decide_eq_true_eq,bE] at h;obtain ⟨⟨h1,h2,h3⟩,h4,h5,h6,h7,h8,h9,h10⟩:=h;exact ⟨h1,h2,uO h3,h4,h5,h6,h7,fun n hn=>bE.1 (List.all_eq_true.1 h8 n hn),List.all_eq_true.1 h9,List.all_eq_true.1 h10⟩
theorem ph {s:bh} (h:C7 s):∀ n ∈ im s,n≤1152921504606846976:=by
 intro n hn;have:=h.tick;have:=h.no;have:=h.ver;simp only [im,List.mem_cons,List.mem_append,List.mem_map,List.mem_nil_iff,or_false] at hn;rcases hn with rfl | rfl | ⟨z,hz,rfl⟩ | rfl
 ·omega
 ·omega
 ·have:=h.count z hz;omega
 ·omega
theorem qE {s:bh} (h:s.count.length=11):(im s).length=14:=by simp [im,h]
theorem AA {s:bh} (h:s.count.length=11) (hr:C7 s):tn (im s) s.pool.backs s.healths s.flows=s:=by
 obtain ⟨⟨ver,backs⟩,healths,flows,tick,no,count⟩:=s;have h1:=hr.tick;have h2:=hr.no;have h3:=hr.ver;have h4:=hr.count;simp only at h h1 h2 h3 h4;match count,h with
 | [a,b,c,d,e,f,g,i,j,k,m],_ =>
  have ha:=h4 a (by simp);have hb:=h4 b (by simp);have hc:=h4 c (by simp);have hd:=h4 d (by simp);have he:=h4 e (by simp);have hf:=h4 f (by simp);have hg:=h4 g (by simp);have hi:=h4 i (by simp);have hj:=h4 j (by simp);have hk:=h4 k (by simp);have hm:=h4 m (by simp);simp [tn,im];omega
theorem zi {ns:List Nat} (h:ns.length=14) (bs:List aU) (hs:List cN) (fs:List dD):im (tn ns bs hs fs)=ns∧(tn ns bs hs fs).count.length=11:=by
 match ns,h with
 | [a,b,c,d,e,f,g,i,j,k,m,n,o,p],_=>exact ⟨rfl,rfl⟩
theorem xy {s:bh} (ok:gG s) (h:fk s=true):gN (eu s)=some s:=by
 have hr:=oA h;obtain ⟨l,hl⟩:∃ l,l=eu s:=⟨_,rfl⟩
 rw [←hl];have e0:l.drop ((0,0,0):St).1=aN (im s) ++ (ed aD s.pool.backs ++ (ed aP s.healths ++ (ed bM s.flows ++ []))):=by
  rw [hl];simp [eu]
 have h1:=zc (im s) (0,0,0) rfl (Nat.zero_le _) (ph hr) e0;rw [qE ok.count] at h1;have E1:=br.of (s:=(0,0,0)) rfl (Nat.zero_le _) e0;have e1:=E1.rest e0;have h2:=xt (one:=cH l) (P:=fun b=>au b∧eT b=true) (enc:=aD) (most:=1024) (fun x s r hP a0 a1 a2 a3=>Ay hP.1 hP.2 a0 a1 a2 a3) (by decide) s.pool.backs (fun b hb=>⟨ok.backs b hb,hr.backs b hb⟩) hr.bl (by rw [E1.at_]) E1.ok' E1.le' e1;have E2:=br.of E1.ok' E1.le' e1;have e2:=E2.rest e1;have h3:=xt (one:=cO l) (P:=fun b=>eE b=true) (enc:=aP) (most:=1024) (fun x s r hP a0 a1 a2 a3=>C4 hP a1 a2 a3) (by decide) s.healths hr.healths hr.hl (by rw [E2.at_,E1.at_]) E2.ok' E2.le' e2;have E3:=br.of E2.ok' E2.le' e2;have e3:=E3.rest e2;have h4:=xt (one:=eB l) (P:=fun f=>cg f.key∧eA f=true) (enc:=bM) (most:=4096) (fun x s r hP a0 a1 a2 a3=>FA hP.1 hP.2 a1 a2 a3) (by decide) s.flows (fun f hf=>⟨ok.flows f hf,hr.flows f hf⟩) hr.fl (by rw [E3.at_,E2.at_,E1.at_]) E3.ok' E3.le' e3;have E4:=br.of E3.ok' E3.le' e3;have hend:iZ l (ep (ep (ep (ep (0,0,0) (aN (im s)).length) (ed aD s.pool.backs).length) (ed aP s.healths).length) (ed bM s.flows).length)=(ep (ep (ep (ep (0,0,0) (aN (im s)).length) (ed aD s.pool.backs).length) (ed aP s.healths).length) (ed bM s.flows).length):=by
  refine wW ?_;rw [hl];simp [eu,ep,Nat.add_assoc]
 unfold gN;simp only [h1,h2,h3,h4,hend,AA ok.count hr,h];rw [if_pos (by simp [lj,ep])]
theorem xz {l:List UInt8} {s:bh} (h:gN l=some s):l=eu s∧fk s=true∧gG s:=by
 have ok0:bY l (0,0,0):=⟨Nat.zero_le _,Nat.zero_le _,Nat.zero_le _⟩
 obtain ⟨s1,ns,h1⟩:∃ s1 ns,fH l 14 (0,0,0)=(s1,ns):=⟨_,_,rfl⟩
 obtain ⟨s2,bs,b2,h2⟩:∃ q bs b,dS l (cH l) 1024 s1=(q,bs,b):=⟨_,_,_,rfl⟩
 obtain ⟨s3,hs,b3,h3⟩:∃ q bs b,dS l (cO l) 1024 s2=(q,bs,b):=⟨_,_,_,rfl⟩
 obtain ⟨s4,fs,b4,h4⟩:∃ q bs b,dS l (eB l) 4096 s3=(q,bs,b):=⟨_,_,_,rfl⟩
 unfold gN at h;simp only [h1,h2,h3,h4] at h;split at h
 ·rename_i hc
  injection h with h
  subst h;simp only [Bool.and_eq_true] at hc;obtain ⟨rfl,rfl,rfl,hf,hb⟩:=hc;have hr:=oA hb;have hlen:ns.length=14:=by have:=pd (l:=l) 14 (0,0,0);rw [h1] at this;exact this
  obtain ⟨hnums,hcnt⟩:=zi hlen bs hs fs;have hnle:=ph hr;rw [hnums] at hnle;obtain ⟨hend,hse⟩:=wV (jW.1 hf).2;rw [hse] at hf;have ok1:bY l s1:=by have:=uN 14 _ ok0;rw [h1] at this;exact this
  have ok2:bY l s2:=by have:=zh (one:=cH l) (most:=1024) (fun s ok=>qD ok) ok1;rw [h2] at this;exact this
  have ok3:bY l s3:=by have:=zh (one:=cO l) (most:=1024) (fun s ok=>r6 ok) ok2;rw [h3] at this;exact this
  have B4:=xv (one:=eB l) (enc:=bM) (R:=fun f=>eA f=true) (Q:=fun f=>cg f.key) (fun s ok a b c=>FB ok a b c) (fun s ok=>Ej ok) (fun s ok h=>Fz ok h) (most:=4096) (by decide) ok3 (by rw [h4]) (by rw [h4];exact (jW.1 hf).2) (by rw [h4];exact hr.flows);rw [h4] at B4;have B3:=xv (one:=cO l) (enc:=aP) (R:=fun f=>eE f=true) (Q:=fun f=>True) (fun s ok a b c=>C5 ok a b c) (fun s ok=>r6 ok) (fun s ok h=>C3 ok h) (most:=1024) (by decide) ok2 (by rw [h3]) (by rw [h3];exact B4.1.ok) (by rw [h3];exact hr.healths);rw [h3] at B3;have B2:=xv (one:=cH l) (enc:=aD) (R:=fun f=>True) (Q:=fun f=>au f) (fun s ok a b c=>Az ok a b) (fun s ok=>qD ok) (fun s ok h=>FC ok h) (most:=1024) (by decide) ok1 (by rw [h2]) (by rw [h2];exact B3.1.ok) (by simp);rw [h2] at B2;have B1:=zd (l:=l) 14 (0,0,0) ok0 (by rw [h1];exact B2.1.ok) (by rw [h1];exact hnle);rw [h1] at B1;have E:=B1.trans (B2.1.trans (B3.1.trans B4.1));refine ⟨?_,hb,⟨B2.2,B4.2,hcnt⟩⟩;simp only at E hend;have et:=E.take;have hto:=E.to;simp only [eu,hnums];show l=aN ns ++ (ed aD bs ++ (ed aP hs ++ ed bM fs))
  rw [hto] at hend;simp only [ep,Nat.zero_add] at hend;rw [List.drop_zero,List.take_of_length_le (by omega)] at et;exact et.symm
 ·cases h
end Go.Proofs.YtaafkokfdgfabaaGreat
namespace Go.Proofs.YtaafkokfdgfabaaGreat
open Go.RowKit
set_option linter.unusedVariables false
set_option linter.unusedSimpArgs false
structure bT where
 conf:bc
 first:Int
 lost:Int
 st:bh
 evs:List da
structure bf (s:bT):Prop where
 conf:ak s.conf
 st:gG s.st
 evs:∀ e ∈ s.evs,aB e
def cI:bh:={ pool:={ version:=0,backs:=[] },healths:=[],flows:=[],tick:=0,no:=0,count:=List.replicate 11 0 }
def cM:bT:={ conf:=bn,first:=0,lost:=0,st:=cI,evs:=[] }
theorem gX:gG cI:=⟨by simp [cI],by simp [cI],by simp [cI]⟩
theorem cZ:bf cM:=⟨gW,gX,by simp [cM]⟩
def jG (a b:fz):Bool:=a.src == b.src && (a.dst == b.dst && (a.proto == b.proto && (a.sport == b.sport && a.dport == b.dport)))
theorem r8 {a b:fz}:jG a b=true↔a=b:=by cases a;cases b;simp [jG]
def gz (c:bc) (s:bh) (i:Nat):Bool :=
 match s.healths[i]?,s.pool.backs[i]? with
 | some h,some b=>h.name == b.name && (decide (0≤h.run) && decide (h.run<(if h.down then c.rise else c.fall)))
 | _,_=>true
def km (s:bh) (i:Nat):Bool :=
 match s.flows[i]? with
 | some f=>eA f && (decide (f.seen≤s.tick) && (decide (1≤f.no) && (decide (f.no≤s.no) && (!((s.flows.take i).any fun g=>jG g.key f.key) && (decide (i=0) || (match s.flows[i - 1]? with | some g=>lV g f | none=>true))))))
 | none=>true
def pi (c:bc) (s:bh):Bool :=
 bH c && (cY s.pool && (decide (s.healths.length=s.pool.backs.length) && (decide ((s.flows.length:Int)≤c.room) && (ez s.tick 0 1099511627776 && (ez s.no 0 1152921504606846976 &&
  (s.count.all (fun n=>ez n 0 1152921504606846976) && ((List.range s.healths.length).all (gz c s) && (List.range s.flows.length).all (km s))))))))
def gY (s:bT):Bool:=pi s.conf s.st && (fk s.st && (ez s.first 0 1152921504606846976 && ez s.lost 0 s.first))
def i7 (s:bT):Bool:=s.evs.all aL && gY s
def kI:List UInt8:=[119,97,121,49]
def bF (s:bT):List UInt8:=kI ++ (aI s.first.toNat ++ (aI s.lost.toNat ++ bK s.conf))
def cj (s:bT):List UInt8:=dE (bF s) ++ dE (eu s.st)
def bC (e:da):List UInt8:=dE (bP e)
def bA (s:bT):List UInt8:=cj s ++ s.evs.flatMap bC
def qH (l:List UInt8):St × Nat:=fJ l (a8 l (0,0,0) 4).1
def pj (l:List UInt8):St × Nat:=fJ l (qH l).1
def rz (l:List UInt8):St × List UInt8:=a8 l (pj l).1 ((l.length - (pj l).1.1:Nat):Int)
def fp (l:List UInt8):Option bT :=
 if (a8 l (0,0,0) 4).2=kI then
  match bL (rz l).2 with
  | some c=>if lj (rz l).1 then some { conf:=c,first:=(min (qH l).2 1152921504606846977:Nat),lost:=(min (pj l).2 1152921504606846977:Nat),st:=cI,evs:=[] } else none
  | none=>none
 else none
def jb:Nat→List UInt8→List da × Nat × Nat
 | 0,_=>([],0,0)
 | k + 1,l =>
  if l=[] then ([],0,0)
  else if (aH l).2.2≠0 then ([],0,(aH l).2.2)
  else match eD (aH l).1 with
   | none=>([],0,3)
   | some e=>(e :: (jb k (l.drop (aH l).2.1)).1,(aH l).2.1 + (jb k (l.drop (aH l).2.1)).2.1,(jb k (l.drop (aH l).2.1)).2.2)
def dU (l:List UInt8):List da × Nat × Nat:=jb l.length l
def aR (b:List UInt8):bT × Nat × Nat :=
 if (aH b).2.2≠0 then (cM,0,(aH b).2.2)
 else match fp (aH b).1 with
  | none=>(cM,0,3)
  | some h =>
   if (aH (b.drop (aH b).2.1)).2.2≠0 then (cM,0,(aH (b.drop (aH b).2.1)).2.2)
   else match gN (aH (b.drop (aH b).2.1)).1 with
    | none=>(cM,0,3)
    | some st =>
     if gY { h with st:=st } then
      ({ h with st:=st,evs:=(dU (b.drop ((aH b).2.1 + (aH (b.drop (aH b).2.1)).2.1))).1 },(aH b).2.1 + (aH (b.drop (aH b).2.1)).2.1 + (dU (b.drop ((aH b).2.1 + (aH (b.drop (aH b).2.1)).2.1))).2.1,(dU (b.drop ((aH b).2.1 + (aH (b.drop (aH b).2.1)).2.1))).2.2)
     else (cM,0,3)
theorem gA {l body:List UInt8} {n:Nat} (h:aH l=(body,n,0)):1≤n∧n≤l.length∧l.take n=dE body∧body.length≤1048576:=by
 obtain ⟨m,j,_,h2,h3,h4,_,h6,h7,h8⟩:=uP h;exact ⟨by omega,h4,h7,by omega⟩
theorem oC:∀ (k j:Nat) (l:List UInt8),l.length≤k→l.length≤j→jb k l=jb j l
 | 0,0,l,_,_=>rfl
 | 0,j + 1,l,h,_=>by
  have:l=[]:=List.eq_nil_of_length_eq_zero (by omega);simp [jb,this]
 | k + 1,0,l,_,h=>by
  have:l=[]:=List.eq_nil_of_length_eq_zero (by omega);simp [jb,this]
 | k + 1,j + 1,l,h1,h2=>by
  unfold jb;by_cases hl:l=[]
  ·rw [if_pos hl,if_pos hl]
  ·rw [if_neg hl,if_neg hl]
   by_cases hn:(aH l).2.2≠0
   ·rw [if_pos hn,if_pos hn]
   ·rw [if_neg hn,if_neg hn]
    have hp:=gA (l:=l) (body:=(aH l).1) (n:=(aH l).2.1) (Prod.ext rfl (Prod.ext rfl (by simpa using hn)));rw [oC k j (l.drop (aH l).2.1) (by rw [List.length_drop];omega) (by rw [List.length_drop];omega)]
theorem oD:dU []=([],0,0):=rfl
theorem tx {l:List UInt8} (hl:l≠[]):dU l =
  if (aH l).2.2≠0 then ([],0,(aH l).2.2)
  else match eD (aH l).1 with
   | none=>([],0,3)
   | some e=>(e :: (dU (l.drop (aH l).2.1)).1,(aH l).2.1 + (dU (l.drop (aH l).2.1)).2.1,(dU (l.drop (aH l).2.1)).2.2):=by
 have h0:0<l.length:=List.length_pos_iff.2 hl;obtain ⟨k,hk⟩:∃ k,l.length=k + 1:=⟨l.length - 1,by omega⟩
 have e:dU l=jb (k + 1) l:=by unfold dU;rw [hk]
 rw [e,jb,if_neg hl];by_cases hn:(aH l).2.2≠0
 ·rw [if_pos hn,if_pos hn]
 ·rw [if_neg hn,if_neg hn]
  have hp:=gA (l:=l) (body:=(aH l).1) (n:=(aH l).2.1) (Prod.ext rfl (Prod.ext rfl (by simpa using hn)));have hd:jb k (l.drop (aH l).2.1)=dU (l.drop (aH l).2.1):=by
   unfold dU;exact oC _ _ _ (by rw [List.length_drop];omega) (Nat.le_refl _)
  rw [hd]
theorem uX {l:List UInt8} (hl:l≠[]) {body:List UInt8} {n w:Nat} (h:aH l=(body,n,w)) (hw:w≠0):dU l=([],0,w):=by
 rw [tx hl,h,if_pos hw]
theorem Eo {l:List UInt8} {body:List UInt8} {n:Nat} (h:aH l=(body,n,0)) (he:eD body=none):dU l=([],0,3):=by
 have hp:=gA h;rw [tx (by intro e;rw [e] at hp;simp at hp;omega),h];simp only [ne_eq,not_true,if_false,he]
theorem pk {l:List UInt8} {body:List UInt8} {n:Nat} {e:da} (h:aH l=(body,n,0)) (he:eD body=some e):dU l=(e :: (dU (l.drop n)).1,n + (dU (l.drop n)).2.1,(dU (l.drop n)).2.2):=by
 have hp:=gA h;rw [tx (by intro e;rw [e] at hp;simp at hp;omega),h];simp only [ne_eq,not_true,if_false,he]
end Go.Proofs.YtaafkokfdgfabaaGreat
