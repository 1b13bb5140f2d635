import Derived.Test.YtaafkokfdgfabaaGreatP8
import Derived.Test.YtaafkokfdgfabaaGreatP9
import Derived.Test.YtaafkokfdgfabaaGreatP10
import Derived.Laws.CopyOwn
import Derived.Deep.Cut
import Derived.Deep.CutRange
import Derived.Deep.RegionHeld3
set_option maxHeartbeats 8000000
set_option maxRecDepth 100000
set_option linter.unusedVariables false
set_option linter.unusedSimpArgs false
open Bool renaming and_eq_true→I1
open List renaming setIfInBounds_toArray→qq,getElem_cons_succ→Iy,getElem_cons_zero→Iz,getElem_toArray→IA,set_cons_succ→IB,set_cons_zero→IC,replicate→ID,append_assoc→IE,length_append→IG,getElem?_eq_getElem→IH,set_append→IK,size_toArray→IL,findIdx?_eq_some_iff_getElem→IS,mem_nil_iff→IU,mem_cons→IV,getElem?_map→I0,getElem_mem→I2,length_replicate→I3,mem_of_mem_take→I4,flatMap_cons→I5,length_cons→I7,mem_append→I9,append_nil→Ja,drop_left→Jc,take_left→Jd,drop_zero→Je,map_cons→Jg,map_nil→Ji,mem_map→Jj
open Nat renaming le_refl→IR,zero_le→IX,min_eq_left→I8,add_assoc→Jh,zero_add→Jk,le_trans→Jl,lt_or_ge→Jm
open Option renaming some→IJ,map_some→IP
open Or renaming inl→IN
open Prod renaming mk→Jb
open UInt8 renaming ofNat→II,toNat_inj→IY,toNat_ofNat'→IZ
namespace Go.Proofs.YtaafkokfdgfabaaGreat
open Go.RowKit
open Lib (hid)
open Act renaming put→IF
open AllReadyH renaming cons→IM,nil→IW
open NoPanic renaming normal→Jf
open Tryz renaming prog→IQ,underlying27→IT,underlying43→I6
def ej(b:List UInt8)(k:Nat):List UInt8:=b++ID (k-b.length) 0
theorem eX{b:List UInt8}{k:Nat}(h:b.length≤k):(ej b k).length=k:=by simp[ej];omega
theorem lE{b:List UInt8}{k:Nat}(h:b.length=k):ej b k=b:=by simp[ej,h]
def bD(l:List UInt8)(s:St):St×Option cO :=
 if (aT l s 1 true).2=6 then ((bG l (aT l s 1 true).1 16).1,if (bG l (aT l s 1 true).1 16).2.length=16 then some (true,(bG l (aT l s 1 true).1 16).2) else none)
 else if (aT l s 1 true).2=4 then ((bG l (aT l s 1 true).1 4).1,if (bG l (aT l s 1 true).1 4).2.length=4 then some (false,ej (bG l (aT l s 1 true).1 4).2 16) else none)
 else ((aT l s 1 true).1,none)
def nS(l:List UInt8)(s:St):St:=(bD l s).1
def rN(l:List UInt8)(s:St):St:=(aT l (nS l s) 1 true).1
def pg(l:List UInt8)(s:St):St:=(aT l (rN l s) 2 true).1
def lF(l:List UInt8)(s:St):St:=(aT l (pg l s) 1 true).1
def z6(l:List UInt8)(s:St)(a:cO):ct:=(a,((aT l (nS l s) 1 true).2:Int),((aT l (rN l s) 2 true).2:Int),(aT l (pg l s) 1 true).2==1)
def ph(l:List UInt8)(s:St):Option ct:=match (bD l s).2 with|some a=>if (aT l (pg l s) 1 true).2≤1 then some (z6 l s a) else none|none=>none
def fw(l:List UInt8):Nat→St→Option (St×List ct)
 |0,s=>some (s,[])
 |k+1,s=>match ph l s with|none=>none|some v=>(fw l k (lF l s)).map fun p=>(p.1,v::p.2)
def dz(l:List UInt8):Nat→St→St×List Nat
 |0,s=>(s,[])
 |k+1,s=>((dz l k (bm l s).1).1,(bm l s).2::(dz l k (bm l s).1).2)
theorem nt(l:List UInt8):∀(k:Nat) (s:St),(dz l k s).2.length=k
 |0,_=>rfl
 |k+1,s=>by simp[dz,nt l k]
def kY(vs:List ct)(ns:List Nat)(mac four six:List UInt8)(ms:List Nat):bf :=
 { vips:=vs,size:=(ns.getD 0 0:Nat),room:=(ns.getD 1 0:Nat),idle:=0::((ns.drop 2).take 5).map Int.ofNat,rise:=(ns.getD 7 0:Nat),fall:=(ns.getD 8 0:Nat),mac:=mac,four:=(false,four),six:=(true,six),most:=(ms.getD 0 0:Nat),keep:=(ms.getD 1 0:Nat),batch:=(ms.getD 2 0:Nat) }
def qo(l:List UInt8)(m:St×Nat):Option (St×List ct):=if m.2≤64 then fw l m.2 m.1 else some (m.1,[])
def dO(l:List UInt8)(s:St)(vs:List ct):St×bf :=
 let n:=dz l 9 s
 let a:=bG l n.1 6
 let b:=bG l a.1 4
 let c:=bG l b.1 16
 let z:=dz l 3 c.1
 (z.1,kY vs n.2 (ej a.2 6) (ej b.2 16) (ej c.2 16) z.2)
def kw(l:List UInt8):Option (St×bf×Nat) :=
 match qo l (bm l (0,0,0)) with
 |none=>none
 |some p=>some ((dO l p.1 p.2).1,(dO l p.1 p.2).2,(bm l (0,0,0)).2)
def cz(l:List UInt8):Option bf :=
 match kw l with
 |none=>none
 |some p=>if (jM l p.1).2.1=0∧(jM l p.1).2.2=0∧p.2.1.vips.length=p.2.2∧aQ p.2.1=true then some p.2.1 else none
section
variable {l:List UInt8} {s:St}
theorem vR{a:cO}(ha:aS a)(h:gD a.2=true):ej (a.2.take 4) 16=a.2:=by
 have hl:a.2.length=16:=ha;have h4:(a.2.take 4).length=4:=by simp[hl]
 have hd:a.2.drop 4=ID 12 0:=by
  rw[List.eq_replicate_iff];refine⟨by simp[hl],fun b hb=>?_⟩;unfold gD at h;rw[List.all_eq_true] at h;simpa using h b hb
 rw[ej,h4,show 16-4=12 from rfl,←hd,List.take_append_drop]
theorem rO{b:List UInt8}(h:b.length=4):gD (ej b 16)=true∧(ej b 16).take 4=b:=by
 constructor
 ·unfold gD ej
  rw[←h,Jc];simp
 ·unfold ej
  rw[←h,Jd]
theorem yB(h0:s.2.2=0)(hl:s.1≤l.length){a:cO}(ha:aS a)(hs:de a=true){r:List UInt8}(e:l.drop s.1=aW a++r):bD l s=(fq s (aW a).length,some a):=by
 have hla:a.2.length=16:=ha;rcases a with ⟨six,b⟩
 simp only at hla;cases six
 ·have hb:de (false,b)=gD b:=rfl
  rw[hb] at hs;have hp:aW (false,b)=[4]++b.take 4:=rfl;rw[hp,IE] at e;have h1:=kK (n:=1) h0 hl rfl (by simp) (by simp) true e;have E1:=cd.of h0 hl e;have e2:=E1.rest e;have hb4:(b.take 4).length=4:=by simp[hla]
  have h2:=jP (n:=4) E1.ok' E1.le' (by rw[hb4];rfl) e2;have hg:ja [(4:UInt8)] true=4:=dF 4;unfold bD;rw[h1,hg,if_neg (show ¬((4:Nat)=6) by decide),if_pos rfl];simp only;rw[h2,hb4,if_pos rfl,vR (a:=(false,b)) ha hs,hp,IG,hb4,cH]
 ·have hp:aW (true,b)=[6]++b:=rfl
  rw[hp,IE] at e;have h1:=kK (n:=1) h0 hl rfl (by simp) (by simp) true e;have E1:=cd.of h0 hl e;have e2:=E1.rest e;have h2:=jP (n:=16) E1.ok' E1.le' (by rw[hla];rfl) e2;have hg:ja [(6:UInt8)] true=6:=dF 6;unfold bD;rw[h1,hg,if_pos rfl];simp only;rw[h2,hla,if_pos rfl,hp,IG,hla,cH]
theorem yC{a:cO}(h:(bD l s).2=some a)(h0:(bD l s).1.2.2=0):cd l s (aW a) (bD l s).1∧aS a∧de a=true:=by
 unfold bD at h h0 ⊢;split at h
 ·rename_i h6
  rw[if_pos h6] at h0 ⊢;obtain⟨x,hx,E2,e2⟩:=mM (n:=16) (by decide) h0;obtain⟨y,hy,E1,e1⟩:=oW (n:=1) (by decide) (by decide) true E2.ok;obtain⟨c,rfl⟩:=oX hy;rw[e1,dF] at h6;have hc:c=6:=by rw[←IY];exact h6
  subst hc;simp only at h;rw[e2,if_pos (show x.length=16 from hx)] at h;injection h with h
  subst h;refine⟨?_,hx,rfl⟩;exact E1.trans E2
 ·rename_i h6
  rw[if_neg h6] at h0 ⊢;split at h
  ·rename_i h4
   rw[if_pos h4] at h0 ⊢;obtain⟨x,hx,E2,e2⟩:=mM (n:=4) (by decide) h0;obtain⟨y,hy,E1,e1⟩:=oW (n:=1) (by decide) (by decide) true E2.ok;obtain⟨c,rfl⟩:=oX hy;rw[e1,dF] at h4;have hc:c=4:=by rw[←IY];exact h4
   subst hc;simp only at h;rw[e2,if_pos (show x.length=4 from hx)] at h;injection h with h
   subst h;have hx4:x.length=4:=hx;refine⟨?_,eX (by omega),?_⟩
   ·have:=E1.trans E2
    have hp:aW (false,ej x 16)=[4]++x:=by simp[aW,(rO hx4).2]
    rw[hp];exact this
   ·simp[de,(rO hx4).1]
  ·cases h
theorem Iu(n:Nat)(h:n<256):(II n).toNat=n:=by rw[IZ];exact Nat.mod_eq_of_lt (by omega)
theorem uv(c:UInt8):II c.toNat=c:=by simp
theorem Hu(h0:s.2.2=0)(hl:s.1≤l.length){v:ct}(ha:aS v.1)(hr:i6 v=true){r:List UInt8}(e:l.drop s.1=bC v++r):ph l s=some v∧lF l s=fq s (bC v).length:=by
 rcases v with ⟨a,p,q,t⟩
 simp only[i6,I1,Bool.or_eq_true,beq_iff_eq] at hr;obtain⟨⟨hs,hp⟩,hq⟩:=hr;have hq':1≤q∧q≤65535:=by simpa[mx] using hq
 have hb:bC (a,p,q,t)=aW a++([II p.toNat]++([II (q.toNat/256),II q.toNat]++[if t then 1 else 0])):=rfl;rw[hb] at e ⊢;simp only[IE] at e;have h1:=yB h0 hl ha hs e;have E1:=cd.of h0 hl e;have e1:=E1.rest e;have h2:=kK (n:=1) E1.ok' E1.le' rfl (by simp) (by simp) true e1;have E2:=cd.of E1.ok' E1.le' e1;have e2:=E2.rest e1;have h3:=kK (n:=2) E2.ok' E2.le' rfl (by simp) (by simp) true e2;have E3:=cd.of E2.ok' E2.le' e2;have e3:=E3.rest e2;have h4:=kK (n:=1) E3.ok' E3.le' rfl (by simp) (by simp) true e3;have g1:ja [II p.toNat] true=p.toNat:=by rw[dF,Iu _ (by omega)]
 have g2:ja [II (q.toNat/256),II q.toNat] true=q.toNat:=by
  rw[lz,Iu _ (by omega),IZ];omega
 have hv1:nS l s=fq s (aW a).length:=by unfold nS;rw[h1]
 have hv2:rN l s=fq (fq s (aW a).length) 1:=by unfold rN;rw[hv1,h2];rfl
 have hv3:pg l s=fq (fq (fq s (aW a).length) 1) 2:=by unfold pg;rw[hv2];exact congrArg Prod.fst h3
 have h3':aT l (fq (fq s (aW a).length) 1) 2 true=_:=h3;have h4':aT l (fq (fq (fq s (aW a).length) 1) 2) 1 true=_:=h4;have hv4:lF l s=fq (fq (fq (fq s (aW a).length) 1) 2) 1:=by unfold lF;rw[hv3];exact congrArg Prod.fst h4
 constructor
 ·have ht:(aT l (pg l s) 1 true).2=if t then 1 else 0:=by
   rw[hv3,h4',dF];cases t<;>rfl
  unfold ph;rw[h1];simp only;rw[ht,if_pos (by split<;>omega)];unfold z6;rw[ht,hv1,hv2,h2,h3',g1,g2];have i1:((p.toNat:Nat):Int)=p:=by omega
  have i2:((q.toNat:Nat):Int)=q:=by omega
  rw[i1,i2];cases t<;>rfl
 ·rw[hv4,cH,cH,cH]
  simp
theorem HJ{v:ct}(h:ph l s=some v)(h0:(lF l s).2.2=0):cd l s (bC v) (lF l s)∧aS v.1:=by
 obtain⟨x4,hx4,E4,e4⟩:=oW (n:=1) (by decide) (by decide) true h0;obtain⟨x3,hx3,E3,e3⟩:=oW (n:=2) (by decide) (by decide) true E4.ok;obtain⟨x2,hx2,E2,e2⟩:=oW (n:=1) (by decide) (by decide) true E3.ok;unfold ph at h;split at h
 ·rename_i a ha
  split at h
  ·rename_i ht
   injection h with h
   obtain⟨E1,hok,hsh⟩:=yC ha E2.ok;obtain⟨c4,rfl⟩:=oX hx4;obtain⟨c3,d3,rfl⟩:=zS hx3;obtain⟨c2,rfl⟩:=oX hx2;have t4:(aT l (pg l s) 1 true).2=c4.toNat:=by rw[e4,dF]
   have t3:(aT l (rN l s) 2 true).2=c3.toNat*256+d3.toNat:=by rw[e3,lz]
   have t2:(aT l (nS l s) 1 true).2=c2.toNat:=by rw[e2,dF]
   have hv:v=(a,(c2.toNat:Int),((c3.toNat*256+d3.toNat:Nat):Int),c4.toNat==1):=by
    rw[←h];unfold z6;rw[t4,t3,t2]
   subst hv;refine⟨?_,hok⟩;have hd:=d3.toNat_lt;have hb:bC (a,(c2.toNat:Int),((c3.toNat*256+d3.toNat:Nat):Int),c4.toNat==1)=aW a++([c2]++([c3,d3]++[c4])):=by
    have k1:(c3.toNat*256+d3.toNat)/256=c3.toNat:=by omega
    have k2:II (c3.toNat*256+d3.toNat)=d3:=by
     rw[←IY,IZ];omega
    have k3:(if (c4.toNat==1)=true then (1:UInt8) else 0)=c4:=by
     rw[t4] at ht;rw[←IY];split
     ·rename_i h1;simp at h1;rw[h1];rfl
     ·rename_i h1;simp at h1
      have:c4.toNat=0:=by omega
      rw[this];rfl
    simp only[bC,Int.toNat_natCast,k1,k2,k3,uv];rfl
   rw[hb];exact E1.trans (E2.trans (E3.trans E4))
  ·cases h
 ·cases h
end
section
variable {l:List UInt8} {s:St}
theorem qp(h:em l s):em l (bD l s).1:=by
 unfold bD;split
 ·exact dX (cK h _ _) _
 ·split
  ·exact dX (cK h _ _) _
  ·exact cK h _ _
theorem z7(h:em l s):em l (lF l s):=cK (cK (cK (qp h) _ _) _ _) _ _
theorem ft(h:em l s):em l (bm l s).1:=n0 h
theorem DP:∀(vs:List ct) (s:St),s.2.2=0→s.1≤l.length→(∀v∈vs,aS v.1∧i6 v=true)→∀{r:List UInt8},l.drop s.1=vs.flatMap bC++r→fw l vs.length s=some (fq s (vs.flatMap bC).length,vs)
 |[],s,_,_,_,_,_=>rfl
 |v::vs,s,h0,hl,hv,r,e=>by
  rw[I5,IE] at e;obtain⟨h1,h2⟩:=Hu h0 hl (hv v (by simp)).1 (hv v (by simp)).2 e;have E1:=cd.of h0 hl e;have ih:=DP vs _ E1.ok' E1.le' (fun u hu=>hv u (by simp[hu])) (E1.rest e);rw[I7,fw,h1];simp only;rw[h2,ih];simp[cH]
theorem DQ:∀(k:Nat) (s s':St) (vs:List ct),em l s→fw l k s=some (s',vs)→s'.2.2=0→vs.length=k∧cd l s (vs.flatMap bC) s'∧∀v∈vs,aS v.1
 |0,s,s',vs,ok,h,h0=>by
  simp only[fw,IJ.injEq,Jb.injEq] at h;obtain⟨rfl,rfl⟩:=h;exact⟨rfl,cd.nil h0 ok.1,by simp⟩
 |k+1,s,s',vs,ok,h,h0=>by
  unfold fw at h;split at h
  ·cases h
  ·rename_i v hv
   rcases hr:fw l k (lF l s) with _|⟨s2,ws⟩
   ·rw[hr] at h;cases h
   ·rw[hr] at h
    simp only[IP,IJ.injEq,Jb.injEq] at h;obtain⟨rfl,rfl⟩:=h;obtain⟨h1,E2,h3⟩:=DQ k _ _ _ (z7 ok) hr h0;obtain⟨E1,h4⟩:=HJ hv E2.ok;refine⟨by simp[h1],?_,?_⟩
    ·rw[I5];exact E1.trans E2
    ·intro u hu
     rcases IV.1 hu with rfl|hu
     ·exact h4
     ·exact h3 u hu
theorem vS(h0:s.2.2=0)(hl:s.1≤l.length){m:Nat}(hm:m≤1048577){r:List UInt8}(e:l.drop s.1=aC m++r):bm l s=(fq s (aC m).length,m):=by
 unfold bm;rw[tj h0 hl (by omega) e,I8 hm]
theorem vT(h0:(bm l s).1.2.2=0)(hl:s.1≤l.length)(hm:(bm l s).2≤1048576):cd l s (aC (bm l s).2) (bm l s).1:=by
 have h:=Ds (l:=l) (s:=s) h0 hl;have e:(bm l s).2=(g9 l s).2:=by
  unfold bm at hm ⊢;simp only at hm ⊢;omega
 rw[e];exact h.2
theorem yD:∀(ns:List Nat) (s:St),s.2.2=0→s.1≤l.length→(∀n∈ns,n≤1048577)→∀{r:List UInt8},l.drop s.1=aJ ns++r→dz l ns.length s=(fq s (aJ ns).length,ns)
 |[],s,_,_,_,_,_=>rfl
 |n::ns,s,h0,hl,hn,r,e=>by
  rw[aJ,IE] at e;have h1:=vS h0 hl (hn n (by simp)) e;have E1:=cd.of h0 hl e;have ih:=yD ns _ E1.ok' E1.le' (fun u hu=>hn u (by simp[hu])) (E1.rest e);rw[I7,dz,h1];simp only;rw[ih];simp[cH,aJ]
theorem z8:∀(k:Nat) (s:St),em l s→em l (dz l k s).1
 |0,s,h=>h
 |k+1,s,h=>z8 k _ (ft h)
theorem yE:∀(k:Nat) (s:St),em l s→(dz l k s).1.2.2=0→(∀n∈(dz l k s).2,n≤1048576)→cd l s (aJ (dz l k s).2) (dz l k s).1
 |0,s,ok,h0,_=>cd.nil h0 ok.1
 |k+1,s,ok,h0,hn=>by
  have E2:=yE k (bm l s).1 (ft ok) h0 (fun n h=>hn n (by simp[dz,h]));have E1:=vT (l:=l) (s:=s) E2.ok ok.1 (hn _ (by simp[dz]));exact E1.trans E2
end
structure iW(f:bf):Prop where
 idle:mH f.idle=true
 vips:jG f.vips=true
 size:2≤f.size∧f.size≤65537
 prime:jO f.size.toNat=true
 room:1≤f.room∧f.room≤4096
 rise:1≤f.rise∧f.rise≤100
 fall:1≤f.fall∧f.fall≤100
 four6:f.four.1=false
 fours:de f.four=true
 six6:f.six.1=true
 most:1000≤f.most∧f.most≤1048576
 keep:1≤f.keep∧f.keep≤100
 batch:1≤f.batch∧f.batch≤1000
theorem gH{f:bf}:aQ f=true↔iW f:=by
 unfold aQ;simp only[I1,j4,Bool.not_eq_true'];constructor
 ·rintro⟨h1,h2,h3,h4,h5,h6,h7,h8,h9,h10,h11,h12,h13⟩
  exact⟨h1,h2,h3,h4,h5,h6,h7,h8,h9,h10,h11,h12,h13⟩
 ·rintro⟨h1,h2,h3,h4,h5,h6,h7,h8,h9,h10,h11,h12,h13⟩
  exact⟨h1,h2,h3,h4,h5,h6,h7,h8,h9,h10,h11,h12,h13⟩
theorem jj{vs:List ct}(h:jG vs=true):vs.length≤64∧∀v∈vs,i6 v=true:=by
 rw[jd] at h;refine⟨h.1,fun v hv=>?_⟩;obtain⟨i,hi,rfl⟩:=List.getElem_of_mem hv;have:=h.2 i hi;unfold kp at this;rw[IH hi] at this;simp only[I1] at this;exact this.1
section
variable {l:List UInt8}
theorem sN{f:bf}(hs:ao f)(hr:iW f):kY f.vips (dd f) f.mac f.four.2 f.six.2 (dN f)=f:=by
 obtain⟨vips,size,room,idle,rise,fall,mac,⟨four1,four2⟩,⟨six1,six2⟩,most,keep,batch⟩:=f;have hi:=hs.idle;have h4:=hr.four6;have h6:=hr.six6;have hiq:=jc hr.idle;have:=hr.size;have:=hr.room;have:=hr.rise;have:=hr.fall;have:=hr.most;have:=hr.keep;have:=hr.batch;simp only at *;subst h4 h6;match idle,hi with
 |[a,b,c,d,e,g],_ =>
  obtain⟨hz,hall⟩:=hiq;simp only[List.head?_cons,IJ.injEq] at hz;subst hz;have hb:=hall b (by simp);have hc:=hall c (by simp);have hd:=hall d (by simp);have he:=hall e (by simp);have hg:=hall g (by simp);simp only[kY,dd,dN,List.drop_succ_cons,Je,Jg,Ji,List.cons_append,List.nil_append,List.getD_cons_zero,List.getD_cons_succ,List.take_succ_cons,List.take_zero,bf.mk.injEq,List.cons.injEq,Int.ofNat_eq_natCast];refine⟨trivial,by omega,by omega,⟨trivial,by omega,by omega,by omega,by omega,by omega,trivial⟩,by omega,by omega,trivial,trivial,trivial,by omega,by omega,by omega⟩
theorem uw{f:bf}(hs:ao f):(dd f).length=9:=by simp[dd,hs.idle]
theorem mN{f:bf}(hs:ao f)(hr:iW f):∀n∈dd f,n≤1048577:=by
 intro n hn;have:=hr.size;have:=hr.room;have:=hr.rise;have:=hr.fall;simp only[dd,IV,I9,Jj,IU,or_false] at hn;rcases hn with rfl|rfl|⟨z,hz,rfl⟩|rfl|rfl
 ·omega
 ·omega
 ·have:=(jc hr.idle).2 z (List.mem_of_mem_drop hz);omega
 ·omega
 ·omega
theorem mO{f:bf}(hr:iW f):∀n∈dN f,n≤1048577:=by
 intro n hn;have:=hr.most;have:=hr.keep;have:=hr.batch;simp only[dN,IV,IU,or_false] at hn;rcases hn with rfl|rfl|rfl<;>omega
end
section
variable {l:List UInt8} {s:St}
theorem yI{f:bf}(hs:ao f)(hr:iW f)(h0:s.2.2=0)(hl:s.1≤l.length){r:List UInt8}
  (e:l.drop s.1=aJ (dd f)++(f.mac++(f.four.2.take 4++(f.six.2++(aJ (dN f)++r))))) :
  dO l s f.vips=(fq s (aJ (dd f)++(f.mac++(f.four.2.take 4++(f.six.2++aJ (dN f))))).length,f):=by
 have hf:f.four.2.length=16:=hs.four;have h6:f.six.2.length=16:=hs.six;have hm:=hs.mac;have hf4:(f.four.2.take 4).length=4:=by simp[hf]
 have h1:=yD (dd f) s h0 hl (mN hs hr) e;rw[uw hs] at h1;have E1:=cd.of h0 hl e;have e1:=E1.rest e;have h2:=jP (n:=6) E1.ok' E1.le' (by rw[hm];rfl) e1;have E2:=cd.of E1.ok' E1.le' e1;have e2:=E2.rest e1;have h3:=jP (n:=4) E2.ok' E2.le' (by rw[hf4];rfl) e2;have E3:=cd.of E2.ok' E2.le' e2;have e3:=E3.rest e2;have h4:=jP (n:=16) E3.ok' E3.le' (by rw[h6];rfl) e3;have E4:=cd.of E3.ok' E3.le' e3;have e4:=E4.rest e3;have h5:=yD (dN f) _ E4.ok' E4.le' (mO hr) e4;rw[show (dN f).length=3 from rfl] at h5;have ht:gD f.four.2=true:=by
  have:=hr.fours;unfold de at this;rw[hr.four6] at this;simpa using this
 unfold dO;simp only[h1,h2,h3,h4,h5];rw[lE hm,lE h6,vR hs.four ht,sN hs hr,cH,cH,cH,cH];simp only[IG,Jh]
theorem ot{f:bf}(hs:ao f)(hr:iW f):f.vips.length≤64∧∀v∈f.vips,aS v.1∧i6 v=true :=
 ⟨(jj hr.vips).1,fun v hv=>⟨hs.vips v hv,(jj hr.vips).2 v hv⟩⟩
theorem BD{f:bf}(hs:ao f)(hr:iW f)(r:List UInt8):kw (bM f++r)=some (fq (0,0,0) (bM f).length,f,f.vips.length):=by
 obtain⟨hv64,hv⟩:=ot hs hr;obtain⟨l,hl⟩:∃l,l=bM f++r:=⟨_,rfl⟩;have e0:l.drop ((0,0,0):St).1=aC f.vips.length++(f.vips.flatMap bC++(aJ (dd f)++(f.mac++(f.four.2.take 4++(f.six.2++(aJ (dN f)++r)))))):=by
  rw[hl];simp[bM,IE]
 rw[←hl];have h1:=vS (s:=(0,0,0)) rfl (IX _) (by omega:f.vips.length≤1048577) e0;have E1:=cd.of (s:=(0,0,0)) rfl (IX _) e0;have e1:=E1.rest e0;have h2:=DP f.vips _ E1.ok' E1.le' hv e1;have E2:=cd.of E1.ok' E1.le' e1;have e2:=E2.rest e1;have h3:=yI hs hr E2.ok' E2.le' e2;unfold kw qo;rw[h1];simp only;rw[if_pos hv64,h2];simp only;rw[h3,cH,cH];simp only[bM,IG,Jh]
theorem vZ{vs:List ct}{ns:List Nat}{mac four six:List UInt8}{ms:List Nat}(h:ns.length=9):dd (kY vs ns mac four six ms)=ns:=by
 match ns,h with
 |[a,b,c,d,e,f,g,i,j],_=>rfl
theorem wh{vs:List ct}{ns:List Nat}{mac four six:List UInt8}{ms:List Nat}(h:ms.length=3):dN (kY vs ns mac four six ms)=ms:=by
 match ms,h with
 |[a,b,c],_=>rfl
theorem yJ{vs:List ct}(ok:em l s)(h0:(dO l s vs).1.2.2=0)(hr:iW (dO l s vs).2) :
  cd l s (aJ (dd (dO l s vs).2)++((dO l s vs).2.mac++((dO l s vs).2.four.2.take 4++((dO l s vs).2.six.2++aJ (dN (dO l s vs).2))))) (dO l s vs).1∧((∀v∈vs,aS v.1)→ao (dO l s vs).2):=by
 obtain⟨s1,ns,h1⟩:∃s1 ns,dz l 9 s=(s1,ns):=⟨_,_,rfl⟩;obtain⟨s2,mac,h2⟩:∃s2 mac,bG l s1 6=(s2,mac):=⟨_,_,rfl⟩;obtain⟨s3,four,h3⟩:∃s3 four,bG l s2 4=(s3,four):=⟨_,_,rfl⟩;obtain⟨s4,six,h4⟩:∃s4 six,bG l s3 16=(s4,six):=⟨_,_,rfl⟩;obtain⟨s5,ms,h5⟩:∃s5 ms,dz l 3 s4=(s5,ms):=⟨_,_,rfl⟩;have hb:dO l s vs=(s5,kY vs ns (ej mac 6) (ej four 16) (ej six 16) ms):=by
  unfold dO;simp only[h1,h2,h3,h4,h5]
 rw[hb] at h0 hr ⊢;simp only at h0 hr ⊢;have hns:ns.length=9:=by have:=nt l 9 s;rw[h1] at this;exact this
 have hms:ms.length=3:=by have:=nt l 3 s4;rw[h5] at this;exact this
 have e1:=vZ (vs:=vs) (mac:=ej mac 6) (four:=ej four 16) (six:=ej six 16) (ms:=ms) hns;have e2:=wh (vs:=vs) (mac:=ej mac 6) (four:=ej four 16) (six:=ej six 16) (ns:=ns) hms;have ok1:em l s1:=by have:=z8 9 s ok;rw[h1] at this;exact this
 have ok2:em l s2:=by have:=dX ok1 6;rw[h2] at this;exact this
 have ok3:em l s3:=by have:=dX ok2 4;rw[h3] at this;exact this
 have ok4:em l s4:=by have:=dX ok3 16;rw[h4] at this;exact this
 have hlast:∀n∈ms,n≤1048576:=by
  intro n hn;rw[←e2] at hn;have:=hr.most;have:=hr.keep;have:=hr.batch;simp only[dN,IV,IU,or_false] at hn;rcases hn with rfl|rfl|rfl<;>omega
 have hnums:∀n∈ns,n≤1048576:=by
  intro n hn;rw[←e1] at hn;have:=hr.size;have:=hr.room;have:=hr.rise;have:=hr.fall;simp only[dd,IV,I9,Jj,IU,or_false] at hn;rcases hn with rfl|rfl|⟨z,hz,rfl⟩|rfl|rfl
  ·omega
  ·omega
  ·have:=(jc hr.idle).2 z (List.mem_of_mem_drop hz);omega
  ·omega
  ·omega
 have E5:=yE 3 s4 ok4 (by rw[h5];exact h0) (by rw[h5];exact hlast);rw[h5] at E5;obtain⟨x4,hx4,E4,y4⟩:=mM (l:=l) (s:=s3) (n:=16) (by decide) (by rw[h4];exact E5.ok);rw[h4] at E4 y4;obtain⟨x3,hx3,E3,y3⟩:=mM (l:=l) (s:=s2) (n:=4) (by decide) (by rw[h3];exact E4.ok);rw[h3] at E3 y3;obtain⟨x2,hx2,E2,y2⟩:=mM (l:=l) (s:=s1) (n:=6) (by decide) (by rw[h2];exact E3.ok);rw[h2] at E2 y2;have E1:=yE 9 s ok (by rw[h1];exact E2.ok) (by rw[h1];exact hnums);rw[h1] at E1;simp only at y2 y3 y4;subst y2 y3 y4;have hx2':mac.length=6:=hx2;have hx3':four.length=4:=hx3;have hx4':six.length=16:=hx4;have g1:(kY vs ns (ej mac 6) (ej four 16) (ej six 16) ms).mac=mac:=lE hx2';have g2:(kY vs ns (ej mac 6) (ej four 16) (ej six 16) ms).four.2.take 4=four:=(rO hx3').2;have g3:(kY vs ns (ej mac 6) (ej four 16) (ej six 16) ms).six.2=six:=lE hx4';rw[e1,e2,g1,g2,g3];refine⟨E1.trans (E2.trans (E3.trans (E4.trans E5))),fun hv=>?_⟩;refine⟨hv,?_,?_,?_,?_⟩
 ·match ns,hns with
  |[a,b,c,d,e,f,g,i,j],_=>rfl
 ·show (ej mac 6).length=6
  exact eX (by omega)
 ·show (ej four 16).length=16
  exact eX (by omega)
 ·show (ej six 16).length=16
  exact eX (by omega)
theorem BE{f:bf}{many:Nat}(h:kw l=some (s,f,many))(h0:s.2.2=0)(hm:f.vips.length=many)(hr:iW f):cd l (0,0,0) (bM f) s∧ao f:=by
 have ok0:em l (0,0,0):=⟨IX _,IX _,IX _⟩;unfold kw at h;split at h
 ·cases h
 ·rename_i p hp
  simp only[IJ.injEq,Jb.injEq] at h;obtain⟨h1,h2,h3⟩:=h;have hv64:=(jj hr.vips).1;have hvs:(dO l p.1 p.2).2.vips=p.2:=rfl;have hn:(bm l (0,0,0)).2=p.2.length:=by rw[h3,←hm,←h2,hvs]
  unfold qo at hp;rw[if_pos (by rw[hn,←hvs,h2];exact hv64)] at hp;have okn:=ft ok0;have okp:∀(k:Nat) (s s':St) (vs:List ct),em l s→fw l k s=some (s',vs)→em l s':=by
   intro k;induction k with
   |zero =>
    intro s s' vs ok h;simp only[fw,IJ.injEq,Jb.injEq] at h;rw[←h.1];exact ok
   |succ k ih =>
    intro s s' vs ok h;unfold fw at h;split at h
    ·cases h
    ·rcases hr:fw l k (lF l s) with _|⟨s2,ws⟩
     ·rw[hr] at h;cases h
     ·rw[hr] at h
      simp only[IP,IJ.injEq,Jb.injEq] at h;rw[←h.1];exact ih _ _ _ (z7 ok) hr
  have okp2:em l p.1:=okp _ _ p.1 p.2 okn hp;rw[←h2] at hr;have hb0:(dO l p.1 p.2).1.2.2=0:=by rw[h1];exact h0
  obtain⟨E3,hsh⟩:=yJ okp2 hb0 hr;have hsz:p.1.2.2=0:=E3.ok;obtain⟨_,E2,hv⟩:=DQ _ _ p.1 p.2 okn hp hsz;have hsh:=hsh hv;have E1:=vT (l:=l) (s:=(0,0,0)) E2.ok (IX _) (by rw[hn,←hvs,h2];omega);rw[hn] at E1;rw[h1,h2] at E3;rw[h2] at hsh;refine⟨?_,hsh⟩;have hp2:p.2=f.vips:=by rw[←hvs,h2]
  rw[hp2] at E1 E2;exact E1.trans (E2.trans E3)
theorem BF{f:bf}(h:cz l=some f):l=bM f∧iW f∧ao f:=by
 unfold cz at h;split at h
 ·cases h
 ·rename_i p hp
  split at h
  ·rename_i hc
   injection h with h
   obtain⟨h1,h2,h3,h4⟩:=hc;obtain⟨h5,h6⟩:=Dt h2;rw[h6] at h2;obtain⟨s,d,many⟩:=p;simp only at h h2 h3 h4 h5;subst h;have hr:=gH.1 h4;obtain⟨E,hsh⟩:=BE hp h2 h3 hr;refine⟨?_,hr,hsh⟩;have e:=E.eq;have hle:=E.le;rw[E.to] at h5;simp only[fq,Jk] at h5 hle;simp only[Je,Jk] at e;rw[List.drop_of_length_le (by omega),Ja] at e;exact e
  ·cases h
theorem BG{f:bf}(hs:ao f)(hr:iW f):cz (bM f)=some f:=by
 have h:=BD hs hr [];rw[Ja] at h;unfold cz;rw[h];simp only;rw[yr (by simp[fq])];simp only[fq];rw[if_pos ⟨trivial,trivial,trivial,gH.2 hr⟩]
theorem qr{l:List UInt8}{f:bf}:cz l=some f↔l=bM f∧iW f∧ao f :=
 ⟨BF,fun ⟨h1,h2,h3⟩=>by rw[h1];exact BG h3 h2⟩
end
theorem mP:(IQ.info? 5).map (·.size)=some 1:=by kernel_rfl
theorem cG{w w1 w2:World}{g k:Nat}(h:w.grownBy w1 (some g))(hk:w.heap.size≤k)(h2:w1.grownBy w2 (some k)):w.grownBy w2 (some g) :=
 ⟨h2.os.trans h.os,h2.tape.trans h.tape,h2.output.trans h.output,Jl h.size h2.size,fun j hj hne=>(h2.block j (Nat.lt_of_lt_of_le hj h.size) (fun e=>by injection e with e;omega)).trans (h.block j hj hne)⟩
theorem mA{P:Program}{w:World}{ops:Array Oper}{rest:List Oper}{o:Oper}{a:Act}{Q:Exit→Act→World→Prop}(hgd:o.guard=none)(d s:Operand)(dT sT:TypeId)
  (ho:o.op=.call { callee:=.builtin .copy,args:=#[d,s],argTypes:=#[dT,sT] }) (elem:TypeId) (hu:P.underlying dT=some (.slice elem)) (hsz:(P.info? elem).map (·.size)=some 1)
  (g off dLen dCap:Nat) (ad:Addr) (sLen sCap:Nat) (hd:a.eval d=.slice (some ⟨g,off,none⟩) dLen dCap) (hs:a.eval s=.slice (some ad) sLen sCap)
  (cur:List Value) (t:TypeId) (hg:aj w g t cur.toArray) (cs:List Value) (hn:cs.length=Nat.min sLen dLen)
  (hsrc:∀j v,cs[j]?=some v→w.cell? (ad.add j)=some v) (hfit:off+cs.length≤cur.length) (h1:∀v∈cs,v.oneCell'=true) (res:List Value) (hres:cur.take off++(cs++cur.drop (off+cs.length))=res)
  (h:wpList P ops Q rest (a.put o.dst (goInt cs.length)) (w.setRow g res.toArray)):wpList P ops Q (o::rest) a w:=by
 refine wpList_copy_own hgd d s dT sT ho elem hu hsz g off dLen dCap ad sLen sCap hd hs cur.toArray t hg cs hn hsrc (by simpa using hfit) h1 ?_;simp only[List.toList_toArray,hres];exact h
def jW(l:List UInt8)(s:St):cO:=(bD l s).2.getD dy
def DX(w:World)(base g:Nat)(l:List UInt8)(s:St)(x:Ending)(w':World):Prop :=
 x=.returned (.tuple #[.agg (ai (jW l s)).toArray,.bool (bD l s).2.isSome])∧eY w' base g l (bD l s).1∧w.grownBy w' (some g)
theorem Fo{b:List UInt8}(h:b.length=16):((ai (true,dy.2)).take 1++(ab b++(ai (true,dy.2)).drop (1+(ab b).length)))=ai (true,b):=by
 rw[ap,h];show [Value.bool true]++(ab b++[])=_
 simp[ai]
theorem Fp{b:List UInt8}(h:b.length=4):((ai dy).take 1++(ab b++(ai dy).drop (1+(ab b).length)))=ai (false,ej b 16):=by
 rw[ap,h];show [Value.bool false]++(ab b++ID 12 (.int .u8 0))=_
 rw[ai,ej,dL,h];rfl
theorem uy(base g:Nat)(l:List UInt8)(s:St)(w:World)(h:eY w base g l s)(hs:em l s)(hl:l.length≤1000000000) :
  Calls IQ 152 #[.pointer (some ⟨g,0,none⟩)] w (DX w base g l s):=by
 have hgl:g<w.heap.size:=h.lt;obtain⟨W,hW⟩:∃W,W=(w.alloc (.cells (ai dy).toArray 27)).alloc (.cells (ai dy).toArray 27):=⟨_,rfl⟩;have hX2:aj W w.heap.size 27 (ai dy).toArray:=by rw[hW];exact aj.alloc (aj.new w _ _ _ rfl) _
 have hX4:aj W (w.heap.size+1) 27 (ai dy).toArray:=by rw[hW];exact aj.new _ _ _ _ (by simp)
 have hB:Below w.heap.size w W:=by rw[hW];exact ((Below.refl _ _).alloc (IR _) _).alloc (by simp) _
 have Hnum:=hid (cV base g l s W 1 true (h.below hB) hs hl);have hok1:=cK hs 1 true;rcases hn:aT l s 1 true with ⟨s1,v⟩
 rw[hn] at Hnum hok1;have hT:bD l s=(if v=6 then ((bG l s1 16).1,if (bG l s1 16).2.length=16 then some (true,(bG l s1 16).2) else none) else if v=4 then ((bG l s1 4).1,if (bG l s1 4).2.length=4 then some (false,ej (bG l s1 4).2 16) else none) else (s1,none)):=by unfold bD;rw[hn]
 have HT:=hid hT;have HW:=hid hW;have HX2:=hid hX2;have HX4:=hid hX4;have HB:=hid hB;rw[iD] at HW;clear hT hW hX2 hX4 hB hn h;by_cases h6:v=6
 ·have h6I:(v:Int)=6:=by omega
  have hok2:=dX hok1 16;have Htk:=hid (fun w' h=>ew base g l s1 w' 16 h hok1 hl (by omega));rcases ht:bG l s1 16 with ⟨s2,b⟩
  rw[ht] at Htk hok2;have hS1:(bD l s).1=s2:=by rw[HT.out,if_pos h6,ht]
  have HS1:=hid hS1;by_cases hb:b.length=16
  ·have hS2:(bD l s).2=some (true,b):=by rw[HT.out,if_pos h6,ht];simp[hb]
   have hR:jW l s=(true,b):=by unfold jW;rw[hS2];rfl
   have hbI:(b.length:Int)=16:=by omega
   have hao:aS (true,b):=hb;have HR:=hid hR;have HS2:=hid hS2;have Hb:=hid hb;have Hasz:=hid (eo hao);clear hR hS2 hS1 ht hb;go_enter Tryz.func152,Tryz.ntmps152
   go_upto_region 2 with fail
   rw[←HW.out]
   go_wp2_with fail
   refine Hnum.out.mono ?_;rintro e w1 ⟨rfl,hR1,hg1⟩;have hXa:=aj.grown HX2.out hg1 (fun e=>by injection e with e;omega);have hXb:=aj.grown HX4.out hg1 (fun e=>by injection e with e;omega);have c0:w1.cell? ⟨w.heap.size+1,0,none⟩=some (.bool false):=kG hXb;have f0:w1.frozen? ⟨w.heap.size+1,0,none⟩=false:=hXb.frozen 0;have hXc:aj (w1.setCell ⟨w.heap.size+1,0,none⟩ (.bool true)) (w.heap.size+1) 27 (ai (true,dy.2)).toArray:=aj.set_ hXb 0 (.bool true);have hXd:=aj.far hXa (p:=⟨w.heap.size+1,0,none⟩) (by simp) (.bool true);have hgs:=a8 w1 ⟨w.heap.size+1,0,none⟩ (.bool true);have hR1':=eY.off hR1 hgs hXb (by decide) (by decide);have hg1':=cG (aq (bE HB.out) hg1) (Nat.le_succ _) hgs;have HXc:=hid hXc;have HXd:=hid hXd;have HR1:=hid hR1';have Hg1:=hid hg1';clear hXc hXd hR1 hR1' hg1 hg1' hXa hXb hgs
   go_wp2_with fail
   refine (Htk.out _ HR1.out).mono ?_;rintro e w2 ⟨A,c,rfl,hown,hR2,hg2⟩;simp only at hown hR2;have hY4:=aj.grown HXc.out hg2 (fun e=>by injection e with e;omega);have hY2:=aj.grown HXd.out hg2 (fun e=>by injection e with e;omega);have hgw2:w.grownBy w2 (some g):=aq Hg1.out hg2;obtain⟨ad,rfl,hadb,hcell⟩:=(BS.of_own hown).1 (by rw[Hb.out];decide);have Hsrc:Hid (∀j u,(ab b)[j]?=some u→w2.cell? (ad.add j)=some u):=fun j u hj=>by
    rw[ab,I0] at hj;rcases hm:b[j]? with _|y
    ·rw[hm] at hj;cases hj
    ·rw[hm] at hj
     simp only[IP,IJ.injEq] at hj;rw[←hj];exact hcell j y hm
   have hZ4:aj (w2.setRow (w.heap.size+1) (ai (true,b)).toArray) (w.heap.size+1) 27 (ai (true,b)).toArray:=aj.row hY4 _;have hZ2:aj (w2.setRow (w.heap.size+1) (ai (true,b)).toArray) w.heap.size 27 (ai dy).toArray:=aj.rowFar hY2 (by omega) _;have hgr:=oS w2 (w.heap.size+1) (ai (true,b)).toArray;have hR3:=eY.off hR2 hgr hY4 (by decide) (by decide);have hg3:=cG hgw2 (Nat.le_succ _) hgr;have Hth:Hid ((w2.setRow (w.heap.size+1) (ai (true,b)).toArray).there w.heap.size 0 (ai (true,b)).toArray.size):=hZ2.there (by rw[iD,IL,ar hao];decide);have HY4:=hid hY4;have HZ2:=hid hZ2;have HRg:=hid (ag hZ4);have HR3:=hid hR3;have Hg3:=hid hg3;clear hown hR2 hg2 hY4 hY2 hgw2 hcell hZ4 hZ2 hgr hR3 hg3 HXc HXd HR1 Hg1
   go_wp2_with (first
    |((with_reducible refine rt .copy ?_);refine mA rfl _ _ 43 43 rfl 5 I6 mP (w.heap.size+1) 1 16 16 ad b.length c rfl rfl (ai (true,dy.2)) _ HY4.out (ab b) (by rw[ap,Hb.out];rfl) Hsrc.out (by rw[ap,Hb.out];decide) (eP b) (ai (true,b)) (Fo Hb.out) ?_)
    |((with_reducible refine aB 27 ?_);refine aa (by rfl) 27 (.tmp 4) rfl (w.heap.size+1) 0 rfl (ai (true,b)) _ HRg.out IT rfl Hasz.out ?_)
    |((with_reducible refine aR 27 ?_);refine wpList_store_mid rfl 27 (.tmp 2) (.tmp 26) rfl w.heap.size 0 (ai (true,b)).toArray rfl rfl Hth.out Hasz.out (li _) ?_))
   have hX9:=aj.setCells (ai (true,b)) 0 HZ2.out;rw[bn (by rw[ar hao];rfl)] at hX9;refine bodyPost_ret (v:=.tuple #[.agg (ai (true,b)).toArray,.bool true]) (aN (P:=IQ) (p:=2) (u:=3) rfl _ _ w.heap.size _ _ _ _ rfl hX9 cS rfl Hasz.out) rfl ⟨?_,?_,?_⟩
   ·rw[HR.out,HS2.out];rfl
   ·rw[HS1.out]
    exact eY.off HR3.out (aY _ _ 0 _ _ (bE (Below.refl _ _))) HZ2.out (by decide) (by decide)
   ·exact cG Hg3.out (IR _) (aY _ _ 0 _ _ (bE (Below.refl _ _)))
  ·have hS2:(bD l s).2=none:=by rw[HT.out,if_pos h6,ht];simp[hb]
   have hR:jW l s=dy:=by unfold jW;rw[hS2];rfl
   have hbI:¬(b.length:Int)=16:=by omega
   have HR:=hid hR;have HS2:=hid hS2;clear hR hS2 hS1 ht;go_enter Tryz.func152,Tryz.ntmps152
   go_upto_region 2 with fail
   rw[←HW.out]
   go_wp2_with fail
   refine Hnum.out.mono ?_;rintro e w1 ⟨rfl,hR1,hg1⟩;have hXa:=aj.grown HX2.out hg1 (fun e=>by injection e with e;omega);have hXb:=aj.grown HX4.out hg1 (fun e=>by injection e with e;omega);have c0:w1.cell? ⟨w.heap.size+1,0,none⟩=some (.bool false):=kG hXb;have f0:w1.frozen? ⟨w.heap.size+1,0,none⟩=false:=hXb.frozen 0;have hXc:aj (w1.setCell ⟨w.heap.size+1,0,none⟩ (.bool true)) (w.heap.size+1) 27 (ai (true,dy.2)).toArray:=aj.set_ hXb 0 (.bool true);have hXd:=aj.far hXa (p:=⟨w.heap.size+1,0,none⟩) (by simp) (.bool true);have hgs:=a8 w1 ⟨w.heap.size+1,0,none⟩ (.bool true);have hR1':=eY.off hR1 hgs hXb (by decide) (by decide);have hg1':=cG (aq (bE HB.out) hg1) (Nat.le_succ _) hgs;have HXc:=hid hXc;have HXd:=hid hXd;have HR1:=hid hR1';have Hg1:=hid hg1';clear hXc hXd hR1 hR1' hg1 hg1' hXa hXb hgs
   go_wp2_with fail
   refine (Htk.out _ HR1.out).mono ?_;rintro e w2 ⟨A,c,rfl,hown,hR2,hg2⟩;simp only at hown hR2;have hY4:=aj.grown HXc.out hg2 (fun e=>by injection e with e;omega);have hY2:=aj.grown HXd.out hg2 (fun e=>by injection e with e;omega);have hgw2:w.grownBy w2 (some g):=aq Hg1.out hg2;have Hth:Hid (w2.there w.heap.size 0 17):=hY2.there (by rw[iD];decide);have HY2:=hid hY2;have HR2:=hid hR2;have Hg2:=hid hgw2;clear hown hR2 hg2 hY4 hY2 hgw2 HXc HXd HR1 Hg1
   go_wp2_with (first
    |((with_reducible refine aR 27 ?_);refine wpList_store_mid rfl 27 (.tmp 2) (.tmp 27) rfl w.heap.size 0 (ai dy).toArray rfl rfl Hth.out gh (li dy) ?_))
   have hX9:=aj.setCells (ai dy) 0 HY2.out;rw[bn rfl] at hX9;refine bodyPost_ret (v:=.tuple #[.agg (ai dy).toArray,.bool false]) (aN (P:=IQ) (p:=2) (u:=3) rfl _ _ w.heap.size _ _ _ _ rfl hX9 cS rfl gh) rfl ⟨?_,?_,?_⟩
   ·rw[HR.out,HS2.out];rfl
   ·rw[HS1.out]
    exact eY.off HR2.out (aY _ _ 0 _ _ (bE (Below.refl _ _))) HY2.out (by decide) (by decide)
   ·exact cG Hg2.out (IR _) (aY _ _ 0 _ _ (bE (Below.refl _ _)))
 ·by_cases h4:v=4
  ·have h6I:¬(v:Int)=6:=by omega
   have h4I:(v:Int)=4:=by omega
   have hok2:=dX hok1 4;have Htk:=hid (fun w' h=>ew base g l s1 w' 4 h hok1 hl (by omega));rcases ht:bG l s1 4 with ⟨s2,b⟩
   rw[ht] at Htk hok2;have hS1:(bD l s).1=s2:=by rw[HT.out,if_neg h6,if_pos h4,ht]
   have HS1:=hid hS1;by_cases hb:b.length=4
   ·have hS2:(bD l s).2=some (false,ej b 16):=by rw[HT.out,if_neg h6,if_pos h4,ht];simp[hb]
    have hR:jW l s=(false,ej b 16):=by unfold jW;rw[hS2];rfl
    have hbI:(b.length:Int)=4:=by omega
    have hao:aS (false,ej b 16):=eX (by omega);have HR:=hid hR;have HS2:=hid hS2;have Hb:=hid hb;have Hasz:=hid (eo hao);clear hR hS2 hS1 ht hb;go_enter Tryz.func152,Tryz.ntmps152
    go_upto_region 2 with fail
    rw[←HW.out]
    go_wp2_with fail
    refine Hnum.out.mono ?_;rintro e w1 ⟨rfl,hR1,hg1⟩;have hXa:=aj.grown HX2.out hg1 (fun e=>by injection e with e;omega);have hXb:=aj.grown HX4.out hg1 (fun e=>by injection e with e;omega);have hXc:=hXb;have hXd:=hXa;have hR1':=hR1;have hg1':w.grownBy w1 (some g):=aq (bE HB.out) hg1;have HXc:=hid hXc;have HXd:=hid hXd;have HR1:=hid hR1';have Hg1:=hid hg1';clear hXc hXd hR1 hR1' hg1 hg1' hXa hXb
    go_wp2_with fail
    refine (Htk.out _ HR1.out).mono ?_;rintro e w2 ⟨A,c,rfl,hown,hR2,hg2⟩;simp only at hown hR2;have hY4:=aj.grown HXc.out hg2 (fun e=>by injection e with e;omega);have hY2:=aj.grown HXd.out hg2 (fun e=>by injection e with e;omega);have hgw2:w.grownBy w2 (some g):=aq Hg1.out hg2;obtain⟨ad,rfl,hadb,hcell⟩:=(BS.of_own hown).1 (by rw[Hb.out];decide);have Hsrc:Hid (∀j u,(ab b)[j]?=some u→w2.cell? (ad.add j)=some u):=fun j u hj=>by
     rw[ab,I0] at hj;rcases hm:b[j]? with _|y
     ·rw[hm] at hj;cases hj
     ·rw[hm] at hj
      simp only[IP,IJ.injEq] at hj;rw[←hj];exact hcell j y hm
    have hZ4:aj (w2.setRow (w.heap.size+1) (ai (false,ej b 16)).toArray) (w.heap.size+1) 27 (ai (false,ej b 16)).toArray:=aj.row hY4 _;have hZ2:aj (w2.setRow (w.heap.size+1) (ai (false,ej b 16)).toArray) w.heap.size 27 (ai dy).toArray:=aj.rowFar hY2 (by omega) _;have hgr:=oS w2 (w.heap.size+1) (ai (false,ej b 16)).toArray;have hR3:=eY.off hR2 hgr hY4 (by decide) (by decide);have hg3:=cG hgw2 (Nat.le_succ _) hgr;have Hth:Hid ((w2.setRow (w.heap.size+1) (ai (false,ej b 16)).toArray).there w.heap.size 0 (ai (false,ej b 16)).toArray.size):=hZ2.there (by rw[iD,IL,ar hao];decide);have HY4:=hid hY4;have HZ2:=hid hZ2;have HRg:=hid (ag hZ4);have HR3:=hid hR3;have Hg3:=hid hg3;clear hown hR2 hg2 hY4 hY2 hgw2 hcell hZ4 hZ2 hgr hR3 hg3 HXc HXd HR1 Hg1
    go_wp2_with (first
     |((with_reducible refine rt .copy ?_);refine mA rfl _ _ 43 43 rfl 5 I6 mP (w.heap.size+1) 1 16 16 ad b.length c rfl rfl (ai dy) _ HY4.out (ab b) (by rw[ap,Hb.out];rfl) Hsrc.out (by rw[ap,Hb.out];decide) (eP b) (ai (false,ej b 16)) (Fp Hb.out) ?_)
     |((with_reducible refine aB 27 ?_);refine aa (by rfl) 27 (.tmp 4) rfl (w.heap.size+1) 0 rfl (ai (false,ej b 16)) _ HRg.out IT rfl Hasz.out ?_)
     |((with_reducible refine aR 27 ?_);refine wpList_store_mid rfl 27 (.tmp 2) (.tmp 26) rfl w.heap.size 0 (ai (false,ej b 16)).toArray rfl rfl Hth.out Hasz.out (li _) ?_))
    have hX9:=aj.setCells (ai (false,ej b 16)) 0 HZ2.out;rw[bn (by rw[ar hao];rfl)] at hX9;refine bodyPost_ret (v:=.tuple #[.agg (ai (false,ej b 16)).toArray,.bool true]) (aN (P:=IQ) (p:=2) (u:=3) rfl _ _ w.heap.size _ _ _ _ rfl hX9 cS rfl Hasz.out) rfl ⟨?_,?_,?_⟩
    ·rw[HR.out,HS2.out];rfl
    ·rw[HS1.out]
     exact eY.off HR3.out (aY _ _ 0 _ _ (bE (Below.refl _ _))) HZ2.out (by decide) (by decide)
    ·exact cG Hg3.out (IR _) (aY _ _ 0 _ _ (bE (Below.refl _ _)))
   ·have hS2:(bD l s).2=none:=by rw[HT.out,if_neg h6,if_pos h4,ht];simp[hb]
    have hR:jW l s=dy:=by unfold jW;rw[hS2];rfl
    have hbI:¬(b.length:Int)=4:=by omega
    have HR:=hid hR;have HS2:=hid hS2;clear hR hS2 hS1 ht;go_enter Tryz.func152,Tryz.ntmps152
    go_upto_region 2 with fail
    rw[←HW.out]
    go_wp2_with fail
    refine Hnum.out.mono ?_;rintro e w1 ⟨rfl,hR1,hg1⟩;have hXa:=aj.grown HX2.out hg1 (fun e=>by injection e with e;omega);have hXb:=aj.grown HX4.out hg1 (fun e=>by injection e with e;omega);have hXc:=hXb;have hXd:=hXa;have hR1':=hR1;have hg1':w.grownBy w1 (some g):=aq (bE HB.out) hg1;have HXc:=hid hXc;have HXd:=hid hXd;have HR1:=hid hR1';have Hg1:=hid hg1';clear hXc hXd hR1 hR1' hg1 hg1' hXa hXb
    go_wp2_with fail
    refine (Htk.out _ HR1.out).mono ?_;rintro e w2 ⟨A,c,rfl,hown,hR2,hg2⟩;simp only at hown hR2;have hY4:=aj.grown HXc.out hg2 (fun e=>by injection e with e;omega);have hY2:=aj.grown HXd.out hg2 (fun e=>by injection e with e;omega);have hgw2:w.grownBy w2 (some g):=aq Hg1.out hg2;have Hth:Hid (w2.there w.heap.size 0 17):=hY2.there (by rw[iD];decide);have HY2:=hid hY2;have HR2:=hid hR2;have Hg2:=hid hgw2;clear hown hR2 hg2 hY4 hY2 hgw2 HXc HXd HR1 Hg1
    go_wp2_with (first
     |((with_reducible refine aR 27 ?_);refine wpList_store_mid rfl 27 (.tmp 2) (.tmp 27) rfl w.heap.size 0 (ai dy).toArray rfl rfl Hth.out gh (li dy) ?_))
    have hX9:=aj.setCells (ai dy) 0 HY2.out;rw[bn rfl] at hX9;refine bodyPost_ret (v:=.tuple #[.agg (ai dy).toArray,.bool false]) (aN (P:=IQ) (p:=2) (u:=3) rfl _ _ w.heap.size _ _ _ _ rfl hX9 cS rfl gh) rfl ⟨?_,?_,?_⟩
    ·rw[HR.out,HS2.out];rfl
    ·rw[HS1.out]
     exact eY.off HR2.out (aY _ _ 0 _ _ (bE (Below.refl _ _))) HY2.out (by decide) (by decide)
    ·exact cG Hg2.out (IR _) (aY _ _ 0 _ _ (bE (Below.refl _ _)))
  ·have h6I:¬(v:Int)=6:=by omega
   have h4I:¬(v:Int)=4:=by omega
   have hR:jW l s=dy:=by unfold jW;rw[HT.out,if_neg h6,if_neg h4];rfl
   have hS:(bD l s)=(s1,none):=by rw[HT.out,if_neg h6,if_neg h4]
   have HR:=hid hR;have HS:=hid hS;clear hR hS;go_enter Tryz.func152,Tryz.ntmps152
   go_upto_region 2 with fail
   rw[←HW.out]
   go_wp2_with fail
   refine Hnum.out.mono ?_;rintro e w1 ⟨rfl,hR1,hg1⟩;have HXa:=hid (aj.grown HX2.out hg1 (fun e=>by injection e with e;omega));have Hth:Hid (w1.there w.heap.size 0 17):=aj.there (o:=0) (n:=17) HXa.out (by rw[iD];decide);have HR1:=hid hR1;have Hg1:=hid hg1;clear hR1 hg1
   go_wp2_with (first
    |((with_reducible refine aR 27 ?_);refine wpList_store_mid rfl 27 (.tmp 2) (.tmp 9) rfl w.heap.size 0 (ai dy).toArray rfl rfl Hth.out gh (li dy) ?_))
   have hX9:=aj.setCells (ai dy) 0 HXa.out;rw[bn rfl] at hX9;refine bodyPost_ret (v:=.tuple #[.agg (ai dy).toArray,.bool false]) (aN (P:=IQ) (p:=2) (u:=3) rfl _ _ w.heap.size _ _ _ _ rfl hX9 cS rfl gh) rfl ⟨?_,?_,?_⟩
   ·rw[HR.out,HS.out];rfl
   ·rw[HS.out]
    exact eY.off HR1.out (aY _ _ 0 _ _ (bE (Below.refl _ _))) HXa.out (by decide) (by decide)
   ·exact cG (aq (bE HB.out) (by
     have:=Hg1.out;exact this)) (IR _) (aY _ _ 0 _ _ (bE (Below.refl _ _)))
def bH:bf:={ vips:=[],size:=0,room:=0,idle:=ID 6 0,rise:=0,fall:=0,mac:=ID 6 0,four:=dy,six:=dy,most:=0,keep:=0,batch:=0 }
theorem jI:ao bH:=⟨by simp[bH],rfl,rfl,rfl,rfl⟩
section
variable {A:Option Addr} {n c:Nat} {f:bf}
theorem DY(x:Int):(am A n c f).toArray.setIfInBounds 1 (.int .i64 x)=(am A n c { f with size:=x }).toArray:=by
 rw[qq];rfl
theorem DZ(x:Int):(am A n c f).toArray.setIfInBounds 2 (.int .i64 x)=(am A n c { f with room:=x }).toArray:=by
 rw[qq];rfl
theorem BH(A':Option Addr)(n' c':Nat)(vs:List ct):(am A n c f).toArray.setIfInBounds 0 (.slice A' n' c')=(am A' n' c' { f with vips:=vs }).toArray:=by
 rw[qq];rfl
theorem D0(h:ao f){k:Nat}(hk:k<6)(x:Int):(am A n c f).toArray.setIfInBounds (3+k) (.int .i64 x)=(am A n c { f with idle:=f.idle.set k x }).toArray:=by
 have hi:=h.idle;rw[qq,show 3+k=(k+2)+1 by omega];simp only[am,eA,IB];rw[List.set_append_left _ _ (by simp;omega)];simp[List.map_set,iv]
theorem D1(h:ao f)(x:Int):(am A n c f).toArray.setIfInBounds 9 (.int .i64 x)=(am A n c { f with rise:=x }).toArray:=by
 have hi:=h.idle;rw[qq];simp[am,eA,IK,hi,iv]
theorem D2(h:ao f)(x:Int):(am A n c f).toArray.setIfInBounds 10 (.int .i64 x)=(am A n c { f with fall:=x }).toArray:=by
 have hi:=h.idle;rw[qq];simp[am,eA,IK,hi,iv]
theorem D3(h:ao f)(x:Bool):(am A n c f).toArray.setIfInBounds 34 (.bool x)=(am A n c { f with six:=(x,f.six.2) }).toArray:=by
 have hi:=h.idle;have hm:=h.mac;have h4:f.four.2.length=16:=h.four;rw[qq];simp[am,eA,IK,hi,ap,hm,h4,ai]
theorem D4(h:ao f)(x:Int):(am A n c f).toArray.setIfInBounds 51 (.int .i64 x)=(am A n c { f with most:=x }).toArray:=by
 have hi:=h.idle;have hm:=h.mac;have h4:=ar h.four;have h6:=ar h.six;rw[qq];simp[am,eA,IK,hi,ap,hm,h4,h6,iv]
theorem D5(h:ao f)(x:Int):(am A n c f).toArray.setIfInBounds 52 (.int .i64 x)=(am A n c { f with keep:=x }).toArray:=by
 have hi:=h.idle;have hm:=h.mac;have h4:=ar h.four;have h6:=ar h.six;rw[qq];simp[am,eA,IK,hi,ap,hm,h4,h6,iv]
theorem BI(h:ao f)(x:Int):(am A n c f).toArray.setIfInBounds 53 (.int .i64 x)=(am A n c { f with batch:=x }).toArray:=by
 have hi:=h.idle;have hm:=h.mac;have h4:=ar h.four;have h6:=ar h.six;rw[qq];simp[am,eA,IK,hi,ap,hm,h4,h6,iv]
theorem wv(h:ao f):∃pre post,(∀b:List UInt8,am A n c { f with mac:=b }=pre++(ab b++post))∧pre.length=11:=by
 have hi:=h.idle;exact⟨.slice A n c::iv f.size::iv f.room::(f.idle.map iv++[iv f.rise,iv f.fall]),ai f.four++(ai f.six++[iv f.most,iv f.keep,iv f.batch]),fun b=>by simp[am,eA],by simp[hi]⟩
theorem uz(h:ao f):∃pre post,(∀b:List UInt8,am A n c { f with four:=(f.four.1,b) }=pre++(ab b++post))∧pre.length=18:=by
 have hi:=h.idle;have hm:=h.mac;exact⟨.slice A n c::iv f.size::iv f.room::(f.idle.map iv++(iv f.rise::iv f.fall::(ab f.mac++[.bool f.four.1]))),ai f.six++[iv f.most,iv f.keep,iv f.batch],fun b=>by simp[am,eA,ai],by simp[hi,ap,hm]⟩
theorem ww(h:ao f):∃pre post,(∀b:List UInt8,am A n c { f with six:=(f.six.1,b) }=pre++(ab b++post))∧pre.length=35:=by
 have hi:=h.idle;have hm:=h.mac;have h4:=ar h.four;exact⟨.slice A n c::iv f.size::iv f.room::(f.idle.map iv++(iv f.rise::iv f.fall::(ab f.mac++(ai f.four++[.bool f.six.1])))),[iv f.most,iv f.keep,iv f.batch],fun b=>by simp[am,eA,ai],by simp[hi,ap,hm,h4]⟩
end
theorem yK{pre post:List Value}{x:List UInt8}{N:Nat}(hx:x.length≤N)(k:Nat)(hk:pre.length=k) :
  (pre++(ab (ID N 0)++post)).take k++(ab x++(pre++(ab (ID N 0)++post)).drop (k+(ab x).length))=pre++(ab (ej x N)++post):=by
 subst hk;rw[Jd,←List.drop_drop,Jc,ap,List.drop_append_of_le_length (by rw[ap,I3];exact hx)];simp only[ej,dL,IE];rw[show (ab (ID N 0)).drop x.length=ab (ID (N-x.length) 0) by simp[ab,List.map_replicate]]
section
variable {P:Program}
theorem jJ{w:World}{o:Oper}{a:Act}{K:Act→World→Prop}{Q:Exit→Act→World→Prop}(d s:Operand)(dT sT:TypeId)
  (ho:o.op=.call { callee:=.builtin .copy,args:=#[d,s],argTypes:=#[dT,sT] }) (elem:TypeId) (hu:P.underlying dT=some (.slice elem)) (hsz:(P.info? elem).map (·.size)=some 1)
  (g off N dCap:Nat) (A:Option Addr) (sCap:Nat) (x:List UInt8) (hd:a.eval d=.slice (some ⟨g,off,none⟩) N dCap) (hs:a.eval s=.slice A x.length sCap) (B:Nat) (hb:BS w B A x) (hx:x.length≤N)
  (t:TypeId) (cs:List UInt8→List Value) (pre post:List Value) (hcs:∀b,cs b=pre++(ab b++post)) (hpre:pre.length=off) (hg:aj w g t (cs (ID N 0)).toArray)
  (h:∀w' z,aj w' g t (cs (ej x N)).toArray→w.grownBy w' (some g)→K (a.put o.dst z) w'):o.wp P a w K Q:=by
 rcases x with _|⟨x0,xs⟩
 ·have hrun:=run_copy_none (P:=P) w dT sT o.type elem (some ⟨g,off,none⟩) A N dCap 0 sCap hu hsz (by simp)
  unfold Oper.wp;simp[execOp,ho,resolve,invoke,builtin,hd,hs,hrun,Result.andThen];exact h w _ (by simpa[ej] using hg) (World.grownBy.refl _ _)
 ·obtain⟨ad,rfl,_,hcell⟩:=hb (by simp)
  have hg':w.heap[g]?=some (.cells (cs (ID N 0)).toArray t (0,0)):=hg;have hrun:=run_copy_row (P:=P) w dT sT o.type elem g off N dCap ad (x0::xs).length sCap (cs (ID N 0)).toArray t (ab (x0::xs)) hu hsz hg' (by rw[ap];exact (I8 hx).symm) (fun j v hj=>by
    rw[ab,I0] at hj;rcases hm:(x0::xs)[j]? with _|y
    ·rw[hm] at hj;cases hj
    ·rw[hm] at hj
     simp only[IP,IJ.injEq] at hj;rw[←hj];exact hcell j y hm) (by rw[hcs,IL,IG,hpre,IG,ap,ap,I3];omega) (eP _)
  unfold Oper.wp;simp only[execOp,ho,resolve,invoke,builtin,hd,hs,List.map_toArray,Jg,Ji,Sem.run_bind,Sem.run_pure,Result.andThen_ok,hrun];refine h _ _ ?_ (oS w g _);rw[hcs (ID N 0),IE,yK hx off hpre,←hcs];exact aj.row hg _
end
theorem yP{addr:cO}{proto port:Int}{vs:List ct}:(iS addr proto port vs).2=vs.any (eT addr proto port):=by
 unfold iS;rcases h:vs.findIdx? (eT addr proto port) with _|i
 ·rw[List.findIdx?_eq_none_iff] at h
  symm
  simp only[List.any_eq_false];intro x hx;simpa using h x hx
 ·obtain⟨hi,hp,_⟩:=IS.1 h
  symm
  simp only[List.any_eq_true];exact⟨_,I2 hi,hp⟩
theorem uC{addr:cO}{proto port:Int}{vs:List ct}(h:∀v∈vs,aS v.1):aS (iS addr proto port vs).1.1:=by
 unfold iS;rcases h1:vs.findIdx? (eT addr proto port) with _|i
 ·exact mF
 ·obtain⟨hi,_⟩:=IS.1 h1
  simp only[IH hi,Option.getD_some];exact h _ (I2 hi)
theorem D7(A:Option Addr)(n c:Nat)(vs:List ct)(hv:∀v∈vs,aS v.1)(w:World)(hn:n=vs.length)(hnc:n≤c)(hb:VS w w.heap.size A vs)(hl:n≤1000000) :
  Calls IQ 126 #[.slice A n c] w fun e w'=>e=.returned (.bool (jG vs))∧Below w.heap.size w w':=by
 subst hn;have HV:=hid hb;have Hok:=hid hv;clear hb hv;by_cases h64:64<vs.length
 ·have h64I:(64:Int)<(vs.length:Int):=by omega
  have hr:jG vs=false:=by
   rcases h:jG vs with _|_
   ·rfl
   ·have:=(jd.1 h).1;omega
  rw[hr];clear hr h64;go_enter Tryz.func126,Tryz.ntmps126
  go_wp2
  go_ret
  exact⟨rfl,Below.refl _ _⟩
 ·have h64I:¬(64:Int)<(vs.length:Int):=by omega
  go_enter Tryz.func126,Tryz.ntmps126
  go_wp2
  go_loopw [12] (fun i wr=>∃k:Nat,k≤vs.length∧i=.int .i64 (k:Int)∧Hid (Below w.heap.size w wr)∧Hid (∀j,j<k→kp vs j=true)) (fun i _=>vs.length-(intOf i).toNat)
  case atStart=>exact⟨0,by omega,rfl,Below.refl _ _,fun j hj=>by omega⟩
  case round =>
   obtain⟨k,hk,rfl,hbel,hat⟩:=hrel;by_cases hlt:k<vs.length
   ·have hltI:(k:Int)<(vs.length:Int):=by omega
    have hk0:(0:Int)≤(k:Int):=by omega
    obtain⟨b,o,hA,hbB,hc⟩:=(HV.out.below hbel.out) (by omega);subst hA;obtain⟨x,hx⟩:∃x,x=vs[k]:=⟨_,rfl⟩;have hrg:=hc k x (by rw[IH hlt,hx]);have hxo:aS x.1:=Hok.out x (by rw[hx];exact I2 hlt);have hat2:kp vs k=(i6 x&&!((vs.take k).any (eT x.1 x.2.1 x.2.2.1))):=by
     unfold kp;rw[IH hlt,←hx]
    have Hno:kp vs k=false→Hid (jG vs=false):=fun h=>by
     show _=_
     rcases h2:jG vs with _|_
     ·rfl
     ·rw[(jd.1 h2).2 k hlt] at h;cases h
    have Hrg:=hid hrg;have Hsz:=hid (lR hxo);have Hasz:=hid (eo hxo);have Hat2:=hid hat2;clear hc hrg hat2 hx;have hszr:w.heap.size≤wr.heap.size:=hbel.out.size;obtain⟨W0,hW0⟩:∃W0,W0=wr.alloc (.cells (aI ia).toArray 108):=⟨_,rfl⟩;have hX0:aj W0 wr.heap.size 108 (aI ia).toArray:=by rw[hW0];exact aj.new _ _ _ _ rfl
    have Hth:Hid (W0.there wr.heap.size 0 (aI x).toArray.size):=hX0.there (by rw[kn,IL,bK hxo];decide);have HW0:=hid hW0;have HX0:=hid hX0;clear hW0 hX0;rw[kn] at HW0;go_upto_region 6 with (first
     |(refine aa (by rfl) 108 (.tmp 15) rfl b (o+k*20) rfl (aI x) _ Hrg.out Tryz.underlying108 rfl Hsz.out ?_)
     |(rw[←HW0.out]
       refine wpList_store_mid rfl 108 (.tmp 4) (.tmp 16) rfl wr.heap.size 0 (aI x).toArray rfl rfl Hth.out Hsz.out (gV x) ?_))
    obtain⟨W1,hW1⟩:∃W1,W1=W0.setCells wr.heap.size 0 (aI x):=⟨_,rfl⟩;have hX1:aj W1 wr.heap.size 108 (aI x).toArray:=by
     rw[hW1];have:=aj.setCells (aI x) 0 HX0.out;rw[bn (by rw[bK hxo];rfl)] at this;exact this
    have hB1:Below w.heap.size w W1:=by rw[hW1,HW0.out];exact bq hszr _ _ (hbel.out.alloc hszr _)
    rw[←hW1];clear hW1 Hth HX0 HW0 Hrg;have hsz1:w.heap.size≤W1.heap.size:=hB1.size;have HX1:=hid hX1;have HB1:=hid hB1;have HR1:=hid (eL hX1);have hs:=ta x.1 hxo W1;unfold iP at hs;have Hs:=hid hs;clear hX1 hB1 hs
    go_wp2_with (first
     |(refine aa (by rfl) 27 (.tmp 17) rfl wr.heap.size 0 rfl (ai x.1) _ HR1.out IT rfl Hasz.out ?_))
    refine Hs.out.mono ?_;rintro e w2 ⟨rfl,hb2⟩;have hX2:=aj.below HX1.out hb2 HX1.out.lt;have c17:w2.cell? ⟨wr.heap.size,17,none⟩=some (.int .i64 x.2.1):=eU hxo hX2 0;have c18:w2.cell? ⟨wr.heap.size,18,none⟩=some (.int .i64 x.2.2.1):=eU hxo hX2 1;have HX2:=hid hX2;have HB2:Hid (Below w.heap.size w w2):=HB1.out.trans (hb2.mono hsz1);clear hX2 hb2 Hs HR1 HX1 HB1;obtain⟨⟨s6,l⟩,p,q,t⟩:=x;simp only at c17 c18;rcases hsh:de (s6,l) with _|_
    ·have Hr:=Hno (by rw[Hat2.out];simp[i6,hsh])
     clear hsh Hno
     go_wp2
     go_ret
     exact⟨by rw[Hr.out];rfl,HB2.out⟩
    ·by_cases hpp:¬p=6∧¬p=17
     ·have Hr:=Hno (by rw[Hat2.out];simp[i6,hsh,hpp.1,hpp.2])
      obtain⟨hp6,hp17⟩:=hpp;have hp6b:(p != 6)=true:=by simp[hp6]
      have hp17b:(p != 17)=true:=by simp[hp17]
      clear hsh Hno
      go_wp2
      go_ret
      exact⟨by rw[Hr.out];rfl,HB2.out⟩
     ·have hp:(p==6||p==17)=true:=by
       by_cases h6:p=6
       ·simp[h6]
       ·by_cases h17:p=17
        ·simp[h17]
        ·exact absurd ⟨h6,h17⟩ hpp
      have hpn:(p != 6&&p != 17)=false:=by
       by_cases h6:p=6
       ·simp[h6]
       ·by_cases h17:p=17
        ·simp[h17]
        ·exact absurd ⟨h6,h17⟩ hpp
      have Hpp:=hid hpp;clear hpp;have Hp:=hid hp;clear hp hpn;have hcase:(p=6)∨(¬p=6∧p=17):=by
       by_cases h6:p=6
       ·exact .inl h6
       ·by_cases h17:p=17
        ·exact .inr ⟨h6,h17⟩
        ·exact absurd ⟨h6,h17⟩ Hpp.out
      have Hsh:=hid hsh;clear hsh Hpp;have hsz2:w.heap.size≤w2.heap.size:=HB2.out.size;obtain⟨F,hF⟩:∃F,F=iS (s6,l) p q (vs.take k):=⟨_,rfl⟩;have hFo:aS F.1.1:=by rw[hF];exact uC (fun v hv=>Hok.out v (I4 hv))
      have hFb:F.2=(vs.take k).any (eT (s6,l) p q):=by rw[hF];exact yP
      have HS:Hid (∀w',Below w2.heap.size w2 w'→w'.cell? ⟨wr.heap.size,17,none⟩=some (.int .i64 p)∧w'.cell? ⟨wr.heap.size,18,none⟩=some (.int .i64 q)):=fun w' h=>by
       have hr:=aj.below HX2.out h HX2.out.lt;exact⟨eU (v:=((s6,l),p,q,t)) hxo hr 0,eU (v:=((s6,l),p,q,t)) hxo hr 1⟩
      have HVF:Hid (∀(cs:Array Value) w',cs[0]?=some (.slice (some ⟨b,o,none⟩) k c)→Below w2.heap.size w2 w'→Calls IQ 171 #[.agg cs,.agg (ai (s6,l)).toArray,.int .i64 p,.int .i64 q] w' fun e w''=>e=.returned (.tuple #[.agg (aI F.1).toArray,.bool F.2])∧Below w'.heap.size w' w''):=fun cs w' hcs h=>by
       have:=E9 cs (some ⟨b,o,none⟩) k c hcs (vs.take k) (fun v hv=>Hok.out v (I4 hv)) (s6,l) hxo p q w' (by rw[List.length_take];omega) (((HV.out.below (HB2.out.trans (h.mono hsz2))).more (Jl hsz2 h.size)).take k) (by omega);rw[←hF] at this;exact this
      have HRA:Hid (∀w',Below w2.heap.size w2 w'→w'.rangeAt wr.heap.size 0 (ai (s6,l))):=fun w' h=>eL (v:=((s6,l),p,q,t)) (aj.below HX2.out h HX2.out.lt)
      have HFsz:=hid (lR hFo);have HFl:Hid ((aI F.1).toArray.size=20):=by show _=_;rw[IL,bK hFo]
      have HFb:Hid (kp vs k=(mx q 1 65535&&!F.2)):=by
       show _=_
       rw[Hat2.out,hFb];simp only[i6,Hsh.out,Hp.out,Bool.true_and]
      have hkc:(k:Int)≤(c:Int):=by omega
      clear hF hFo hFb Hat2 Hp;rcases hcase with rfl|⟨h6,rfl⟩
      all_goals
       go_wp2_with fail
       refine (gE q 1 65535 w2).mono ?_;rintro e w3 ⟨rfl,rfl⟩;rcases hq:mx q 1 65535 with _|_
       ·have Hr:=Hno (by rw[HFb.out];simp[hq])
        clear Hno hq
        go_wp2
        go_ret
        exact⟨by rw[Hr.out];rfl,HB2.out⟩
       ·have Hq:=hid hq
        clear hq
        go_wp2_with fail
        refine wp_region_noPanic ?_;refine wp_region_held_drew (S:=fun w'=>Below w2.heap.size w2 w') (by kernel_rfl) ((Below.refl _ _).drew) (fun hHeld=>?_);refine wpAnyH_take (i:=0) (v:=?_) rfl (by kernel_rfl) (by kernel_rfl) (by kernel_rfl) (fun _ _ _ h=>h) (IN ⟨by rfl,?_⟩) hHeld ?_;rotate_left
        ·intro w' hSw
         skip
         go_simp
         try with_reducible rfl
        simp only[IF,IA,Iy,Iz,qq,IC,IB];refine wpAnyH_take (i:=1) (v:=?_) rfl (by kernel_rfl) (by kernel_rfl) (by kernel_rfl) (fun _ _ _ h=>h) (IN ⟨by rfl,?_⟩) hHeld ?_;rotate_left
        ·intro w' hSw
         skip
         go_simp
         try with_reducible rfl
        simp only[IF,IA,Iy,Iz,qq,IC,IB];refine wpAnyH_take (i:=2) (v:=?_) rfl (by kernel_rfl) (by kernel_rfl) (by kernel_rfl) (fun _ _ _ h=>h) (IN ⟨by rfl,?_⟩) hHeld ?_;rotate_left
        ·intro w' hSw
         skip
         go_simp
         try with_reducible rfl
        simp only[IF,IA,Iy,Iz,qq,IC,IB];refine wpAnyH_take (i:=3) (v:=?_) rfl (by kernel_rfl) (by kernel_rfl) (by kernel_rfl) (fun _ _ _ h=>h) (IN ⟨by rfl,?_⟩) hHeld ?_;rotate_left
        ·intro w' hSw
         skip
         go_simp
         try with_reducible rfl
        simp only[IF,IA,Iy,Iz,qq,IC,IB];refine wpAnyH_take (i:=4) (v:=?_) rfl (by kernel_rfl) (by kernel_rfl) (by kernel_rfl) (fun _ _ _ h=>h) (IN ⟨by rfl,?_⟩) hHeld ?_;rotate_left
        ·intro w' hSw
         skip
         go_simp
         try with_reducible rfl
        simp only[IF,IA,Iy,Iz,qq,IC,IB];refine wpAnyH_take (i:=5) rfl (by kernel_rfl) (by kernel_rfl) (by kernel_rfl) (fun _ _ _ h=>h) (yieldsIf_load_mid (by rfl) 27 (.tmp 42) rfl (wr.heap.size) (0) rfl (ai (s6,l)) _ (HRA.out) IT rfl Hasz.out) hHeld ?_;simp only[IF,IA,Iy,Iz,qq,IC,IB];refine wpAnyH_take (i:=6) (v:=?_) rfl (by kernel_rfl) (by kernel_rfl) (by kernel_rfl) (fun _ _ _ h=>h) (IN ⟨by rfl,?_⟩) hHeld ?_;rotate_left
        ·intro w' hSw
         skip
         go_simp
         try with_reducible rfl
        simp only[IF,IA,Iy,Iz,qq,IC,IB];refine wpAnyH_take (i:=7) (v:=?_) rfl (by kernel_rfl) (by kernel_rfl) (by kernel_rfl) (fun _ _ _ h=>h) (IN ⟨by rfl,?_⟩) hHeld ?_;rotate_left
        ·intro w' hSw
         obtain⟨h17',h18'⟩:=HS.out w' hSw;go_simp
         try with_reducible rfl
        simp only[IF,IA,Iy,Iz,qq,IC,IB];refine wpAnyH_take (i:=8) (v:=?_) rfl (by kernel_rfl) (by kernel_rfl) (by kernel_rfl) (fun _ _ _ h=>h) (IN ⟨by rfl,?_⟩) hHeld ?_;rotate_left
        ·intro w' hSw
         skip
         go_simp
         try with_reducible rfl
        simp only[IF,IA,Iy,Iz,qq,IC,IB];refine wpAnyH_take (i:=9) (v:=?_) rfl (by kernel_rfl) (by kernel_rfl) (by kernel_rfl) (fun _ _ _ h=>h) (IN ⟨by rfl,?_⟩) hHeld ?_;rotate_left
        ·intro w' hSw
         obtain⟨h17',h18'⟩:=HS.out w' hSw;go_simp
         try with_reducible rfl
        simp only[IF,IA,Iy,Iz,qq,IC,IB];refine wpAnyH_ready (rs:=[10,14]) (by kernel_rfl) (by simp) ?_;refine IM (i:=10) rfl (fun K hK=>?_) ?_
        ·go_simp
         refine (HVF.out _ _ rfl hHeld).mono ?_;rintro e w3 ⟨rfl,hb3⟩;have hBehind:=hHeld.trans (hb3.mono hHeld.size)
         go_wp2_with fail
         refine hK.out _ _ hBehind (fun hHeld=>?_);clear hK K
         try simp only[IF,IA,Iy,Iz,qq,IC,IB]
         refine wpAnyH_take (i:=11) (v:=?_) rfl (by kernel_rfl) (by kernel_rfl) (by kernel_rfl) (fun _ _ _ h=>h) (IN ⟨by rfl,?_⟩) hHeld ?_;rotate_left
         ·intro w' hSw
          skip
          go_simp
          try with_reducible rfl
         simp only[IF,IA,Iy,Iz,qq,IC,IB];refine wpAnyH_take (i:=12) (v:=?_) rfl (by kernel_rfl) (by kernel_rfl) (by kernel_rfl) (fun _ _ _ h=>h) (IN ⟨by rfl,?_⟩) hHeld ?_;rotate_left
         ·intro w' hSw
          skip
          go_simp
          try with_reducible rfl
         simp only[IF,IA,Iy,Iz,qq,IC,IB];refine wpAnyH_take (i:=13) (v:=?_) rfl (by kernel_rfl) (by kernel_rfl) (by kernel_rfl) (fun _ _ _ h=>h) (IN ⟨by rfl,?_⟩) hHeld ?_;rotate_left
         ·intro w' hSw
          skip
          go_simp
          try with_reducible rfl
         simp only[IF,IA,Iy,Iz,qq,IC,IB];refine wpAnyH_ready (rs:=[14]) (by kernel_rfl) (by simp) ?_;refine IM (i:=14) rfl (fun K hK=>?_) ?_
         ·go_simp
          refine hK.out _ _ (hHeld.alloc (by have:=hHeld.size;omega) _) (fun hHeld=>?_);clear hK K
          try simp only[IF,IA,Iy,Iz,qq,IC,IB]
          refine wpAnyH_ready (rs:=[15]) (by kernel_rfl) (by simp) ?_;refine IM (i:=15) rfl (fun K hK=>?_) ?_
          ·rw[if_pos (by rfl)]
           refine wp_store_mid _ _ _ rfl (w3.heap.size) (0) (aI F.1).toArray rfl rfl (by rw[HFl.out];exact aj.there (o:=0) (n:=20) (aj.new w3 108 _ _ rfl) (by decide)) (HFsz.out) (gV _) ?_;refine hK.out _ _ (bq (by have:=hb3.size;simp at this ⊢;omega) _ _ hHeld) (fun hHeld=>?_);clear hK K
           try simp only[IF,IA,Iy,Iz,qq,IC,IB]
           refine wpAnyH_take (i:=16) (v:=?_) rfl (by kernel_rfl) (by kernel_rfl) (by kernel_rfl) (fun _ _ _ h=>h) (IN ⟨by rfl,?_⟩) hHeld ?_;rotate_left
           ·intro w' hSw
            skip
            go_simp
            try with_reducible rfl
           simp only[IF,IA,Iy,Iz,qq,IC,IB];refine wpAnyH_done (by kernel_rfl) ?_ _;refine Jf ?_;have HBe:Hid (Below w.heap.size w _):=HB2.out.trans (hHeld.mono hsz2);rcases hF2:F.2 with _|_
           ·have Hat3:Hid (∀j,j<k+1→kp vs j=true):=fun j hj=>by
             rcases Jm j k with h1|h1
             ·exact hat.out j h1
             ·obtain rfl:j=k:=by omega
              rw[HFb.out,hF2,Hq.out];rfl
            clear hF2 Hno hat hHeld HS HVF HRA HFb
            go_wp2
            go_roundw
            case rel=>exact⟨k+1,by omega,by go_num,HBe,Hat3⟩
            case measure=>simp[intOf];omega
           ·have Hr:=Hno (by rw[HFb.out,hF2];simp)
            clear hF2 Hno hat hHeld HS HVF HRA HFb
            go_wp2
            go_ret
            exact⟨by rw[Hr.out];rfl,HBe.out⟩
          exact IW
         exact IW
        refine IM (i:=14) rfl (fun K hK=>?_) ?_
        ·go_simp
         refine hK.out _ _ (hHeld.alloc (by have:=hHeld.size;omega) _) (fun hHeld=>?_);clear hK K
         try simp only[IF,IA,Iy,Iz,qq,IC,IB]
         have hN:=fun z=>aj.new w2.drew 108 z w2.heap.size rfl
         refine wpAnyH_ready (rs:=[10]) (by kernel_rfl) (by simp) ?_;refine IM (i:=10) rfl (fun K hK=>?_) ?_
         ·go_simp
          refine (HVF.out _ _ rfl hHeld).mono ?_;rintro e w3 ⟨rfl,hb3⟩;have hBehind:=hHeld.trans (hb3.mono hHeld.size);have hN3:=aj.below (hN _) hb3 (aj.lt (hN _))
          go_wp2_with fail
          refine hK.out _ _ hBehind (fun hHeld=>?_);clear hK K
          try simp only[IF,IA,Iy,Iz,qq,IC,IB]
          refine wpAnyH_take (i:=11) (v:=?_) rfl (by kernel_rfl) (by kernel_rfl) (by kernel_rfl) (fun _ _ _ h=>h) (IN ⟨by rfl,?_⟩) hHeld ?_;rotate_left
          ·intro w' hSw
           skip
           go_simp
           try with_reducible rfl
          simp only[IF,IA,Iy,Iz,qq,IC,IB];refine wpAnyH_take (i:=12) (v:=?_) rfl (by kernel_rfl) (by kernel_rfl) (by kernel_rfl) (fun _ _ _ h=>h) (IN ⟨by rfl,?_⟩) hHeld ?_;rotate_left
          ·intro w' hSw
           skip
           go_simp
           try with_reducible rfl
          simp only[IF,IA,Iy,Iz,qq,IC,IB];refine wpAnyH_take (i:=13) (v:=?_) rfl (by kernel_rfl) (by kernel_rfl) (by kernel_rfl) (fun _ _ _ h=>h) (IN ⟨by rfl,?_⟩) hHeld ?_;rotate_left
          ·intro w' hSw
           skip
           go_simp
           try with_reducible rfl
          simp only[IF,IA,Iy,Iz,qq,IC,IB];refine wpAnyH_ready (rs:=[15]) (by kernel_rfl) (by simp) ?_;refine IM (i:=15) rfl (fun K hK=>?_) ?_
          ·rw[if_pos (by rfl)]
           refine wp_store_mid _ _ _ rfl (w2.heap.size) (0) (aI F.1).toArray rfl rfl (by rw[HFl.out];exact hN3.there (by decide)) (HFsz.out) (gV _) ?_;refine hK.out _ _ (bq (IR _) _ _ hHeld) (fun hHeld=>?_);clear hK K
           try simp only[IF,IA,Iy,Iz,qq,IC,IB]
           refine wpAnyH_take (i:=16) (v:=?_) rfl (by kernel_rfl) (by kernel_rfl) (by kernel_rfl) (fun _ _ _ h=>h) (IN ⟨by rfl,?_⟩) hHeld ?_;rotate_left
           ·intro w' hSw
            skip
            go_simp
            try with_reducible rfl
           simp only[IF,IA,Iy,Iz,qq,IC,IB];refine wpAnyH_done (by kernel_rfl) ?_ _;refine Jf ?_;have HBe:Hid (Below w.heap.size w _):=HB2.out.trans (hHeld.mono hsz2);rcases hF2:F.2 with _|_
           ·have Hat3:Hid (∀j,j<k+1→kp vs j=true):=fun j hj=>by
             rcases Jm j k with h1|h1
             ·exact hat.out j h1
             ·obtain rfl:j=k:=by omega
              rw[HFb.out,hF2,Hq.out];rfl
            clear hF2 Hno hat hHeld HS HVF HRA HFb
            go_wp2
            go_roundw
            case rel=>exact⟨k+1,by omega,by go_num,HBe,Hat3⟩
            case measure=>simp[intOf];omega
           ·have Hr:=Hno (by rw[HFb.out,hF2];simp)
            clear hF2 Hno hat hHeld HS HVF HRA HFb
            go_wp2
            go_ret
            exact⟨by rw[Hr.out];rfl,HBe.out⟩
          exact IW
         exact IW
        exact IW
   ·have hltI:¬(k:Int)<(vs.length:Int):=by omega
    have Hr:Hid (jG vs=true):=jd.2 ⟨by omega,fun i hi=>hat.out i (by omega)⟩
    go_wp2
    go_ret
    exact⟨by rw[Hr.out];rfl,hbel.out⟩
