import Derived.Test.YtaafkokfdgfabaaGreatP11
import Derived.Test.YtaafkokfdgfabaaGreatP13
import Derived.Test.YtaafkokfdgfabaaGreatP14
import Derived.Test.YtaafkokfdgfabaaGreatP23
set_option maxHeartbeats 8000000
namespace Go.Proofs.YtaafkokfdgfabaaGreat
open Go.RowKit
set_option linter.unusedVariables false
set_option linter.unusedSimpArgs false
theorem FE (body:List UInt8):dE body≠[]:=by
 intro e;have:=cP body;rw [e] at this;simp at this
section
variable {l r:List UInt8}
theorem Gn {c:bc} {first lost:Int} (hs:ak c) (hr:gM c) (hf:0≤first∧first≤1152921504606846976) (hl:0≤lost∧lost≤1152921504606846976) :
  fp (kI ++ (aI first.toNat ++ (aI lost.toNat ++ bK c)))=some { conf:=c,first:=first,lost:=lost,st:=cI,evs:=[] }:=by
 obtain ⟨l,hL⟩:∃ l,l=kI ++ (aI first.toNat ++ (aI lost.toNat ++ bK c)):=⟨_,rfl⟩
 rw [←hL];have e0:l.drop ((0,0,0):St).1=kI ++ (aI first.toNat ++ (aI lost.toNat ++ bK c)):=by rw [hL];rfl
 have h1:=i5 (n:=4) (s:=(0,0,0)) rfl (Nat.zero_le _) rfl e0;have E1:=br.of (s:=(0,0,0)) rfl (Nat.zero_le _) e0;have e1:=E1.rest e0;have h2:=rU E1.ok' E1.le' (by omega) e1;have E2:=br.of E1.ok' E1.le' e1;have e2:=E2.rest e1;have h3:=rU E2.ok' E2.le' (by omega) e2;have E3:=br.of E2.ok' E2.le' e2;have e3:=E3.rest e2;have g1:qH l=(ep (ep (0,0,0) kI.length) (aI first.toNat).length,first.toNat):=by unfold qH;rw [h1];exact h2
 have g2:pj l=(ep (ep (ep (0,0,0) kI.length) (aI first.toNat).length) (aI lost.toNat).length,lost.toNat):=by unfold pj;rw [g1];exact h3
 have e3':l.drop (ep (ep (ep (0,0,0) kI.length) (aI first.toNat).length) (aI lost.toNat).length).1=bK c ++ []:=by rw [e3,List.append_nil]
 have hlen:((l.length - (ep (ep (ep (0,0,0) kI.length) (aI first.toNat).length) (aI lost.toNat).length).1:Nat):Int)=((bK c).length:Int):=by
  have:=congrArg List.length e3;rw [List.length_drop] at this;rw [this]
 have h4:=i5 E3.ok' E3.le' hlen e3';have g3:rz l=(ep (ep (ep (ep (0,0,0) kI.length) (aI first.toNat).length) (aI lost.toNat).length) (bK c).length,bK c):=by unfold rz;rw [g2];exact h4
 unfold fp;rw [h1,if_pos rfl,g3,g1,g2];simp only;rw [lZ.2 ⟨rfl,hr,hs⟩];simp only;rw [if_pos (by simp [lj,ep])];have z1:((min first.toNat 1152921504606846977:Nat):Int)=first:=by omega
 have z2:((min lost.toNat 1152921504606846977:Nat):Int)=lost:=by omega
 rw [z1,z2]
theorem Gy {h:bT} (hh:fp l=some h) (hf:h.first≤1152921504606846976) (hl:h.lost≤1152921504606846976):l=bF h∧gM h.conf∧ak h.conf∧0≤h.first∧0≤h.lost∧h.st=cI∧h.evs=[]:=by
 have ok0:bY l (0,0,0):=⟨Nat.zero_le _,Nat.zero_le _,Nat.zero_le _⟩
 unfold fp at hh;split at hh
 ·rename_i hm
  split at hh
  ·rename_i c hc
   split at hh
   ·rename_i hok
    injection hh with hh
    subst hh;simp only at hf hl;obtain ⟨c1,c2,c3⟩:=lZ.1 hc;have ok1:bY l (a8 l (0,0,0) 4).1:=dt ok0 4;have ok2:bY l (qH l).1:=kT ok1;have ok3:bY l (pj l).1:=kT ok2;obtain ⟨x4,hx4,E4,v4⟩:=iB (l:=l) (s:=(pj l).1) (n:=((l.length - (pj l).1.1:Nat):Int)) (by omega) (jW.1 hok).2;have B3:=qy (l:=l) (s:=(qH l).1) E4.ok ok2.1;have B2:=qy (l:=l) (s:=(a8 l (0,0,0) 4).1) B3.2.ok ok1.1;obtain ⟨x1,hx1,E1,v1⟩:=iB (l:=l) (s:=(0,0,0)) (n:=4) (by decide) B2.2.ok;rw [hm] at v1;subst v1;have E:=E1.trans (B2.2.trans (B3.2.trans E4));have v4':(rz l).2=x4:=v4;rw [←v4',c1] at E;have hend:l.length≤(rz l).1.1:=by
     have e4:(rz l).1=ep (pj l).1 x4.length:=E4.to;rw [e4];simp only [ep];rw [hx4];omega
    have et:=E.take;have hto:(rz l).1=ep (0,0,0) _:=E.to;have h4l:=congrArg Prod.fst hto;simp only [ep] at h4l;rw [List.drop_zero,List.take_of_length_le (by omega)] at et;have z1:((min (qH l).2 1152921504606846977:Nat):Int).toNat=(fJ l (a8 l (0,0,0) 4).1).2:=by
     show _=(qH l).2
     omega
    have z2:((min (pj l).2 1152921504606846977:Nat):Int).toNat=(fJ l (qH l).1).2:=by
     show _=(pj l).2
     omega
    refine ⟨?_,c2,c3,by simp only;omega,by simp only;omega,rfl,rfl⟩;unfold bF;simp only [z1,z2];exact et.symm
   ·cases hh
  ·cases hh
 ·cases hh
theorem Di:∀ (es:List da),(∀ e ∈ es,aB e∧aL e=true)→∀ (r:List UInt8),dU (es.flatMap bC ++ r)=(es.map fG ++ (dU r).1,(es.flatMap bC).length + (dU r).2.1,(dU r).2.2)
 | [],_,r=>by simp
 | e :: es,h,r=>by
  have he:=h e (by simp);have hn:aH (bC e ++ (es.flatMap bC ++ r))=(bP e,(bC e).length,0):=lY (by have:=iU he.1 he.2;omega) _;have ih:=Di es (fun x hx=>h x (by simp [hx])) r;rw [List.flatMap_cons,List.append_assoc,pk hn (r5 he.1 he.2),List.drop_left,ih];simp [Nat.add_assoc]
theorem Fd:∀ (k:Nat) (l:List UInt8),l.length≤k→∀ {es:List da} {n w:Nat},jb k l=(es,n,w)→n≤l.length∧l.take n=es.flatMap bC∧(w=0→n=l.length)∧∀ e ∈ es,aL e=true∧aB e∧wY e
 | 0,l,hl,es,n,w,h=>by
  simp only [jb,Prod.mk.injEq] at h;obtain ⟨rfl,rfl,rfl⟩:=h;exact ⟨Nat.zero_le _,by simp,fun _=>by omega,by simp⟩
 | k + 1,l,hl,es,n,w,h=>by
  unfold jb at h;split at h
  ·rename_i he
   simp only [Prod.mk.injEq] at h;obtain ⟨rfl,rfl,rfl⟩:=h;exact ⟨Nat.zero_le _,by simp,fun _=>by rw [he];rfl,by simp⟩
  ·split at h
   ·rename_i hne hw
    simp only [Prod.mk.injEq] at h;obtain ⟨rfl,rfl,rfl⟩:=h;exact ⟨Nat.zero_le _,by simp,fun hh=>absurd hh hw,by simp⟩
   ·rename_i hne hw
    have hp:=gA (l:=l) (body:=(aH l).1) (n:=(aH l).2.1) (Prod.ext rfl (Prod.ext rfl (by simpa using hw)));split at h
    ·simp only [Prod.mk.injEq] at h
     obtain ⟨rfl,rfl,rfl⟩:=h;exact ⟨Nat.zero_le _,by simp,fun hh=>absurd hh (by decide),by simp⟩
    ·rename_i e he
     obtain ⟨b1,b2,b3,b4⟩:=rZ.1 he;rcases hr:jb k (l.drop (aH l).2.1) with ⟨es',n',w'⟩
     rw [hr] at h;simp only [Prod.mk.injEq] at h;obtain ⟨rfl,rfl,rfl⟩:=h;obtain ⟨i1,i2,i3,i4⟩:=Fd k _ (by rw [List.length_drop];omega) hr;rw [List.length_drop] at i1 i3;refine ⟨by omega,?_,fun hh=>by have:=i3 hh;omega,?_⟩
     ·rw [List.take_add,hp.2.2.1,i2,List.flatMap_cons,bC,←b1]
     ·intro x hx
      rcases List.mem_cons.1 hx with rfl | hx
      ·exact ⟨b2,b3,b4⟩
      ·exact i4 x hx
theorem FF {es:List da} {n w:Nat} (h:dU l=(es,n,w)):n≤l.length∧l.take n=es.flatMap bC∧(w=0→n=l.length)∧∀ e ∈ es,aL e=true∧aB e∧wY e :=
 Fd _ l (Nat.le_refl _) h
theorem zj:∀ (es:List da),(∀ e ∈ es,aB e∧aL e=true)→∀ (j:Nat),j<(es.flatMap bC).length →
  ∃ k,k<es.length∧((es.take k).flatMap bC).length≤j∧j<((es.take (k + 1)).flatMap bC).length ∧
   dU ((es.flatMap bC).take j)=((es.take k).map fG,((es.take k).flatMap bC).length,if j=((es.take k).flatMap bC).length then 0 else 2)
 | [],_,j,hj=>by simp at hj
 | e :: es,h,j,hj=>by
  have he:=h e (by simp);have hb:(bP e).length≤1048576:=by have:=iU he.1 he.2;omega
  rw [List.flatMap_cons] at hj ⊢;by_cases hlt:j<(bC e).length
  ·refine ⟨0,by simp,by simp,by simpa using hlt,?_⟩
   rw [List.take_append_of_le_length (by omega)];by_cases h0:j=0
   ·subst h0
    simp [oD]
   ·have hc:aH ((bC e).take j)=([],0,2):=qG hb hlt
    rw [uX (by intro e2;have:=congrArg List.length e2;rw [List.length_take] at this;simp at this;have:=FE (bP e);simp_all [bC]) hc (by decide)];simp [h0]
  ·obtain ⟨k,h1,h2,h3,h4⟩:=zj es (fun x hx=>h x (by simp [hx])) (j - (bC e).length) (by rw [List.length_append] at hj;omega)
   have hn:aH (bC e ++ (es.flatMap bC).take (j - (bC e).length))=(bP e,(bC e).length,0):=lY hb _;refine ⟨k + 1,by simpa using h1,?_,?_,?_⟩
   ·rw [List.take_succ_cons,List.flatMap_cons,List.length_append];omega
   ·rw [List.take_succ_cons,List.flatMap_cons,List.length_append];omega
   ·rw [List.take_append,List.take_of_length_le (by omega),pk hn (r5 he.1 he.2),List.drop_left,h4,List.take_succ_cons,List.flatMap_cons,List.map_cons,List.length_append]
    simp only [Prod.mk.injEq,true_and];by_cases hq:j - (bC e).length=((es.take k).flatMap bC).length
    ·rw [if_pos hq,if_pos (by omega)]
    ·rw [if_neg hq,if_neg (by omega)]
end
end Go.Proofs.YtaafkokfdgfabaaGreat
namespace Go.Proofs.YtaafkokfdgfabaaGreat
open Go.RowKit
set_option linter.unusedVariables false
set_option linter.unusedSimpArgs false
theorem Ep {m k:Nat} (h:0<m):0<m <<< k:=by rw [Nat.shiftLeft_eq];exact Nat.mul_pos h (Nat.two_pow_pos k)
theorem FG {a b:Int}:compare a b=if a<b then .lt else if a=b then .eq else .gt:=by
 show compareOfLessAndEq a b=_
 rfl
theorem r9:Ieee.double.read 0=.number false 0 (-1074):=by decide
theorem AJ:Ieee.double.read 4652007308841189376=.number false (4503599627370496 + 4292493394837504) (-43):=by decide
theorem tA (n:Nat):Ieee.double.read n =
  if n % 9223372036854775808<4503599627370496 then .number (n / 9223372036854775808 % 2 == 1) (n % 9223372036854775808) (-1074)
  else if n % 9223372036854775808<9218868437227405312 then .number (n / 9223372036854775808 % 2 == 1) (4503599627370496 + n % 9223372036854775808 % 4503599627370496) (-1074 + (n % 9223372036854775808 / 4503599627370496 - 1:Nat))
  else if n % 9223372036854775808=9218868437227405312 then .infinity (n / 9223372036854775808 % 2 == 1)
  else .nan (n / 9223372036854775808 % 2 == 1) (n % 9223372036854775808 - 9218868437227405312):=rfl
theorem pU (neg:Bool) (x k k':Nat):compare (Ieee.signed neg x k) (Ieee.signed false 0 k')=if x=0 then .eq else if neg then .lt else .gt:=by
 rw [FG];have h0:((0 <<< k':Nat):Int)=0:=by rw [Nat.zero_shiftLeft];rfl
 unfold Ieee.signed;simp only [Bool.false_eq_true,if_false,h0];by_cases hx:x=0
 ·subst hx
  rw [Nat.zero_shiftLeft];cases neg <;> simp
 ·have:=Ep (m:=x) (k:=k) (by omega)
  rw [if_neg hx];cases neg
  ·simp only [Bool.false_eq_true,if_false]
   rw [if_neg (by omega),if_neg (by omega)]
  ·simp only [if_true]
   rw [if_pos (by omega)]
theorem FH (n:Nat) (hn:n<18446744073709551616):(FloatKind.f64.format.order n 0 == some .gt || FloatKind.f64.format.order n 0 == some .eq)=(!j9 n && (decide (n<9223372036854775808) || decide (n=9223372036854775808))):=by
 show ((Ieee.double.read n).order (Ieee.double.read 0) == some .gt || (Ieee.double.read n).order (Ieee.double.read 0) == some .eq)=_
 rw [r9];obtain ⟨N,hN⟩:∃ N,N=j9 n:=⟨_,rfl⟩
 have hnan:N=true→9218868437227405312<n % 9223372036854775808:=fun h=>sP n (by rw [←hN];exact h)
 have hnot:N=false→n % 9223372036854775808≤9218868437227405312:=fun h=>yG n (by rw [←hN];exact h)
 rw [←hN,tA];clear hN;have hs:n / 9223372036854775808 % 2=0∧n<9223372036854775808∧n % 9223372036854775808=n∨n / 9223372036854775808 % 2=1∧9223372036854775808≤n∧n % 9223372036854775808=n - 9223372036854775808:=by omega
 split
 ·have:N=false:=by cases N;rfl;have:=hnan rfl;omega
  subst this;simp only [Ieee.Datum.order,pU];rcases hs with ⟨h1,h2,h3⟩ | ⟨h1,h2,h3⟩
  ·rw [h1,h3,decide_eq_true h2]
   by_cases h0:n=0
   ·subst h0;rfl
   ·rw [if_neg h0];rfl
  ·rw [h1,h3,decide_eq_false (by omega)]
   by_cases h0:n=9223372036854775808
   ·subst h0;rfl
   ·rw [if_neg (by omega),decide_eq_false h0];rfl
 ·rename_i hb
  split
  ·rename_i hi
   have:N=false:=by cases N;rfl;have:=hnan rfl;omega
   subst this;simp only [Ieee.Datum.order,pU];rw [if_neg (by omega)];rcases hs with ⟨h1,h2,h3⟩ | ⟨h1,h2,h3⟩
   ·rw [h1,decide_eq_true h2];rfl
   ·rw [h1,decide_eq_false (by omega),decide_eq_false (by omega)];rfl
  ·rename_i hi
   split
   ·rename_i hq
    have:N=false:=by cases N;rfl;have:=hnan rfl;omega
    subst this;rcases hs with ⟨h1,h2,h3⟩ | ⟨h1,h2,h3⟩
    ·rw [h1,decide_eq_true h2];rfl
    ·rw [h1,decide_eq_false (by omega),decide_eq_false (by omega)];rfl
   ·rename_i hq
    have:N=true:=by cases N;have:=hnot rfl;omega;rfl
    subst this;rfl
theorem FI (n:Nat):(FloatKind.f64.format.order n 0 == some .eq)=decide (n % 9223372036854775808=0):=by
 show ((Ieee.double.read n).order (Ieee.double.read 0) == some .eq)=_
 rw [r9,tA];split
 ·simp only [Ieee.Datum.order,pU]
  by_cases h0:n % 9223372036854775808=0
  ·rw [if_pos h0,decide_eq_true h0];rfl
  ·rw [if_neg h0,decide_eq_false h0]
   split <;> rfl
 ·rename_i hb
  rw [decide_eq_false (by omega)];split
  ·simp only [Ieee.Datum.order,pU]
   rw [if_neg (by omega)];split <;> rfl
  ·split
   ·simp only [Ieee.Datum.order]
    split <;> rfl
   ·rfl
theorem Fe (x k:Nat):Ieee.signed false x k=((x <<< k:Nat):Int):=rfl
theorem FJ (n:Nat) (hn:n<9223372036854775808):(FloatKind.f64.format.order n 4652007308841189376 == some .lt || FloatKind.f64.format.order n 4652007308841189376 == some .eq)=decide (n≤4652007308841189376):=by
 show ((Ieee.double.read n).order (Ieee.double.read 4652007308841189376) == some .lt || (Ieee.double.read n).order (Ieee.double.read 4652007308841189376) == some .eq)=_
 rw [AJ,tA];have e1:n / 9223372036854775808 % 2=0:=by omega
 have e2:n % 9223372036854775808=n:=by omega
 rw [e1,e2];split
 ·rename_i hb
  rw [decide_eq_true (by omega)];simp only [Ieee.Datum.order,show ((0:Nat) == 1)=false from rfl,Fe,FG];rw [show min (-1074:Int) (-43)=-1074 by decide,show ((-1074:Int) - -1074).toNat=0 by decide,show ((-43:Int) - -1074).toNat=1031 by decide];have h2:(4503599627370496 + 4292493394837504) <<< 1031>4503599627370496:=by decide
  rw [Nat.shiftLeft_zero,if_pos (by omega)];rfl
 ·rename_i hb
  split
  ·rename_i hi
   obtain ⟨e,he⟩:∃ e,e=n / 4503599627370496 - 1:=⟨_,rfl⟩
   have hee:n / 4503599627370496=e + 1:=by omega
   rw [←he];simp only [Ieee.Datum.order,show ((0:Nat) == 1)=false from rfl,Fe,FG];rcases Nat.lt_trichotomy e 1031 with h | h | h
   ·rw [show min (-1074 + (e:Int)) (-43)=-1074 + (e:Int) by omega,show (-1074 + (e:Int) - (-1074 + (e:Int))).toNat=0 by omega]
    obtain ⟨k,hk⟩:∃ k,(-43 - (-1074 + (e:Int))).toNat=k + 1:=⟨1031 - e - 1,by omega⟩
    rw [hk,Nat.shiftLeft_zero];have h3:(4503599627370496 + 4292493394837504) * 2≤(4503599627370496 + 4292493394837504) <<< (k + 1):=by
     rw [Nat.shiftLeft_eq,Nat.pow_succ];have:=Nat.two_pow_pos k;rw [Nat.mul_comm (2 ^ k) 2,←Nat.mul_assoc];exact Nat.le_mul_of_pos_right _ this
    rw [if_pos (by omega),decide_eq_true (by omega)];rfl
   ·subst h
    rw [show min (-1074 + ((1031:Nat):Int)) (-43)=-43 by decide,show (-1074 + ((1031:Nat):Int) - -43).toNat=0 by decide,show ((-43:Int) - -43).toNat=0 by decide,Nat.shiftLeft_zero,Nat.shiftLeft_zero];by_cases hle:n<4652007308841189376
    ·rw [if_pos (by omega),decide_eq_true (by omega)];rfl
    ·by_cases heq:n=4652007308841189376
     ·rw [if_neg (by omega),if_pos (by omega),decide_eq_true (by omega)];rfl
     ·rw [if_neg (by omega),if_neg (by omega),decide_eq_false (by omega)];rfl
   ·rw [show min (-1074 + (e:Int)) (-43)=-43 by omega,show ((-43:Int) - -43).toNat=0 by decide]
    obtain ⟨k,hk⟩:∃ k,(-1074 + (e:Int) - -43).toNat=k + 1:=⟨e - 1031 - 1,by omega⟩
    rw [hk,Nat.shiftLeft_zero];have h3:(4503599627370496 + n % 4503599627370496) * 2≤(4503599627370496 + n % 4503599627370496) <<< (k + 1):=by
     rw [Nat.shiftLeft_eq,Nat.pow_succ];have:=Nat.two_pow_pos k;rw [Nat.mul_comm (2 ^ k) 2,←Nat.mul_assoc];exact Nat.le_mul_of_pos_right _ this
    rw [if_neg (by omega),if_neg (by omega),decide_eq_false (by omega)];rfl
  ·rename_i hi
   rw [decide_eq_false (by omega)];split
   ·simp [Ieee.Datum.order]
   ·simp [Ieee.Datum.order]
theorem xE:(FloatKind.f64.format.order 9223372036854775808 4652007308841189376 == some .lt || FloatKind.f64.format.order 9223372036854775808 4652007308841189376 == some .eq)=true:=by decide
theorem qI (n:Nat) (hn:n<18446744073709551616) (w:World):Calls Tryz.prog 186 #[.float .f64 n] w fun e w'=>e=.returned (.bool (fY n))∧w=w':=by
 have h1:=FH n hn;by_cases hp:!j9 n && (decide (n<9223372036854775808) || decide (n=9223372036854775808))
 ·rw [hp] at h1
  have h2:(FloatKind.f64.format.order n 4652007308841189376 == some .lt || FloatKind.f64.format.order n 4652007308841189376 == some .eq)=fY n:=by
   simp only [Bool.and_eq_true,Bool.or_eq_true,decide_eq_true_eq,Bool.not_eq_true'] at hp;rcases hp.2 with h | h
   ·rw [FJ n h];unfold fY;rw [decide_eq_false (show ¬ n=9223372036854775808 by omega),Bool.or_false]
   ·subst h;rw [xE];rfl
  go_enter Tryz.func186,Tryz.ntmps186
  go_wp2
  go_ret
  exact ⟨by rw [←h2];rfl,rfl⟩
 ·rw [Bool.not_eq_true] at hp
  rw [hp] at h1;have h2:fY n=false:=by
   rw [←Bool.not_eq_true];intro h;simp only [Bool.and_eq_false_iff,Bool.or_eq_false_iff,decide_eq_false_iff_not,Bool.not_eq_false'] at hp;rcases hp with h3 | h3
   ·have:=sP n h3
    simp only [fY,Bool.or_eq_true,decide_eq_true_eq] at h;omega
   ·simp only [fY,Bool.or_eq_true,decide_eq_true_eq] at h
    omega
  go_enter Tryz.func186,Tryz.ntmps186
  go_wp2
  go_ret
  exact ⟨by rw [h2];rfl,rfl⟩
theorem nx (n:Nat) (hn:n<18446744073709551616) (w:World):Calls Tryz.prog 166 #[.float .f64 n] w fun e w'=>e=.returned (.float .f64 (jF n))∧w=w':=by
 have h1:=FI n;by_cases hz:n % 9223372036854775808=0
 ·rw [decide_eq_true hz] at h1
  have h2:jF n=0:=by unfold jF;rw [if_pos hz]
  rw [h2];clear hz h2;go_enter Tryz.func166,Tryz.ntmps166
  go_wp2
  go_ret
  exact ⟨rfl,rfl⟩
 ·rw [decide_eq_false hz] at h1
  have h2:jF n=n:=by unfold jF;rw [if_neg hz]
  rw [h2];clear hz h2;go_enter Tryz.func166,Tryz.ntmps166
  go_wp2
  go_ret
  exact ⟨rfl,rfl⟩
theorem AK {w:World} {g:Nat} {t:TypeId} {b:aU} (h:ah w g t (ag b).toArray) (hs:au b) (B:Nat) (hB:g<B):BS w B (some ⟨g,6,none⟩) (b.addr.2.drop 4):=fun hp=>by
 refine ⟨_,rfl,hB,fun j c hj=>?_⟩;rw [List.getElem?_drop] at hj;have e:((⟨g,6,none⟩:Addr).add j)=⟨g,6 + j,none⟩:=by unfold Addr.add;split <;> simp_all
 have:=pP h hs (5 + j) (.int .u8 (c.toNat:Int)) (by
  rw [show 5 + j=(4 + j) + 1 by omega,ai,List.getElem?_cons_succ,ab,List.getElem?_map,hj];rfl)
 rw [e,show 6 + j=1 + (5 + j) by omega];exact this
set_option maxRecDepth 100000 in
theorem oE (b:aU) (hb0:au b) (hn:b.name.length≤1000000000) (w:World) :
  Calls Tryz.prog 164 #[.agg (ag b).toArray] w fun e w'=>e=.returned (.bool (eT b))∧Below w.heap.size w w':=by
 have Hb:=Lib.hid hb0;clear hb0;obtain ⟨W,hW⟩:∃ W,W=w.alloc (.cells (ag b).toArray 56):=⟨_,rfl⟩
 have HX:Hid (ah W w.heap.size 56 (ag b).toArray):=by rw [hW];exact ah.new w _ _ _ rfl
 have HB:Hid (Below w.heap.size w W):=by rw [hW];exact (Below.refl _ _).alloc (Nat.le_refl _) _
 have d0:=mq HX.out;have d3:=wK HX.out Hb.out;have HS:=Lib.hid (AK HX.out Hb.out W.heap.size HX.out.lt);have Hdl:Hid (12=(b.addr.2.drop 4).length):=by show _=_;have:b.addr.2.length=16:=Hb.out.addr;simp;omega
 have Hwt:=Lib.hid Hb.out.wt;have HW:=Lib.hid hW;clear hW;rcases h6:b.addr.1 with _ | _
 ·rw [h6] at d3
  have Hsh:Hid (dZ b.addr=lF b.addr.2):=by show _=_;unfold dZ;rw [h6];rfl
  clear h6;go_enter Tryz.func164,Tryz.ntmps164
  go_upto_region 1 with fail
  rw [←HW.out];clear HW
  go_wp2_with fail
  refine (ib (Or.inr (Or.inl rfl)) _ _ _ (b.addr.2.drop 4) _ _ Hdl.out HS.out (by omega)).mono ?_;rintro e w1 ⟨rfl,rfl⟩;rcases ht:lF b.addr.2 with _ | _
  ·have Hr2:Hid (eT b=false):=by show _=_;unfold eT;rw [Hsh.out,ht];rfl
   have ht2:(b.addr.2.drop 4).all (·== 0)=false:=ht;rw [ht2];clear ht ht2
   go_wp2
   go_ret
   exact ⟨by rw [Hr2.out];rfl,HB.out⟩
  ·have Hr:Hid (eT b=(jA b.name && (ez b.port 1 65535 && fY b.wt))):=by show _=_;unfold eT;rw [Hsh.out,ht];rfl
   have ht2:(b.addr.2.drop 4).all (·== 0)=true:=ht;rw [ht2];clear ht ht2
   go_wp2_with fail
   refine (qw b.name hn W).mono ?_;rintro e w2 ⟨rfl,hb2⟩;have HX2:=Lib.hid (ah.below HX.out hb2 HX.out.lt);have HB2:=Lib.hid (HB.out.trans (hb2.mono HB.out.size));have d1:=kY HX2.out Hb.out;have d2:=mO HX2.out Hb.out;clear hb2;rcases hnm:jA b.name with _ | _
   ·have Hr2:Hid (eT b=false):=by show _=_;rw [Hr.out,hnm];rfl
    clear hnm
    go_wp2
    go_ret
    exact ⟨by rw [Hr2.out];rfl,HB2.out⟩
   ·by_cases p1:1≤b.port
    ·by_cases p2:b.port≤65535
     ·have Hr2:Hid (eT b=fY b.wt):=by show _=_;rw [Hr.out,hnm];unfold ez;rw [decide_eq_true p1,decide_eq_true p2];rfl
      clear hnm
      go_wp2_with fail
      refine (qI b.wt Hwt.out w2).mono ?_;rintro e w3 ⟨rfl,rfl⟩
      go_wp2
      go_ret
      exact ⟨by rw [Hr2.out];rfl,HB2.out⟩
     ·have Hr2:Hid (eT b=false):=by show _=_;rw [Hr.out];unfold ez;rw [decide_eq_false p2];simp
      clear hnm
      go_wp2
      go_ret
      exact ⟨by rw [Hr2.out];rfl,HB2.out⟩
    ·have Hr2:Hid (eT b=false):=by show _=_;rw [Hr.out];unfold ez;rw [decide_eq_false p1];simp
     clear hnm
     go_wp2
     go_ret
     exact ⟨by rw [Hr2.out];rfl,HB2.out⟩
 ·rw [h6] at d3
  have Hr:Hid (eT b=(jA b.name && (ez b.port 1 65535 && fY b.wt))):=by show _=_;unfold eT dZ;rw [h6];rfl
  clear h6;go_enter Tryz.func164,Tryz.ntmps164
  go_upto_region 1 with fail
  rw [←HW.out];clear HW
  go_wp2_with fail
  refine (qw b.name hn W).mono ?_;rintro e w2 ⟨rfl,hb2⟩;have HX2:=Lib.hid (ah.below HX.out hb2 HX.out.lt);have HB2:=Lib.hid (HB.out.trans (hb2.mono HB.out.size));have d1:=kY HX2.out Hb.out;have d2:=mO HX2.out Hb.out;clear hb2;rcases hnm:jA b.name with _ | _
  ·have Hr2:Hid (eT b=false):=by show _=_;rw [Hr.out,hnm];rfl
   clear hnm
   go_wp2
   go_ret
   exact ⟨by rw [Hr2.out];rfl,HB2.out⟩
  ·by_cases p1:1≤b.port
   ·by_cases p2:b.port≤65535
    ·have Hr2:Hid (eT b=fY b.wt):=by show _=_;rw [Hr.out,hnm];unfold ez;rw [decide_eq_true p1,decide_eq_true p2];rfl
     clear hnm
     go_wp2_with fail
     refine (qI b.wt Hwt.out w2).mono ?_;rintro e w3 ⟨rfl,rfl⟩
     go_wp2
     go_ret
     exact ⟨by rw [Hr2.out];rfl,HB2.out⟩
    ·have Hr2:Hid (eT b=false):=by show _=_;rw [Hr.out];unfold ez;rw [decide_eq_false p2];simp
     clear hnm
     go_wp2
     go_ret
     exact ⟨by rw [Hr2.out];rfl,HB2.out⟩
   ·have Hr2:Hid (eT b=false):=by show _=_;rw [Hr.out];unfold ez;rw [decide_eq_false p1];simp
    clear hnm
    go_wp2
    go_ret
    exact ⟨by rw [Hr2.out];rfl,HB2.out⟩
end Go.Proofs.YtaafkokfdgfabaaGreat
namespace Go.Proofs.YtaafkokfdgfabaaGreat
open Go.RowKit
set_option linter.unusedVariables false
set_option linter.unusedSimpArgs false
theorem eQ (w:World) (t:TypeId) (z cs:List Value) (hl:cs.length=z.length):∃ x y,Hid (x=w.alloc (.cells z.toArray t))∧Hid (y=x.setCells w.heap.size 0 cs)∧Hid (x.there w.heap.size 0 cs.toArray.size)∧Hid (ah y w.heap.size t cs.toArray)∧Hid (Below w.heap.size w y):=by
 obtain ⟨h1,h2,h3⟩:=mL w _ _ t z cs hl rfl rfl;exact ⟨_,_,rfl,rfl,h1,h2,h3⟩
theorem jH {p:lS}:cY p=true↔ez p.version 0 1099511627776=true∧p.backs.length≤1024∧∀ i,i<p.backs.length→il p.backs i=true:=by
 simp [cY]
theorem Er {a b:Bool} (h:a=true→b=true) (e:b=false):Hid (a=false):=by
 show _=_
 rcases a with _ | _
 ·rfl
 ·rw [h rfl] at e;cases e
set_option maxRecDepth 100000 in
theorem mU (A:Option Addr) (n c:Nat) (p:lS) (hs:∀ b ∈ p.backs,au b) (hnm:∀ b ∈ p.backs,b.name.length≤1000000000) (w:World) (hn:n=p.backs.length) (hnc:n≤c) (hb:RW ag 27 w w.heap.size A p.backs) (hl:n≤1000000) :
  Calls Tryz.prog 120 #[.agg (fN A n c p).toArray] w fun e w'=>e=.returned (.bool (cY p))∧Below w.heap.size w w':=by
 subst hn;obtain ⟨ver,bs⟩:=p;simp only at hs hnm hb hl hnc ⊢;obtain ⟨W,hW⟩:∃ W,W=w.alloc (.cells (fN A bs.length c ⟨ver,bs⟩).toArray 32):=⟨_,rfl⟩
 have HX:Hid (ah W w.heap.size 32 (fN A bs.length c ⟨ver,bs⟩).toArray):=by rw [hW];exact ah.new w _ _ _ rfl
 have HB:Hid (Below w.heap.size w W):=by rw [hW];exact (Below.refl _ _).alloc (Nat.le_refl _) _
 have HV:=Lib.hid ((hb.below HB.out).more HB.out.size);have Hs:=Lib.hid hs;have Hnm:=Lib.hid hnm;have d0:W.cell? ⟨w.heap.size,0,none⟩=some (.int .i64 ver):=HX.out.cell 0;have d1:W.cell? ⟨w.heap.size,1,none⟩=some (.slice A bs.length c):=HX.out.cell 1;have HW:=Lib.hid hW;clear hW hb hs hnm;have Hno:=fun (r:Bool) (h:cY ⟨ver,bs⟩=true→r=true)=>Er h
 go_enter Tryz.func120,Tryz.ntmps120
 go_upto_region 1 with fail
 rw [←HW.out];clear HW;by_cases v1:ver<0
 ·have Hr:=Hno (ez ver 0 1099511627776) (fun h=>(jH.1 h).1) (by unfold ez;rw [decide_eq_false (by omega)];rfl)
  go_wp2
  go_ret
  exact ⟨by rw [Hr.out];rfl,HB.out⟩
 by_cases v2:1099511627776<ver
 ·have Hr:=Hno (ez ver 0 1099511627776) (fun h=>(jH.1 h).1) (by unfold ez;rw [decide_eq_false (show ¬ ver≤1099511627776 by omega)];simp)
  go_wp2
  go_ret
  exact ⟨by rw [Hr.out];rfl,HB.out⟩
 by_cases v3:1024<bs.length
 ·have v3I:(1024:Int)<(bs.length:Int):=by omega
  have Hr:=Hno (decide (bs.length≤1024)) (fun h=>by have:=(jH.1 h).2.1;simpa using this) (by rw [decide_eq_false (by omega)]);clear v3
  go_wp2
  go_ret
  exact ⟨by rw [Hr.out];rfl,HB.out⟩
 have v3I:¬ (1024:Int)<(bs.length:Int):=by omega
 go_wp2
 go_loopw [22] (fun i wr=>∃ k:Nat,k≤bs.length∧i=.int .i64 (k:Int)∧Hid (Below W.heap.size W wr)∧Hid (∀ j,j<k→il bs j=true)) (fun i _=>bs.length - (intOf i).toNat)
 case atStart=>exact ⟨0,by omega,rfl,Below.refl _ _,fun j hj=>by omega⟩
 case round =>
  obtain ⟨k,hk,rfl,hbel,hat⟩:=hrel;rename World=>wr
  by_cases hlt:k<bs.length
  ·have hltI:(k:Int)<(bs.length:Int):=by omega
   have hk0:(0:Int)≤(k:Int):=by omega
   obtain ⟨b,o,hA,hbB,hc⟩:=(HV.out.below hbel.out) (by omega);subst hA;obtain ⟨x,hx⟩:∃ x,x=bs[k]:=⟨_,rfl⟩
   have Hrg:=Lib.hid (hc k x (by rw [List.getElem?_eq_getElem hlt,hx]));have Hxs:=Lib.hid (Hs.out x (by rw [hx];exact List.getElem_mem hlt));have Hxn:=Lib.hid (Hnm.out x (by rw [hx];exact List.getElem_mem hlt));have Hat0:Hid (il bs k=(eT x && (bv x.wt == bv (jF x.wt) && (decide (k=0) || (match bs[k - 1]? with | some c=>Op.bytesLess c.name x.name | none=>true))))):=by
    show _=_
    unfold il;rw [List.getElem?_eq_getElem hlt,←hx];rfl
   have Hno2:il bs k=false→Hid (cY ⟨ver,bs⟩=false):=fun h=>Hno (il bs k) (fun g=>(jH.1 g).2.2 k hlt) h
   have Hyes:Hid (il bs k=true→∀ j,j<k + 1→il bs j=true):=fun h j hj=>by
    rcases Nat.lt_or_ge j k with h1 | h1
    ·exact hat.out j h1
    ·obtain rfl:j=k:=by omega
     exact h
   have HPx:Hid (∀ y:aU,bs[k - 1]?=some y→wr.cell? ⟨b,o + (k - 1) * 27,none⟩=some (.string ⟨y.name.toArray⟩)):=fun y hy=>hc (k - 1) y hy 0 _ rfl
   have e0:wr.cell? ⟨w.heap.size,1,none⟩=some (.slice (some ⟨b,o,none⟩) bs.length c):=(ah.below HX.out hbel.out HX.out.lt).cell 1;clear hc hx hat;obtain ⟨x1,y1,X1,Y1,T1,B1,L1⟩:=eQ wr 56 (ag dN) (ag x) (by rw [bq Hxs.out,bq aF]);rw [gT] at X1;have HB1:Hid (Below W.heap.size W y1):=hbel.out.trans (L1.out.mono hbel.out.size);have hold:Hid (∀ o,y1.cell? ⟨b,o,none⟩=wr.cell? ⟨b,o,none⟩):=fun o=>L1.out.cell (p:=⟨b,o,none⟩) (by have:=hbel.out.size;have:=hbB;simp;omega)
   have Hsz:=Lib.hid (dv Hxs.out);have Hb1:Hid (b<y1.heap.size):=by have:=HB1.out.size;show _<_;omega
   go_upto_region 6 with (first
    | ((with_reducible refine aE 56 ?_);refine aa (by rfl) 56 (.tmp 25) rfl b (o + k * 27) rfl (ag x) _ Hrg.out bW rfl Hsz.out ?_)
    | (rw [←X1.out];(with_reducible refine aM 56 ?_);refine wpList_store_mid rfl 56 (.tmp 4) (.tmp 26) rfl wr.heap.size 0 (ag x).toArray rfl rfl T1.out (by rw [List.size_toArray];exact Hsz.out) (eZ _) ?_))
   rw [←Y1.out];have Hwt:=Lib.hid Hxs.out.wt;have e1:y1.cell? ⟨w.heap.size,1,none⟩=some (.slice (some ⟨b,o,none⟩) bs.length c):=(ah.below HX.out HB1.out HX.out.lt).cell 1;have e2:=mq B1.out;have e3:=mO B1.out Hxs.out;have l1:w.heap.size<y1.heap.size:=by have:=HX.out.lt;have:=HB1.out.size;omega
   have l2:wr.heap.size<y1.heap.size:=B1.out.lt;have l3:b<y1.heap.size:=Hb1.out;clear X1 Y1 T1 Hrg hbel e0;have Hfin:Hid (∀ w2,Below y1.heap.size y1 w2→Below W.heap.size W w2):=fun w2 h=>HB1.out.trans (h.mono HB1.out.size)
   have Hwt:=Lib.hid Hxs.out.wt;refine Sd.start ?_;simp only [Act.put];rcases hf:eT x with _ | _
   ·have Hr:=Hno2 (by rw [Hat0.out,hf];rfl)
    repeat ((first | refine sk ?_ | refine sl (ae B1.out) l2 bW Hsz.out ?_ | refine cl (fun w _=>oE x Hxs.out Hxn.out w) ?_ | refine pt ?_);simp only [ld,lg,lf,Nat.reduceAdd,hf])
    refine Sd.done fun w2 hb2=>?_
    have Hb2:=Lib.hid (HB.out.trans ((Hfin.out w2 hb2).mono HB.out.size));clear hf hb2
    go_wp2
    go_ret
    exact ⟨by rw [Hr.out];rfl,Hb2.out⟩
   ·rcases hw:(bv x.wt == bv (jF x.wt)) with _ | _
    ·have Hr:=Hno2 (by rw [Hat0.out,hf,hw];rfl)
     repeat ((first | refine sk ?_ | refine sl (ae B1.out) l2 bW Hsz.out ?_ | refine cl (fun w _=>oE x Hxs.out Hxn.out w) ?_ | refine cq (fun w _=>nx x.wt Hwt.out w) ?_ | refine cq (fun w _=>kx x.wt (jF x.wt) w) ?_ | refine pt ?_);simp only [ld,lg,lf,Nat.reduceAdd,hf,hw])
     refine Sd.done fun w2 hb2=>?_
     have Hb2:=Lib.hid (HB.out.trans ((Hfin.out w2 hb2).mono HB.out.size));clear hf hw hb2
     go_wp2
     go_ret
     exact ⟨by rw [Hr.out];rfl,Hb2.out⟩
    ·rcases k with _ | j
     ·have Hr:Hid (il bs 0=true):=by show _=_;rw [Hat0.out,hf,hw];rfl
      repeat ((first | refine sk ?_ | refine sl (ae B1.out) l2 bW Hsz.out ?_ | refine cl (fun w _=>oE x Hxs.out Hxn.out w) ?_ | refine cq (fun w _=>nx x.wt Hwt.out w) ?_ | refine cq (fun w _=>kx x.wt (jF x.wt) w) ?_ | refine pt ?_);simp only [ld,lg,lf,Nat.reduceAdd,hf,hw])
      refine Sd.done fun w2 hb2=>?_
      have Hb2:=Lib.hid (Hfin.out w2 hb2);clear hf hw hb2
      go_wp2
      go_roundw
      case rel=>exact ⟨_,by omega,by go_num,Hb2,Lib.hid (Hyes.out Hr.out)⟩
      case measure=>simp [intOf];omega
     ·obtain ⟨y,hy⟩:∃ y,bs[j]?=some y:=⟨_,List.getElem?_eq_getElem (by omega)⟩
      have e4:y1.cell? ⟨b,o + j * 27,none⟩=some (.string ⟨y.name.toArray⟩):=(hold.out _).trans (HPx.out y hy);have Hat1:Hid (il bs (j + 1)=Op.bytesLess y.name x.name):=by show _=_;rw [Hat0.out,hf,hw];simp [hy]
      have j1:(0:Int)≤(j:Int):=by omega
      have j2:(j:Int)<(bs.length:Int):=by omega
      have jw:IntKind.i64.wrap (j:Int)=(j:Int):=IntWalk.i64_in _ (by omega)
      repeat ((first | refine sk ?_ | refine sl (ae B1.out) l2 bW Hsz.out ?_ | refine cl (fun w _=>oE x Hxs.out Hxn.out w) ?_ | refine cq (fun w _=>nx x.wt Hwt.out w) ?_ | refine cq (fun w _=>kx x.wt (jF x.wt) w) ?_ | refine pt ?_);simp only [ld,lg,lf,Nat.reduceAdd,hf,hw,jw])
      refine Sd.done fun w2 hb2=>?_
      have Hb2:=Lib.hid (Hfin.out w2 hb2);have Hb3:=Lib.hid (HB.out.trans (Hb2.out.mono HB.out.size));clear hf hw hb2 jw;rcases hl2:Op.bytesLess y.name x.name with _ | _
      ·have Hr:=Hno2 (by rw [Hat1.out,hl2])
       go_wp2
       go_ret
       exact ⟨by rw [Hr.out];rfl,Hb3.out⟩
      ·have Hr:Hid (il bs (j + 1)=true):=by show _=_;rw [Hat1.out,hl2]
       go_wp2
       go_roundw
       case rel=>exact ⟨_,by omega,by go_num,Hb2,Lib.hid (Hyes.out Hr.out)⟩
       case measure=>simp [intOf];omega
  ·have hltI:¬ (k:Int)<(bs.length:Int):=by omega
   have Hr:Hid (cY ⟨ver,bs⟩=true):=jH.2 ⟨by unfold ez;rw [decide_eq_true (by omega),decide_eq_true (by omega)];rfl,by simp only;omega,fun i hi=>hat.out i (by simp only at hi;omega)⟩
   go_wp2
   go_ret
   exact ⟨by rw [Hr.out];rfl,HB.out.trans (hbel.out.mono HB.out.size)⟩
end Go.Proofs.YtaafkokfdgfabaaGreat
namespace Go.Proofs.YtaafkokfdgfabaaGreat
open Go.RowKit
set_option linter.unusedVariables false
set_option linter.unusedSimpArgs false
theorem uY (a:cS) (ha:aS a) (w:World):Calls Tryz.prog 187 #[lN a] w fun e w'=>e=.returned (.bool (dZ a))∧Below w.heap.size w w':=by
 have hlen:a.2.length=16:=ha;unfold lN;obtain ⟨W,hW⟩:∃ W,W=w.alloc (.cells (ai a).toArray 27):=⟨_,rfl⟩
 have HX:Hid (ah W w.heap.size 27 (ai a).toArray):=by rw [hW];exact qi _ _ _
 have HB:Hid (Below w.heap.size w W):=by rw [hW];exact (Below.refl _ _).alloc (Nat.le_refl _) _
 have c0:W.cell? ⟨w.heap.size,0,none⟩=some (.bool a.1):=nO HX.out;have HS:Hid (BS W W.heap.size (some ⟨w.heap.size,5,none⟩) (a.2.drop 4)):=sO HX.out 4 _ HX.out.lt;have Hdl:Hid (12=(a.2.drop 4).length):=by show _=_;simp;omega
 have HW:=Lib.hid hW;have l0:w.heap.size<W.heap.size:=HX.out.lt;clear hW hlen;go_enter Tryz.func187,Tryz.ntmps187
 go_upto_region 1 with fail
 rw [←HW.out];clear HW;refine Sd.plain ?_
 repeat ((first | refine pa ?_ | refine po ?_ | refine gq (fun w hS=>ib (Or.inr (Or.inr rfl)) _ 12 12 (a.2.drop 4) w W.heap.size Hdl.out (HS.out.below hS) (by decide)) ?_ | refine gp ?_ | refine pt ?_);simp only [ld,lg,lf,Nat.reduceAdd])
 refine Sd.done fun w2 hb2=>?_
 have Hb2:=Lib.hid (HB.out.trans (hb2.mono HB.out.size));have Hr:Hid ((a.1 || (a.2.drop 4).all fun x=>x == 0)=dZ a):=by show _=_;unfold dZ lF;cases a.1 <;> rfl
 clear hb2
 go_wp2
 go_ret
 exact ⟨by rw [←Hr.out];rfl,Hb2.out⟩
theorem zk {k:fz} (h:cg k) {w:World} {g:Nat} {t:TypeId} (hb:ah w g t (aO k).toArray):w.rangeAt g 0 (ai k.src):=fun j v hj=>by
 rw [hb.cell,List.getElem?_toArray,aO,List.getElem?_append_left (by have:=(List.getElem?_eq_some_iff.1 hj).1;omega),Nat.zero_add];exact hj
theorem zl {k:fz} (h:cg k) {w:World} {g:Nat} {t:TypeId} (hb:ah w g t (aO k).toArray):w.rangeAt g 17 (ai k.dst):=fun j v hj=>by
 have h1:=ap h.src;rw [hb.cell,List.getElem?_toArray,aO,List.getElem?_append_right (by omega),h1,List.getElem?_append_left (by have:=(List.getElem?_eq_some_iff.1 hj).1;omega),Nat.add_sub_cancel_left];exact hj
theorem mA {k:fz} (h:cg k) {w:World} {g:Nat} {t:TypeId} (hb:ah w g t (aO k).toArray) (j:Nat):w.cell? ⟨g,34 + j,none⟩=[zv k.proto,zv k.sport,zv k.dport][j]?:=by
 have h1:=ap h.src;have h2:=ap h.dst;rw [hb.cell,List.getElem?_toArray,aO,List.getElem?_append_right (by omega),h1,List.getElem?_append_right (by omega),h2,show 34 + j - 17 - 17=j by omega]
theorem uZ {a:cS} (h:aS a):(Tryz.prog.info? 27).map (·.size)=some (ai a).length:=by rw [ap h];exact fC
set_option maxRecDepth 100000 in
theorem AL (k:fz) (hk:cg k) (w:World):Calls Tryz.prog 168 #[.agg (aO k).toArray] w fun e w'=>e=.returned (.bool (fg k))∧Below w.heap.size w w':=by
 obtain ⟨W,hW⟩:∃ W,W=w.alloc (.cells (aO k).toArray 118):=⟨_,rfl⟩
 have HX:Hid (ah W w.heap.size 118 (aO k).toArray):=by rw [hW];exact ah.new w _ _ _ rfl
 have HB:Hid (Below w.heap.size w W):=by rw [hW];exact (Below.refl _ _).alloc (Nat.le_refl _) _
 have HS:=Lib.hid (zk hk HX.out);have HD:=Lib.hid (zl hk HX.out);have c0:W.cell? ⟨w.heap.size,0,none⟩=some (.bool k.src.1):=HS.out 0 _ rfl;have c1:W.cell? ⟨w.heap.size,17,none⟩=some (.bool k.dst.1):=HD.out 0 _ rfl;have c2:W.cell? ⟨w.heap.size,34,none⟩=some (.int .i64 k.proto):=mA hk HX.out 0;have c3:W.cell? ⟨w.heap.size,35,none⟩=some (.int .i64 k.sport):=mA hk HX.out 1;have c4:W.cell? ⟨w.heap.size,36,none⟩=some (.int .i64 k.dport):=mA hk HX.out 2;have HW:=Lib.hid hW;have l0:w.heap.size<W.heap.size:=HX.out.lt;clear hW;go_enter Tryz.func168,Tryz.ntmps168
 go_upto_region 1 with fail
 rw [←HW.out];clear HW;refine Sd.plain ?_
 repeat ((first | refine pa ?_ | refine gs HS.out l0 du (uZ hk.src) ?_ | refine gs HD.out l0 du (uZ hk.dst) ?_ | refine gc (fun w _=>uY k.src hk.src w) ?_ | refine gc (fun w _=>uY k.dst hk.dst w) ?_ | refine gp ?_ | refine pt ?_);simp only [ld,lg,lf,Nat.reduceAdd])
 refine Sd.done fun w2 hb2=>?_
 have Hb2:=Lib.hid (HB.out.trans (hb2.mono HB.out.size));clear hb2
 go_wp2
 go_ret
 exact ⟨by simp only [fg,ez,←Bool.and_assoc];rfl,Hb2.out⟩
theorem jI {f:dD} (h:cg f.key) {w:World} {g:Nat} {t:TypeId} (hb:ah w g t (ax f).toArray):w.rangeAt g 0 (aO f.key):=fun j v hj=>by
 rw [hb.cell,List.getElem?_toArray,ax,List.getElem?_append_left (by have:=(List.getElem?_eq_some_iff.1 hj).1;omega),Nat.zero_add];exact hj
theorem eI {f:dD} (h:cg f.key) {w:World} {g:Nat} {t:TypeId} (hb:ah w g t (ax f).toArray) (j:Nat):w.cell? ⟨g,37 + j,none⟩=[sv f.name,zv f.state,zv f.seen,zv f.no][j]?:=by
 have h1:=fw h;rw [hb.cell,List.getElem?_toArray,ax,List.getElem?_append_right (by omega),h1,Nat.add_sub_cancel_left]
theorem ei:Tryz.prog.underlying 118=some (.struct (Tryz.prog.fieldsOf 118)):=by kernel_rfl
theorem Dj:(Tryz.prog.info? 118).map (·.size)=some 37:=by kernel_rfl
theorem ll {k:fz} (h:cg k):(Tryz.prog.info? 118).map (·.size)=some (aO k).length:=by rw [fw h];exact Dj
set_option maxRecDepth 100000 in
theorem iN (f:dD) (hk:cg f.key) (hn:f.name.length≤1000000000) (w:World):Calls Tryz.prog 123 #[.agg (ax f).toArray] w fun e w'=>e=.returned (.bool (eA f))∧Below w.heap.size w w':=by
 obtain ⟨W,hW⟩:∃ W,W=w.alloc (.cells (ax f).toArray 120):=⟨_,rfl⟩
 have HX:Hid (ah W w.heap.size 120 (ax f).toArray):=by rw [hW];exact ah.new w _ _ _ rfl
 have HB:Hid (Below w.heap.size w W):=by rw [hW];exact (Below.refl _ _).alloc (Nat.le_refl _) _
 have c1:W.cell? ⟨w.heap.size,37,none⟩=some (.string ⟨f.name.toArray⟩):=eI hk HX.out 0;have c2:W.cell? ⟨w.heap.size,38,none⟩=some (.int .i64 f.state):=eI hk HX.out 1;have c3:W.cell? ⟨w.heap.size,39,none⟩=some (.int .i64 f.seen):=eI hk HX.out 2;have c4:W.cell? ⟨w.heap.size,40,none⟩=some (.int .i64 f.no):=eI hk HX.out 3;have HW:=Lib.hid hW;have Hn:=Lib.hid hn;have l0:w.heap.size<W.heap.size:=HX.out.lt;clear hW hn;go_enter Tryz.func123,Tryz.ntmps123
 go_upto_region 1 with fail
 rw [←HW.out];clear HW;refine Sd.plain ?_
 repeat ((first | refine pa ?_ | refine sl (jI hk HX.out) l0 ei (ll hk) ?_ | refine cl (fun w _=>AL f.key hk w) ?_ | refine gc (fun w _=>qw f.name Hn.out w) ?_ | refine gp ?_ | refine pt ?_);simp only [ld,lg,lf,Nat.reduceAdd])
 refine Sd.done fun w2 hb2=>?_
 have Hb2:=Lib.hid (HB.out.trans (hb2.mono HB.out.size));clear hb2
 go_wp2
 go_ret
 exact ⟨by simp only [eA,ez,←Bool.and_assoc];rfl,Hb2.out⟩
end Go.Proofs.YtaafkokfdgfabaaGreat
namespace Go.Proofs.YtaafkokfdgfabaaGreat
open Go.RowKit
set_option linter.unusedVariables false
set_option linter.unusedSimpArgs false
theorem qJ (m:Nat) (w:World) (hm:m<18446744073709551616):Calls Tryz.prog 118 #[.int .u64 (m:Int),.int .i64 2,.bool true] w fun e w'=>∃ A c,e=.returned (.slice A 2 c)∧w'.ownsRow w.heap.size 5 1 (.slice A 2 c) (cd 2 m true).length (ab (cd 2 m true))∧Below w.heap.size w w':=by
 refine (ku true m 2 w hm).mono ?_;rintro e w' ⟨A,c,rfl,h1,h2⟩;exact ⟨A,c,by rw [aw];rfl,by rw [aw] at h1 ⊢;exact h1,h2⟩
theorem qK {w:World} {g o:Nat} {x:Bool} {l:List UInt8} (h:w.rangeAt g o (ai (x,l))) (B:Nat) (hB:g<B):BS w B (some ⟨g,o + 1,none⟩) l:=fun hp=>by
 refine ⟨_,rfl,hB,fun j c hj=>?_⟩;rw [Addr.add_mid,show o + 1 + j=o + (j + 1) by omega];exact h (j + 1) _ (by rw [ai,List.getElem?_cons_succ,ab,List.getElem?_map,hj];rfl)
theorem zn {w:World} {g:Nat} {x:UInt8} (h:w.cell? ⟨g,0,none⟩=some (rm x)) (B:Nat) (hB:g<B):BS w B (some ⟨g,0,none⟩) [x]:=fun hp=>by
 refine ⟨_,rfl,hB,fun j c hj=>?_⟩;match j,hj with
 | 0,hj=>injection hj with hj;subst hj;rw [Addr.add_mid];exact h
theorem sc (w:World) (a b:Array Value) (t:TypeId):(∀ x,a[0]?=some x→((w.alloc (.cells a t)).alloc (.cells b t)).cell? ⟨w.heap.size,0,none⟩=some x)∧(∀ x,b[0]?=some x→((w.alloc (.cells a t)).alloc (.cells b t)).cell? ⟨w.heap.size + 1,0,none⟩=some x)∧Below w.heap.size w ((w.alloc (.cells a t)).alloc (.cells b t)):=by
 have h1:ah (w.alloc (.cells a t)) w.heap.size t a:=ah.new w _ _ _ rfl;have h2:ah ((w.alloc (.cells a t)).alloc (.cells b t)) (w.heap.size + 1) t b:=by
  have:=ah.new (w.alloc (.cells a t)) t b _ rfl;simpa using this
 have h3:Below (w.alloc (.cells a t)).heap.size (w.alloc (.cells a t)) ((w.alloc (.cells a t)).alloc (.cells b t)):=(Below.refl _ _).alloc (Nat.le_refl _) _;refine ⟨fun x hx=>?_,fun x hx=>by rw [h2.cell];exact hx,((Below.refl _ _).alloc (Nat.le_refl _) _).trans (h3.mono (by simp))⟩;rw [(h1.below h3 h1.lt).cell];exact hx
set_option maxRecDepth 100000 in
theorem lp (k:fz) (hk:cg k) (hkn:fg k=true) (w:World):Calls Tryz.prog 66 #[.agg (aO k).toArray] w fun e w'=>∃ A c,e=.returned (.slice A (bG k).length c)∧w'.ownsRow w.heap.size 5 1 (.slice A (bG k).length c) (bG k).length (ab (bG k))∧Below w.heap.size w w':=by
 simp only [fg,Bool.and_eq_true,bE] at hkn;obtain ⟨_,_,_,hp,hs,hd⟩:=hkn;obtain ⟨i0,hi0,hz0,hz1,hz2⟩:=info_parts cC;obtain ⟨pr,hpr⟩:∃ n:Nat,k.proto=(n:Int):=⟨k.proto.toNat,by omega⟩
 obtain ⟨sp,hsp⟩:∃ n:Nat,k.sport=(n:Int):=⟨k.sport.toNat,by omega⟩
 obtain ⟨dp,hdp⟩:∃ n:Nat,k.dport=(n:Int):=⟨k.dport.toNat,by omega⟩
 rw [hpr] at hp;rw [hsp] at hs;rw [hdp] at hd;obtain ⟨φ,hφ⟩:∃ φ:UInt8,φ=if k.src.1 then 6 else 4:=⟨_,rfl⟩
 have Htb:Hid ([[φ],k.src.2,k.dst.2,[UInt8.ofNat (pr % 256)],cd 2 sp true ++ cd 2 dp true].flatten=bG k):=by
  show _=_
  rw [bG,hφ,hpr,hsp,hdp];simp [cd,jP]
 have Hlen:Hid ((bG k).length=38):=by
  show _=_
  have h1:k.src.2.length=16:=hk.src;have h2:k.dst.2.length=16:=hk.dst;simp [bG,aw,h1,h2]
 obtain ⟨W,hW⟩:∃ W,W=w.alloc (.cells (aO k).toArray 118):=⟨_,rfl⟩
 have HX:Hid (ah W w.heap.size 118 (aO k).toArray):=by rw [hW];exact ah.new w _ _ _ rfl
 have HB:Hid (Below w.heap.size w W):=by rw [hW];exact (Below.refl _ _).alloc (Nat.le_refl _) _
 have HS:=Lib.hid (zk hk HX.out);have HD:=Lib.hid (zl hk HX.out);have c0:W.cell? ⟨w.heap.size,0,none⟩=some (.bool k.src.1):=HS.out 0 _ rfl;have c2:W.cell? ⟨w.heap.size,34,none⟩=some (.int .i64 (pr:Int)):=(mA hk HX.out 0).trans (by rw [hpr];rfl);have c3:W.cell? ⟨w.heap.size,35,none⟩=some (.int .i64 (sp:Int)):=(mA hk HX.out 1).trans (by rw [hsp];rfl);have c4:W.cell? ⟨w.heap.size,36,none⟩=some (.int .i64 (dp:Int)):=(mA hk HX.out 2).trans (by rw [hdp];rfl);have HW:=Lib.hid hW;have l0:w.heap.size<W.heap.size:=HX.out.lt;have Hφ:=Lib.hid hφ;clear hW hφ hpr hsp hdp;rcases h6:k.src.1 with _ | _
 all_goals
  rw [h6] at c0;go_enter Tryz.func66,Tryz.ntmps66
  go_upto_region 1 with fail
  rw [←HW.out];go_upto_region 4 with fail
  have hw1:IntKind.u64.wrap (sp:Int)=(sp:Int):=IntWalk.u64_in _ (by omega);have hw2:IntKind.u64.wrap (dp:Int)=(dp:Int):=IntWalk.u64_in _ (by omega);refine Wh.start fun hH=>?_
  have hH:=hH.out;refine tw 0 hH ?_;simp only [ld,lg,lf];refine tw 1 hH ?_;simp only [ld,lg,lf];refine tw 2 hH ?_;simp only [ld,lg,lf,hw1,hw2];refine tw 4 hH ?_;simp only [ld,lg,lf];refine tw 5 hH ?_;simp only [ld,lg,lf];refine tw 6 hH ?_;simp only [ld,lg,lf,hw1,hw2];refine one 3 (On.call (qJ sp _ (by omega)) ?_);rintro e w1 ⟨A1,n1,rfl,hown1,hb1⟩;have hH1:=hH.trans (hb1.mono hH.size);refine ⟨_,rfl,hH1,?_⟩;simp only [ld,lg,lf];refine one 7 (On.call (qJ dp _ (by omega)) ?_);rintro e w2 ⟨A2,n2,rfl,hown2,hb2⟩;have hH2:=hH1.trans (hb2.mono hH1.size);have ho:=ay hown1 hb2;have hW2:W.heap.size≤W.drew.heap.size:=hH.size;refine ⟨_,rfl,hH2,?_⟩;simp only [ld,lg,lf];refine one 8 (On.op fun K hK=>?_);refine lD _ _ _ 43 rfl W.drew.heap.size 5 i0 (.int .u8 0) 1 Tryz.underlying43 hi0 hz0 hz1 hz2 rfl _ (cd 2 sp true) rfl ho _ A2 2 n2 (cd 2 dp true) rfl (aw 2 dp true).symm (BS.of_own hown2).1 (by rw [aw,aw];decide) (by rw [aw,aw];decide) (Nat.le_trans hb1.size hb2.size) ?_;intro A3 n3 w3 hown3 hg3 _;refine hK.out _ _ (hH2.grown hg3 hH2.size fun g hg=>Nat.le_trans hW2 (ho.lt g hg).1) fun hH3=>?_
  clear hK K;obtain ⟨pb,hpb⟩:∃ pb,pb=cd 2 sp true ++ cd 2 dp true:=⟨_,rfl⟩
  have hpl:pb.length=4:=by rw [hpb,List.length_append,aw,aw]
  rw [←hpb,hpl] at hown3;rw [←hpb] at Htb;rw [←hpb,hpl];simp only [ld,lg,lf];refine tw 9 hH3 ?_;simp only [ld,lg,lf];refine Wh.done ?_;have HP:Hid (BS w3 w3.heap.size A3 pb):=(BS.of_own hown3).1;have HB3:Hid (Below w.heap.size w w3):=HB.out.trans (hH3.mono HB.out.size);have HS3:Hid (BS w3 w3.heap.size (some ⟨w.heap.size,1,none⟩) k.src.2):=((qK HS.out _ l0).below hH3).more hH3.size;have HD3:Hid (BS w3 w3.heap.size (some ⟨w.heap.size,18,none⟩) k.dst.2):=((qK HD.out _ l0).below hH3).more hH3.size;have d2:w3.cell? ⟨w.heap.size,34,none⟩=some (.int .i64 (pr:Int)):=(dc hH3 _ _ l0).trans c2;have l3:w.heap.size<w3.heap.size:=Nat.lt_of_lt_of_le l0 hH3.size;have Hpl:=Lib.hid hpl;clear hpb hpl hown1 hown2 hown3 ho hb1 hb2 hg3 hH hH1 hH2 hH3 c0 c2 c3 c4 hw1 hw2 HW;go_upto_region 5 with fail
  have hw3:IntKind.u8.wrap (pr:Int)=(pr:Int):=IntWalk.u8_in _ (by omega)
  first | rw [show Value.int IntKind.u8 4=Value.int IntKind.u8 (φ.toNat:Int) by rw [Hφ.out,h6];rfl] | rw [show Value.int IntKind.u8 6=Value.int IntKind.u8 (φ.toNat:Int) by rw [Hφ.out,h6];rfl]
  refine Wh.start fun hH=>?_
  have hH:=hH.out;refine tw 0 hH ?_;simp only [ld,lg,lf];refine tw 2 hH ?_;simp only [ld,lg,lf];refine tw 3 hH ?_;simp only [ld,lg,lf];refine tw 4 hH ?_;simp only [ld,lg,lf];refine tw 5 hH ?_;simp only [ld,lg,lf];refine tw 6 hH ?_;simp only [ld,lg,lf];refine tw 7 hH ?_;simp only [ld,lg,lf];refine tw 8 hH ?_;simp only [ld,lg,lf];refine tw 9 hH ?_;simp only [ld,lg,lf];refine tw 10 hH ?_;simp only [ld,lg,lf,hw3];refine tw 12 hH ?_;simp only [ld,lg,lf];refine Gb 1 11 (On.val ?_ ?_) (On.val ?_ ?_)
  any_goals (rintro _ rfl;exact hH.alloc hH.size _)
  all_goals (intro hH4;have hH4:=hH4.out;simp only [ld,lg,lf])
  refine one 11 (On.val ?_ ?_);rotate_left 2
  refine one 1 (On.val ?_ ?_)
  any_goals (rintro _ rfl;exact hH4.alloc hH4.size _)
  all_goals (intro hH5;have hH5:=hH5.out;simp only [ld,lg,lf])
  obtain ⟨t2,t1,t3⟩:=sc w3 #[.int .u8 (pr:Int)] #[.int .u8 (φ.toNat:Int)] 5;obtain ⟨w5,hw5⟩:∃ w5,w5=((w3.alloc (.cells #[.int .u8 (pr:Int)] 5)).alloc (.cells #[.int .u8 (φ.toNat:Int)] 5)).drew:=⟨_,rfl⟩
  obtain ⟨p,hp⟩:∃ p,p=w3.heap.size + 1:=⟨_,rfl⟩
  obtain ⟨q,hq⟩:∃ q,q=w3.heap.size:=⟨_,rfl⟩
  rotate_left
  obtain ⟨t1,t2,t3⟩:=sc w3 #[.int .u8 (φ.toNat:Int)] #[.int .u8 (pr:Int)] 5;obtain ⟨w5,hw5⟩:∃ w5,w5=((w3.alloc (.cells #[.int .u8 (φ.toNat:Int)] 5)).alloc (.cells #[.int .u8 (pr:Int)] 5)).drew:=⟨_,rfl⟩
  obtain ⟨q,hq⟩:∃ q,q=w3.heap.size + 1:=⟨_,rfl⟩
  obtain ⟨p,hp⟩:∃ p,p=w3.heap.size:=⟨_,rfl⟩
  all_goals
   have hpq:p<w5.heap.size∧q<w5.heap.size:=by rw [hp,hq,hw5];simp;omega
   have u1:w5.cell? ⟨p,0,none⟩=some (.int .u8 (φ.toNat:Int)):=by rw [hw5,hp];exact t1 _ rfl
   have u2:w5.cell? ⟨q,0,none⟩=some (.int .u8 (pr:Int)):=by rw [hw5,hq];exact t2 _ rfl
   first | rw [←hw5,←hq,←hp] | rw [←hw5,←hp,←hq]
   rw [←hw5] at hH5;clear hp hq hw5 t1 t2 t3 hH4;refine one 13 (On.val ?_ ?_)
   ·rintro _ rfl;exact hH5.alloc hH5.size _
   intro hH6;have hH6:=hH6.out;simp only [ld,lg,lf];obtain ⟨g,hg⟩:∃ g,g=w5.heap.size:=⟨_,rfl⟩
   obtain ⟨w6,hw6⟩:∃ w6,w6=w5.alloc (.cells #[.slice (some ⟨p,0,none⟩) 1 1,.slice (some ⟨w.heap.size,1,none⟩) 16 16,.slice (some ⟨w.heap.size,18,none⟩) 16 16,.slice (some ⟨q,0,none⟩) 1 1,.slice A3 4 n3] 43):=⟨_,rfl⟩
   have X6:ah w6 g 43 #[.slice (some ⟨p,0,none⟩) 1 1,.slice (some ⟨w.heap.size,1,none⟩) 16 16,.slice (some ⟨w.heap.size,18,none⟩) 16 16,.slice (some ⟨q,0,none⟩) 1 1,.slice A3 4 n3]:=by rw [hw6,hg];exact ah.new _ _ _ _ rfl
   have B6:Below w5.heap.size w5 w6:=by rw [hw6];exact (Below.refl _ _).alloc (Nat.le_refl _) _
   rw [←hw6] at hH6 ⊢;rw [←hg];have s16:k.src.2.length=16:=hk.src;have d16:k.dst.2.length=16:=hk.dst;have hB6:w5.heap.size≤w6.heap.size:=B6.size;have up:UInt8.ofNat (pr % 256)=UInt8.ofNat (pr % 256):=rfl;have LCt:LC w6 w6.heap.size (some ⟨g,0,none⟩) [[φ],k.src.2,k.dst.2,[UInt8.ofNat (pr % 256)],pb]:=fun _=>⟨_,rfl,X6.lt,fun j l hj=>by
    rw [Addr.add_mid,Nat.zero_add,X6.cell];match j,hj with
    | 0,hj=>injection hj with hj;subst hj;exact ⟨_,_,rfl,((zn u1 _ hpq.1).below B6).more hB6⟩
    | 1,hj=>injection hj with hj;subst hj;exact ⟨_,_,by rw [s16];rfl,((HS3.out.below hH5).more hH5.size |>.below B6).more hB6⟩
    | 2,hj=>injection hj with hj;subst hj;exact ⟨_,_,by rw [d16];rfl,((HD3.out.below hH5).more hH5.size |>.below B6).more hB6⟩
    | 3,hj=>injection hj with hj;subst hj;exact ⟨_,_,rfl,((zn (u2.trans (by rw [rm];simp;omega)) _ hpq.2).below B6).more hB6⟩
    | 4,hj=>injection hj with hj;subst hj;exact ⟨_,_,by rw [Hpl.out];rfl,((HP.out.below hH5).more hH5.size |>.below B6).more hB6⟩⟩
   have HC:=qr (some ⟨g,0,none⟩) 5 5 _ w6 rfl LCt (by rw [Htb.out,Hlen.out];decide) (by rw [Htb.out,Hlen.out];decide) (by decide);rw [Htb.out] at HC;refine one 14 (On.call HC ?_);rintro e w7 ⟨A7,n7,rfl,hown7,hb7⟩;refine ⟨_,rfl,hH6.trans (hb7.mono hH6.size),?_⟩;have H7:Hid (Below w.heap.size w w7):=HB3.out.trans ((hH6.trans (hb7.mono hH6.size)).mono HB3.out.size);have O7:=Lib.hid (bV hown7 (show w.heap.size≤w6.heap.size by have:=HB3.out.size;have:=hH5.size;omega));have h7:=hH6.trans (hb7.mono hH6.size);simp only [ld,lg,lf];refine tw 15 h7 ?_;simp only [ld,lg,lf];refine Wh.done ?_;clear LCt HC hown7 hb7 h7 hH5 hH6 hw6 X6 B6 u1 u2 s16 d16 up hB6 hg
   go_wp2
   go_ret
   exact ⟨A7,n7,rfl,O7.out,H7.out⟩
end Go.Proofs.YtaafkokfdgfabaaGreat
