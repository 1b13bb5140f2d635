import Derived.Test.YtaafkokfdgfabaaGreatProg
import Derived.Test.YtaafkokfdgfabaaGreatP1
import Derived.Deep.LoopGhost
import Derived.WalkKit
import Derived.Outline
import Derived.IntWalk
set_option maxHeartbeats 8000000
set_option maxRecDepth 100000
set_option linter.unusedVariables false
set_option linter.unusedSimpArgs false
open List renaming getElem?_eq_getElem→qq,getElem?_eq_none→Iz,getElem?_map→IA
open Nat renaming lt_or_ge→Iy,mul_le_mul→IB
namespace Go.Proofs.YtaafkokfdgfabaaGreat
open Go.RowKit
open Lib (hid)
open Tryz renaming prog→IC
def vj(l:List UInt8)(i:Nat)(xs:List UInt8):Prop :=
 xs.length=l.length∧∀j,j<l.length→xs[j]?=if j<i∨l.length-1-i<j then l[l.length-1-j]? else l[j]?
theorem vk(l:List UInt8):vj l 0 l:=⟨rfl,fun j hj=>by rw[if_neg (by omega)]⟩
theorem AL{l xs:List UInt8}{i:Nat}(h:vj l i xs)(hi:l.length≤2*i+1):xs=l.reverse:=by
 apply List.ext_getElem?
 intro j;by_cases hj:j<l.length
 ·rw[h.2 j hj,List.getElem?_reverse hj]
  split
  ·rfl
  ·congr 1
   omega
 ·rw[Iz (by rw[h.1];omega),Iz (by rw[List.length_reverse];omega)]
theorem xM{l xs:List UInt8}{i:Nat}(h:vj l i xs)(hi:2*i+1<l.length)(h1:i<xs.length)(h2:l.length-1-i<xs.length):vj l (i+1) ((xs.set i xs[l.length-1-i]).set (l.length-1-i) xs[i]):=by
 refine⟨by rw[List.length_set,List.length_set];exact h.1,fun j hj=>?_⟩;have e1:xs[i]?=l[i]?:=by rw[h.2 i (by omega),if_neg (by omega)]
 have e2:xs[l.length-1-i]?=l[l.length-1-i]?:=by rw[h.2 _ (by omega),if_neg (by omega)]
 rw[List.getElem?_set,List.getElem?_set,List.length_set];by_cases ha:l.length-1-i=j
 ·subst ha
  rw[if_pos rfl,if_pos h2,if_pos (by omega),←qq h1,e1];congr 1
  omega
 ·rw[if_neg ha]
  by_cases hb:i=j
  ·subst hb
   rw[if_pos rfl,if_pos h1,if_pos (by omega),←qq h2,e2]
  ·rw[if_neg hb,h.2 j hj]
   have:(j<i∨l.length-1-i<j)↔(j<i+1∨l.length-1-(i+1)<j):=by omega
   simp only[this]
theorem vm(base:Nat)(A:Option Addr)(n c:Nat)(l:List UInt8)(w:World)(hn:n=l.length)(hown:w.ownsRow base 5 1 (.slice A n c) n (ab l))(hl:n≤1000000000) :
  Calls IC 162 #[.slice A n c] w fun e w'=>e=.returned (.tuple #[])∧w'.ownsRow base 5 1 (.slice A n c) n (ab l.reverse)∧Below base w w':=by
 subst hn;have Hown:=hid hown;clear hown;go_enter Tryz.func162,Tryz.ntmps162
 go_wp2
 go_loopw [2,3] (fun s2 s3 wr=>∃(i:Nat) (xs:List UInt8),2*i≤l.length∧s2=.int .i64 (i:Int)∧s3=.int .i64 ((l.length:Int)-1-(i:Int))∧Hid (vj l i xs)∧Below base w wr∧Hid (wr.ownsRow base 5 1 (.slice A l.length c) l.length (ab xs))) (fun s2 _ _=>l.length-(intOf s2).toNat)
 case atStart=>exact⟨0,l,by omega,rfl,by simp,vk l,Below.refl _ _,Hown⟩
 case round =>
  obtain⟨i,xs,hi,rfl,rfl,hr,hbel,hw⟩:=hrel;by_cases hlt:2*i+1<l.length
  ·have hj:∃j,l.length-1-i=j:=⟨_,rfl⟩
   obtain⟨j,hj⟩:=hj;have hjI:(l.length:Int)-1-(i:Int)=(j:Int):=by omega
   rw[hjI];have hltI:(i:Int)<(j:Int):=by omega
   have h1:i<xs.length:=by have:=hr.out.1;omega
   have h2:j<xs.length:=by have:=hr.out.1;omega
   have hst:=xM hr.out hlt h1 (by omega);simp only[hj] at hst;have Hst:=hid hst;obtain⟨g,cap,hv3,hg2,hg3⟩:=hw.out.form (by omega);have hA:A=some ⟨g,0,none⟩:=by injection hv3
   subst hA;clear hv3;have c1:=hw.out.cellAt i (by omega);have c2:=hw.out.cellAt j (by omega);have d1:(ab xs)[i]?=some (.int .u8 ((xs[i]).toNat:Int)):=by rw[ab,IA,qq h1];rfl
   have d2:(ab xs)[j]?=some (.int .u8 ((xs[j]).toNat:Int)):=by rw[ab,IA,qq h2];rfl
   rw[d1] at c1;rw[d2] at c2;have f1:=hw.out.frozenAt i;have f2:=hw.out.frozenAt j;have hs1:=(hw.out.stored i (.int .u8 ((xs[j]).toNat:Int))).1;have hs2:=(hs1.stored j (.int .u8 ((xs[i]).toNat:Int))).1;have ht1:=(hw.out.stored j (.int .u8 ((xs[i]).toNat:Int))).1;have ht2:=(ht1.stored i (.int .u8 ((xs[j]).toNat:Int))).1;rw[←jC,←jC] at hs2 ht2;rw[List.set_comm _ _ (by omega)] at ht2;have Hs2:=hid hs2;have Ht2:=hid ht2;have hi0:(0:Int)≤(i:Int):=by omega
   have hj0:(0:Int)≤(j:Int):=by omega
   have hjl:(j:Int)<(l.length:Int):=by omega
   have hil:(i:Int)<(l.length:Int):=by omega
   have hne:i≠j:=by omega
   clear d1 d2 hs1 hs2 ht1 ht2 hst;generalize hxi:(xs[i]).toNat=xi at *
   generalize hxj:(xs[j]).toNat=xj at *
   go_wp2
   go_region
   go_wp2
   go_roundw
   case rel =>
    refine⟨i+1,_,by omega,by go_num,by congr 1;omega,Hst.out,?_,?_⟩
    ·first
      |exact ((hbel.drew.setCell (p:=⟨g,i,none⟩) hg2 _).setCell (p:=⟨g,j,none⟩) hg2 _)
      |exact ((hbel.drew.setCell (p:=⟨g,j,none⟩) hg2 _).setCell (p:=⟨g,i,none⟩) hg2 _)
    ·first
      |exact Hs2.out
      |exact Ht2.out
   case measure=>simp[intOf];omega
  ·have he:=AL hr.out (by omega)
   subst he;have hltI:¬(i:Int)<(l.length:Int)-1-(i:Int):=by omega
   go_wp2
   go_end0
   exact⟨rfl,hw.out,hbel⟩
def jO(n:Nat):Bool:=decide (2≤n∧∀d,d<n+1→2≤d→d*d≤n→n%d≠0)
theorem vx{n d:Nat}(h2:2≤d)(hd:d*d≤n)(hm:n%d=0):jO n=false:=by
 unfold jO;refine decide_eq_false fun h=>h.2 d ?_ h2 hd hm
 have:d≤d*d:=Nat.le_mul_of_pos_left _ (by omega);omega
theorem tc{n d:Nat}(h2:2≤n)(hd:n<d*d)(h:∀e,2≤e→e<d→n%e≠0):jO n=true:=by
 unfold jO;refine decide_eq_true ⟨h2,fun e _ he hee=>h e he ?_⟩;rcases Iy e d with h1|h1
 ·exact h1
 ·have:=IB h1 h1
  omega
theorem qk{n:Nat}(h:n<2):jO n=false:=by
 unfold jO;exact decide_eq_false fun h2=>by omega
theorem ry{n d:Nat}(hd:0<d):d≤n/d↔d*d≤n:=Nat.le_div_iff_mul_le hd
theorem AS(n:Nat)(w:World)(hn:n≤1000000) :
  Calls IC 128 #[.int .i64 (n:Int)] w fun e w'=>e=.returned (.bool (jO n))∧w=w':=by
 by_cases h2:n<2
 ·have h2I:(n:Int)<2:=by omega
  rw[qk h2];go_enter Tryz.func128,Tryz.ntmps128
  go_wp2
  go_ret
  exact⟨rfl,rfl⟩
 ·have h2I:¬(n:Int)<2:=by omega
  have hn2:2≤n:=by omega
  have Hn2:=hid hn2;go_enter Tryz.func128,Tryz.ntmps128
  go_wp2
  go_loopw [3] (fun i wr=>∃d:Nat,2≤d∧d≤n+1∧i=.int .i64 (d:Int)∧w=wr∧Hid (∀e,2≤e→e<d→n%e≠0)) (fun i _=>n+2-(intOf i).toNat)
  case atStart=>exact⟨2,by omega,by omega,rfl,rfl,fun e h1 h2=>by omega⟩
  case round =>
   obtain⟨d,hd2,hdn,rfl,rfl,hat⟩:=hrel;have hd0:¬(d:Int)=0:=by omega
   obtain⟨q,hqn⟩:∃q,q=n/d:=⟨_,rfl⟩;obtain⟨r,hrn⟩:∃r,r=n%d:=⟨_,rfl⟩;have hqle:n/d≤n:=Nat.div_le_self _ _;have hq:wrap64 ((n:Int)/(d:Int))=(q:Int):=by
    rw[show (n:Int)/(d:Int)=((n/d:Nat):Int) from (Int.natCast_ediv n d).symm,←hqn];unfold wrap64;omega
   have hr:(n:Int)%(d:Int)=(r:Int):=by rw[hrn];exact (Int.natCast_emod n d).symm
   have Hqn:=hid hqn;have Hrn:=hid hrn;clear hqn hrn hqle;by_cases hlt:d≤q
   ·have hltI:(d:Int)≤(q:Int):=by omega
    have hdd:d*d≤n:=(ry (by omega)).1 (by rw[←Hqn.out];exact hlt);have hdn2:d≤n:=by
     have:d≤d*d:=Nat.le_mul_of_pos_left _ (by omega);omega
    have Hdd:=hid hdd;clear hdd;by_cases hm:r=0
    ·subst hm
     have Hp:=hid (vx hd2 Hdd.out Hrn.out.symm)
     go_wp2
     go_ret
     exact⟨by rw[Hp.out];rfl,rfl⟩
    ·have hmI:¬(r:Int)=0:=by omega
     have Hat2:Hid (∀e,2≤e→e<d+1→n%e≠0):=fun e h1 h2=>by
      rcases Iy e d with h3|h3
      ·exact hat.out e h1 h3
      ·obtain rfl:e=d:=by omega
       rw[←Hrn.out];exact hm
     go_wp2
     go_roundw
     case rel=>exact⟨d+1,by omega,by omega,by go_num,trivial,Hat2⟩
     case measure=>simp[intOf];omega
   ·have hltI:¬(d:Int)≤(q:Int):=by omega
    have hdd:n<d*d:=by
     rcases Iy n (d*d) with h3|h3
     ·exact h3
     ·have:=(ry (by omega)).2 h3
      rw[←Hqn.out] at this;omega
    have Hp:=hid (tc Hn2.out hdd hat.out);clear hdd
    go_wp2
    go_ret
    exact⟨by rw[Hp.out];rfl,rfl⟩
theorem ue(n:Nat)(w:World)(hn:n≤1000000) :
  Calls IC 139 #[.int .i64 (n:Int)] w fun e w'=>e=.returned (.bool (jO n))∧w=w':=by
 by_cases h2:n<2
 ·have h2I:(n:Int)<2:=by omega
  rw[qk h2];go_enter Tryz.func139,Tryz.ntmps139
  go_wp2
  go_ret
  exact⟨rfl,rfl⟩
 ·have h2I:¬(n:Int)<2:=by omega
  have hn2:2≤n:=by omega
  have Hn2:=hid hn2;go_enter Tryz.func139,Tryz.ntmps139
  go_wp2
  go_loopw [3] (fun i wr=>∃d:Nat,2≤d∧d≤n+1∧i=.int .i64 (d:Int)∧w=wr∧Hid (∀e,2≤e→e<d→n%e≠0)) (fun i _=>n+2-(intOf i).toNat)
  case atStart=>exact⟨2,by omega,by omega,rfl,rfl,fun e h1 h2=>by omega⟩
  case round =>
   obtain⟨d,hd2,hdn,rfl,rfl,hat⟩:=hrel;have hd0:¬(d:Int)=0:=by omega
   obtain⟨q,hqn⟩:∃q,q=d*d:=⟨_,rfl⟩;obtain⟨r,hrn⟩:∃r,r=n%d:=⟨_,rfl⟩;have hqle:d*d≤1000001*1000001:=IB (by omega) (by omega);have hq:(d:Int)*(d:Int)=(q:Int):=by rw[hqn];exact (Int.natCast_mul d d).symm
   have hq64:wrap64 (q:Int)=(q:Int):=by unfold wrap64;omega
   have hr:(n:Int)%(d:Int)=(r:Int):=by rw[hrn];exact (Int.natCast_emod n d).symm
   have Hqn:=hid hqn;have Hrn:=hid hrn;clear hqn hrn hqle;by_cases hlt:q≤n
   ·have hltI:(q:Int)≤(n:Int):=by omega
    have hdd:d*d≤n:=by rw[←Hqn.out];exact hlt
    have hdn2:d≤n:=by
     have:d≤d*d:=Nat.le_mul_of_pos_left _ (by omega);omega
    have Hdd:=hid hdd;clear hdd;by_cases hm:r=0
    ·subst hm
     have Hp:=hid (vx hd2 Hdd.out Hrn.out.symm)
     go_wp2
     go_ret
     exact⟨by rw[Hp.out];rfl,rfl⟩
    ·have hmI:¬(r:Int)=0:=by omega
     have Hat2:Hid (∀e,2≤e→e<d+1→n%e≠0):=fun e h1 h2=>by
      rcases Iy e d with h3|h3
      ·exact hat.out e h1 h3
      ·obtain rfl:e=d:=by omega
       rw[←Hrn.out];exact hm
     go_wp2
     go_roundw
     case rel=>exact⟨d+1,by omega,by omega,by go_num,trivial,Hat2⟩
     case measure=>simp[intOf];omega
   ·have hltI:¬(q:Int)≤(n:Int):=by omega
    have hdd:n<d*d:=by rw[←Hqn.out];omega
    have Hp:=hid (tc Hn2.out hdd hat.out);clear hdd
    go_wp2
    go_ret
    exact⟨by rw[Hp.out];rfl,rfl⟩
