import Derived.Test.YtaafkokfdgfabaaGreatProg
import Derived.Test.YtaafkokfdgfabaaGreatP1
import Derived.Test.YtaafkokfdgfabaaGreatP21
import Derived.Deep.RegionHeld3
import Derived.IntWalk
set_option maxHeartbeats 8000000
set_option maxRecDepth 100000
set_option linter.unusedVariables false
set_option linter.unusedSimpArgs false
open List renaming length_append→qq,length_take→Iz,append_assoc→IC,take_of_length_le→IF,length_drop→IG,take_left→II,map_cons→IK
open Nat renaming le_trans→IE,le_refl→IM
open UInt8 renaming ofNat→IB
namespace Go.Proofs.YtaafkokfdgfabaaGreat
open Go.RowKit
open Lib (hid)
open BS renaming of_own→IL
open Ending renaming returned→IH
open Tryz renaming underlying43→Iy,prog→ID
open Value renaming slice→IN
open World renaming ownsRow_nil→IA,ownsRow→IJ
def om(w:World)(l:List UInt8)(e:Ending)(w':World):Prop :=
 ∃A' c',e=.returned (.tuple #[.slice A' (bc l).1.length c',.int .i64 ((bc l).2.1:Int),.int .i64 ((bc l).2.2:Int)])∧w'.ownsRow w.heap.size 5 1 (.slice A' (bc l).1.length c') (bc l).1.length (ab (bc l).1)∧Below w.heap.size w w'
theorem nx{w w':World}{l:List UInt8}{x:Nat}(h:bc l=([],0,x))(hb:Below w.heap.size w w'):om w l (.returned (.tuple #[.slice none 0 0,.int .i64 0,.int .i64 (x:Int)])) w':=by
 refine⟨none,0,by rw[h];rfl,?_,hb⟩;rw[h];exact IA _ _ _ _
theorem DV{w:World}{base base':Nat}{e:TypeId}{size n:Nat}{v:Value}{xs:List Value}(h:w.ownsRow base e size v n xs)(hb:base'≤base):w.ownsRow base' e size v n xs:=by
 refine⟨h.1,?_⟩;rcases h.2 with h2|⟨g,cap,cur,h1,h2,h3⟩
 ·exact .inl h2
 ·exact .inr ⟨g,cap,cur,h1,IE hb h2,h3⟩
theorem vX{v:Nat}(A:Option Addr)(n c:Nat)(l:List UInt8)(w:World)(hn:n=l.length)(hb:BS w w.heap.size A l)(hl:n≤8)(hc:n≤c)(h:pF l=v) :
  Calls ID 85 #[.slice A n c,.bool false] w fun e w'=>e=.returned (.int .u64 (v:Int))∧Below w.heap.size w w':=by
 subst h;exact oN A n c l w hn hb hl hc
theorem kN(A:Option Addr)(m c:Nat)(l:List UInt8)(w:World)(hn:m=l.length)(hb:BS w w.heap.size A l)(hl:m≤1000000000)(hc:m≤c) :
  Calls ID 43 #[.slice A m c] w (om w l):=by
 subst hn;have HB:=hid hb;clear hb;have hlm:Hid (l.length≤maxLen):=by show _≤maxLen;unfold maxLen;omega
 rcases hv:cC l with ⟨n,k,e⟩
 have Hv:=hid hv;by_cases he:e=0
 ·subst he
  obtain⟨hn64,hk1,hkl,hk3,_⟩:=j7 hv;have hk10:k≤10:=by rw[hk3];exact aO hn64
  have Hk3:=hid hk3;clear hk3 hv;by_cases hbig:1048576<n
  ·have hx:Hid (bc l=([],0,4)):=by
    show _=_
    unfold bc;rw[Hv.out];rw[if_neg (by simp),if_pos hbig]
   have hbig':(1048576:Int)<(n:Int):=by omega
   go_enter Tryz.func43,Tryz.ntmps43
   go_wp2_with fail
   refine (pM _ _ _ l _ _ rfl HB.out hlm.out Hv.out).mono ?_;rintro e w1 ⟨rfl,rfl⟩
   go_wp2
   go_ret3
   exact nx hx.out (Below.refl _ _)
  ·have hn20:n≤1048576:=by omega
   have hbig':¬(1048576:Int)<(n:Int):=by omega
   by_cases hsh:l.length<k+n+4
   ·have hx:Hid (bc l=([],0,2)):=by
     show _=_
     unfold bc;rw[Hv.out];rw[if_neg (by simp),if_neg hbig,if_pos hsh]
    have hsh':(l.length:Int)-4<(k:Int)+(n:Int):=by omega
    go_enter Tryz.func43,Tryz.ntmps43
    go_wp2_with fail
    refine (pM _ _ _ l _ _ rfl HB.out hlm.out Hv.out).mono ?_;rintro e w1 ⟨rfl,rfl⟩
    go_wp2
    go_ret3
    exact nx hx.out (Below.refl _ _)
   ·obtain⟨ad,rfl,_,_⟩:=HB.out (by omega)
    have hsh':¬(l.length:Int)-4<(k:Int)+(n:Int):=by omega
    obtain⟨E,hE⟩:∃E,k+n=E:=⟨_,rfl⟩;have hE':(k:Int)+(n:Int)=(E:Int):=by omega
    rw[hE'] at hsh';have hkE:k≤E:=by omega
    have hEl:E+4≤l.length:=by omega
    have HE:=hid hE;have HE':=hid hE';clear hE hE';have hi0:(0:Int)≤(E:Int):=by omega
    have hi1:(0:Int)≤(E:Int)+4:=by omega
    have hi2:(E:Int)≤(E:Int)+4:=by omega
    have hi3:(E:Int)+4≤(c:Int):=by omega
    have hi4:(E:Int)≤(c:Int):=by omega
    have hi5:E+4≤c:=by omega
    have hi6:c≠E:=by omega
    have hi7:c≠k:=by omega
    have hi8:E≤c:=by omega
    have hb1:Hid (BS w w.heap.size (some (ad.add E)) ((l.drop E).take 4)):=by
     have:=(HB.out.drop (k:=E) (cap:=c) hc).take 4;rw[if_neg hi6] at this;exact this
    have hb2:Hid (BS w w.heap.size (some ad) (l.take E)):=HB.out.take E;have hb3:Hid (BS w w.heap.size (some (ad.add k)) ((l.drop k).take n)):=by
     have:=(HB.out.drop (k:=k) (cap:=c) hc).take n;rw[if_neg hi7] at this;exact this
    have hl1:Hid (4=((l.drop E).take 4).length):=by show _=_;rw[Iz,IG];omega
    have hl2:Hid (E=(l.take E).length):=by show _=_;rw[Iz];omega
    have hl3:Hid (E-k=((l.drop k).take n).length):=by show _=_;have:=HE.out;rw[Iz,IG];omega
    obtain⟨v,hvv⟩:∃v,pF ((l.drop E).take 4)=v:=⟨_,rfl⟩;obtain⟨o,ho⟩:∃o,vc (l.take E)=o:=⟨_,rfl⟩;have ho32:o<4294967296:=by rw[←ho];exact pI _
    have hx8:v≠o→Hid (bc l=([],0,8)):=fun h=>by
     show _=_
     unfold bc;rw[Hv.out];rw[if_neg (by simp),if_neg hbig,if_neg hsh,if_pos (by rw[HE.out,hvv,ho];exact h)]
    have hx0:v=o→Hid (bc l=((l.drop k).take n,E+4,0)):=fun h=>by
     show _=_
     unfold bc;rw[Hv.out];rw[if_neg (by simp),if_neg hbig,if_neg hsh,if_neg (by rw[HE.out,hvv,ho];exact fun e=>e h)];rw[HE.out]
    obtain⟨bod,hbod⟩:∃bod,(l.drop k).take n=bod:=⟨_,rfl⟩;rw[hbod] at hb3 hl3 hx0;clear hbod;have Hvv:=hid hvv;have Ho:=hid ho;clear hvv ho;have hwo:Hid (IntKind.u64.wrap (o:Int)=(o:Int)):=jZ o (by omega);have key:∀(b:Bool),((v:Int) != IntKind.u64.wrap (o:Int))=b→Calls ID 43 #[.slice (some ad) l.length c] w (om w l):=by
     intro b hb;rcases b with _|_
     all_goals
      go_enter Tryz.func43,Tryz.ntmps43
      go_wp2_with fail
      refine (pM _ _ _ l _ _ rfl HB.out hlm.out Hv.out).mono ?_;rintro e w1 ⟨rfl,rfl⟩
      go_wp2_with fail
      rw[HE'.out];have ht4:((E:Int)+4).toNat=E+4:=by omega
      have hw4:IntKind.i64.wrap ((E:Int)+4)=(E:Int)+4:=IntWalk.i64_in _ (by omega);have hd4:E+4-E=4:=by omega
      go_region_held3 (fun _=>True) (first|trivial)
       (first
        |(go_at_call 85
          refine (vX _ _ _ ((l.drop E).take 4) _ hl1.out (by first|exact (hb1.out.below (((Below.refl _ w).drew).trans hbO)).more (IE (IM _) hbO.size)|exact hb1.out) (by omega) (by omega) Hvv.out).mono ?_;rintro e wG ⟨rfl,hbG⟩)
        |(go_at_call 86
          refine (Gb _ _ _ (l.take E) _ w.heap.size hl2.out (by first|exact hb2.out.below (((Below.refl _ w).drew).trans hbG)|exact hb2.out) (by first|exact hbG.size|exact IM _) (by unfold maxLen;omega) Ho.out).mono ?_;rintro e wO ⟨rfl,hbO⟩))
      have hbW:Below w.heap.size w wO:=((Below.refl _ w).drew.trans hbG).trans (hbO.mono hbG.size);have HbW:=hid hbW;clear hbG hbO hbW
     ·have hvo:v=o:=by
       have:=bne_eq_false_iff_eq.1 hb;rw[hwo.out] at this;omega
      have hx:=hx0 hvo
      go_wp2_with fail
      refine (BB _ _ _ bod _ hl3.out ((hb3.out.below HbW.out).more HbW.out.size) (by omega)).mono ?_;rintro e wC ⟨A',c',rfl,hown,hbC⟩;have Hown:=hid hown;clear hown
      go_wp2
      go_ret3
      refine⟨A',c',by show IH (.tuple #[.slice A' bod.length c',.int .i64 ((E:Int)+4),.int .i64 0])=_;rw[hx.out];rfl,?_,HbW.out.trans (hbC.mono HbW.out.size)⟩;rw[hx.out];exact DV Hown.out HbW.out.size
     ·have hvo:v≠o:=by
       have:=bne_iff_ne.1 hb;rw[hwo.out] at this;omega
      have hx:=hx8 hvo
      go_wp2
      go_ret3
      exact nx hx.out HbW.out
    exact key _ rfl
 ·obtain⟨rfl,rfl,he'⟩:=rk hv he
  clear hv;have hx:Hid (bc l=([],0,e)):=by
   show _=_
   unfold bc;rw[Hv.out];rw[if_pos he]
  rcases he' with rfl|rfl
  all_goals
   go_enter Tryz.func43,Tryz.ntmps43
   go_wp2_with fail
   refine (pM _ _ _ l _ _ rfl HB.out hlm.out Hv.out).mono ?_;rintro e w1 ⟨rfl,rfl⟩
   go_wp2
   go_ret3
   exact nx hx.out (Below.refl _ _)
theorem qB(n s:Int)(w:World)(m k:Nat)(hn:n=(m:Int))(hs:s=(k:Int))(hm:m<18446744073709551616)(hk:k≤8) :
  Calls ID 75 #[.int .u64 n,.int .i64 s,.bool false] w fun e w'=>∃v,e=.returned v∧w'.ownsRow w.heap.size 5 1 v k (ab (i7 k m))∧Below w.heap.size w w':=by
 subst hn hs;obtain⟨i0,hi0,hz0,hz1,hz2⟩:=info_parts bB;go_enter Tryz.func75,Tryz.ntmps75
 go_wp2_with fail
 go_loopw [0,7,8] (fun x v i wr=>∃(q:Nat) (dn:List UInt8),q<18446744073709551616∧dn.length≤k∧Hid (i7 k m=dn++i7 (k-dn.length) q)∧x=.int .u64 (q:Int)∧i=.int .i64 (dn.length:Int)∧Below w.heap.size w wr∧(∃A c,v=.slice A dn.length c)∧wr.ownsRow w.heap.size 5 1 v dn.length (ab dn))
  (fun _ _ i _=>k-(intOf i).toNat)
 case atStart=>exact⟨m,[],hm,by simp,rfl,rfl,rfl,Below.refl _ _,⟨_,_,rfl⟩,IA _ _ _ _⟩
 case round =>
  obtain⟨q,dn,hq,hdk,hv,rfl,rfl,hbel,⟨A,c,rfl⟩,hown⟩:=hrel;have hsz:w.heap.size≤wr.heap.size:=hbel.size;have hrow:∀g,(IN A dn.length c).ownBlock=some g→w.heap.size≤g:=fun g hg=>(hown.lt g hg).1
  by_cases hlt:dn.length<k
  ·have h1:(dn.length:Int)<(k:Int):=by omega
   have h2:(dn.length:Int)<8:=by omega
   have hlo:Hid ((q:Int)%256=(((IB (q%256)).toNat:Nat):Int)):=by
    show _=_
    rw[hU (by omega)];omega
   have hv':Hid (i7 k m=(dn++[IB (q%256)])++i7 (k-(dn++[IB (q%256)]).length) (q/256)):=by
    show _=_
    rw[hv.out,IC,qq,List.length_singleton,show k-dn.length=k-(dn.length+1)+1 by omega,i7];rfl
   go_wp2_with (at_builtin;refine ae _ rfl _ _ 43 rfl w.heap.size 5 i0 (.int .u8 0) 1 Iy hi0 hz0 hz1 hz2 rfl _ dn rfl (hown.alloc _) _ _ 1 _ [IB (q%256)] rfl rfl (BS.one' _ _ _ hlo.out _) (by simp[maxLen];omega) (by simp;omega) (by simp;omega) ?_;intro A' c' w2 hown2 hg2 _)
   go_roundw
   case rel=>exact⟨q/256,dn++[IB (q%256)],by omega,by simp;omega,hv',by go_num,by simp,(hbel.alloc hsz _).grown hg2 (by simp;omega) hrow,⟨A',c',by simp⟩,by simpa using hown2⟩
   case measure=>simp[intOf];omega
  ·have hke:dn.length=k:=by omega
   have h1:¬(dn.length:Int)<(k:Int):=by omega
   have hvd:i7 k m=dn:=by rw[hv.out,hke,Nat.sub_self,i7,List.append_nil]
   have Hvd:=hid hvd;have Hke:=hid hke;clear hvd hke
   go_wp2
   go_ret
   refine⟨_,rfl,?_,hbel⟩;rw[Hvd.out,←Hke.out];exact hown
theorem kZ(A:Option Addr)(n c:Nat)(l:List UInt8)(w:World)(hn:n=l.length)(hb:BS w w.heap.size A l)(hl:n≤1048576) :
  Calls ID 38 #[.slice A n c] w fun e w'=>∃A' c',e=.returned (.slice A' (dA l).length c')∧w'.ownsRow w.heap.size 5 1 (.slice A' (dA l).length c') (dA l).length (ab (dA l))∧Below w.heap.size w w':=by
 subst hn;obtain⟨i0,hi0,hz0,hz1,hz2⟩:=info_parts bB;have HB:=hid hb;clear hb;have hle:=aO (n:=l.length) (by omega);have hol:=pI (fZ l);have hhl:=jH l;have hrl:(dA l).length=(fZ l).length+4:=by rw[cT,jH]
 have Hrl:=hid hrl;have hh20:(fZ l).length≤1048586:=by omega
 have Hhl:=hid hhl;obtain⟨o,ho⟩:∃o,vc (fZ l)=o:=⟨_,rfl⟩;rw[ho] at hol;have Ho:=hid ho;clear hhl hrl ho;go_enter Tryz.func38,Tryz.ntmps38
 go_wp2_with fail
 refine (nZ _ _ l.length rfl (by omega)).mono ?_;rintro e w1 ⟨v,rfl,hown1,hb1⟩;obtain⟨A1,c1,rfl,_,_⟩:=cw hown1
 go_wp2_with (at_builtin;refine ae _ rfl _ _ 43 rfl w.heap.size 5 i0 (.int .u8 0) 1 Iy hi0 hz0 hz1 hz2 rfl (.slice A1 (aC l.length).length c1) (aC l.length) rfl hown1 w.heap.size A _ c l rfl rfl (HB.out.below hb1) (by unfold maxLen;omega) (by omega) hb1.size ?_;intro A2 c2 w2 hown2 hg2 _)
 have hb2:Below w.heap.size w w2:=hb1.grown hg2 hb1.size (fun k hk=>(hown1.lt k hk).1);have Hown2:Hid (w2.ownsRow w.heap.size 5 1 (.slice A2 ((aC l.length).length+l.length) c2) ((aC l.length).length+l.length) (ab (fZ l))):=by
  show IJ _ _ _ _ _ _ _
  rw[qq] at hown2;exact hown2
 clear hown1 hown2 hg2;refine (DA _ _ _ (fZ l) _ w2.heap.size Hhl.out.symm (IL Hown2.out).1 (by unfold maxLen;omega) Ho.out).mono ?_;rintro e w3 ⟨rfl,rfl⟩
 go_wp2_with fail
 refine (qB _ _ _ o 4 rfl rfl (by omega) (by omega)).mono ?_;rintro e w4 ⟨v,rfl,hown4,hb4⟩;obtain⟨A4,c4,rfl,_,_⟩:=cw hown4;have hB4:=CG hb2 hb4;have Hown2':Hid (w4.ownsRow w.heap.size 5 1 (.slice A2 ((aC l.length).length+l.length) c2) (fZ l).length (ab (fZ l))):=by
  show IJ _ _ _ _ _ _ _
  rw[Hhl.out];exact an Hown2.out hb4
 have Hown4:=hid hown4;clear hown4
 go_wp2_with (at_builtin;refine ae _ rfl _ _ 43 rfl w.heap.size 5 i0 (.int .u8 0) 1 Iy hi0 hz0 hz1 hz2 rfl (.slice A2 ((aC l.length).length+l.length) c2) (fZ l) rfl Hown2'.out w4.heap.size A4 4 c4 (i7 4 o) rfl (cJ _ _).symm (IL Hown4.out).1 (by rw[cJ];unfold maxLen;omega) (by rw[cJ];omega) hB4.size ?_;intro A5 c5 w5 hown5 hg5 _)
 have hb5:Below w.heap.size w w5:=hB4.grown hg5 hB4.size (fun k hk=>(Hown2'.out.lt k hk).1);have e5:fZ l++i7 4 o=dA l:=by rw[←Ho.out];rfl
 have e6:(fZ l).length+(i7 4 o).length=(dA l).length:=by rw[Hrl.out,cJ]
 rw[e5] at hown5;have Hown5:=hid hown5;clear hown5 hg5;go_ret
 exact⟨A5,c5,by show IH (.slice A5 ((fZ l).length+(i7 4 o).length) c5)=_;rw[e6],Hown5.out,hb5⟩
def oq(ls:List (List UInt8)):List UInt8:=(ls.map dA).flatten
theorem BC(ls:List (List UInt8))(l:List UInt8):oq (ls++[l])=oq ls++dA l:=by simp[oq]
def nU(ls:List (List UInt8)):Prop:=∀l∈ls,l.length≤1048576
def room(ls:List (List UInt8)):Nat:=(ls.map fun l=>l.length+14).sum
theorem pj:∀(ls:List (List UInt8)) (k:Nat),room (ls.take k)≤room ls
 |[],k=>by simp[room]
 |l::ls,0=>by simp[room]
 |l::ls,k+1=>by
  have:=pj ls k;simp only[room,List.take_succ_cons,IK,List.sum_cons] at this ⊢;omega
theorem vY:∀(ls:List (List UInt8)),nU ls→(oq ls).length≤room ls
 |[],_=>by simp[oq,room]
 |l::ls,h=>by
  have ih:=vY ls (fun x hx=>h x (by simp[hx]));have hl:=h l (by simp);have h1:=cT l;have h2:=aO (n:=l.length) (by omega);simp only[oq,room,IK,List.flatten_cons,qq,List.sum_cons] at ih ⊢;omega
theorem tA{α:Type}{xs:List α}{k:Nat}(h:k<xs.length):xs.take (k+1)=xs.take k++[xs[k]]:=by
 rw[List.take_add_one,List.getElem?_eq_getElem h];rfl
theorem yH{ls:List (List UInt8)}{k:Nat}(h:k<ls.length)(h1:nU (ls.take k))(h2:(ls[k]).length≤1048576):nU (ls.take (k+1)):=by
 intro l hl;rw[tA h,List.mem_append] at hl;rcases hl with hl|hl
 ·exact h1 l hl
 ·simp at hl
  subst hl;exact h2
def GA(w:World)(ls:List (List UInt8))(e:Ending)(w':World):Prop :=
 (nU ls∧∃A' c',e=.returned (.tuple #[.slice A' (oq ls).length c',.int .i64 0])∧w'.ownsRow w.heap.size 5 1 (.slice A' (oq ls).length c') (oq ls).length (ab (oq ls))∧Below w.heap.size w w') ∨
 (¬nU ls∧e=.returned (.tuple #[.slice none 0 0,.int .i64 4])∧Below w.heap.size w w')
theorem Fn(A:Option Addr)(n c:Nat)(ls:List (List UInt8))(w:World)(hn:n=ls.length)(hb:LS w w.heap.size A ls)(hl:n≤1000000000)(hroom:room ls≤1000000000) :
  Calls ID 33 #[.slice A n c] w (GA w ls):=by
 subst hn;obtain⟨i0,hi0,hz0,hz1,hz2⟩:=info_parts bB;have HB:=hid hb;have Hroom:=hid hroom;clear hb hroom;go_enter Tryz.func33,Tryz.ntmps33
 go_wp2
 go_loopw [4,11] (fun v i wr=>∃(k:Nat) (dn:List UInt8) (A':Option Addr) (c':Nat),k≤ls.length∧i=.int .i64 (k:Int)∧v=.slice A' dn.length c'∧Below w.heap.size w wr∧Hid (dn=oq (ls.take k))∧Hid (nU (ls.take k))∧dn.length≤1000000000∧Hid (wr.ownsRow w.heap.size 5 1 (.slice A' dn.length c') dn.length (ab dn))) (fun _ i _=>ls.length-(intOf i).toNat)
 case atStart=>exact⟨0,[],none,0,by omega,rfl,rfl,Below.refl _ _,by simp[Hid,oq],by simp[Hid,nU],by simp,IA _ _ _ _⟩
 case round =>
  obtain⟨k,dn,A',c',hk,rfl,rfl,hbel,hdn,hok,hlen,hown⟩:=hrel;have hsz:w.heap.size≤wr.heap.size:=hbel.size;have hrow:∀g,(IN A' dn.length c').ownBlock=some g→w.heap.size≤g:=fun g hg=>(hown.out.lt g hg).1
  by_cases hlt:k<ls.length
  ·have hkI:(k:Int)<(ls.length:Int):=by omega
   obtain⟨ad,A1,c1,rfl,hadb,hc,hcc,hbs⟩:=(HB.out.below hbel).at_ hlt;have hl0:Hid (ls[k]∈ls):=List.getElem_mem hlt;by_cases hbig:1048576<(ls[k]).length
   ·have hno:Hid (¬nU ls):=fun h=>by have:=h _ hl0.out;omega
    clear hbs;generalize (ls[k]).length=L at *
    go_wp2_with fail
    refine (vW _ _ _ _ hbig).mono ?_;rintro e w1 ⟨rfl,rfl⟩
    go_wp2
    go_ret2
    exact .inr ⟨hno.out,rfl,hbel⟩
   ·have hL:(ls[k]).length≤1048576:=by omega
    have hok':Hid (nU (ls.take (k+1))):=yH hlt hok.out hL;have hdn':Hid (dn++dA ls[k]=oq (ls.take (k+1))):=by
     show _=_
     rw[hdn.out,tA hlt,BC]
    have hle':(dn++dA ls[k]).length≤1000000000:=by
     rw[hdn'.out];exact IE (vY _ hok'.out) (IE (pj ls (k+1)) Hroom.out)
    have Hbs:=hid (hbs.more hsz);clear hbs hl0;generalize ls[k]=l at *
    rw[qq] at hle'
    go_wp2_with fail
    refine (rR _ _ _ l _ rfl Hbs.out hL).mono ?_;rintro e w1 ⟨A2,c2,rfl,hown2,hb2⟩;have hB2:=hbel.trans (hb2.mono hsz);have Hown2:=hid hown2;have Hown1:=hid (an hown.out hb2);clear hown2
    go_wp2_with (at_builtin;refine ae _ rfl _ _ 43 rfl w.heap.size 5 i0 (.int .u8 0) 1 Iy hi0 hz0 hz1 hz2 rfl (.slice A' dn.length c') dn rfl Hown1.out w1.heap.size A2 _ c2 (dA l) rfl rfl (IL Hown2.out).1 (by unfold maxLen;omega) (by omega) hB2.size ?_;intro A3 c3 w3 hown3 hg3 _)
    have hb3:Below w.heap.size w w3:=hB2.grown hg3 hB2.size hrow;have hlen3:(dn++dA l).length=dn.length+(dA l).length:=qq;have Hown3:=hid hown3;have Hlen3:=hid hlen3;clear hown3 hlen3 hg3 hb2;go_roundw
    case rel=>exact⟨k+1,dn++dA l,A3,c3,by omega,by go_num,by simp,hb3,hdn',hok',by simp;omega,Hown3.out⟩
    case measure=>simp[intOf];omega
  ·have hke:ls.take k=ls:=IF (by omega)
   have hd:=hdn.out;have ho:=hok.out;rw[hke] at hd ho;subst hd;clear hdn hke
   go_wp2
   go_ret2
   exact .inl ⟨ho,A',c',rfl,hown.out,hbel⟩
theorem pk{l:List UInt8}(h:l.length≤1048576)(t:List UInt8):bc (dA l++t)=(l,(dA l).length,0):=by
 have e0:dA l++t=aC l.length++(l++(i7 4 (vc (fZ l))++t)):=by simp[dA,fZ]
 have hv:cC (dA l++t)=(l.length,(aC l.length).length,0):=by rw[e0];exact mT _ (by omega) _
 have hlen:(aC l.length).length+l.length+4≤(dA l++t).length:=by rw[qq,cT];omega
 have e1:((dA l++t).drop (aC l.length).length).take l.length=l:=by rw[e0,List.drop_left,II]
 have e2:(dA l++t).take ((aC l.length).length+l.length+4)=dA l:=by rw[←cT,II]
 have hs:=(Fm hv hlen).1 (by rw[e1,e2]);unfold bc;rw[hv,if_neg (by simp),if_neg (by simp;omega),if_neg (by simp only;omega),if_neg (fun h=>h hs),e1,cT]
theorem DW{l:List UInt8}(h:l.length≤1048576){j:Nat}(hj:j<(dA l).length):bc ((dA l).take j)=([],0,2):=by
 have hl:=cT l;by_cases hv:j<(aC l.length).length
 ·have e:(dA l).take j=(aC l.length).take j:=by
   rw[dA,fZ,IC,List.take_append_of_le_length (by omega)]
  have:cC ((dA l).take j)=(0,0,2):=by rw[e];exact CN _ 0 0 j (by omega) (by omega) hv
  unfold bc;rw[this,if_pos (by simp)]
 ·have e:(dA l).take j=aC l.length++(l++i7 4 (vc (fZ l))).take (j-(aC l.length).length):=by
   rw[dA,fZ,IC,List.take_append,IF (l:=aC l.length) (by omega)]
  have:cC ((dA l).take j)=(l.length,(aC l.length).length,0):=by rw[e];exact mT _ (by omega) _
  unfold bc;rw[this,if_neg (by simp),if_neg (by simp;omega),if_pos (by simp only[Iz];omega)]
