import Derived.Test.YtaafkokfdgfabaaGreatProg
import Derived.Test.YtaafkokfdgfabaaGreatP1
import Derived.Test.YtaafkokfdgfabaaGreatP4
import Derived.WalkKit
import Derived.Outline
import Derived.Deep.QuietTactic
import Derived.BigQuiet
set_option maxHeartbeats 8000000
set_option maxRecDepth 100000
set_option linter.unusedVariables false
set_option linter.unusedSimpArgs false
open List renaming length_append→IA,append_assoc→IB,length→IF
open Nat renaming le_refl→IE
open UInt8 renaming ofNat→Iy
namespace Go.Proofs.YtaafkokfdgfabaaGreat
open Go.RowKit
open Lib (hid)
open BS renaming one'→ID
open Lib renaming bitLen→IC
open Tryz renaming underlying43→qq,prog→Iz
open Value renaming slice→IG
def FX(w:World)(l:List UInt8)(e:Ending)(w':World):Prop :=
 e=.returned (.tuple #[.int .u64 ((cC l).1:Int),.int .i64 ((cC l).2.1:Int),.int .i64 ((cC l).2.2:Int)])∧w=w'
theorem kj{w:World}{l:List UInt8}{x y z:Int}{a b c:Nat}(h:cC l=(a,b,c))(hx:x=(a:Int))(hy:y=(b:Int))(hz:z=(c:Int)) :
  FX w l (.returned (.tuple #[.int .u64 x,.int .i64 y,.int .i64 z])) w:=by
 subst hx hy hz;exact⟨by rw[h],rfl⟩
theorem ET(A:Option Addr)(n c:Nat)(l:List UInt8)(w:World)(B:Nat)(hn:n=l.length)(hb:BS w B A l)(hl:n≤maxLen) :
  Calls Iz 84 #[.slice A n c] w (FX w l):=by
 subst hn;unfold maxLen at hl;have hB:=hid hb;clear hb;go_enter Tryz.func84,Tryz.ntmps84
 go_wp2
 go_loop [5,10] (fun n i=>∃k acc:Nat,k≤l.length∧k≤9∧i=.int .i64 (k:Int)∧n=.int .u64 (acc:Int)∧Hid (acc<128^k)∧Hid (cC l=iN k acc (l.drop k))) (fun _ i=>l.length-(intOf i).toNat)
 case atStart=>exact⟨0,0,by omega,by omega,rfl,rfl,by simp[Hid],rfl⟩
 case round =>
  obtain⟨k,acc,hk,hk9,rfl,rfl,hacc,hv⟩:=hrel;by_cases hlt:k<l.length
  ·obtain⟨ad,rfl,_,hc⟩:=hB.out.at_ hlt
   have hch:=CL l[k];generalize hcc:(l[k]).toNat=d at hc hch
   have Hcc:=hid hcc;clear hcc;by_cases h9:k=9
   ·have h9':((k:Int)==9)=true:=by simp;omega
    have hor:=fun h=>It (d:=d) hacc.out hch (by omega) (fun _=>h)
    have Hor:=hid hor;have H9:=hid h9;clear hor h9;by_cases h1:1<d
    ·go_wp2
     go_ret3
     exact kj (hv.out.trans (pK hlt Hcc.out (by have:=H9.out;omega))) rfl rfl rfl
    ·have hk0:0<k:=by have:=H9.out;omega
     by_cases h0:d=0
     ·subst h0
      go_wp2
      go_ret3
      exact kj (hv.out.trans (pK hlt Hcc.out (by have:=H9.out;omega))) rfl rfl rfl
     ·have h0':((d:Int)==0)=false:=by simp;omega
      go_wp2
      go_ret3
      exact kj (hv.out.trans (pL hlt Hcc.out (by omega) (by omega) (by omega))) (Hor.out (by omega)) rfl rfl
   ·have h9':((k:Int)==9)=false:=by simp;omega
    have Hor:=hid (It (d:=d) hacc.out hch (by omega) (fun h=>absurd h h9));by_cases h1:d<128
    ·by_cases h0:d=0
     ·subst h0
      by_cases hk0:0<k
      ·go_wp2
       go_ret3
       exact kj (hv.out.trans (pK hlt Hcc.out (by omega))) rfl rfl rfl
      ·go_wp2
       go_ret3
       exact kj (hv.out.trans (pL hlt Hcc.out (by omega) (by omega) (by omega))) Hor.out (by omega) rfl
     ·have h0':((d:Int)==0)=false:=by simp;omega
      go_wp2
      go_ret3
      exact kj (hv.out.trans (pL hlt Hcc.out (by omega) (by omega) (by omega))) Hor.out (by omega) rfl
    ·go_wp2
     go_round
     case rel=>exact⟨k+1,_,by omega,by omega,by go_num,by rw[Hor.out],EQ hacc.out,hv.out.trans (AI hlt Hcc.out (by omega) (by omega))⟩
     case measure=>simp[intOf];omega
  ·go_wp2
   go_ret3
   exact kj (hv.out.trans (CM (by omega))) rfl rfl rfl
theorem zG:(Iz.info? 5).map (fun i=>(i.zero,i.size,i.bytes))=some (some (.int .u8 0),1,1):=by kernel_rfl
theorem EU{k:IntKind}{a b:Int}(h:a=b):Ending.returned (.int k a)=.returned (.int k b):=by rw[h]
theorem GZ(n:Int)(w:World)(h0:0≤n)(h1:n≤18446744073709551615) :
  Calls Iz 130 #[.int .u64 n] w fun e w'=>e=.returned (.int .i64 (IC n.toNat))∧w=w' :=
 (Tryz.bits_Len64 n w h0 h1).mono fun _ _ h=>⟨h.1,h.2.symm⟩
theorem CS(n:Int)(w:World)(m:Nat)(hn:n=(m:Int))(hm:m<18446744073709551616) :
  Calls Iz 62 #[.int .u64 n] w fun e w'=>e=.returned (.int .i64 ((aC m).length:Int))∧w=w':=by
 have hs:=AJ m hm;have hle:=aO hm;have e:n.toNat=m:=by omega
 replace hs:(aC m).length=max 1 ((IC n.toNat+6)/7):=by rw[e];exact hs
 have h0:0≤n:=by omega
 have h1:n≤18446744073709551615:=by omega
 clear hn e hm;go_enter Tryz.func62,Tryz.ntmps62
 go_wp2_with fail
 refine (GZ n w h0 h1).mono ?_;rintro e w' ⟨rfl,rfl⟩;generalize IC n.toNat=q at *
 have hb:q≤70:=by omega
 have Hs:=hid hs;clear hs
 go_wp2
 go_ret
 exact⟨EU (by have:=Hs.out;omega),rfl⟩
theorem ua(n:Int)(w:World)(m:Nat)(hn:n=(m:Int))(hm:m<18446744073709551616) :
  Calls Iz 31 #[.int .u64 n] w fun e w'=>∃v,e=.returned v∧w'.ownsRow w.heap.size 5 1 v (aC m).length (ab (aC m))∧Below w.heap.size w w':=by
 subst hn;obtain⟨i0,hi0,hz0,hz1,hz2⟩:=info_parts zG;have hle:=aO hm;go_enter Tryz.func31,Tryz.ntmps31
 go_wp2_with fail
 refine (CS m w m rfl hm).mono ?_;rintro e w' ⟨rfl,rfl⟩
 go_wp2_with (at_make;refine wpList_make_own _ rfl _ _ 43 rfl w.heap.size 5 i0 (.int .u8 0) 1 qq hi0 hz0 hz1 .i64 .i64 _ (aC m).length rfl rfl rfl (by rw[hz2];omega) (by unfold maxLen;omega) (IE _) ?_;intro w1 hown1 hgrow1)
 have hb0:Below w.heap.size w w1:=(Below.refl _ _).grown hgrow1 (IE _) (by simp);have H:=hid hm;clear hm;go_loopw [0,3] (fun x v wr=>∃(q:Nat) (dn:List UInt8),q<18446744073709551616∧Hid (aC m=dn++aC q)∧x=.int .u64 (q:Int)∧Below w.heap.size w wr∧(∃A c,v=.slice A dn.length c)∧wr.ownsRow w.heap.size 5 1 v dn.length (ab dn))
  (fun x _ _=>(intOf x).toNat)
 case atStart=>exact⟨m,[],H.out,rfl,rfl,hb0,⟨_,_,rfl⟩,hown1⟩
 case round =>
  obtain⟨q,dn,hq,hv,rfl,hbel,⟨A,c,rfl⟩,hown⟩:=hrel;have hlen:dn.length+(aC q).length≤10:=by
   have:=congrArg IF hv.out;rw[IA] at this;omega
  have hp:=iO q;have hsz:w.heap.size≤wr.heap.size:=hbel.size;have hrow:∀k,(IG A dn.length c).ownBlock=some k→w.heap.size≤k:=fun k hk=>(hown.lt k hk).1
  by_cases h128:q<128
  ·have hlo:=hid (zE q h128)
   go_wp2_with (at_builtin;refine ae _ rfl _ _ 43 rfl w.heap.size 5 i0 (.int .u8 0) 1 qq hi0 hz0 hz1 hz2 rfl _ dn rfl (hown.alloc _) _ _ 1 _ [Iy q] rfl rfl (ID _ _ _ hlo.out _) (by simp[maxLen];omega) (by simp;omega) (by simp;omega) ?_;intro A' c' w2 hown2 hg2 _)
   go_ret
   refine⟨_,rfl,?_,((hbel.alloc hsz _).grown hg2 (by simp;omega) hrow)⟩;rw[hv.out,io h128];simpa using hown2
  ·have hlo:=hid (Gj q)
   have hge:(128:Int)≤(q:Int):=by omega
   go_wp2_with (at_builtin;refine ae _ rfl _ _ 43 rfl w.heap.size 5 i0 (.int .u8 0) 1 qq hi0 hz0 hz1 hz2 rfl _ dn rfl (hown.alloc _) _ _ 1 _ [Iy (q%128+128)] rfl rfl (ID _ _ _ hlo.out _) (by simp[maxLen];omega) (by simp;omega) (by simp;omega) ?_;intro A' c' w2 hown2 hg2 _)
   go_roundw
   case rel=>exact⟨q/128,dn++[Iy (q%128+128)],by omega,by rw[IB];show aC m=_;rw[hv.out,kD (by omega)];rfl,by go_num,(hbel.alloc hsz _).grown hg2 (by simp;omega) hrow,⟨A',c',by simp⟩,by simpa using hown2⟩
   case measure=>simp[intOf];omega
theorem nZ(n:Int)(w:World)(m:Nat)(hn:n=(m:Int))(hm:m<18446744073709551616) :
  Calls Iz 40 #[.int .u64 n] w fun e w'=>∃v,e=.returned v∧w'.ownsRow w.heap.size 5 1 v (aC m).length (ab (aC m))∧Below w.heap.size w w':=by
 subst hn;obtain⟨i0,hi0,hz0,hz1,hz2⟩:=info_parts zG;have hle:=aO hm;go_enter Tryz.func40,Tryz.ntmps40
 go_wp2_with fail
 have H:=hid hm;clear hm;go_loopw [0,3] (fun x v wr=>∃(q:Nat) (dn:List UInt8),q<18446744073709551616∧Hid (aC m=dn++aC q)∧x=.int .u64 (q:Int)∧Below w.heap.size w wr∧(∃A c,v=.slice A dn.length c)∧wr.ownsRow w.heap.size 5 1 v dn.length (ab dn))
  (fun x _ _=>(intOf x).toNat)
 case atStart=>exact⟨m,[],H.out,rfl,rfl,Below.refl _ _,⟨_,_,rfl⟩,World.ownsRow_nil _ _ _ _⟩
 case round =>
  obtain⟨q,dn,hq,hv,rfl,hbel,⟨A,c,rfl⟩,hown⟩:=hrel;have hlen:dn.length+(aC q).length≤10:=by
   have:=congrArg IF hv.out;rw[IA] at this;omega
  have hp:=iO q;have hsz:w.heap.size≤wr.heap.size:=hbel.size;have hrow:∀k,(IG A dn.length c).ownBlock=some k→w.heap.size≤k:=fun k hk=>(hown.lt k hk).1
  by_cases h128:q<128
  ·have hlo:=hid (zE q h128)
   go_wp2_with (at_builtin;refine ae _ rfl _ _ 43 rfl w.heap.size 5 i0 (.int .u8 0) 1 qq hi0 hz0 hz1 hz2 rfl _ dn rfl (hown.alloc _) _ _ 1 _ [Iy q] rfl rfl (ID _ _ _ hlo.out _) (by simp[maxLen];omega) (by simp;omega) (by simp;omega) ?_;intro A' c' w2 hown2 hg2 _)
   go_ret
   refine⟨_,rfl,?_,((hbel.alloc hsz _).grown hg2 (by simp;omega) hrow)⟩;rw[hv.out,io h128];simpa using hown2
  ·have hlo:Hid ((q:Int)%128+128=(((Iy (q%128+128)).toNat:Nat):Int)):=by
    show _=_
    rw[hU (by omega)];omega
   have hge:(127:Int)<(q:Int):=by omega
   go_wp2_with (at_builtin;refine ae _ rfl _ _ 43 rfl w.heap.size 5 i0 (.int .u8 0) 1 qq hi0 hz0 hz1 hz2 rfl _ dn rfl (hown.alloc _) _ _ 1 _ [Iy (q%128+128)] rfl rfl (ID _ _ _ hlo.out _) (by simp[maxLen];omega) (by simp;omega) (by simp;omega) ?_;intro A' c' w2 hown2 hg2 _)
   go_roundw
   case rel=>exact⟨q/128,dn++[Iy (q%128+128)],by omega,by rw[IB];show aC m=_;rw[hv.out,kD (by omega)];rfl,by go_num,(hbel.alloc hsz _).grown hg2 (by simp;omega) hrow,⟨A',c',by simp⟩,by simpa using hown2⟩
   case measure=>simp[intOf];omega
theorem pM{a b e:Nat}(A:Option Addr)(n c:Nat)(l:List UInt8)(w:World)(B:Nat)(hn:n=l.length)(hb:BS w B A l)(hl:n≤maxLen)(h:cC l=(a,b,e)) :
  Calls Iz 84 #[.slice A n c] w fun x w'=>x=.returned (.tuple #[.int .u64 (a:Int),.int .i64 (b:Int),.int .i64 (e:Int)])∧w=w' :=
 (ET A n c l w B hn hb hl).mono fun _ _ hh=>by
  obtain⟨h1,h2⟩:=hh;rw[h] at h1;exact⟨h1,h2⟩
