import Derived.Test.YtaafkokfdgfabaaGreatP1
import Derived.Test.YtaafkokfdgfabaaGreatP2
import Derived.Test.YtaafkokfdgfabaaGreatP3
import Derived.Test.YtaafkokfdgfabaaGreatP5
set_option maxHeartbeats 8000000
set_option maxRecDepth 100000
set_option linter.unusedVariables false
set_option linter.unusedSimpArgs false
open List renaming reverse_reverse→IB,getElem?_map→IC,append_assoc→IE,append_nil→IF,replicate→IG
open Nat renaming le_refl→Iy,mul_one→IH
open UInt8 renaming ofNat→qq
namespace Go.Proofs.YtaafkokfdgfabaaGreat
open Go.RowKit
open Lib (hid)
open Tryz renaming underlying43→Iz,prog→IA
open Value renaming int→II
open World renaming ownsRow_nil→ID
theorem xN(n s:Int)(w:World)(m k:Nat)(hn:n=(m:Int))(hs:min (max s 0) 8=(k:Int))(hm:m<18446744073709551616)(hk:k≤8) :
  Calls IA 118 #[.int .u64 n,.int .i64 s,.bool false] w fun e w'=>∃v,e=.returned v∧w'.ownsRow w.heap.size 5 1 v k (ab (i7 k m))∧Below w.heap.size w w':=by
 subst hn;obtain⟨i0,hi0,hz0,hz1,hz2⟩:=info_parts bB;have hk0:(0:Int)≤(k:Int):=by omega
 have hk8:(k:Int)≤8:=by omega
 go_enter Tryz.func118,Tryz.ntmps118
 go_wp2_with (at_make;refine wpList_make_full _ rfl _ _ 43 rfl w.heap.size 5 i0 (.int .u8 0) 1 Iz hi0 hz0 hz1 .i64 .i64 _ _ k rfl rfl (by omega) (by omega) (by rw[hz2];omega) (by unfold maxLen;omega) (Iy _) ?_;intro w1 hown1 hgrow1)
 have hb0:Below w.heap.size w w1:=(Below.refl _ _).grown hgrow1 (Iy _) (by simp);have hown0:w1.ownsRow w.heap.size 5 1 (.slice (some ⟨w.heap.size,0,none⟩) k k) k (ab (vg k m 0)):=by
  rw[ro];have e:(madeCells (II .u8 0).cells (k*1)).toList=IG k (.int .u8 0):=by
   rw[IH];exact toList_madeCells_one _ _
  rw[←e];exact hown1
 have Hown0:=hid hown0;clear hown1 hown0 hgrow1;go_loopw [15] (fun i wr=>∃j:Nat,j≤k∧i=.int .i64 (j:Int)∧Below w.heap.size w wr∧Hid (wr.ownsRow w.heap.size 5 1 (.slice (some ⟨w.heap.size,0,none⟩) k k) k (ab (vg k m j)))) (fun i _=>k-(intOf i).toNat)
 case atStart=>exact⟨0,by omega,rfl,hb0,Hown0⟩
 case round =>
  obtain⟨j,hj,rfl,hbel,hown⟩:=hrel;by_cases hlt:j<k
  ·have hltI:decide ((j:Int)<(k:Int))=true:=decide_eq_true (by omega)
   have hc:=hown.out.cellAt j (by omega);have hc2:(ab (vg k m j))[j]?=some (.int .u8 0):=by
    rw[ab,IC,kE hlt,if_neg (by omega)];rfl
   rw[hc2] at hc;have hf:=hown.out.frozenAt j;have hst:=hown.out.stored j (.int .u8 ((qq (m/256^j%256)).toNat:Int));rw[←jC,tX hlt,←rp] at hst;have Hst:=hid hst;clear hst hc2
   go_wp2
   go_roundw
   case rel=>exact⟨j+1,by omega,by go_num,hbel.setCell (Iy _) _,Hst.out.1⟩
   case measure=>simp[intOf];omega
  ·obtain rfl:j=k:=by omega
   go_wp2
   go_ret
   exact⟨_,rfl,by rw[←tY];exact hown.out,hbel⟩
theorem xO(n s:Int)(w:World)(m k:Nat)(hn:n=(m:Int))(hs:min (max s 0) 8=(k:Int))(hm:m<18446744073709551616)(hk:k≤8) :
  Calls IA 118 #[.int .u64 n,.int .i64 s,.bool true] w fun e w'=>∃v,e=.returned v∧w'.ownsRow w.heap.size 5 1 v k (ab (i7 k m).reverse)∧Below w.heap.size w w':=by
 subst hn;obtain⟨i0,hi0,hz0,hz1,hz2⟩:=info_parts bB;have hk0:(0:Int)≤(k:Int):=by omega
 have hk8:(k:Int)≤8:=by omega
 go_enter Tryz.func118,Tryz.ntmps118
 go_wp2_with (at_make;refine wpList_make_full _ rfl _ _ 43 rfl w.heap.size 5 i0 (.int .u8 0) 1 Iz hi0 hz0 hz1 .i64 .i64 _ _ k rfl rfl (by omega) (by omega) (by rw[hz2];omega) (by unfold maxLen;omega) (Iy _) ?_;intro w1 hown1 hgrow1)
 have hb0:Below w.heap.size w w1:=(Below.refl _ _).grown hgrow1 (Iy _) (by simp);have hown0:w1.ownsRow w.heap.size 5 1 (.slice (some ⟨w.heap.size,0,none⟩) k k) k (ab (vg k m 0)):=by
  rw[ro];have e:(madeCells (II .u8 0).cells (k*1)).toList=IG k (.int .u8 0):=by
   rw[IH];exact toList_madeCells_one _ _
  rw[←e];exact hown1
 have Hown0:=hid hown0;clear hown1 hown0 hgrow1;go_loopw [15] (fun i wr=>∃j:Nat,j≤k∧i=.int .i64 (j:Int)∧Below w.heap.size w wr∧Hid (wr.ownsRow w.heap.size 5 1 (.slice (some ⟨w.heap.size,0,none⟩) k k) k (ab (vg k m j)))) (fun i _=>k-(intOf i).toNat)
 case atStart=>exact⟨0,by omega,rfl,hb0,Hown0⟩
 case round =>
  obtain⟨j,hj,rfl,hbel,hown⟩:=hrel;by_cases hlt:j<k
  ·have hltI:decide ((j:Int)<(k:Int))=true:=decide_eq_true (by omega)
   have hc:=hown.out.cellAt j (by omega);have hc2:(ab (vg k m j))[j]?=some (.int .u8 0):=by
    rw[ab,IC,kE hlt,if_neg (by omega)];rfl
   rw[hc2] at hc;have hf:=hown.out.frozenAt j;have hst:=hown.out.stored j (.int .u8 ((qq (m/256^j%256)).toNat:Int));rw[←jC,tX hlt,←rp] at hst;have Hst:=hid hst;clear hst hc2
   go_wp2
   go_roundw
   case rel=>exact⟨j+1,by omega,by go_num,hbel.setCell (Iy _) _,Hst.out.1⟩
   case measure=>simp[intOf];omega
  ·obtain rfl:j=k:=by omega
   have hown':Hid (wr.ownsRow w.heap.size 5 1 (.slice (some ⟨w.heap.size,0,none⟩) j j) j (ab (i7 j m))):=by
    show World.ownsRow _ _ _ _ _ _ _
    rw[←tY];exact hown.out
   go_wp2_with fail
   refine (vm w.heap.size _ _ _ (i7 j m) _ (cJ _ _).symm hown'.out (by omega)).mono ?_;rintro e w2 ⟨rfl,hown2,hb2⟩
   go_wp2
   go_ret
   exact⟨_,rfl,hown2,hbel.trans hb2⟩
theorem sG(n s:Int)(w:World)(m k:Nat)(hn:n=(m:Int))(hs:min (max s 0) 8=(k:Int))(hm:m<18446744073709551616)(hk:k≤8) :
  Calls IA 75 #[.int .u64 n,.int .i64 s,.bool true] w fun e w'=>∃v,e=.returned v∧w'.ownsRow w.heap.size 5 1 v k (ab (i7 k m).reverse)∧Below w.heap.size w w':=by
 subst hn;obtain⟨i0,hi0,hz0,hz1,hz2⟩:=info_parts bB;go_enter Tryz.func75,Tryz.ntmps75
 go_wp2_with fail
 go_loopw [0,7,8] (fun x v i wr=>∃(q:Nat) (dn:List UInt8),q<18446744073709551616∧dn.length≤k∧Hid (i7 k m=dn.reverse++i7 (k-dn.length) q)∧x=.int .u64 (q:Int)∧i=.int .i64 (dn.length:Int)∧Below w.heap.size w wr∧(∃A c,v=.slice A dn.length c)∧wr.ownsRow w.heap.size 5 1 v dn.length (ab dn))
  (fun _ _ i _=>k-(intOf i).toNat)
 case atStart=>exact⟨m,[],hm,by simp,rfl,rfl,rfl,Below.refl _ _,⟨_,_,rfl⟩,ID _ _ _ _⟩
 case round =>
  obtain⟨q,dn,hq,hdk,hv,rfl,rfl,hbel,⟨A,c,rfl⟩,hown⟩:=hrel;have hsz:w.heap.size≤wr.heap.size:=hbel.size;by_cases hlt:dn.length<k
  ·have h1:(dn.length:Int)<s:=by omega
   have h2:(dn.length:Int)<8:=by omega
   have hlo:Hid ((q:Int)%256=(((qq (q%256)).toNat:Nat):Int)):=by
    show _=_
    rw[hU (by omega)];omega
   have hv':Hid (i7 k m=(qq (q%256)::dn).reverse++i7 (k-(qq (q%256)::dn).length) (q/256)):=by
    show _=_
    rw[hv.out,List.reverse_cons,IE,List.length_cons,show k-dn.length=k-(dn.length+1)+1 by omega,i7];rfl
   have hq':q/256<18446744073709551616:=by omega
   go_wp2_with (at_builtin;refine ae _ rfl _ _ 43 rfl wr.heap.size 5 i0 (.int .u8 0) 1 Iz hi0 hz0 hz1 hz2 rfl (.slice (some ⟨wr.heap.size,0,none⟩) 1 1) [qq (q%256)] rfl (oM _ _ _ _ _ hlo.out (Iy _)) _ A _ c dn rfl rfl ((BS.of_own hown).1.alloc (Iy _) _) (by simp[maxLen];omega) (by simp;omega) (by simp) ?_;intro A' c' w2 hown2 hg2 _)
   have hb2:Below wr.heap.size wr w2:=((Below.refl _ _).alloc (Iy _) _).grown hg2 (by simp) (by intro k hk;simp[Value.ownBlock] at hk;omega);have hB2:=hbel.trans (hb2.mono hsz);go_roundw
   case rel=>exact⟨q/256,qq (q%256)::dn,hq',by simp;omega,hv',by go_num,by simp,hB2,⟨A',c',by first|(simp;done)|(simp;omega)⟩,by simpa using bP hown2 hsz⟩
   case measure=>simp[intOf];omega
  ·have hke:dn.length=k:=by omega
   have hvd:i7 k m=dn.reverse:=by rw[hv.out,hke,Nat.sub_self,i7,IF]
   have Hvd:=hid hvd;have Hke:=hid hke;clear hvd hke;by_cases h1:(dn.length:Int)<s
   ·have h2:¬(dn.length:Int)<8:=by omega
    clear hs
    go_wp2
    go_ret
    refine⟨_,rfl,?_,hbel⟩;rw[Hvd.out,IB,←Hke.out];exact hown
   ·clear hs
    go_wp2
    go_ret
    refine⟨_,rfl,?_,hbel⟩;rw[Hvd.out,IB,←Hke.out];exact hown
theorem sH(n s:Int)(w:World)(m k:Nat)(hn:n=(m:Int))(hs:min (max s 0) 8=(k:Int))(hm:m<18446744073709551616)(hk:k≤8) :
  Calls IA 75 #[.int .u64 n,.int .i64 s,.bool false] w fun e w'=>∃v,e=.returned v∧w'.ownsRow w.heap.size 5 1 v k (ab (i7 k m))∧Below w.heap.size w w':=by
 subst hn;obtain⟨i0,hi0,hz0,hz1,hz2⟩:=info_parts bB;go_enter Tryz.func75,Tryz.ntmps75
 go_wp2_with fail
 go_loopw [0,7,8] (fun x v i wr=>∃(q:Nat) (dn:List UInt8),q<18446744073709551616∧dn.length≤k∧Hid (i7 k m=dn++i7 (k-dn.length) q)∧x=.int .u64 (q:Int)∧i=.int .i64 (dn.length:Int)∧Below w.heap.size w wr∧(∃A c,v=.slice A dn.length c)∧wr.ownsRow w.heap.size 5 1 v dn.length (ab dn))
  (fun _ _ i _=>k-(intOf i).toNat)
 case atStart=>exact⟨m,[],hm,by simp,rfl,rfl,rfl,Below.refl _ _,⟨_,_,rfl⟩,ID _ _ _ _⟩
 case round =>
  obtain⟨q,dn,hq,hdk,hv,rfl,rfl,hbel,⟨A,c,rfl⟩,hown⟩:=hrel;have hsz:w.heap.size≤wr.heap.size:=hbel.size;have hrow:∀g,(Value.slice A dn.length c).ownBlock=some g→w.heap.size≤g:=fun g hg=>(hown.lt g hg).1
  by_cases hlt:dn.length<k
  ·have h1:(dn.length:Int)<s:=by omega
   have h2:(dn.length:Int)<8:=by omega
   have hlo:Hid ((q:Int)%256=(((qq (q%256)).toNat:Nat):Int)):=by
    show _=_
    rw[hU (by omega)];omega
   have hv':Hid (i7 k m=(dn++[qq (q%256)])++i7 (k-(dn++[qq (q%256)]).length) (q/256)):=by
    show _=_
    rw[hv.out,IE,List.length_append,List.length_singleton,show k-dn.length=k-(dn.length+1)+1 by omega,i7];rfl
   go_wp2_with (at_builtin;refine ae _ rfl _ _ 43 rfl w.heap.size 5 i0 (.int .u8 0) 1 Iz hi0 hz0 hz1 hz2 rfl _ dn rfl (hown.alloc _) _ _ 1 _ [qq (q%256)] rfl rfl (BS.one' _ _ _ hlo.out _) (by simp[maxLen];omega) (by simp;omega) (by simp;omega) ?_;intro A' c' w2 hown2 hg2 _)
   go_roundw
   case rel=>exact⟨q/256,dn++[qq (q%256)],by omega,by simp;omega,hv',by go_num,by simp,(hbel.alloc hsz _).grown hg2 (by simp;omega) hrow,⟨A',c',by simp⟩,by simpa using hown2⟩
   case measure=>simp[intOf];omega
  ·have hke:dn.length=k:=by omega
   have hvd:i7 k m=dn:=by rw[hv.out,hke,Nat.sub_self,i7,IF]
   have Hvd:=hid hvd;have Hke:=hid hke;clear hvd hke;by_cases h1:(dn.length:Int)<s
   ·have h2:¬(dn.length:Int)<8:=by omega
    clear hs
    go_wp2
    go_ret
    refine⟨_,rfl,?_,hbel⟩;rw[Hvd.out,←Hke.out];exact hown
   ·clear hs
    go_wp2
    go_ret
    refine⟨_,rfl,?_,hbel⟩;rw[Hvd.out,←Hke.out];exact hown
def bY(k m:Nat)(big:Bool):List UInt8:=if big then (i7 k m).reverse else i7 k m
theorem az(k m:Nat)(big:Bool):(bY k m big).length=k:=by unfold bY;split<;>simp[cJ]
def dw(s:Int):Nat:=(min (max s 0) 8).toNat
theorem mU(s:Int):min (max s 0) 8=(dw s:Int):=by unfold dw;omega
theorem la(s:Int):dw s≤8:=by unfold dw;omega
theorem lc(big:Bool)(m:Nat)(s:Int)(w:World)(hm:m<18446744073709551616) :
  Calls IA 118 #[.int .u64 (m:Int),.int .i64 s,.bool big] w fun e w'=>∃A c,e=.returned (.slice A (bY (dw s) m big).length c)∧w'.ownsRow w.heap.size 5 1 (.slice A (bY (dw s) m big).length c) (bY (dw s) m big).length (ab (bY (dw s) m big))∧Below w.heap.size w w':=by
 have hl:=az (dw s) m big;rcases big with _|_
 ·refine (xN _ _ w m (dw s) rfl (mU s) hm (la s)).mono ?_
  rintro e w' ⟨v,h1,h2,h3⟩;obtain⟨A,c,rfl,_⟩:=cw h2;exact⟨A,c,by rw[hl];exact h1,by rw[hl];exact h2,h3⟩
 ·refine (xO _ _ w m (dw s) rfl (mU s) hm (la s)).mono ?_
  rintro e w' ⟨v,h1,h2,h3⟩;obtain⟨A,c,rfl,_⟩:=cw h2;exact⟨A,c,by rw[hl];exact h1,by rw[hl];exact h2,h3⟩
theorem vo(big:Bool)(m:Nat)(s:Int)(w:World)(hm:m<18446744073709551616) :
  Calls IA 75 #[.int .u64 (m:Int),.int .i64 s,.bool big] w fun e w'=>∃A c,e=.returned (.slice A (bY (dw s) m big).length c)∧w'.ownsRow w.heap.size 5 1 (.slice A (bY (dw s) m big).length c) (bY (dw s) m big).length (ab (bY (dw s) m big))∧Below w.heap.size w w':=by
 have hl:=az (dw s) m big;rcases big with _|_
 ·refine (sH _ _ w m (dw s) rfl (mU s) hm (la s)).mono ?_
  rintro e w' ⟨v,h1,h2,h3⟩;obtain⟨A,c,rfl,_⟩:=cw h2;exact⟨A,c,by rw[hl];exact h1,by rw[hl];exact h2,h3⟩
 ·refine (sG _ _ w m (dw s) rfl (mU s) hm (la s)).mono ?_
  rintro e w' ⟨v,h1,h2,h3⟩;obtain⟨A,c,rfl,_⟩:=cw h2;exact⟨A,c,by rw[hl];exact h1,by rw[hl];exact h2,h3⟩
