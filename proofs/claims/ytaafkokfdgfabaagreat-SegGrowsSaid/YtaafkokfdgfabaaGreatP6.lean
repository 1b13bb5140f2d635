import Derived.Test.YtaafkokfdgfabaaGreatP1
import Derived.Test.YtaafkokfdgfabaaGreatP2
import Derived.Test.YtaafkokfdgfabaaGreatP3
import Derived.Test.YtaafkokfdgfabaaGreatP5
set_option maxHeartbeats 8000000
namespace Go.Proofs.YtaafkokfdgfabaaGreat
open Go.RowKit
set_option linter.unusedVariables false
set_option maxRecDepth 100000 in
theorem vY (n s:Int) (w:World) (m k:Nat) (hn:n=(m:Int)) (hs:min (max s 0) 8=(k:Int)) (hm:m<18446744073709551616) (hk:k≤8) :
  Calls Tryz.prog 118 #[.int .u64 n,.int .i64 s,.bool false] w fun e w'=>∃ v,e=.returned v∧w'.ownsRow w.heap.size 5 1 v k (ab (jP k m))∧Below w.heap.size w w':=by
 subst hn;obtain ⟨i0,hi0,hz0,hz1,hz2⟩:=info_parts cC;have hk0:(0:Int)≤(k:Int):=by omega
 have hk8:(k:Int)≤8:=by omega
 go_enter Tryz.func118,Tryz.ntmps118
 go_wp2_with (at_make;refine wpList_make_full _ rfl _ _ 43 rfl w.heap.size 5 i0 (.int .u8 0) 1 Tryz.underlying43 hi0 hz0 hz1 .i64 .i64 _ _ k rfl rfl (by omega) (by omega) (by rw [hz2];omega) (by unfold maxLen;omega) (Nat.le_refl _) ?_;intro w1 hown1 hgrow1)
 have hb0:Below w.heap.size w w1:=(Below.refl _ _).grown hgrow1 (Nat.le_refl _) (by simp);have hown0:w1.ownsRow w.heap.size 5 1 (.slice (some ⟨w.heap.size,0,none⟩) k k) k (ab (uc k m 0)):=by
  rw [qb];have e:(madeCells (Value.int .u8 0).cells (k * 1)).toList=List.replicate k (.int .u8 0):=by
   rw [Nat.mul_one];exact toList_madeCells_one _ _
  rw [←e];exact hown1
 have Hown0:=Lib.hid hown0;clear hown1 hown0 hgrow1;go_loopw [15] (fun i wr=>∃ j:Nat,j≤k∧i=.int .i64 (j:Int)∧Below w.heap.size w wr∧Hid (wr.ownsRow w.heap.size 5 1 (.slice (some ⟨w.heap.size,0,none⟩) k k) k (ab (uc k m j)))) (fun i _=>k - (intOf i).toNat)
 case atStart=>exact ⟨0,by omega,rfl,hb0,Hown0⟩
 case round =>
  obtain ⟨j,hj,rfl,hbel,hown⟩:=hrel;by_cases hlt:j<k
  ·have hltI:decide ((j:Int)<(k:Int))=true:=decide_eq_true (by omega)
   have hc:=hown.out.cellAt j (by omega);have hc2:(ab (uc k m j))[j]?=some (.int .u8 0):=by
    rw [ab,List.getElem?_map,jQ hlt,if_neg (by omega)];rfl
   rw [hc2] at hc;have hf:=hown.out.frozenAt j;have hst:=hown.out.stored j (.int .u8 ((UInt8.ofNat (m / 256 ^ j % 256)).toNat:Int));rw [←iQ,sJ hlt,←qc] at hst;have Hst:=Lib.hid hst;clear hst hc2
   go_wp2
   go_roundw
   case rel=>exact ⟨j + 1,by omega,by go_num,hbel.setCell (Nat.le_refl _) _,Hst.out.1⟩
   case measure=>simp [intOf];omega
  ·obtain rfl:j=k:=by omega
   go_wp2
   go_ret
   exact ⟨_,rfl,by rw [←sK];exact hown.out,hbel⟩
set_option maxRecDepth 100000 in
theorem vZ (n s:Int) (w:World) (m k:Nat) (hn:n=(m:Int)) (hs:min (max s 0) 8=(k:Int)) (hm:m<18446744073709551616) (hk:k≤8) :
  Calls Tryz.prog 118 #[.int .u64 n,.int .i64 s,.bool true] w fun e w'=>∃ v,e=.returned v∧w'.ownsRow w.heap.size 5 1 v k (ab (jP k m).reverse)∧Below w.heap.size w w':=by
 subst hn;obtain ⟨i0,hi0,hz0,hz1,hz2⟩:=info_parts cC;have hk0:(0:Int)≤(k:Int):=by omega
 have hk8:(k:Int)≤8:=by omega
 go_enter Tryz.func118,Tryz.ntmps118
 go_wp2_with (at_make;refine wpList_make_full _ rfl _ _ 43 rfl w.heap.size 5 i0 (.int .u8 0) 1 Tryz.underlying43 hi0 hz0 hz1 .i64 .i64 _ _ k rfl rfl (by omega) (by omega) (by rw [hz2];omega) (by unfold maxLen;omega) (Nat.le_refl _) ?_;intro w1 hown1 hgrow1)
 have hb0:Below w.heap.size w w1:=(Below.refl _ _).grown hgrow1 (Nat.le_refl _) (by simp);have hown0:w1.ownsRow w.heap.size 5 1 (.slice (some ⟨w.heap.size,0,none⟩) k k) k (ab (uc k m 0)):=by
  rw [qb];have e:(madeCells (Value.int .u8 0).cells (k * 1)).toList=List.replicate k (.int .u8 0):=by
   rw [Nat.mul_one];exact toList_madeCells_one _ _
  rw [←e];exact hown1
 have Hown0:=Lib.hid hown0;clear hown1 hown0 hgrow1;go_loopw [15] (fun i wr=>∃ j:Nat,j≤k∧i=.int .i64 (j:Int)∧Below w.heap.size w wr∧Hid (wr.ownsRow w.heap.size 5 1 (.slice (some ⟨w.heap.size,0,none⟩) k k) k (ab (uc k m j)))) (fun i _=>k - (intOf i).toNat)
 case atStart=>exact ⟨0,by omega,rfl,hb0,Hown0⟩
 case round =>
  obtain ⟨j,hj,rfl,hbel,hown⟩:=hrel;by_cases hlt:j<k
  ·have hltI:decide ((j:Int)<(k:Int))=true:=decide_eq_true (by omega)
   have hc:=hown.out.cellAt j (by omega);have hc2:(ab (uc k m j))[j]?=some (.int .u8 0):=by
    rw [ab,List.getElem?_map,jQ hlt,if_neg (by omega)];rfl
   rw [hc2] at hc;have hf:=hown.out.frozenAt j;have hst:=hown.out.stored j (.int .u8 ((UInt8.ofNat (m / 256 ^ j % 256)).toNat:Int));rw [←iQ,sJ hlt,←qc] at hst;have Hst:=Lib.hid hst;clear hst hc2
   go_wp2
   go_roundw
   case rel=>exact ⟨j + 1,by omega,by go_num,hbel.setCell (Nat.le_refl _) _,Hst.out.1⟩
   case measure=>simp [intOf];omega
  ·obtain rfl:j=k:=by omega
   have hown':Hid (wr.ownsRow w.heap.size 5 1 (.slice (some ⟨w.heap.size,0,none⟩) j j) j (ab (jP j m))):=by
    show World.ownsRow _ _ _ _ _ _ _
    rw [←sK];exact hown.out
   go_wp2_with fail
   refine (ug w.heap.size _ _ _ (jP j m) _ (dV _ _).symm hown'.out (by omega)).mono ?_;rintro e w2 ⟨rfl,hown2,hb2⟩
   go_wp2
   go_ret
   exact ⟨_,rfl,hown2,hbel.trans hb2⟩
set_option maxRecDepth 100000 in
theorem rp (n s:Int) (w:World) (m k:Nat) (hn:n=(m:Int)) (hs:min (max s 0) 8=(k:Int)) (hm:m<18446744073709551616) (hk:k≤8) :
  Calls Tryz.prog 75 #[.int .u64 n,.int .i64 s,.bool true] w fun e w'=>∃ v,e=.returned v∧w'.ownsRow w.heap.size 5 1 v k (ab (jP k m).reverse)∧Below w.heap.size w w':=by
 subst hn;obtain ⟨i0,hi0,hz0,hz1,hz2⟩:=info_parts cC;go_enter Tryz.func75,Tryz.ntmps75
 go_wp2_with fail
 go_loopw [0,7,8] (fun x v i wr=>∃ (q:Nat) (dn:List UInt8),q<18446744073709551616∧dn.length≤k∧Hid (jP k m=dn.reverse ++ jP (k - dn.length) q)∧x=.int .u64 (q:Int)∧i=.int .i64 (dn.length:Int)∧Below w.heap.size w wr∧(∃ A c,v=.slice A dn.length c)∧wr.ownsRow w.heap.size 5 1 v dn.length (ab dn))
  (fun _ _ i _=>k - (intOf i).toNat)
 case atStart=>exact ⟨m,[],hm,by simp,rfl,rfl,rfl,Below.refl _ _,⟨_,_,rfl⟩,World.ownsRow_nil _ _ _ _⟩
 case round =>
  obtain ⟨q,dn,hq,hdk,hv,rfl,rfl,hbel,⟨A,c,rfl⟩,hown⟩:=hrel;have hsz:w.heap.size≤wr.heap.size:=hbel.size;by_cases hlt:dn.length<k
  ·have h1:(dn.length:Int)<s:=by omega
   have h2:(dn.length:Int)<8:=by omega
   have hlo:Hid ((q:Int) % 256=(((UInt8.ofNat (q % 256)).toNat:Nat):Int)):=by
    show _=_
    rw [hU (by omega)];omega
   have hv':Hid (jP k m=(UInt8.ofNat (q % 256) :: dn).reverse ++ jP (k - (UInt8.ofNat (q % 256) :: dn).length) (q / 256)):=by
    show _=_
    rw [hv.out,List.reverse_cons,List.append_assoc,List.length_cons,show k - dn.length=k - (dn.length + 1) + 1 by omega,jP];rfl
   have hq':q / 256<18446744073709551616:=by omega
   go_wp2_with (at_builtin;refine av _ rfl _ _ 43 rfl wr.heap.size 5 i0 (.int .u8 0) 1 Tryz.underlying43 hi0 hz0 hz1 hz2 rfl (.slice (some ⟨wr.heap.size,0,none⟩) 1 1) [UInt8.ofNat (q % 256)] rfl (sI _ _ _ _ _ hlo.out (Nat.le_refl _)) _ A _ c dn rfl rfl ((BS.of_own hown).1.alloc (Nat.le_refl _) _) (by simp [maxLen];omega) (by simp;omega) (by simp) ?_;intro A' c' w2 hown2 hg2 _)
   have hb2:Below wr.heap.size wr w2:=((Below.refl _ _).alloc (Nat.le_refl _) _).grown hg2 (by simp) (by intro k hk;simp [Value.ownBlock] at hk;omega);have hB2:=hbel.trans (hb2.mono hsz);go_roundw
   case rel=>exact ⟨q / 256,UInt8.ofNat (q % 256) :: dn,hq',by simp;omega,hv',by go_num,by simp,hB2,⟨A',c',by first | (simp;done) | (simp;omega)⟩,by simpa using bV hown2 hsz⟩
   case measure=>simp [intOf];omega
  ·have hke:dn.length=k:=by omega
   have hvd:jP k m=dn.reverse:=by rw [hv.out,hke,Nat.sub_self,jP,List.append_nil]
   have Hvd:=Lib.hid hvd;have Hke:=Lib.hid hke;clear hvd hke;by_cases h1:(dn.length:Int)<s
   ·have h2:¬ (dn.length:Int)<8:=by omega
    clear hs
    go_wp2
    go_ret
    refine ⟨_,rfl,?_,hbel⟩;rw [Hvd.out,List.reverse_reverse,←Hke.out];exact hown
   ·clear hs
    go_wp2
    go_ret
    refine ⟨_,rfl,?_,hbel⟩;rw [Hvd.out,List.reverse_reverse,←Hke.out];exact hown
set_option maxRecDepth 100000 in
theorem rq (n s:Int) (w:World) (m k:Nat) (hn:n=(m:Int)) (hs:min (max s 0) 8=(k:Int)) (hm:m<18446744073709551616) (hk:k≤8) :
  Calls Tryz.prog 75 #[.int .u64 n,.int .i64 s,.bool false] w fun e w'=>∃ v,e=.returned v∧w'.ownsRow w.heap.size 5 1 v k (ab (jP k m))∧Below w.heap.size w w':=by
 subst hn;obtain ⟨i0,hi0,hz0,hz1,hz2⟩:=info_parts cC;go_enter Tryz.func75,Tryz.ntmps75
 go_wp2_with fail
 go_loopw [0,7,8] (fun x v i wr=>∃ (q:Nat) (dn:List UInt8),q<18446744073709551616∧dn.length≤k∧Hid (jP k m=dn ++ jP (k - dn.length) q)∧x=.int .u64 (q:Int)∧i=.int .i64 (dn.length:Int)∧Below w.heap.size w wr∧(∃ A c,v=.slice A dn.length c)∧wr.ownsRow w.heap.size 5 1 v dn.length (ab dn))
  (fun _ _ i _=>k - (intOf i).toNat)
 case atStart=>exact ⟨m,[],hm,by simp,rfl,rfl,rfl,Below.refl _ _,⟨_,_,rfl⟩,World.ownsRow_nil _ _ _ _⟩
 case round =>
  obtain ⟨q,dn,hq,hdk,hv,rfl,rfl,hbel,⟨A,c,rfl⟩,hown⟩:=hrel;have hsz:w.heap.size≤wr.heap.size:=hbel.size;have hrow:∀ g,(Value.slice A dn.length c).ownBlock=some g→w.heap.size≤g:=fun g hg=>(hown.lt g hg).1
  by_cases hlt:dn.length<k
  ·have h1:(dn.length:Int)<s:=by omega
   have h2:(dn.length:Int)<8:=by omega
   have hlo:Hid ((q:Int) % 256=(((UInt8.ofNat (q % 256)).toNat:Nat):Int)):=by
    show _=_
    rw [hU (by omega)];omega
   have hv':Hid (jP k m=(dn ++ [UInt8.ofNat (q % 256)]) ++ jP (k - (dn ++ [UInt8.ofNat (q % 256)]).length) (q / 256)):=by
    show _=_
    rw [hv.out,List.append_assoc,List.length_append,List.length_singleton,show k - dn.length=k - (dn.length + 1) + 1 by omega,jP];rfl
   go_wp2_with (at_builtin;refine av _ rfl _ _ 43 rfl w.heap.size 5 i0 (.int .u8 0) 1 Tryz.underlying43 hi0 hz0 hz1 hz2 rfl _ dn rfl (hown.alloc _) _ _ 1 _ [UInt8.ofNat (q % 256)] rfl rfl (BS.one' _ _ _ hlo.out _) (by simp [maxLen];omega) (by simp;omega) (by simp;omega) ?_;intro A' c' w2 hown2 hg2 _)
   go_roundw
   case rel=>exact ⟨q / 256,dn ++ [UInt8.ofNat (q % 256)],by omega,by simp;omega,hv',by go_num,by simp,(hbel.alloc hsz _).grown hg2 (by simp;omega) hrow,⟨A',c',by simp⟩,by simpa using hown2⟩
   case measure=>simp [intOf];omega
  ·have hke:dn.length=k:=by omega
   have hvd:jP k m=dn:=by rw [hv.out,hke,Nat.sub_self,jP,List.append_nil]
   have Hvd:=Lib.hid hvd;have Hke:=Lib.hid hke;clear hvd hke;by_cases h1:(dn.length:Int)<s
   ·have h2:¬ (dn.length:Int)<8:=by omega
    clear hs
    go_wp2
    go_ret
    refine ⟨_,rfl,?_,hbel⟩;rw [Hvd.out,←Hke.out];exact hown
   ·clear hs
    go_wp2
    go_ret
    refine ⟨_,rfl,?_,hbel⟩;rw [Hvd.out,←Hke.out];exact hown
def cd (k m:Nat) (big:Bool):List UInt8:=if big then (jP k m).reverse else jP k m
theorem aw (k m:Nat) (big:Bool):(cd k m big).length=k:=by unfold cd;split <;> simp [dV]
def cR (s:Int):Nat:=(min (max s 0) 8).toNat
theorem mi (s:Int):min (max s 0) 8=(cR s:Int):=by unfold cR;omega
theorem kt (s:Int):cR s≤8:=by unfold cR;omega
theorem ku (big:Bool) (m:Nat) (s:Int) (w:World) (hm:m<18446744073709551616) :
  Calls Tryz.prog 118 #[.int .u64 (m:Int),.int .i64 s,.bool big] w fun e w'=>∃ A c,e=.returned (.slice A (cd (cR s) m big).length c)∧w'.ownsRow w.heap.size 5 1 (.slice A (cd (cR s) m big).length c) (cd (cR s) m big).length (ab (cd (cR s) m big))∧Below w.heap.size w w':=by
 have hl:=aw (cR s) m big;rcases big with _ | _
 ·refine (vY _ _ w m (cR s) rfl (mi s) hm (kt s)).mono ?_
  rintro e w' ⟨v,h1,h2,h3⟩;obtain ⟨A,c,rfl,_⟩:=cE h2;exact ⟨A,c,by rw [hl];exact h1,by rw [hl];exact h2,h3⟩
 ·refine (vZ _ _ w m (cR s) rfl (mi s) hm (kt s)).mono ?_
  rintro e w' ⟨v,h1,h2,h3⟩;obtain ⟨A,c,rfl,_⟩:=cE h2;exact ⟨A,c,by rw [hl];exact h1,by rw [hl];exact h2,h3⟩
theorem BY (big:Bool) (m:Nat) (s:Int) (w:World) (hm:m<18446744073709551616) :
  Calls Tryz.prog 75 #[.int .u64 (m:Int),.int .i64 s,.bool big] w fun e w'=>∃ A c,e=.returned (.slice A (cd (cR s) m big).length c)∧w'.ownsRow w.heap.size 5 1 (.slice A (cd (cR s) m big).length c) (cd (cR s) m big).length (ab (cd (cR s) m big))∧Below w.heap.size w w':=by
 have hl:=aw (cR s) m big;rcases big with _ | _
 ·refine (rq _ _ w m (cR s) rfl (mi s) hm (kt s)).mono ?_
  rintro e w' ⟨v,h1,h2,h3⟩;obtain ⟨A,c,rfl,_⟩:=cE h2;exact ⟨A,c,by rw [hl];exact h1,by rw [hl];exact h2,h3⟩
 ·refine (rp _ _ w m (cR s) rfl (mi s) hm (kt s)).mono ?_
  rintro e w' ⟨v,h1,h2,h3⟩;obtain ⟨A,c,rfl,_⟩:=cE h2;exact ⟨A,c,by rw [hl];exact h1,by rw [hl];exact h2,h3⟩
end Go.Proofs.YtaafkokfdgfabaaGreat
