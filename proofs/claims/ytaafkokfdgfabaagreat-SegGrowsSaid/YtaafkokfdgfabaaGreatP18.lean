import Derived.Test.YtaafkokfdgfabaaGreatProg
import Derived.Test.YtaafkokfdgfabaaGreatP1
import Derived.WalkKit
import Derived.Outline
import Derived.Laws.Tables
import Derived.Deep.WholeRow
set_option maxHeartbeats 8000000
namespace Go.Proofs.YtaafkokfdgfabaaGreat
open Go.RowKit
set_option linter.unusedVariables false
theorem tc {a b:Int} (h:a=b):Ending.returned (.int .u32 a)=.returned (.int .u32 b):=by rw [h]
set_option maxRecDepth 100000 in
theorem Am (n:Int) (w:World) (x:Nat) (hn:n=(x:Int)) (hx:x<4294967296) :
  Calls Tryz.prog 193 #[.int .u32 n] w fun e w'=>e=.returned (.int .u32 ((sh x:Nat):Int))∧w=w':=by
 subst hn;have ha:=BM x hx;have hxo:=mg (x / 2) tY (by omega) (by unfold tY;omega);rw [show ((x / 2:Nat):Int)=(x:Int) / 2 by omega,show ((tY:Nat):Int)=2197175160 from rfl] at hxo;have Hx:=Lib.hid hxo;clear hxo;rcases Nat.mod_two_eq_zero_or_one x with h | h
 ·rw [h] at ha
  have H:=Lib.hid h;clear h;go_enter Tryz.func193,Tryz.ntmps193
  go_wp2
  go_ret
  exact ⟨tc (by unfold sh;rw [if_neg (by have:=H.out;omega)];omega),rfl⟩
 ·rw [h] at ha
  have H:=Lib.hid h;clear h;go_enter Tryz.func193,Tryz.ntmps193
  go_wp2
  go_ret
  exact ⟨tc (by unfold sh;rw [if_pos H.out];exact Hx.out),rfl⟩
end Go.Proofs.YtaafkokfdgfabaaGreat
namespace Go.Proofs.YtaafkokfdgfabaaGreat
open Go.RowKit
set_option linter.unusedVariables false
def kD (k:Nat):Array Value:=((List.range 16).map fun j=>Value.int .u32 (if j<k then ((lE 4 j:Nat):Int) else 0)).toArray
theorem fd (k:Nat):(kD k).size=16:=by simp [kD]
theorem kE {k j:Nat} (hj:j<16):(kD k)[j]?=some (.int .u32 (if j<k then ((lE 4 j:Nat):Int) else 0)):=by
 simp [kD,hj]
theorem CK {k:Nat} (hk:k<16):(kD k).setIfInBounds k (.int .u32 ((lE 4 k:Nat):Int))=kD (k + 1):=by
 apply Array.ext_getElem?
 intro j;rw [Array.getElem?_setIfInBounds,fd];by_cases h:k=j
 ·subst h
  rw [if_pos rfl,if_pos hk,kE hk,if_pos (by omega)]
 ·rw [if_neg h]
  by_cases hj:j<16
  ·rw [kE hj,kE hj]
   congr 3
   exact propext (by omega)
  ·rw [Array.getElem?_eq_none (by rw [fd];omega),Array.getElem?_eq_none (by rw [fd];omega)]
theorem uC (k:Nat):(kD k).all (·.oneCell')=true:=by
 rw [Array.all_eq_true];intro i hi;simp [kD,Value.oneCell']
theorem oq:(Tryz.prog.info? 227).map (·.size)=some 16:=by kernel_rfl
set_option maxRecDepth 100000 in
theorem An (w:World) :
  Calls Tryz.prog 182 #[] w fun e w'=>e=.returned (.agg (kD 16))∧Below w.heap.size w w':=by
 go_enter Tryz.func182,Tryz.ntmps182
 go_wp2
 have hz:kD 0=#[.int .u32 0,.int .u32 0,.int .u32 0,.int .u32 0,.int .u32 0,.int .u32 0,.int .u32 0,.int .u32 0,.int .u32 0,.int .u32 0,.int .u32 0,.int .u32 0,.int .u32 0,.int .u32 0,.int .u32 0,.int .u32 0]:=rfl;have Hz:=Lib.hid hz;clear hz;go_loopw [4] (fun i wr=>∃ k:Nat,k≤16∧i=.int .i64 (k:Int)∧Below w.heap.size w wr∧Hid (ah wr (w.heap.size + 1) 227 (kD k))∧Hid (ah wr w.heap.size 227 (kD 0))) (fun i _=>16 - (intOf i).toNat)
 case atStart =>
  refine ⟨0,by omega,rfl,((Below.refl _ _).alloc (Nat.le_refl _) _).alloc (by simp) _,?_,?_⟩
  ·show ah _ _ _ _
   rw [Hz.out];exact ah.new _ _ _ _ (by simp)
  ·show ah _ _ _ _
   rw [Hz.out];exact (ah.new _ _ _ _ rfl).alloc _
 case round =>
  obtain ⟨k,hk,rfl,hbel,hblk,hblk0⟩:=hrel;by_cases hlt:k<16
  ·have hltI:decide ((k:Int)<16)=true:=decide_eq_true (by omega)
   go_wp2
   go_loop [3,9] (fun v j=>∃ q y:Nat,q≤4∧j=.int .i64 (q:Int)∧v=.int .u32 (y:Int)∧y<4294967296∧Hid (lE 4 k=lE (4 - q) y)) (fun _ j=>4 - (intOf j).toNat)
   case atStart=>exact ⟨0,k,by omega,rfl,rfl,by omega,rfl⟩
   case round =>
    obtain ⟨q,y,hq,rfl,rfl,hy,hv⟩:=hrel;by_cases hq4:q<4
    ·have Hsl:=Lib.hid (EW hy)
     have hv':Hid (lE 4 k=lE (4 - (q + 1)) (sh y)):=by
      show _=_
      rw [hv.out,show 4 - q=4 - (q + 1) + 1 by omega,lE]
     go_wp2_with (go_at_call 193;refine (Am _ _ y rfl hy).mono ?_;rintro e w' ⟨rfl,rfl⟩)
     go_round
     case rel=>exact ⟨q + 1,sh y,by omega,by go_num,rfl,Hsl.out,hv'⟩
     case measure=>simp [intOf];omega
    ·obtain rfl:q=4:=by omega
     have hyk:y=lE 4 k:=by rw [hv.out];rfl
     have hc:=(hblk.out.cell k).trans (kE hlt);have hf:=hblk.out.frozen k;have Hy:=Lib.hid hyk;clear hyk
     go_wp2
     go_roundw
     case rel =>
      refine ⟨k + 1,by omega,by go_num,hbel.setCell (by simp) _,?_,?_⟩
      ·show ah _ _ _ _
       rw [Hy.out,←CK hlt];exact hblk.out.set_ k _
      ·exact hblk0.out.far (by simp) _
     case measure=>simp [intOf];omega
  ·obtain rfl:k=16:=by omega
   go_wp2_with (first
    | (refine wpList_load_row rfl 227 _ rfl _ rfl _ _ _ _ hblk.out Tryz.underlying227 rfl (by rw [fd];exact oq) ?_)
    | (refine wpList_store_row rfl 227 _ _ rfl _ (kD 16) rfl rfl _ _ hblk0.out (by rw [fd];exact oq) (by rw [fd,fd]) (uC 16) ?_))
   exact bodyPost_ret (results_cell_row (P:=Tryz.prog) rfl _ _ _ _ _ _ _ rfl (hblk0.out.row (kD 16)) Tryz.underlying227 rfl (by rw [fd];exact oq)) rfl ⟨rfl,nI hbel (Nat.le_refl _) _⟩
end Go.Proofs.YtaafkokfdgfabaaGreat
namespace Go.Proofs.YtaafkokfdgfabaaGreat
open Go.RowKit
set_option linter.unusedVariables false
set_option maxRecDepth 100000 in
theorem CL (s:Int) (A:Option Addr) (n c:Nat) (l:List UInt8) (w:World) (B x:Nat) (hs:s=(x:Int)) (hx:x<4294967296) (hn:n=l.length) (hb:BS w B A l) (hB:B≤w.heap.size) (hl:n≤maxLen) :
  Calls Tryz.prog 147 #[.int .u32 s,.slice A n c] w fun e w'=>e=.returned (.int .u32 ((yA x l:Nat):Int))∧Below w.heap.size w w':=by
 subst hn hs;unfold maxLen at hl;have h0:=mg x iH hx jq;rw [show ((iH:Nat):Int)=4294967295 from rfl] at h0;have H0:=Lib.hid h0;have hz:kD 0=#[.int .u32 0,.int .u32 0,.int .u32 0,.int .u32 0,.int .u32 0,.int .u32 0,.int .u32 0,.int .u32 0,.int .u32 0,.int .u32 0,.int .u32 0,.int .u32 0,.int .u32 0,.int .u32 0,.int .u32 0,.int .u32 0]:=rfl;have Hz:=Lib.hid hz;clear h0 hz;have HB:=Lib.hid hb;clear hb;go_enter Tryz.func147,Tryz.ntmps147
 go_wp2_with fail
 refine (An _).mono ?_;rintro e w1 ⟨rfl,hb1⟩;have hs1:=hb1.size;have hnew:Hid (ah (w1.alloc (.cells #[.int .u32 0,.int .u32 0,.int .u32 0,.int .u32 0,.int .u32 0,.int .u32 0,.int .u32 0,.int .u32 0,.int .u32 0,.int .u32 0,.int .u32 0,.int .u32 0,.int .u32 0,.int .u32 0,.int .u32 0,.int .u32 0] 227)) w1.heap.size 227 (kD 0)):=by
  show ah _ _ _ _
  rw [Hz.out];exact ah.new _ _ _ _ rfl
 go_wp2_with (refine wpList_store_row rfl 227 _ _ rfl _ (kD 16) rfl rfl _ _ hnew.out (by rw [fd];exact oq) (by rw [fd,fd]) (uC 16) ?_)
 have hblk:=Lib.hid (hnew.out.row (kD 16));have hbel:=nI ((hb1.alloc hs1 (.cells #[.int .u32 0,.int .u32 0,.int .u32 0,.int .u32 0,.int .u32 0,.int .u32 0,.int .u32 0,.int .u32 0,.int .u32 0,.int .u32 0,.int .u32 0,.int .u32 0,.int .u32 0,.int .u32 0,.int .u32 0,.int .u32 0] 227))) hs1 (kD 16);clear hnew;generalize hW:(w1.alloc (.cells #[.int .u32 0,.int .u32 0,.int .u32 0,.int .u32 0,.int .u32 0,.int .u32 0,.int .u32 0,.int .u32 0,.int .u32 0,.int .u32 0,.int .u32 0,.int .u32 0,.int .u32 0,.int .u32 0,.int .u32 0,.int .u32 0] 227)).setRow w1.heap.size (kD 16)=W at *
 clear hW;have hB':=Lib.hid ((HB.out.more hB).below hbel);generalize w1.heap.size=g at *
 go_loop [6,14] (fun v i=>∃ k y:Nat,k≤l.length∧i=.int .i64 (k:Int)∧v=.int .u32 (y:Int)∧y<4294967296∧Hid (rJ (x ^^^ iH) l=rJ y (l.drop k))) (fun _ i=>l.length - (intOf i).toNat)
 case atStart=>exact ⟨0,x ^^^ iH,by omega,rfl,by rw [H0.out],kp hx jq,rfl⟩
 case round =>
  obtain ⟨k,y,hk,rfl,rfl,hy,hv⟩:=hrel;by_cases hlt:k<l.length
  ·obtain ⟨ad,rfl,_,hc⟩:=hB'.out.at_ hlt
   have hch:(l[k]).toNat<256:=(l[k]).toNat_lt;have hstep:Hid (rJ y (l.drop k)=rJ (lE 8 (y ^^^ (l[k]).toNat)) (l.drop (k + 1))):=by
    show _=_
    rw [List.drop_eq_getElem_cons hlt];rfl
   generalize (l[k]).toNat=d at hc hch hstep
   have hz0:=kp hy (show d<4294967296 by omega);have hx0:=mg y d hy (by omega);rw [DW] at hstep;generalize y ^^^ d=z at *
   have ha0:=rI z hz0;have hm0:z % 16<16:=by omega
   have ht0:=sH 4 (show z % 16<4294967296 by omega);have hc0:=(hblk.out.cell (z % 16)).trans (kE hm0);rw [if_pos hm0] at hc0;have hx1:=mg (lE 4 (z % 16)) (z / 16) ht0 (by omega);have hz1:=kp ht0 (show z / 16<4294967296 by omega);rw [show ((z / 16:Nat):Int)=(z:Int) / 16 by omega] at hx1;generalize lE 4 (z % 16) ^^^ z / 16=z1 at *
   generalize lE 4 (z % 16)=t0 at *
   generalize z % 16=m0 at *
   rw [BN] at hstep;have ha1:=rI z1 hz1;have hm1:z1 % 16<16:=by omega
   have ht1:=sH 4 (show z1 % 16<4294967296 by omega);have hc1:=(hblk.out.cell (z1 % 16)).trans (kE hm1);rw [if_pos hm1] at hc1;have hx2:=mg (lE 4 (z1 % 16)) (z1 / 16) ht1 (by omega);have hz2:=kp ht1 (show z1 / 16<4294967296 by omega);rw [show ((z1 / 16:Nat):Int)=(z1:Int) / 16 by omega] at hx2;generalize lE 4 (z1 % 16) ^^^ z1 / 16=z2 at *
   generalize lE 4 (z1 % 16)=t1 at *
   generalize z1 % 16=m1 at *
   go_wp2
   go_round
   case rel=>exact ⟨k + 1,z2,by omega,by go_num,rfl,hz2,hv.out.trans hstep.out⟩
   case measure=>simp [intOf];omega
  ·have H1:=mg y iH hy jq
   rw [show ((iH:Nat):Int)=4294967295 from rfl] at H1;have H1':=Lib.hid H1;clear H1
   go_wp2
   go_ret
   exact ⟨tc (by rw [H1'.out];unfold yA;rw [hv.out,List.drop_eq_nil_of_le (by omega)];rfl),hbel⟩
theorem Fv (A:Option Addr) (n c:Nat) (l:List UInt8) (w:World) (B:Nat) (hn:n=l.length) (hb:BS w B A l) (hB:B≤w.heap.size) (hl:n≤maxLen) :
  Calls Tryz.prog 86 #[.slice A n c] w fun e w'=>e=.returned (.int .u32 ((yB l:Nat):Int))∧Below w.heap.size w w':=by
 subst hn;have Hb:=Lib.hid hb;have Hl:=Lib.hid hl;clear hb hl;go_enter Tryz.func86,Tryz.ntmps86
 go_wp2_with fail
 refine (CL 0 A _ c l w B 0 rfl (by omega) rfl Hb.out hB Hl.out).mono ?_;rintro e w1 ⟨rfl,hb1⟩
 go_wp2
 go_ret
 exact ⟨rfl,hb1⟩
end Go.Proofs.YtaafkokfdgfabaaGreat
namespace Go.Proofs.YtaafkokfdgfabaaGreat
open Go.RowKit
set_option linter.unusedVariables false
theorem Fc {x:Nat} (A:Option Addr) (n c:Nat) (l:List UInt8) (w:World) (B:Nat) (hn:n=l.length) (hb:BS w B A l) (hB:B≤w.heap.size) (hl:n≤maxLen) (h:yB l=x) :
  Calls Tryz.prog 86 #[.slice A n c] w fun e w'=>e=.returned (.int .u32 (x:Int))∧Below w.heap.size w w':=by
 subst h;exact Fv A n c l w B hn hb hB hl
end Go.Proofs.YtaafkokfdgfabaaGreat
