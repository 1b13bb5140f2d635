import Derived.Test.YtaafkokfdgfabaaGreatProg
import Derived.Test.YtaafkokfdgfabaaGreatP1
import Derived.WalkKit
import Derived.Outline
import Derived.Laws.Tables
import Derived.Deep.WholeRow
set_option maxHeartbeats 8000000
set_option maxRecDepth 100000
set_option linter.unusedVariables false
set_option linter.unusedSimpArgs false
open Array renaming getElem?_eq_none→Iz
open List renaming drop_eq_getElem_cons→Iy
open Nat renaming le_refl→IA
namespace Go.Proofs.YtaafkokfdgfabaaGreat
open Go.RowKit
open Lib (hid)
open Tryz renaming prog→qq
theorem pc{a b:Int}(h:a=b):Ending.returned (.int .u32 a)=.returned (.int .u32 b):=by rw[h]
theorem Bn(n:Int)(w:World)(x:Nat)(hn:n=(x:Int))(hx:x<4294967296) :
  Calls qq 193 #[.int .u32 n] w fun e w'=>e=.returned (.int .u32 ((sh x:Nat):Int))∧w=w':=by
 subst hn;have ha:=CH x hx;have hxo:=jt (x/2) rg (by omega) (by unfold rg;omega);rw[show ((x/2:Nat):Int)=(x:Int)/2 by omega,show ((rg:Nat):Int)=2197175160 from rfl] at hxo;have Hx:=hid hxo;clear hxo;rcases Nat.mod_two_eq_zero_or_one x with h|h
 ·rw[h] at ha
  have H:=hid h;clear h;go_enter Tryz.func193,Tryz.ntmps193
  go_wp2
  go_ret
  exact⟨pc (by unfold sh;rw[if_neg (by have:=H.out;omega)];omega),rfl⟩
 ·rw[h] at ha
  have H:=hid h;clear h;go_enter Tryz.func193,Tryz.ntmps193
  go_wp2
  go_ret
  exact⟨pc (by unfold sh;rw[if_pos H.out];exact Hx.out),rfl⟩
theorem vI(n:Int)(w:World)(x:Nat)(hn:n=(x:Int))(hx:x<4294967296) :
  Calls qq 179 #[.int .u32 n] w fun e w'=>e=.returned (.int .u32 ((kB 8 x:Nat):Int))∧w=w':=by
 subst hn;go_enter Tryz.func179,Tryz.ntmps179
 go_wp2
 go_loop [0,3] (fun v i=>∃k y:Nat,k≤8∧i=.int .i64 (k:Int)∧v=.int .u32 (y:Int)∧y<4294967296∧Hid (kB 8 x=kB (8-k) y)) (fun _ i=>8-(intOf i).toNat)
 case atStart=>exact⟨0,x,by omega,rfl,rfl,hx,rfl⟩
 case round =>
  obtain⟨k,y,hk,rfl,rfl,hy,hv⟩:=hrel;by_cases hlt:k<8
  ·have hv':Hid (kB 8 x=kB (8-(k+1)) (sh y)):=by
    show _=_
    rw[hv.out,show 8-k=8-(k+1)+1 by omega,kB]
   have hxo:=jt (y/2) rg (by omega) (by unfold rg;omega);rw[show ((y/2:Nat):Int)=(y:Int)/2 by omega,show ((rg:Nat):Int)=2197175160 from rfl] at hxo;have Hx:=hid hxo;clear hxo;have Hsl:=hid (CI hy);by_cases h:y%2=1
   ·have hb:((y:Int)%2==1)=true:=by simp;omega
    have H:=hid h;clear h
    go_wp2
    go_round
    case rel=>exact⟨k+1,sh y,by omega,by go_num,by rw[Hx.out];unfold sh;rw[if_pos H.out],Hsl.out,hv'⟩
    case measure=>simp[intOf];omega
   ·have hb:((y:Int)%2==1)=false:=by simp;omega
    have H:=hid h;clear h
    go_wp2
    go_round
    case rel=>exact⟨k+1,sh y,by omega,by go_num,by unfold sh;rw[if_neg H.out];go_num,Hsl.out,hv'⟩
    case measure=>simp[intOf];omega
  ·obtain rfl:k=8:=by omega
   go_wp2
   go_ret
   exact⟨pc (by rw[hv.out];rfl),rfl⟩
theorem vJ(s:Int)(A:Option Addr)(n c:Nat)(l:List UInt8)(w:World)(B x:Nat)(hs:s=(x:Int))(hx:x<4294967296)(hn:n=l.length)(hb:BS w B A l)(hl:n≤maxLen) :
  Calls qq 143 #[.int .u32 s,.slice A n c] w fun e w'=>e=.returned (.int .u32 ((sZ x l:Nat):Int))∧w=w':=by
 subst hn hs;unfold maxLen at hl;have hB:=hid hb;clear hb;have h0:=jt x fF hx gC;rw[show ((fF:Nat):Int)=4294967295 from rfl] at h0;have H0:=hid h0;clear h0;go_enter Tryz.func143,Tryz.ntmps143
 go_wp2
 go_loop [5,6] (fun v i=>∃k y:Nat,k≤l.length∧i=.int .i64 (k:Int)∧v=.int .u32 (y:Int)∧y<4294967296∧Hid (nN (x ^^^ fF) l=nN y (l.drop k))) (fun _ i=>l.length-(intOf i).toNat)
 case atStart=>exact⟨0,x ^^^ fF,by omega,rfl,by rw[H0.out],iM hx gC,rfl⟩
 case round =>
  obtain⟨k,y,hk,rfl,rfl,hy,hv⟩:=hrel;by_cases hlt:k<l.length
  ·obtain⟨ad,rfl,_,hc⟩:=hB.out.at_ hlt
   have hch:(l[k]).toNat<256:=(l[k]).toNat_lt;have hstep:Hid (nN y (l.drop k)=nN (kB 8 (y ^^^ (l[k]).toNat)) (l.drop (k+1))):=by
    show _=_
    rw[Iy hlt];rfl
   generalize (l[k]).toNat=d at hc hch hstep
   have Hxo:=hid (jt y d hy (by omega));have Hlt:=hid (rh 8 (iM hy (show d<4294967296 by omega)))
   go_wp2_with (go_at_call 179;refine (vI _ _ (y ^^^ d) Hxo.out (iM hy (by omega))).mono ?_;rintro e w' ⟨rfl,rfl⟩)
   go_round
   case rel=>exact⟨k+1,_,by omega,by go_num,rfl,Hlt.out,hv.out.trans hstep.out⟩
   case measure=>simp[intOf];omega
  ·have H1:=jt y fF hy gC
   rw[show ((fF:Nat):Int)=4294967295 from rfl] at H1;have H1':=hid H1;clear H1
   go_wp2
   go_ret
   exact⟨pc (by rw[H1'.out];unfold sZ;rw[hv.out,List.drop_eq_nil_of_le (by omega)];rfl),rfl⟩
def lB(k:Nat):Array Value:=((List.range 16).map fun j=>Value.int .u32 (if j<k then ((kB 4 j:Nat):Int) else 0)).toArray
theorem fO(k:Nat):(lB k).size=16:=by simp[lB]
theorem lC{k j:Nat}(hj:j<16):(lB k)[j]?=some (.int .u32 (if j<k then ((kB 4 j:Nat):Int) else 0)):=by
 simp[lB,hj]
theorem Dy{k:Nat}(hk:k<16):(lB k).setIfInBounds k (.int .u32 ((kB 4 k:Nat):Int))=lB (k+1):=by
 apply Array.ext_getElem?
 intro j;rw[Array.getElem?_setIfInBounds,fO];by_cases h:k=j
 ·subst h
  rw[if_pos rfl,if_pos hk,lC hk,if_pos (by omega)]
 ·rw[if_neg h]
  by_cases hj:j<16
  ·rw[lC hj,lC hj]
   congr 3
   exact propext (by omega)
  ·rw[Iz (by rw[fO];omega),Iz (by rw[fO];omega)]
theorem vK(k:Nat):(lB k).all (·.oneCell')=true:=by
 rw[Array.all_eq_true];intro i hi;simp[lB,Value.oneCell']
theorem pd:(qq.info? 227).map (·.size)=some 16:=by kernel_rfl
theorem Bo(w:World) :
  Calls qq 182 #[] w fun e w'=>e=.returned (.agg (lB 16))∧Below w.heap.size w w':=by
 go_enter Tryz.func182,Tryz.ntmps182
 go_wp2
 have hz:lB 0=#[.int .u32 0,.int .u32 0,.int .u32 0,.int .u32 0,.int .u32 0,.int .u32 0,.int .u32 0,.int .u32 0,.int .u32 0,.int .u32 0,.int .u32 0,.int .u32 0,.int .u32 0,.int .u32 0,.int .u32 0,.int .u32 0]:=rfl;have Hz:=hid hz;clear hz;go_loopw [4] (fun i wr=>∃k:Nat,k≤16∧i=.int .i64 (k:Int)∧Below w.heap.size w wr∧Hid (aj wr (w.heap.size+1) 227 (lB k))∧Hid (aj wr w.heap.size 227 (lB 0))) (fun i _=>16-(intOf i).toNat)
 case atStart =>
  refine⟨0,by omega,rfl,((Below.refl _ _).alloc (IA _) _).alloc (by simp) _,?_,?_⟩
  ·show aj _ _ _ _
   rw[Hz.out];exact aj.new _ _ _ _ (by simp)
  ·show aj _ _ _ _
   rw[Hz.out];exact (aj.new _ _ _ _ rfl).alloc _
 case round =>
  obtain⟨k,hk,rfl,hbel,hblk,hblk0⟩:=hrel;by_cases hlt:k<16
  ·have hltI:decide ((k:Int)<16)=true:=decide_eq_true (by omega)
   go_wp2
   go_loop [3,9] (fun v j=>∃q y:Nat,q≤4∧j=.int .i64 (q:Int)∧v=.int .u32 (y:Int)∧y<4294967296∧Hid (kB 4 k=kB (4-q) y)) (fun _ j=>4-(intOf j).toNat)
   case atStart=>exact⟨0,k,by omega,rfl,rfl,by omega,rfl⟩
   case round =>
    obtain⟨q,y,hq,rfl,rfl,hy,hv⟩:=hrel;by_cases hq4:q<4
    ·have Hsl:=hid (CI hy)
     have hv':Hid (kB 4 k=kB (4-(q+1)) (sh y)):=by
      show _=_
      rw[hv.out,show 4-q=4-(q+1)+1 by omega,kB]
     go_wp2_with (go_at_call 193;refine (Bn _ _ y rfl hy).mono ?_;rintro e w' ⟨rfl,rfl⟩)
     go_round
     case rel=>exact⟨q+1,sh y,by omega,by go_num,rfl,Hsl.out,hv'⟩
     case measure=>simp[intOf];omega
    ·obtain rfl:q=4:=by omega
     have hyk:y=kB 4 k:=by rw[hv.out];rfl
     have hc:=(hblk.out.cell k).trans (lC hlt);have hf:=hblk.out.frozen k;have Hy:=hid hyk;clear hyk
     go_wp2
     go_roundw
     case rel =>
      refine⟨k+1,by omega,by go_num,hbel.setCell (by simp) _,?_,?_⟩
      ·show aj _ _ _ _
       rw[Hy.out,←Dy hlt];exact hblk.out.set_ k _
      ·exact hblk0.out.far (by simp) _
     case measure=>simp[intOf];omega
  ·obtain rfl:k=16:=by omega
   go_wp2_with (first
    |(refine wpList_load_row rfl 227 _ rfl _ rfl _ _ _ _ hblk.out Tryz.underlying227 rfl (by rw[fO];exact pd) ?_)
    |(refine wpList_store_row rfl 227 _ _ rfl _ (lB 16) rfl rfl _ _ hblk0.out (by rw[fO];exact pd) (by rw[fO,fO]) (vK 16) ?_))
   exact bodyPost_ret (results_cell_row (P:=qq) rfl _ _ _ _ _ _ _ rfl (hblk0.out.row (lB 16)) Tryz.underlying227 rfl (by rw[fO];exact pd)) rfl ⟨rfl,oK hbel (IA _) _⟩
theorem Dz(s:Int)(A:Option Addr)(n c:Nat)(l:List UInt8)(w:World)(B x:Nat)(hs:s=(x:Int))(hx:x<4294967296)(hn:n=l.length)(hb:BS w B A l)(hB:B≤w.heap.size)(hl:n≤maxLen) :
  Calls qq 147 #[.int .u32 s,.slice A n c] w fun e w'=>e=.returned (.int .u32 ((sZ x l:Nat):Int))∧Below w.heap.size w w':=by
 subst hn hs;unfold maxLen at hl;have h0:=jt x fF hx gC;rw[show ((fF:Nat):Int)=4294967295 from rfl] at h0;have H0:=hid h0;have hz:lB 0=#[.int .u32 0,.int .u32 0,.int .u32 0,.int .u32 0,.int .u32 0,.int .u32 0,.int .u32 0,.int .u32 0,.int .u32 0,.int .u32 0,.int .u32 0,.int .u32 0,.int .u32 0,.int .u32 0,.int .u32 0,.int .u32 0]:=rfl;have Hz:=hid hz;clear h0 hz;have HB:=hid hb;clear hb;go_enter Tryz.func147,Tryz.ntmps147
 go_wp2_with fail
 refine (Bo _).mono ?_;rintro e w1 ⟨rfl,hb1⟩;have hs1:=hb1.size;have hnew:Hid (aj (w1.alloc (.cells #[.int .u32 0,.int .u32 0,.int .u32 0,.int .u32 0,.int .u32 0,.int .u32 0,.int .u32 0,.int .u32 0,.int .u32 0,.int .u32 0,.int .u32 0,.int .u32 0,.int .u32 0,.int .u32 0,.int .u32 0,.int .u32 0] 227)) w1.heap.size 227 (lB 0)):=by
  show aj _ _ _ _
  rw[Hz.out];exact aj.new _ _ _ _ rfl
 go_wp2_with (refine wpList_store_row rfl 227 _ _ rfl _ (lB 16) rfl rfl _ _ hnew.out (by rw[fO];exact pd) (by rw[fO,fO]) (vK 16) ?_)
 have hblk:=hid (hnew.out.row (lB 16));have hbel:=oK ((hb1.alloc hs1 (.cells #[.int .u32 0,.int .u32 0,.int .u32 0,.int .u32 0,.int .u32 0,.int .u32 0,.int .u32 0,.int .u32 0,.int .u32 0,.int .u32 0,.int .u32 0,.int .u32 0,.int .u32 0,.int .u32 0,.int .u32 0,.int .u32 0] 227))) hs1 (lB 16);clear hnew;generalize hW:(w1.alloc (.cells #[.int .u32 0,.int .u32 0,.int .u32 0,.int .u32 0,.int .u32 0,.int .u32 0,.int .u32 0,.int .u32 0,.int .u32 0,.int .u32 0,.int .u32 0,.int .u32 0,.int .u32 0,.int .u32 0,.int .u32 0,.int .u32 0] 227)).setRow w1.heap.size (lB 16)=W at *
 clear hW;have hB':=hid ((HB.out.more hB).below hbel);generalize w1.heap.size=g at *
 go_loop [6,14] (fun v i=>∃k y:Nat,k≤l.length∧i=.int .i64 (k:Int)∧v=.int .u32 (y:Int)∧y<4294967296∧Hid (nN (x ^^^ fF) l=nN y (l.drop k))) (fun _ i=>l.length-(intOf i).toNat)
 case atStart=>exact⟨0,x ^^^ fF,by omega,rfl,by rw[H0.out],iM hx gC,rfl⟩
 case round =>
  obtain⟨k,y,hk,rfl,rfl,hy,hv⟩:=hrel;by_cases hlt:k<l.length
  ·obtain⟨ad,rfl,_,hc⟩:=hB'.out.at_ hlt
   have hch:(l[k]).toNat<256:=(l[k]).toNat_lt;have hstep:Hid (nN y (l.drop k)=nN (kB 8 (y ^^^ (l[k]).toNat)) (l.drop (k+1))):=by
    show _=_
    rw[Iy hlt];rfl
   generalize (l[k]).toNat=d at hc hch hstep
   have hz0:=iM hy (show d<4294967296 by omega);have hx0:=jt y d hy (by omega);rw[EP] at hstep;generalize y ^^^ d=z at *
   have ha0:=sY z hz0;have hm0:z%16<16:=by omega
   have ht0:=rh 4 (show z%16<4294967296 by omega);have hc0:=(hblk.out.cell (z%16)).trans (lC hm0);rw[if_pos hm0] at hc0;have hx1:=jt (kB 4 (z%16)) (z/16) ht0 (by omega);have hz1:=iM ht0 (show z/16<4294967296 by omega);rw[show ((z/16:Nat):Int)=(z:Int)/16 by omega] at hx1;generalize kB 4 (z%16) ^^^ z/16=z1 at *
   generalize kB 4 (z%16)=t0 at *
   generalize z%16=m0 at *
   rw[CJ] at hstep;have ha1:=sY z1 hz1;have hm1:z1%16<16:=by omega
   have ht1:=rh 4 (show z1%16<4294967296 by omega);have hc1:=(hblk.out.cell (z1%16)).trans (lC hm1);rw[if_pos hm1] at hc1;have hx2:=jt (kB 4 (z1%16)) (z1/16) ht1 (by omega);have hz2:=iM ht1 (show z1/16<4294967296 by omega);rw[show ((z1/16:Nat):Int)=(z1:Int)/16 by omega] at hx2;generalize kB 4 (z1%16) ^^^ z1/16=z2 at *
   generalize kB 4 (z1%16)=t1 at *
   generalize z1%16=m1 at *
   go_wp2
   go_round
   case rel=>exact⟨k+1,z2,by omega,by go_num,rfl,hz2,hv.out.trans hstep.out⟩
   case measure=>simp[intOf];omega
  ·have H1:=jt y fF hy gC
   rw[show ((fF:Nat):Int)=4294967295 from rfl] at H1;have H1':=hid H1;clear H1
   go_wp2
   go_ret
   exact⟨pc (by rw[H1'.out];unfold sZ;rw[hv.out,List.drop_eq_nil_of_le (by omega)];rfl),hbel⟩
theorem Gt(A:Option Addr)(n c:Nat)(l:List UInt8)(w:World)(B:Nat)(hn:n=l.length)(hb:BS w B A l)(hB:B≤w.heap.size)(hl:n≤maxLen) :
  Calls qq 86 #[.slice A n c] w fun e w'=>e=.returned (.int .u32 ((vc l:Nat):Int))∧Below w.heap.size w w':=by
 subst hn;have Hb:=hid hb;have Hl:=hid hl;clear hb hl;go_enter Tryz.func86,Tryz.ntmps86
 go_wp2_with fail
 refine (Dz 0 A _ c l w B 0 rfl (by omega) rfl Hb.out hB Hl.out).mono ?_;rintro e w1 ⟨rfl,hb1⟩
 go_wp2
 go_ret
 exact⟨rfl,hb1⟩
theorem Bp(A:Option Addr)(n c:Nat)(l:List UInt8)(w:World)(B:Nat)(hn:n=l.length)(hb:BS w B A l)(hl:n≤maxLen) :
  Calls qq 76 #[.slice A n c] w fun e w'=>e=.returned (.int .u32 ((vc l:Nat):Int))∧w=w':=by
 subst hn;have Hb:=hid hb;have Hl:=hid hl;clear hb hl;go_enter Tryz.func76,Tryz.ntmps76
 go_wp2_with fail
 refine (vJ 0 A _ c l w B 0 rfl (by omega) rfl Hb.out Hl.out).mono ?_;rintro e w1 ⟨rfl,rfl⟩
 go_wp2
 go_ret
 exact⟨rfl,rfl⟩
theorem Gb{x:Nat}(A:Option Addr)(n c:Nat)(l:List UInt8)(w:World)(B:Nat)(hn:n=l.length)(hb:BS w B A l)(hB:B≤w.heap.size)(hl:n≤maxLen)(h:vc l=x) :
  Calls qq 86 #[.slice A n c] w fun e w'=>e=.returned (.int .u32 (x:Int))∧Below w.heap.size w w':=by
 subst h;exact Gt A n c l w B hn hb hB hl
theorem DA{x:Nat}(A:Option Addr)(n c:Nat)(l:List UInt8)(w:World)(B:Nat)(hn:n=l.length)(hb:BS w B A l)(hl:n≤maxLen)(h:vc l=x) :
  Calls qq 76 #[.slice A n c] w fun e w'=>e=.returned (.int .u32 (x:Int))∧w=w':=by
 subst h;exact Bp A n c l w B hn hb hl
