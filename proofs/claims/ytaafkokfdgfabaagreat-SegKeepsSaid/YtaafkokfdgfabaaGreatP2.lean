import Derived.Test.YtaafkokfdgfabaaGreatProg
import Derived.Test.YtaafkokfdgfabaaGreatP1
import Derived.RangeFuncNested
import Derived.RangeFuncBound
import Derived.RangeFuncCalls
import Derived.RangeFuncLeaves
import Derived.RangeFuncBox
import Derived.Shelf.Abstract
import Derived.Shelf.RegionOpen
import Derived.WalkKit
import Derived.Outline
import Derived.OwnWalkIn
import Derived.TacticsInMore
import Derived.LoopNIn
import Derived.LoopIn
set_option maxHeartbeats 8000000
set_option maxRecDepth 100000
set_option linter.unusedVariables false
set_option linter.unusedSimpArgs false
open List renaming length_cons→Iy,size_toArray→Iz,getElem?_eq_getElem→IA,cons_append→IC,length_nil→ID,nil_append→IE
open Nat renaming le_refl→qq,reduceAdd→IF,mul_comm→IG
namespace Go.Proofs.YtaafkokfdgfabaaGreat
open Go.RowKit Go.Shelf
open Lib (hid)
open Tryz renaming prog→IB
attribute [local go_sem] Oper.semAt_some
def CE(l:List UInt8)(k:Nat):List (Nat×UInt8):=(List.range k).map fun j=>(l.length-1-j,l.getD (l.length-1-j) 0)
theorem CO(l:List UInt8)(k:Nat):CE l (k+1)=CE l k++[(l.length-1-k,l.getD (l.length-1-k) 0)]:=by simp[CE,List.range_succ]
theorem xL(l:List UInt8)(k:Nat):(CE l k).length=k:=by simp[CE]
theorem ER(l:List UInt8):(CE l l.length).map (·.2)=l.reverse:=by
 apply List.ext_getElem
 ·simp[CE]
 ·intro i h1 h2
  simp[CE] at h1;have:l.length-1-i<l.length:=by omega
  simp[CE,this]
def xF(n₀ Bs:Nat)(A B:World):Prop:=Below n₀ A B∧B.heap[Bs]?=A.heap[Bs]?
theorem xF.refl(n₀ Bs:Nat)(A:World):xF n₀ Bs A A:=⟨Below.refl _ _,rfl⟩
theorem xF.trans{n₀ Bs:Nat}{A B C:World}(h:xF n₀ Bs A B)(k:xF n₀ Bs B C):xF n₀ Bs A C:=⟨h.1.trans k.1,k.2.trans h.2⟩
theorem xF.putObj{n₀ Bs:Nat}{w:World}(hn:n₀≤w.heap.size)(hB:Bs<w.heap.size)(W:World)(l:Nat)(o o':Obj)(hl:w.heap.size≤l)(h:W.heap[l]?=some o)(h1:o.isCells=false)(h2:o.isWalk=false):xF n₀ Bs W (W.putObj l o') :=
 ⟨belowK_b hn W l o o' hl h h1 h2,(grownBy_putObj' W l o').block Bs (by have:=(Array.getElem?_eq_some_iff.1 h).1;omega) (fun e=>by injection e;omega)⟩
theorem xF.cell{n₀ Bs:Nat}{A B:World}(h:xF n₀ Bs A B):B.cell? ⟨Bs,0,none⟩=A.cell? ⟨Bs,0,none⟩:=World.cell?_of_block (w:=A) h.2
def ES(x:Nat×UInt8):Array Value:=#[.int .i64 (x.1:Int),.int .u8 (x.2.toNat:Int)]
theorem t8(F:Fence)(n:Nat)(hf:F.fn 181)(hro:F.round=none)(hn:1≤n)(l Bs n₀:Nat)(A:Option Addr)(cap:Nat)(bs:List UInt8)(hreach:bs.length≤1000000000)(J Jx:List (Nat×UInt8)→World→Prop)
  (hY:∀pre x W,J pre W→pre.length<bs.length→YieldAt F (n-1) IB l (ES x) W fun e W' =>
   (e=.returned (.bool true)∧J (pre++[x]) W'∧xF n₀ Bs W W')∨(e=.returned (.bool false)∧Jx (pre++[x]) W'))
  (W:World) (hB:BS W n₀ A bs) (hBs:W.cell? ⟨Bs,0,none⟩=some (.slice A bs.length cap)) (h0:J [] W) :
  CallsIn F n IB 181 #[.func (.yield l) #[] #[],.pointer (some ⟨Bs,0,none⟩)] W fun e W'=>(∃v,e=.returned v) ∧
   (J (CE bs bs.length) W'∨(∃pre,Jx pre W')):=by
 have HB:=hid hB;clear hB;refine callsIn_of_wp Tryz.func181 rfl hf ?_ hro;simp only[Tryz.ntmps181,Iz,Iy,ID,IF,Nat.reduceSub,Array.replicate_succ,Array.replicate_zero,List.push_toArray,List.append_toArray,IE,IC]
 gi_wp2
 gi_loopw [3] (fun i wr=>∃k:Nat,k≤bs.length∧i=.int .i64 ((bs.length:Int)-1-(k:Int))∧J (CE bs k) wr∧xF n₀ Bs W wr)
  (fun i _=>(intOf i+1).toNat)
 case atStart=>exact⟨0,Nat.zero_le _,by simp,h0,xF.refl _ _ _⟩
 case round =>
  obtain⟨k,hk,rfl,hJs,hnx⟩:=hrel;have hcs:=hnx.cell.trans hBs;by_cases hlt:k<bs.length
  ·have hlt':bs.length-1-k<bs.length:=by omega
   obtain⟨ad,rfl,_,hc⟩:=(HB.out.below hnx.1).at_ hlt';have hi:((bs.length:Int)-1-(k:Int)).toNat=bs.length-1-k:=by omega
   have hi2:((bs.length:Int)-1-(k:Int))=((bs.length-1-k:Nat):Int):=by omega
   have hg:bs.getD (bs.length-1-k) 0=bs[bs.length-1-k]:=by simp[List.getD,IA hlt']
   obtain⟨fn,tmps,assign,body,hy,hR⟩:=hY _ (bs.length-1-k,bs[bs.length-1-k]) wr hJs (by rw[xL];exact hlt);dsimp only[ES] at hy
   have hmeas:((bs.length:Int)-1-((k+1:Nat):Int))=((bs.length:Int)-1-(k:Int))-1:=by omega
   have Hi2:=hid hi2;have Hg:=hid hg;clear hi hg hmeas;rw[Hi2.out];clear hi2;generalize hbi:bs.length-1-k=bi at *
   have Hbi:=hid hbi;clear hbi
   gi_wp2
   refine hR.mono ?_;rintro e W3 (⟨rfl,hJ3,hk3⟩|⟨rfl,hJx3⟩)
   ·gi_wp2
    go_roundw
    case rel=>exact⟨k+1,by omega,by have:=Hbi.out;congr 1;omega,by rw[CO,Hbi.out,Hg.out];exact hJ3,hnx.trans hk3⟩
    case measure=>simp[intOf]
   ·gi_wp2
    refine bodyPost_ret (results_none rfl _ _ _) rfl ?_;exact⟨⟨_,rfl⟩,.inr ⟨_,hJx3⟩⟩
  ·obtain rfl:k=bs.length:=by omega
   have hneg:((bs.length:Int)-1-(bs.length:Int))=-1:=by omega
   rw[hneg];clear hneg
   gi_wp2
   go_end0
   exact⟨⟨_,rfl⟩,.inl hJs⟩
theorem vh(F:Fence)(n:Nat)(h5:F.fn 146)(hro:F.round=none)(a:Option Addr)(len cap:Nat)(w:World) :
  CallsIn F n IB 146 #[.slice a len cap] w fun e w'=>e=.returned (.func (.func 181) #[] #[.pointer (some ⟨w.heap.size,0,none⟩)])∧w'=w.alloc (.cells #[.slice a len cap] 43):=by
 refine callsIn_of_wp Tryz.func146 rfl h5 ?_ hro;simp only[Tryz.ntmps146,Iz,Iy,ID,IF,Nat.reduceSub,Array.replicate_succ,Array.replicate_zero,List.push_toArray,List.append_toArray,IE,IC]
 gi_wp2
 go_ret
 exact⟨rfl,rfl⟩
theorem rq(F:Fence)(n:Nat)(h8:F.fn 181)(hro:F.round=none)(hn:1≤n)(Bs n₀:Nat)(A:Option Addr)(cap:Nat)(bs:List UInt8)(hreach:bs.length≤1000000000)(w:World)(hBs:Bs<w.heap.size)(hn₀:n₀≤w.heap.size)
  (hc:w.cell? ⟨Bs,0,none⟩=some (.slice A bs.length cap)) (hI:BS w n₀ A bs) :
  SeqStopsK F n IB 181 #[.pointer (some ⟨Bs,0,none⟩)] ES (xF n₀ Bs) (fun ys=>ys=CE bs bs.length) (fun _=>True) bs.length w:=fun l J Jx W hW _ _ hY h0=>by
 have hc':=(hW.cell (p:=⟨Bs,0,none⟩) hBs).trans hc;refine (t8 F n h8 hro hn l Bs n₀ A cap bs hreach J Jx hY W (hI.below (hW.mono hn₀)) hc' h0).mono ?_;rintro e W' ⟨he,hj|⟨pre,hj⟩⟩
 ·exact⟨he,.inl ⟨_,rfl,hj⟩⟩
 ·exact⟨he,.inr ⟨_,trivial,hj⟩⟩
attribute [local go_sem] Oper.semAt_some
def pG(l:List UInt8):Nat:=l.foldl (fun n c=>n*256+c.toNat) 0
theorem rr(l:List UInt8)(c:UInt8):pG (l++[c])=pG l*256+c.toNat:=by simp[pG]
theorem CP:∀(l:List UInt8) (n:Nat),l.foldl (fun n c=>n*256+c.toNat) n+1≤(n+1)*256^l.length
 |[],n=>by simp
 |c::l,n=>by
  have hc:=c.toNat_lt;have ih:=CP l (n*256+c.toNat);rw[List.foldl_cons,Iy,Nat.pow_succ];refine Nat.le_trans ih ?_;rw[IG (256^l.length) 256,←Nat.mul_assoc];exact Nat.mul_le_mul_right _ (by omega)
theorem CQ(l:List UInt8):pG l<256^l.length:=by
 have:=CP l 0;unfold pG;omega
theorem zF{l:List UInt8}(h:l.length<8):pG l<72057594037927936:=by
 have h1:=CQ l;have h2:256^l.length≤256^7:=Nat.pow_le_pow_right (by omega) (by omega);simp only[Nat.reducePow] at h2;omega
theorem kF:∀(l:List UInt8),pG l.reverse=pF l
 |[]=>rfl
 |c::l=>by rw[List.reverse_cons,rr,kF l,pF];omega
theorem FW{n c:Nat}(hn:n<72057594037927936)(hc:c<256):bits .or .u64 ((n:Int)*256) (c:Int)=((n*256+c:Nat):Int):=by
 have e:((n:Int)*256)=((n*256:Nat):Int):=by omega
 rw[e,bits_or_u64_nat _ _ (by omega) (by omega)];congr 1
 have:=Nat.two_pow_add_eq_or_of_lt (i:=8) (b:=c) (by omega) n;rw[IG n 256];exact this.symm
theorem oN(A:Option Addr)(n c:Nat)(l:List UInt8)(w:World)(hn:n=l.length)(hb:BS w w.heap.size A l)(hl:n≤8)(hc:n≤c) :
  Calls IB 85 #[.slice A n c,.bool false] w fun e w'=>e=.returned (.int .u64 ((pF l:Nat):Int))∧Below w.heap.size w w':=by
 subst hn;have HB:=hid hb;clear hb;have hl':(l.length:Int)≤8:=by omega
 refine (callsIn_wide (n:=3)).1 ?_;refine callsIn_of_wp_marks Tryz.func85 rfl trivial ?_ rfl;simp only[Tryz.ntmps85,Iz,Iy,ID,IF,Nat.reduceSub,Array.replicate_succ,Array.replicate_zero,List.push_toArray,List.append_toArray,IE,IC]
 gi_wp2_with (refine⟨trivial,?_⟩;gi_at_call 146;refine (vh Fence.wide 2 trivial rfl _ _ _ _).mono ?_;rintro e w' ⟨rfl,rfl⟩)
 have bS:=Boxed.new w 80 (.int .u64 0);have bN:=Boxed.new (w.alloc (.cells #[.int .u64 0] 80)) 43 (.slice A l.length c);rw[World.size_alloc] at bN;have hB0:Below w.heap.size w ((w.alloc (.cells #[.int .u64 0] 80)).alloc (.cells #[.slice A l.length c] 43)):=((Below.refl _ w).alloc (qq _) _).alloc (by simp) _;have hbx:=bS.alloc (.cells #[.slice A l.length c] 43);refine wpIn_rangeFunc_ownG rfl (by omega) (gf:=181) (lb:=#[.pointer (some ⟨w.heap.size+1,0,none⟩)]) rfl trivial (enters_of Tryz.func181 (by kernel_rfl) rfl)
  (rq Fence.wide 2 trivial rfl (by omega) (w.heap.size+1) w.heap.size A c l (by omega) _ (by simp) (by simp;omega) bN.cell (HB.out.below hB0)) xF.trans (xF.putObj (by simp;omega) (by simp)) (Below.refl _ _) (fun _=>rfl)
  (fun pre W=>(W.cell? ⟨w.heap.size,0,none⟩=some (.int .u64 ((pG (pre.map (·.2)):Nat):Int))∧W.frozen? ⟨w.heap.size,0,none⟩=false)∧Below w.heap.size w W)
  (fun _ _ _=>False)
  (OwnFrom.and (Own.from (fun s A B row hs hg hr=>⟨cell_kept hs.1 hg hr,(frozen_kept hs.1 hg hr).trans hs.2⟩) _) (ownFrom_below (qq _) (by simp;omega)))
  (fun _ _ _ _ _ hs _ _=>hs)
  ⟨⟨hbx.cell,hbx.frozen⟩,hB0⟩
  (fun x=>{ tmps:=#[.slice A l.length c,.bool false,undef,undef,.int .u64 0,.pointer (some ⟨w.heap.size,0,none⟩),undef,undef,undef,.int .u8 (x.2.toNat:Int),.slice A l.length c,.slice A l.length c,.int .i64 (l.length:Int),.int .i64 (l.length:Int),.slice A l.length c,.bool false,undef,undef,undef,undef,undef,undef,undef,undef,undef,undef,undef,undef,undef,.slice A l.length c,.func (.func 181) #[] #[.pointer (some ⟨w.heap.size+1,0,none⟩)],.int .i64 (x.1:Int),.int .u8 (x.2.toNat:Int),undef,undef,undef,undef,undef,undef],defers:=[] }) ?assign ?body ?done ?stop
 case assign =>
  intro l x W K hK;simp only[ES]
  gi_wp2
  exact hK
 case body =>
  rintro l2 pre x W ⟨⟨hc,hf⟩,hB⟩ hlen;have hlt:=zF (l:=pre.map (·.2)) (by rw[List.length_map];omega);have hch:x.2.toNat<256:=x.2.toNat_lt;have hso:=FW hlt hch;have hsn:=rr (pre.map (·.2)) x.2;rw[←hsn] at hso;generalize hn2:pG (pre.map (·.2)++[x.2])=n2 at *
  have hsn2:pG ((pre++[x]).map (·.2))=n2:=by rw[List.map_append,List.map_singleton];assumption
  have Hso:=hid hso;have Hsn2:=hid hsn2;clear hso hsn hsn2 hn2;generalize pG (pre.map (·.2))=nn at *
  generalize x.2.toNat=d at *
  gi_wp2
  refine⟨(KeepsOthers.setCell _ _ _).from _,⟨(Below.refl w.heap.size W).setCell (p:=⟨w.heap.size,0,none⟩) (qq _) _,?_⟩,⟨?_,by rw[World.frozen?_setCell];exact hf⟩,hB.setCell (p:=⟨w.heap.size,0,none⟩) (qq _) _⟩
  ·exact Below.heap_setCell _ _ _ _ (by simp)
  ·rw[Hsn2.out,Hso.out]
   exact World.cell?_setCell_same' _ _ _ (by rw[hc];rfl)
 case done =>
  rintro D ys W hD rfl ⟨⟨hc,hf⟩,hB⟩ hK;rw[ER,kF] at hc
  gi_wp2
  refine⟨by simp,.inl ⟨_,_,rfl,run_takeDeferred hK,?_⟩⟩;exact⟨_,results_tmp rfl _ _ _,rfl,hB.trans (belowK_b (w:=w) (qq _) W D _ _ (by simp at hD;omega) hK rfl rfl)⟩
 case stop =>
  rintro D c pre W _ _ h _;exact h.elim
theorem CR{l:List UInt8}{k:Nat}(h:k<l.length):pG (l.take (k+1))=pG (l.take k)*256+(l[k]).toNat:=by
 rw[List.take_add_one,IA h];exact rr _ _
theorem oO(A:Option Addr)(n c:Nat)(l:List UInt8)(w:World)(hn:n=l.length)(hb:BS w w.heap.size A l)(hl:n≤8)(hc:n≤c) :
  Calls IB 85 #[.slice A n c,.bool true] w fun e w'=>e=.returned (.int .u64 ((pG l:Nat):Int))∧Below w.heap.size w w':=by
 subst hn;have HB:=hid hb;clear hb;have hl':(l.length:Int)≤8:=by omega
 go_enter Tryz.func85,Tryz.ntmps85
 go_wp2
 have hb0:Boxed (w.alloc (.cells #[.int .u64 0] 80)) w.heap.size 80 (.int .u64 0):=Boxed.new w 80 (.int .u64 0);go_loopw [18] (fun i wr=>∃k:Nat,k≤l.length∧i=.int .i64 (k:Int)∧Below w.heap.size w wr∧wr.cell? ⟨w.heap.size,0,none⟩=some (.int .u64 ((pG (l.take k):Nat):Int))∧wr.frozen? ⟨w.heap.size,0,none⟩=false) (fun i _=>l.length-(intOf i).toNat)
 case atStart=>exact⟨0,by omega,rfl,(Below.refl _ _).alloc (qq _) _,hb0.cell,hb0.frozen⟩
 case round =>
  obtain⟨k,hk,rfl,hbel,hc0,hf0⟩:=hrel;by_cases hlt:k<l.length
  ·have hltI:(k:Int)<(l.length:Int):=by omega
   have hk0:(0:Int)≤(k:Int):=by omega
   obtain⟨ad,rfl,hadb,hc⟩:=(HB.out.below hbel).at_ hlt;have hn:=zF (l:=l.take k) (by rw[List.length_take];omega);have hd:(l[k]).toNat<256:=(l[k]).toNat_lt;have hso:=FW hn hd;have hst:=CR hlt;rw[←hst] at hso;have Hso:=hid hso;clear hst hso;generalize pG (l.take k)=nn at *
   generalize (l[k]).toNat=d at *
   go_wp2
   go_roundw
   case rel =>
    refine⟨k+1,by omega,by go_num,hbel.setCell (p:=⟨w.heap.size,0,none⟩) (qq _) _,?_,by rw[World.frozen?_setCell];exact hf0⟩;rw[Hso.out];exact World.cell?_setCell_same' _ _ _ (by rw[hc0];rfl)
   case measure=>simp[intOf];omega
  ·have hke:l.take k=l:=List.take_of_length_le (by omega)
   rw[hke] at hc0;clear hke
   go_wp2
   go_ret
   exact⟨rfl,hbel⟩
