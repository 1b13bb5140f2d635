import Derived.Test.YtaafkokfdgfabaaGreatP16
import Derived.Test.YtaafkokfdgfabaaGreatP28
import Derived.Test.YtaafkokfdgfabaaGreatP39
import Derived.Deep.Cut
import Derived.Deep.CutRange
set_option maxHeartbeats 8000000
set_option maxRecDepth 100000
set_option linter.unusedVariables false
set_option linter.unusedSimpArgs false
open Bool renaming and_eq_true→I0
open List renaming setIfInBounds_toArray→qq,length_append→Iy,getElem_cons_succ→Iz,getElem_cons_zero→IA,getElem_toArray→IB,set_cons_zero→IC,set_cons_succ→ID,append_assoc→IG,length_nil→II,take_of_length_le→IL,append_nil→IN,getElem?_eq_some_iff→IV,getElem?_eq_getElem→IX,map_cons→IY,map_nil→I1,getElem?_toArray→I2,getElem?_map→I4,length_take→I6
open Nat renaming le_refl→IJ,le_trans→IS,mul_one→I7
open Or renaming inl→IH
open UInt8 renaming ofNat→IR,toNat_ofNat'→IU
namespace Go.Proofs.YtaafkokfdgfabaaGreat
open Go.RowKit
open Lib (hid)
open Act renaming put→IF
open AllReadyH renaming cons→IK,nil→IM
open BS renaming of_own→IZ,one'→I9
open GU renaming of_grown→IQ,of_below→IW,alloc→I8
open IntWalk renaming u64_in→IT
open NoPanic renaming normal→I3
open Tryz renaming underlying43→IE,prog→IP,underlying9→I5
open Value renaming slice→Ja
theorem kh(n:Nat)(w:World)(hn:n<18446744073709551616) :
  Calls IP 40 #[.int .u64 (n:Int)] w fun e w'=>∃A c,e=.returned (.slice A (aC n).length c)∧w'.ownsRow w.heap.size 5 1 (.slice A (aC n).length c) (aC n).length (ab (aC n))∧Below w.heap.size w w' :=
 (nZ n w n rfl hn).mono fun e w' ⟨v,h1,h2,h3⟩=>by
  obtain⟨A,c,rfl,_⟩:=cw h2;exact⟨A,c,h1,h2,h3⟩
theorem iz(B:Nat)(A:Option Addr)(c:Nat)(m x:List UInt8)(w:World)(hB:B≤w.heap.size)(hown:w.ownsRow B 5 1 (.slice A m.length c) m.length (ab m))(hx:x.length≤1000000)(hm:m.length≤1000000) :
  Calls IP 77 #[.slice A m.length c,.string ⟨x.toArray⟩] w (pu B w (m++bw x)):=by
 obtain⟨i0,hi0,hz0,hz1,hz2⟩:=info_parts bB;have Hown:=hid hown;clear hown;go_enter Tryz.func77,Tryz.ntmps77
 have hw64:IntKind.u64.wrap (x.length:Int)=(x.length:Int):=IT _ (by omega)
 go_wp2_with fail
 refine (kh x.length w (by omega)).mono ?_;rintro e w2 ⟨A2,c2,rfl,hown2,hb2⟩;have ho2:=an Hown.out hb2;have hv:=aO (n:=x.length) (by omega);have hB2:B≤w2.heap.size:=IS hB hb2.size;have Ho2:=hid ho2;have HB2:=hid (IZ hown2).1;have Hg2:=hid (IW (B:=B) hb2);clear hown2 hb2 ho2 Hown;go_upto_region 2 with (at_builtin;refine ae _ rfl _ _ 43 rfl B 5 i0 (.int .u8 0) 1 IE hi0 hz0 hz1 hz2 rfl (.slice A m.length c) m rfl Ho2.out _ A2 _ c2 (aC x.length) rfl rfl HB2.out (by unfold maxLen;omega) (by omega) hB2 ?_;intro A3 c3 w3 hown3 hg3 _)
 have Hg3:Hid (GU B w w3):=Hg2.out.trans (IQ Ho2.out hg3);obtain⟨m1,hm1⟩:∃m1,m1=m++aC x.length:=⟨_,rfl⟩;have hm1l:m1.length≤1000010:=by rw[hm1,Iy];omega
 have hmt:m++bw x=m1++x:=by rw[hm1];unfold bw;rw[IG]
 rw[←hm1] at hown3;rw[←Iy,←hm1];have Hmt:=hid hmt;have Ho3:=hid hown3;have hB3:B≤w3.heap.size:=IS hB Hg3.out.size;have hsx:(⟨x.toArray⟩:ByteArray).size=x.length:=by simp[ByteArray.size]
 have Hsx:=hid hsx;clear hown3 hg3 hm1 Ho2 HB2 Hg2 hmt hsx
 go_wp2_with (at_builtin;refine Lib.wpList_append_own_string _ rfl (.tmp 11) (.tmp 12) 43 9 rfl B 5 i0 IE I5 hi0 hz0 hz1 hz2 (.slice A3 m1.length c3) m1.length (ab m1) rfl Ho3.out ⟨x.toArray⟩ rfl (by rw[Hsx.out];unfold maxLen;omega) (by rw[Hsx.out];omega) hB3 ?_;intro v4 w4 hown4 hg4 _)
 have Hg4:Hid (GU B w w4):=Hg3.out.trans (IQ Ho3.out hg4);rw[Hsx.out,qt,←Iy,←dL,←Hmt.out] at hown4;obtain⟨A4,c4,hv4,_⟩:=cw hown4;subst hv4;go_ret
 exact⟨A4,c4,rfl,hown4,Hg4.out⟩
theorem mw(B:Nat)(A:Option Addr)(c:Nat)(m:List UInt8)(b:Bool)(w:World)(hB:B≤w.heap.size)(hown:w.ownsRow B 5 1 (.slice A m.length c) m.length (ab m))(hm:m.length≤2000000) :
  Calls IP 80 #[.slice A m.length c,.bool b] w (pu B w (m++ea b)):=by
 obtain⟨i0,hi0,hz0,hz1,hz2⟩:=info_parts bB;have Hown:=hid hown;clear hown;have hB1:B≤w.heap.size+1:=by omega
 rcases b with _|_
 ·go_enter Tryz.func80,Tryz.ntmps80
  go_wp2_with (at_builtin;refine ae _ rfl (.tmp 9) (.tmp 10) 43 rfl B 5 i0 (.int .u8 0) 1 IE hi0 hz0 hz1 hz2 rfl (.slice A m.length c) m rfl (an Hown.out ((Below.refl _ _).alloc (IJ _) _)) _ (some ⟨w.heap.size,0,none⟩) 1 1 [0] rfl rfl (I9 w 0 _ rfl _) (by simp;unfold maxLen;omega) (by simp;omega) (by rw[show (w.alloc _).heap.size=w.heap.size+1 by simp];omega) ?_;intro A3 c3 w3 hown3 hg3 _)
  have hg:GU B w w3:=(I8 w _).trans (IQ (an Hown.out ((Below.refl _ _).alloc (IJ _) _)) hg3)
  go_wp2
  go_ret
  exact⟨A3,c3,by simp[ea],by simpa[ea] using hown3,hg⟩
 ·go_enter Tryz.func80,Tryz.ntmps80
  go_wp2_with (at_builtin;refine ae _ rfl (.tmp 6) (.tmp 7) 43 rfl B 5 i0 (.int .u8 0) 1 IE hi0 hz0 hz1 hz2 rfl (.slice A m.length c) m rfl (an Hown.out ((Below.refl _ _).alloc (IJ _) _)) _ (some ⟨w.heap.size,0,none⟩) 1 1 [1] rfl rfl (I9 w 1 _ rfl _) (by simp;unfold maxLen;omega) (by simp;omega) (by rw[show (w.alloc _).heap.size=w.heap.size+1 by simp];omega) ?_;intro A3 c3 w3 hown3 hg3 _)
  have hg:GU B w w3:=(I8 w _).trans (IQ (an Hown.out ((Below.refl _ _).alloc (IJ _) _)) hg3)
  go_wp2
  go_ret
  exact⟨A3,c3,by simp[ea],by simpa[ea] using hown3,hg⟩
structure sE(B:Nat)(w0 wr:World)(bx:Nat)(b:aU)(A:Option Addr)(c:Nat)(m:List UInt8):Prop where
 box:aj wr bx 56 (ah b).toArray
 own:wr.ownsRow B 5 1 (.slice A m.length c) m.length (ab m)
 gu:GU B w0 wr
 le:B≤wr.heap.size
section
variable {B:Nat} {w0 wr w':World} {bx:Nat} {b:aU} {A A':Option Addr} {c c':Nat} {m m':List UInt8}
theorem sE.step(h:sE B w0 wr bx b A c m)(hg:GU B wr w')(ho:w'.ownsRow B 5 1 (.slice A' m'.length c') m'.length (ab m')):sE B w0 w' bx b A' c' m' :=
 ⟨hg.blk h.box (by decide),ho,h.gu.trans hg,IS h.le hg.size⟩
theorem sE.below(h:sE B w0 wr bx b A c m)(hb:Below wr.heap.size wr w'):sE B w0 w' bx b A c m:=h.step (IW hb) (an h.own hb)
theorem sE.alloc(h:sE B w0 wr bx b A c m)(o:Obj):sE B w0 (wr.alloc o) bx b A c m:=h.below ((Below.refl _ _).alloc (IJ _) _)
theorem sE.drew(h:sE B w0 wr bx b A c m):sE B w0 wr.drew bx b A c m:=h.below (Below.refl _ _).drew
theorem sE.grow(h:sE B w0 wr bx b A c m)(hg:wr.grownBy w' (Ja A m.length c).ownBlock)(ho:w'.ownsRow B 5 1 (.slice A' m'.length c') m'.length (ab m')):sE B w0 w' bx b A' c' m':=h.step (IQ h.own hg) ho
theorem sE.addr(h:sE B w0 wr bx b A c m)(hs:au b){k:Nat}{x:UInt8}(hk:b.addr.2[k]?=some x):wr.cell? ⟨bx,2+k,none⟩=some (.int .u8 (x.toNat:Int)):=by
 have hl:k<16:=by have h16:b.addr.2.length=16:=hs.addr;have:=(IV.1 hk).1;omega
 rw[h.box.cell,I2,show 2+k=1+(k+1) by omega,pR hs (by omega),ai,List.getElem?_cons_succ,ab,I4,hk];rfl
theorem sE.mac(h:sE B w0 wr bx b A c m)(hs:au b){k:Nat}{x:UInt8}(hk:b.mac[k]?=some x):wr.cell? ⟨bx,19+k,none⟩=some (.int .u8 (x.toNat:Int)):=by
 have hl:k<6:=by have h6:=hs.mac;have:=(IV.1 hk).1;omega
 rw[h.box.cell,I2,vu hs hl,ab,I4,hk];rfl
end
theorem ss(xs:List UInt8)(k:Nat)(x:UInt8)(h:xs[k]?=some x):xs.take (k+1)=xs.take k++[x]:=by
 rw[List.take_add_one,h];rfl
theorem EE(p:Nat):bY 2 p true=[IR (p/256%256),IR (p%256)]:=rfl
theorem sw(B:Nat)(A:Option Addr)(c:Nat)(m:List UInt8)(b:aU)(hs0:au b)(ht:dM b=true)(w:World)(hB:B≤w.heap.size)(hown:w.ownsRow B 5 1 (.slice A m.length c) m.length (ab m))(hm:m.length≤901000) :
  Calls IP 78 #[.slice A m.length c,.agg (ah b).toArray] w (pu B w (m++aD b)):=by
 obtain⟨i0,hi0,hz0,hz1,hz2⟩:=info_parts bB;have hs:=hid hs0;simp only[dM,I0,decide_eq_true_eq,bF] at ht;obtain⟨hnm,hp1,hp2⟩:=ht;obtain⟨bx,hbx⟩:∃z,z=w.heap.size:=⟨_,rfl⟩;obtain⟨W0,hW⟩:∃W,W=w.alloc (.cells (ah b).toArray 56):=⟨_,rfl⟩;have hX:aj W0 bx 56 (ah b).toArray:=by rw[hW,hbx];exact aj.new w _ _ _ rfl
 have h0:sE B w W0 bx b A c m:=⟨hX,by rw[hW];exact an hown ((Below.refl _ _).alloc (IJ _) _),by rw[hW];exact I8 w _,by rw[hW];simp;omega⟩;have H0:=hid h0;have HW:=hid hW;have Hbx:=hid hbx;clear hW hX h0 hown hs0 hbx;go_enter Tryz.func78,Tryz.ntmps78
 go_upto_region 1 with fail
 rw[←HW.out,←Hbx.out];clear HW;refine wp_region_noPanic ?_;refine wp_region_held_drew (S:=fun w'=>aj w' bx 56 (ah b).toArray) (by kernel_rfl) (H0.out.drew.box) (fun hHeld=>?_);refine wpAnyH_take (i:=0) (v:=?_) rfl (by kernel_rfl) (by kernel_rfl) (by kernel_rfl) (fun _ _ _ h=>h) (IH ⟨by rfl,?_⟩) hHeld ?_;rotate_left
 ·intro w' hSw
  skip
  go_simp
  try with_reducible rfl
 try (simp only[IF,IB,Iz,IA,qq,IC,ID])
 refine wpAnyH_take (i:=1) (v:=?_) rfl (by kernel_rfl) (by kernel_rfl) (by kernel_rfl) (fun _ _ _ h=>h) (IH ⟨by rfl,?_⟩) hHeld ?_;rotate_left
 ·intro w' hSw
  skip
  go_simp
  try with_reducible rfl
 try (simp only[IF,IB,Iz,IA,qq,IC,ID])
 refine wpAnyH_take (i:=2) (v:=?_) rfl (by kernel_rfl) (by kernel_rfl) (by kernel_rfl) (fun _ _ _ h=>h) (IH ⟨by rfl,?_⟩) hHeld ?_;rotate_left
 ·intro w' hSw
  have d0:=jx hSw;go_simp
  try with_reducible rfl
 try (simp only[IF,IB,Iz,IA,qq,IC,ID])
 refine wpAnyH_take (i:=4) (v:=?_) rfl (by kernel_rfl) (by kernel_rfl) (by kernel_rfl) (fun _ _ _ h=>h) (IH ⟨by rfl,?_⟩) hHeld ?_;rotate_left
 ·intro w' hSw
  skip
  go_simp
  try with_reducible rfl
 try (simp only[IF,IB,Iz,IA,qq,IC,ID])
 refine wpAnyH_take (i:=5) (v:=?_) rfl (by kernel_rfl) (by kernel_rfl) (by kernel_rfl) (fun _ _ _ h=>h) (IH ⟨by rfl,?_⟩) hHeld ?_;rotate_left
 ·intro w' hSw
  skip
  go_simp
  try with_reducible rfl
 try (simp only[IF,IB,Iz,IA,qq,IC,ID])
 refine wpAnyH_take (i:=6) (v:=?_) rfl (by kernel_rfl) (by kernel_rfl) (by kernel_rfl) (fun _ _ _ h=>h) (IH ⟨by rfl,?_⟩) hHeld ?_;rotate_left
 ·intro w' hSw
  have d1:=uh hSw hs.out;go_simp
  try with_reducible rfl
 try (simp only[IF,IB,Iz,IA,qq,IC,ID])
 refine wpAnyH_ready (rs:=[3]) (by kernel_rfl) (by simp) ?_;refine IK (i:=3) rfl (fun K hK=>?_) IM;go_simp
 refine (iz B A c m b.name _ H0.out.drew.le H0.out.drew.own (by omega) (by omega)).mono ?_;rintro e w2 ⟨A2,c2,rfl,hown2,hg2⟩;have h2:=H0.out.drew.step hg2 hown2;obtain⟨m2,hm2⟩:∃m2,m2=m++bw b.name:=⟨_,rfl⟩;have hm2l:m2.length≤901300:=by rw[hm2,Iy];have:=cZ (x:=b.name) (by omega);omega
 rw[←hm2] at h2 ⊢;have H2:=hid h2;have Hm2:=hid hm2;have hBehind:=h2.box;clear h2 hg2 hown2 hm2 H0
 go_wp2_with fail
 refine hK.out _ _ hBehind (fun hHeld=>?_);clear hK K hBehind
 try (simp only[IF,IB,Iz,IA,qq,IC,ID])
 refine wpAnyH_ready (rs:=[7]) (by kernel_rfl) (by simp) ?_;refine IK (i:=7) rfl (fun K hK=>?_) IM;go_simp
 refine (mw B A2 c2 m2 b.addr.1 _ H2.out.le H2.out.own (by omega)).mono ?_;rintro e w3 ⟨A3,c3,rfl,hown3,hg3⟩;have h3:=H2.out.step hg3 hown3;obtain⟨m3,hm3⟩:∃m3,m3=m2++ea b.addr.1:=⟨_,rfl⟩;have hm3l:m3.length≤901310:=by rw[hm3,Iy,cP];omega
 rw[←hm3] at h3 ⊢;have H3:=hid h3;have Hm3:=hid hm3;have hBehind:=h3.box;clear h3 hg3 hown3 hm3 H2
 go_wp2_with fail
 refine hK.out _ _ hBehind (fun hHeld=>?_);clear hK K hBehind
 try (simp only[IF,IB,Iz,IA,qq,IC,ID])
 refine wpAnyH_take (i:=8) (v:=?_) rfl (by kernel_rfl) (by kernel_rfl) (by kernel_rfl) (fun _ _ _ h=>h) (IH ⟨by rfl,?_⟩) hHeld ?_;rotate_left
 ·intro w' hSw
  skip
  go_simp
  try with_reducible rfl
 try (simp only[IF,IB,Iz,IA,qq,IC,ID])
 refine wpAnyH_done (by kernel_rfl) ?_ _;refine I3 ?_
 go_wp2_with fail
 go_loopw [0,5] (fun v i wr=>∃(k:Nat) (A':Option Addr) (c':Nat),k≤16∧i=.int .i64 (k:Int)∧v=.slice A' (m3++b.addr.2.take k).length c'∧Hid (sE B w wr bx b A' c' (m3++b.addr.2.take k))) (fun _ i _=>16-(intOf i).toNat)
 case atStart=>exact⟨0,A3,c3,by omega,rfl,by simp,by have:=H3;simpa using this⟩
 case round =>
  clear H3;obtain⟨k,A',c',hk,rfl,rfl,hat⟩:=hrel;rename World=>wr
  by_cases hlt:k<16
  ·have hltI:(k:Int)<16:=by omega
   have hk0:(0:Int)≤(k:Int):=by omega
   obtain⟨x,hx⟩:∃x,b.addr.2[k]?=some x:=⟨_,IX (by have:=hs.out.mac;have:b.addr.2.length=16:=hs.out.addr;omega)⟩;have d0:=hat.out.addr hs.out hx;obtain⟨m',hm'⟩:∃m',m'=m3++b.addr.2.take k:=⟨_,rfl⟩;have hm2:m3++b.addr.2.take (k+1)=m'++[x]:=by rw[ss _ _ _ hx,←IG,←hm']
   have hml:m'.length≤901326:=by
    rw[hm',Iy,I6];omega
   rw[←hm'] at hat ⊢;have hle:=hat.out.le;have Hm2':=hid hm2;clear hm' hm2 hx
   go_wp2_with (at_builtin;refine ae _ rfl (.tmp 19) (.tmp 25) 43 rfl B 5 i0 (.int .u8 0) 1 IE hi0 hz0 hz1 hz2 rfl (.slice A' m'.length c') m' rfl (hat.out.alloc _).own _ (some ⟨wr.heap.size,0,none⟩) 1 1 [x] rfl rfl (I9 wr x _ rfl _) (by simp;unfold maxLen;omega) (by simp;omega) (by rw[show (wr.alloc _).heap.size=wr.heap.size+1 by simp];omega) ?_;intro A6 c6 w6 hown6 hg6 _)
   have h6:=(hat.out.alloc _).grow hg6 hown6;rw[←Hm2'.out] at h6;have H6:=hid h6;have Hlen:Hid ((m3++b.addr.2.take (k+1)).length=m'.length+1):=by show _=_;rw[Hm2'.out,Iy];rfl
   clear h6 hown6 hg6 hat d0;go_roundw
   case rel=>exact⟨k+1,A6,c6,by omega,by go_num,by rw[Hlen.out],H6⟩
   case measure=>simp[intOf];omega
  ·have hltI:¬(k:Int)<16:=by omega
   obtain rfl:k=16:=by omega
   have hkI:(((16:Nat)):Int)=16:=rfl;rw[IL (by have:=hs.out.mac;have:b.addr.2.length=16:=hs.out.addr;omega)] at hat;obtain⟨m',hm'⟩:∃m',m'=m3++b.addr.2:=⟨_,rfl⟩;rw[IL (by have:=hs.out.mac;have:b.addr.2.length=16:=hs.out.addr;omega)];rw[←hm'] at hat ⊢;have Hm4:=hid hm';have hml:m'.length≤901327:=by
    rw[hm',Iy];have:=hs.out.mac;have:b.addr.2.length=16:=hs.out.addr;omega
   clear hm';obtain⟨m4,hm4⟩:∃z,z=m':=⟨_,rfl⟩;rw[←hm4] at hat Hm4 hml ⊢;clear hm4;have d0:=jy hat.out.box hs.out;have hle:=hat.out.le;obtain⟨L2,hL2⟩:∃L2,L2=bY 2 b.port.toNat true:=⟨_,rfl⟩;have HL2l:Hid (L2.length=2):=by rw[hL2];exact az _ _ _
   have hu2:b.port/256=((IR (b.port.toNat/256%256)).toNat:Int):=by rw[IU];omega
   have hu3:b.port%256=((IR (b.port.toNat%256)).toNat:Int):=by rw[IU];omega
   have Hcs:Hid ((#[.int .u8 (b.port/256),.int .u8 (b.port%256)]:Array Value)=(ab L2).toArray):=by
    show _=_
    rw[hL2,EE];simp only[ab,IY,I1,mD];rw[←hu2,←hu3]
   have HL2:=hid hL2;clear hL2 hu2 hu3;go_upto_region 7 with (at_builtin;refine ae _ rfl (.tmp 27) (.tmp 36) 43 rfl B 5 i0 (.int .u8 0) 1 IE hi0 hz0 hz1 hz2 rfl (.slice A' m4.length c') m4 rfl (hat.out.alloc _).own _ (some ⟨wr.heap.size,0,none⟩) 2 2 L2 rfl HL2l.out.symm (BS.lit wr L2 _ Hcs.out _ _) (by rw[HL2l.out];unfold maxLen;omega) (by rw[HL2l.out];omega) (by rw[show (wr.alloc _).heap.size=wr.heap.size+1 by simp];omega) ?_;intro A5 c5 w5 hown5 hg5 _)
   have h5:=(hat.out.alloc _).grow hg5 hown5;obtain⟨m5,hm5⟩:∃z,z=m4++L2:=⟨_,rfl⟩;have hm5l:m5.length≤901335:=by rw[hm5,Iy,HL2l.out];omega
   rw[←hm5] at h5
   try rw[show (m4.length+2:Nat)=(m4++L2).length by rw[Iy,HL2l.out]]
   try rw[←Iy]
   rw[←hm5];rw[HL2.out] at hm5;have H5:=hid h5;have Hm5:=hid hm5;clear h5 hown5 hg5 hat Hcs HL2 HL2l hm5 d0
   go_wp2_with fail
   go_loopw [0,6] (fun v i wr=>∃(k:Nat) (A':Option Addr) (c':Nat),k≤6∧i=.int .i64 (k:Int)∧v=.slice A' (m5++b.mac.take k).length c'∧Hid (sE B w wr bx b A' c' (m5++b.mac.take k))) (fun _ i _=>6-(intOf i).toNat)
   case atStart=>exact⟨0,A5,c5,by omega,rfl,by simp,by have:=H5;simpa using this⟩
   case round =>
    clear H5;obtain⟨k,A',c',hk,rfl,rfl,hat⟩:=hrel;rename World=>wr
    by_cases hlt:k<6
    ·have hltI:(k:Int)<6:=by omega
     have hk0:(0:Int)≤(k:Int):=by omega
     obtain⟨x,hx⟩:∃x,b.mac[k]?=some x:=⟨_,IX (by have:=hs.out.mac;have:b.addr.2.length=16:=hs.out.addr;omega)⟩;have d0:=hat.out.mac hs.out hx;obtain⟨m',hm'⟩:∃m',m'=m5++b.mac.take k:=⟨_,rfl⟩;have hm2:m5++b.mac.take (k+1)=m'++[x]:=by rw[ss _ _ _ hx,←IG,←hm']
     have hml:m'.length≤901341:=by
      rw[hm',Iy,I6];omega
     rw[←hm'] at hat ⊢;have hle:=hat.out.le;have Hm2':=hid hm2;clear hm' hm2 hx
     go_wp2_with (at_builtin;refine ae _ rfl (.tmp 42) (.tmp 47) 43 rfl B 5 i0 (.int .u8 0) 1 IE hi0 hz0 hz1 hz2 rfl (.slice A' m'.length c') m' rfl (hat.out.alloc _).own _ (some ⟨wr.heap.size,0,none⟩) 1 1 [x] rfl rfl (I9 wr x _ rfl _) (by simp;unfold maxLen;omega) (by simp;omega) (by rw[show (wr.alloc _).heap.size=wr.heap.size+1 by simp];omega) ?_;intro A6 c6 w6 hown6 hg6 _)
     have h6:=(hat.out.alloc _).grow hg6 hown6;rw[←Hm2'.out] at h6;have H6:=hid h6;have Hlen:Hid ((m5++b.mac.take (k+1)).length=m'.length+1):=by show _=_;rw[Hm2'.out,Iy];rfl
     clear h6 hown6 hg6 hat d0;go_roundw
     case rel=>exact⟨k+1,A6,c6,by omega,by go_num,by rw[Hlen.out],H6⟩
     case measure=>simp[intOf];omega
    ·have hltI:¬(k:Int)<6:=by omega
     obtain rfl:k=6:=by omega
     have hkI:(((6:Nat)):Int)=6:=rfl;rw[IL (by have:=hs.out.mac;have:b.addr.2.length=16:=hs.out.addr;omega)] at hat;obtain⟨m',hm'⟩:∃m',m'=m5++b.mac:=⟨_,rfl⟩;rw[IL (by have:=hs.out.mac;have:b.addr.2.length=16:=hs.out.addr;omega)];rw[←hm'] at hat ⊢;have Hm6:=hid hm';have hml:m'.length≤901342:=by
      rw[hm',Iy];have:=hs.out.mac;have:b.addr.2.length=16:=hs.out.addr;omega
     clear hm';obtain⟨m6,hm6⟩:∃z,z=m':=⟨_,rfl⟩;rw[←hm6] at hat Hm6 hml ⊢;clear hm6;have d1:=lv hat.out.box hs.out;have hwt:=hs.out.wt
     go_wp2_with fail
     refine (kJ b.wt wr hwt).mono ?_;rintro e w7 ⟨A7,c7,rfl,hown7,hb7⟩;have h7:=hat.out.below hb7;have H7:=hid h7;have hw8:=eR b.wt;have HW7:=hid (IZ (l:=dK b.wt) (n:=(dK b.wt).length) (by rw[hw8];exact hown7)).1;have hle7:=h7.le;clear h7 hown7 hb7 hat d1;go_upto_region 12 with (at_builtin;refine ae _ rfl _ _ 43 rfl B 5 i0 (.int .u8 0) 1 IE hi0 hz0 hz1 hz2 rfl (.slice A' m6.length c') m6 rfl H7.out.own _ A7 8 c7 (dK b.wt) rfl hw8.symm HW7.out (by rw[hw8];unfold maxLen;omega) (by rw[hw8];omega) hle7 ?_;intro A8 c8 w8 hown8 hg8 _)
     have h8:=H7.out.grow hg8 hown8;obtain⟨m7,hm7⟩:∃z,z=m6++dK b.wt:=⟨_,rfl⟩;have hm7l:m7.length≤901400:=by rw[hm7,Iy,hw8];omega
     try rw[←hw8]
     rw[←hm7] at h8;rw[←Iy,←hm7];have H8:=hid h8;have Hm7:=hid hm7;have d2:=mI h8.box hs.out;clear h8 hown8 hg8 H7 HW7 hm7 hw8
     go_wp2_with fail
     refine (mw B A8 c8 m7 b.drain w8 H8.out.le H8.out.own (by omega)).mono ?_;rintro e w9 ⟨A9,c9,rfl,hown9,hg9⟩;have hend:GU B w w9:=H8.out.gu.trans hg9;obtain⟨m8,hm8⟩:∃z,z=m7++ea b.drain:=⟨_,rfl⟩;have Hfin:Hid (m++aD b=m8):=by
      show _=_
      rw[hm8,Hm7.out,Hm6.out,Hm5.out,Hm4.out,Hm3.out,Hm2.out];unfold aD;simp only[IG]
     rw[←hm8] at hown9 ⊢;clear hm8
     go_wp2
     go_ret
     rw[Hfin.out];exact⟨A9,c9,rfl,hown9,hend⟩
structure sy(B:Nat)(w0 wr:World)(g1:Nat)(t1:TypeId)(cs1:Array Value)(g2:Nat)(t2:TypeId)(cs2:Array Value)(A:Option Addr)(c:Nat)(m:List UInt8):Prop where
 b1:aj wr g1 t1 cs1
 b2:aj wr g2 t2 cs2
 n1:t1≠5
 n2:t2≠5
 own:wr.ownsRow B 5 1 (.slice A m.length c) m.length (ab m)
 gu:GU B w0 wr
 le:B≤wr.heap.size
section
variable {B:Nat} {w0 wr w':World} {g1 g2:Nat} {t1 t2:TypeId} {cs1 cs2:Array Value} {A A':Option Addr} {c c':Nat} {m m':List UInt8}
theorem sy.step(h:sy B w0 wr g1 t1 cs1 g2 t2 cs2 A c m)(hg:GU B wr w')(ho:w'.ownsRow B 5 1 (.slice A' m'.length c') m'.length (ab m')):sy B w0 w' g1 t1 cs1 g2 t2 cs2 A' c' m' :=
 ⟨hg.blk h.b1 h.n1,hg.blk h.b2 h.n2,h.n1,h.n2,ho,h.gu.trans hg,IS h.le hg.size⟩
theorem sy.below(h:sy B w0 wr g1 t1 cs1 g2 t2 cs2 A c m)(hb:Below wr.heap.size wr w'):sy B w0 w' g1 t1 cs1 g2 t2 cs2 A c m:=h.step (IW hb) (an h.own hb)
theorem sy.alloc(h:sy B w0 wr g1 t1 cs1 g2 t2 cs2 A c m)(o:Obj):sy B w0 (wr.alloc o) g1 t1 cs1 g2 t2 cs2 A c m:=h.below ((Below.refl _ _).alloc (IJ _) _)
theorem sy.drew(h:sy B w0 wr g1 t1 cs1 g2 t2 cs2 A c m):sy B w0 wr.drew g1 t1 cs1 g2 t2 cs2 A c m:=h.below (Below.refl _ _).drew
theorem sy.grow(h:sy B w0 wr g1 t1 cs1 g2 t2 cs2 A c m)(hg:wr.grownBy w' (Ja A m.length c).ownBlock)(ho:w'.ownsRow B 5 1 (.slice A' m'.length c') m'.length (ab m')):sy B w0 w' g1 t1 cs1 g2 t2 cs2 A' c' m':=h.step (IQ h.own hg) ho
theorem sy.bs(h:sy B w0 wr g1 t1 cs1 g2 t2 cs2 A c m){X:Option Addr}{l:List UInt8}(hx:BS w0 B X l)(hB:B≤w0.heap.size):BS wr wr.heap.size X l:=(hx.below (h.gu.below hB)).more h.le
end
theorem FU(w:World)(l:List UInt8)(B:Nat)(hB:B≤w.heap.size)(hl:l.length≤1000)(cs:Array Value)(h:cs=(ab l).toArray):(w.alloc (.cells cs 5)).ownsRow B 5 1 (.slice (some ⟨w.heap.size,0,none⟩) l.length l.length) l.length (ab l):=by
 subst h;have hx:aj (w.alloc (.cells (ab l).toArray 5)) w.heap.size 5 (ab l).toArray:=aj.new w _ _ _ rfl;have hlen:(ab l).length=l.length:=ap l;exact⟨by rw[hlen,I7],.inr ⟨w.heap.size,l.length,(ab l).toArray,rfl,hB,hx,IJ _,by unfold maxLen;omega,by rw[List.size_toArray,hlen,I7],by rw[I7,←hlen,List.take_length]⟩⟩
theorem GX(B:Nat)(A:Option Addr)(n c:Nat)(m x:List UInt8)(w:World)(hn:n=m.length)(hB:B≤w.heap.size)(hown:w.ownsRow B 5 1 (.slice A m.length c) m.length (ab m))(hx:x.length≤1000000)(hm:m.length≤1000000) :
  Calls IP 77 #[.slice A n c,.string ⟨x.toArray⟩] w (pu B w (m++bw x)):=by
 subst hn;exact iz B A c m x w hB hown hx hm
theorem pE(p:Nat):bY 1 p true=[IR (p%256)]:=rfl
theorem AE{z:Int}(h0:0≤z)(h1:z≤255):z=((IR (z.toNat%256)).toNat:Int):=by rw[IU];omega
theorem FV(n s:Nat)(w:World)(hn:n<18446744073709551616)(hs:s=4):Calls IP 75 #[.int .u64 (n:Int),.int .i64 4,.bool false] w fun e w'=>∃A c,e=.returned (.slice A (bY 4 n false).length c)∧w'.ownsRow w.heap.size 5 1 (.slice A (bY 4 n false).length c) (bY 4 n false).length (ab (bY 4 n false))∧Below w.heap.size w w' :=
 vo false n 4 w hn
theorem CD(A:Option Addr)(c:Nat)(A2:Option Addr)(c2:Nat)(e:dI)(hs0:aP e)(hr:aG e=true)(w:World)(hf0:BS w w.heap.size A e.act.frame) :
  Calls IP 39 #[.agg (bh A e.act.frame.length c A2 e.o.out.length c2 e).toArray] w (pu w.heap.size w (bT e)):=by
 obtain⟨i0,hi0,hz0,hz1,hz2⟩:=info_parts bB;have hs:=hid hs0;have Hf:=hid hf0;obtain⟨B,hB⟩:∃B,B=w.heap.size:=⟨_,rfl⟩;have HB:=hid hB;have hlen:=gG hs0 hr;simp only[aG,bj,dM,I0,decide_eq_true_eq,bF] at hr;obtain⟨⟨hk,hop,_,hfr,hon,hnm,hbn,hbp⟩,he,hre,hv,hon2,ho,hl⟩:=hr;have Hoo:=hid ho;clear ho;obtain⟨hk1,hk2⟩:=hk;obtain⟨he1,he2⟩:=he;obtain⟨hre1,hre2⟩:=hre;obtain⟨hv1,hv2⟩:=hv;obtain⟨hl1,hl2⟩:=hl;have hop':e.act.kind=2→1≤e.act.op∧e.act.op≤5:=fun h=>by
  have h2:=hop;rw[h] at h2;simp only[bne_self_eq_false,Bool.false_or] at h2;exact bF.1 h2
 have Hop:=hid hop';have htold:Hid (dM e.act.back=true):=by
  show _=_
  unfold dM;simp only[I0,decide_eq_true_eq,bF];exact⟨hbn,hbp⟩
 obtain⟨W0,hW⟩:∃W,W=w.alloc (.cells (bh A e.act.frame.length c A2 e.o.out.length c2 e).toArray 65):=⟨_,rfl⟩;obtain⟨W1,hW1⟩:∃W,W=W0.alloc (.cells (ak none 0 0 cL).toArray 60):=⟨_,rfl⟩;obtain⟨W2,hW2⟩:∃W,W=W1.setCells W0.heap.size 0 (ak A e.act.frame.length c e.act):=⟨_,rfl⟩;have hX:aj W0 B 65 (bh A e.act.frame.length c A2 e.o.out.length c2 e).toArray:=by rw[hW,hB];exact aj.new w _ _ _ rfl
 have hB0:Below w.heap.size w W0:=by rw[hW];exact (Below.refl _ _).alloc (IJ _) _
 obtain⟨hth,hbx,hbe⟩:=jE W0 W1 W2 60 (ak none 0 0 cL) (ak A e.act.frame.length c e.act) (by rw[aX hs.out.act,aX bZ]) hW1 hW2;obtain⟨g2,hg2⟩:∃z,z=W0.heap.size:=⟨_,rfl⟩;obtain⟨m0,hm0⟩:∃m,m=bY 1 e.act.kind.toNat true:=⟨_,rfl⟩;have hm0l:m0.length=1:=by rw[hm0];exact az _ _ _
 obtain⟨W3,hW3⟩:∃W,W=W2.alloc (.cells #[.int .u8 e.act.kind] 5):=⟨_,rfl⟩;have hBle:B≤W2.heap.size:=by rw[hB];exact IS hB0.size hbe.size
 have hcs:(#[.int .u8 e.act.kind]:Array Value)=(ab m0).toArray:=by
  rw[hm0,pE];simp only[ab,IY,I1,mD];rw[←AE (by omega) (by omega)]
 have hg3:GU B w W3:=by
  rw[hW3];exact ((IW hB0).trans (IW (hbe.mono (IJ _)))).trans (I8 _ _)
 have h3:sy B w W3 B 65 (bh A e.act.frame.length c A2 e.o.out.length c2 e).toArray g2 60 (ak A e.act.frame.length c e.act).toArray (some ⟨W2.heap.size,0,none⟩) 1 m0:=by
  refine⟨?_,?_,by decide,by decide,?_,hg3,by rw[hW3];simp;omega⟩
  ·rw[hW3];exact aj.alloc (aj.below hX hbe hX.lt) _
  ·rw[hW3,hg2];exact aj.alloc hbx _
  ·have:=FU W2 m0 B hBle (by omega) _ hcs
   rw[hW3];rw[hm0l] at this ⊢;exact this
 have H3:=hid h3;have HW:=hid hW;rw[lp] at hW1;have HW1:=hid hW1;have HW2:=hid hW2;have HW3:=hid hW3;have Hth:=hid hth;have Hm0:=hid hm0;have Hg2:=hid hg2;have RA:=hid (ob hX hs.out);have d0:W2.cell? ⟨W0.heap.size,0,none⟩=some (.int .i64 e.act.kind):=fG hbx;have Hszw:Hid (B≤w.heap.size):=by show _≤_;omega
 clear hW hW1 hW2 hW3 hX hB0 hth hbx hbe hm0 hBle hcs hg3 h3 hs0 hf0 hop hop' hbp hg2;rw[←hB];have HBw:=hid hB;clear hB;go_enter Tryz.func39,Tryz.ntmps39
 go_upto_region 1 with fail
 rw[←HW.out,←HBw.out];clear HW;go_upto_region 2 with (first
  |((with_reducible refine aB 60 ?_);refine aa (by rfl) 60 (.tmp 6) rfl B 0 rfl (ak A e.act.frame.length c e.act) _ RA.out bQ rfl (bv hs.out.act) ?_)
  |(rw[←HW1.out];(with_reducible refine aR 60 ?_);refine wpList_store_mid rfl 60 (.tmp 3) (.tmp 7) rfl W0.heap.size 0 (ak A e.act.frame.length c e.act).toArray rfl rfl Hth.out (bv hs.out.act) (eW _ _ _ _) ?_))
 rw[←HW2.out];go_upto_region 3 with fail
 rw[←HW3.out,←Hg2.out];clear HW1 HW2 HW3 Hth RA d0;obtain⟨A0,hA0⟩:∃z:Option Addr,z=some ⟨W2.heap.size,0,none⟩:=⟨_,rfl⟩;rw[←hA0] at H3 ⊢;have d0:=fG H3.out.b2;have HmL:Hid (m0.length=1):=hm0l;clear hA0 Hg2;obtain⟨m1,hm1⟩:∃m,m=m0++(if e.act.kind=1 then bw e.act.frame else []):=⟨_,rfl⟩;obtain⟨m2,hm2⟩:∃m,m=m1++(if e.act.kind=2 then bY 1 e.act.op.toNat true++(if e.act.op=1 then aD e.act.back else bw e.act.oname++(if e.act.op=3 then dK e.act.owt else [])) else []):=⟨_,rfl⟩;obtain⟨m3,hm3⟩:∃m,m=m2++(if e.act.kind=3 then bw e.act.name++ea e.act.well else []):=⟨_,rfl⟩;have hm3a:m3=ba e.act:=by
  rw[hm3,hm2,hm1,Hm0.out];unfold ba;by_cases k1:e.act.kind=1
  ·simp[k1]
  ·by_cases k2:e.act.kind=2
   ·simp[k2]
   ·by_cases k3:e.act.kind=3
    ·simp[k3]
    ·simp[k1,k2,k3]
 have hl1':m1.length≤131100:=by
  rw[hm1,Iy,hm0l];split
  ·have:=cZ (x:=e.act.frame) (by omega);omega
  ·simp only[II];omega
 have hl3:m3.length≤150000:=by
  have h2:m3.length≤(bT e).length:=by rw[hm3a];unfold bT;rw[Iy];omega
  have hb:=gx hs.out.act.back (by omega);have ht1:=cZ (x:=e.act.oname) (by omega);have ht2:=cZ (x:=e.act.name) (by omega);rw[hm3,hm2,hm1,Iy,Iy,Iy,hm0l];by_cases k1:e.act.kind=1
  ·have:=cZ (x:=e.act.frame) (by omega)
   simp only[k1,if_true,show ¬((1:Int)=2) by omega,show ¬((1:Int)=3) by omega,if_false,II];omega
  ·rw[if_neg k1]
   by_cases k2:e.act.kind=2
   ·rw[if_pos k2,if_neg (by omega:¬e.act.kind=3),Iy,az]
    split
    ·simp only[II];omega
    ·rw[Iy]
     split
     ·rw[eR];simp only[II];omega
     ·simp only[II];omega
   ·rw[if_neg k2]
    split
    ·rw[Iy,cP];simp only[II];omega
    ·simp only[II];omega
 have hl2:m2.length≤m3.length:=by rw[hm3,Iy];omega
 have Hm1:=hid hm1;have Hm2:=hid hm2;have Hm3:=hid hm3;have Hm3a:=hid hm3a;clear hm1 hm2 hm3 hm3a hm0l;go_upto_if 14 with fail
 go_cut [4] from 14 to 19 (fun v4 wc=>∃A' c',v4=.slice A' m1.length c'∧Hid (sy B w wc B 65 (bh A e.act.frame.length c A2 e.o.out.length c2 e).toArray g2 60 (ak A e.act.frame.length c e.act).toArray A' c' m1))
 case first =>
  rcases k1:(e.act.kind==1) with _|_
  ·have hq:Hid (m1=m0):=by show _=_;rw[Hm1.out,if_neg (by simpa using k1),IN]
   go_wp2_with fail
   go_meet
   case rel=>exact⟨A0,1,by rw[hq.out,HmL.out],by rw[hq.out];exact H3⟩
  ·have hq:Hid (m1=m0++bw e.act.frame):=by show _=_;rw[Hm1.out,if_pos (by simpa using k1)]
   have d1:=fu H3.out.b2;have hconv:=bJ (P:=IP) 43 9 5 IE Tryz.underlying5 I5 W3 _ A e.act.frame (H3.out.bs (by rw[HBw.out];exact Hf.out) Hszw.out) e.act.frame.length c rfl
   go_wp2_with fail
   clear hconv;refine (GX B A0 1 1 m0 e.act.frame W3 HmL.out.symm H3.out.le H3.out.own (by omega) (by have:=HmL.out;omega)).mono ?_;rintro e9 w4 ⟨A4,c4,rfl,hown4,hg4⟩;have h4:=H3.out.step hg4 hown4;rw[←hq.out] at h4 ⊢;have H4:=hid h4;clear h4 hown4 hg4
   go_wp2_with fail
   go_meet
   case rel=>exact⟨A4,c4,rfl,H4⟩
 case rest =>
  obtain⟨A5,c5,rfl,H5⟩:=hcut;have d0':=fG H5.out.b2;clear d0 H3 HmL;go_upto_if 22 with fail
  go_cut [4] from 22 to 53 (fun v4 wc=>∃A' c',v4=.slice A' m2.length c'∧Hid (sy B w wc B 65 (bh A e.act.frame.length c A2 e.o.out.length c2 e).toArray g2 60 (ak A e.act.frame.length c e.act).toArray A' c' m2))
  case first =>
   rcases k2:(e.act.kind==2) with _|_
   ·have hq:Hid (m2=m1):=by show _=_;rw[Hm2.out,if_neg (by simpa using k2),IN]
    go_wp2_with fail
    go_meet
    case rel=>exact⟨A5,c5,by rw[hq.out],by rw[hq.out];exact H5⟩
   ·have hk:e.act.kind=2:=by simpa using k2
    obtain⟨ho1,ho5⟩:=Hop.out hk;have d2:=iF H5.out.b2;have hle5:=H5.out.le;obtain⟨L1,hL1⟩:∃L1,L1=bY 1 e.act.op.toNat true:=⟨_,rfl⟩;have HL1l:Hid (L1.length=1):=by rw[hL1];exact az _ _ _
    have Hcs:Hid ((#[.int .u8 e.act.op]:Array Value)=(ab L1).toArray):=by
     show _=_
     rw[hL1,pE];simp only[ab,IY,I1,mD];rw[←AE (by omega) (by omega)]
    have Hm2b:Hid (m2=m1++(L1++(if e.act.op=1 then aD e.act.back else bw e.act.oname++(if e.act.op=3 then dK e.act.owt else [])))):=by show _=_;rw[Hm2.out,if_pos hk,hL1]
    have Hm1s:Hid (m1.length=1):=by show _=_;rw[Hm1.out,if_neg (by omega),IN,Hm0.out];exact az _ _ _
    clear hL1 hk;go_upto_region 7 with (at_builtin;refine ae _ rfl (.tmp 23) (.tmp 28) 43 rfl B 5 i0 (.int .u8 0) 1 IE hi0 hz0 hz1 hz2 rfl (.slice A5 m1.length c5) m1 rfl (H5.out.alloc _).own _ (some ⟨wc.heap.size,0,none⟩) 1 1 L1 rfl HL1l.out.symm (BS.lit wc L1 _ Hcs.out _ _) (by rw[HL1l.out];unfold maxLen;omega) (by rw[HL1l.out];omega) (by rw[show (wc.alloc _).heap.size=wc.heap.size+1 by simp];omega) ?_;intro A6 c6 w6 hown6 hg6 _)
    have h6:=(H5.out.alloc _).grow hg6 hown6;obtain⟨m6,hm6⟩:∃z,z=m1++L1:=⟨_,rfl⟩;have hm6l:m6.length≤2:=by rw[hm6,Iy,HL1l.out,Hm1s.out];decide
    rw[←hm6] at h6
    try rw[show (m1.length+1:Nat)=(m1++L1).length by rw[Iy,HL1l.out]]
    try rw[←Iy]
    rw[←hm6];have Hm2c:Hid (m2=m6++(if e.act.op=1 then aD e.act.back else bw e.act.oname++(if e.act.op=3 then dK e.act.owt else []))):=by show _=_;rw[Hm2b.out,hm6,IG]
    have H6:=hid h6;have d3:=iF h6.b2;clear h6 hown6 hg6 hm6 H5 d2 d0' Hcs HL1l Hm2b;rcases k3:(e.act.op==1) with _|_
    ·have hn1:¬e.act.op=1:=by simpa using k3
     have d4:=ed H6.out.b2 hs.out.act
     go_wp2_with fail
     refine (iz B A6 c6 m6 e.act.oname w6 H6.out.le H6.out.own (by omega) (by omega)).mono ?_;rintro e9 w7 ⟨A7,c7,rfl,hown7,hg7⟩;have h7:=H6.out.step hg7 hown7;obtain⟨m7,hm7⟩:∃z,z=m6++bw e.act.oname:=⟨_,rfl⟩;have hm7l:m7.length≤300:=by rw[hm7,Iy];have:=cZ (x:=e.act.oname) (by omega);omega
     rw[←hm7] at h7 ⊢;have Hm2d:Hid (m2=m7++(if e.act.op=3 then dK e.act.owt else [])):=by show _=_;rw[Hm2c.out,if_neg hn1,hm7,IG]
     have H7:=hid h7;have d5:=iF h7.b2;clear h7 hown7 hg7 hm7 H6 d3 d4 Hm2c;rcases k4:(e.act.op==3) with _|_
     ·have hq:Hid (m2=m7):=by show _=_;rw[Hm2d.out,if_neg (by simpa using k4),IN]
      go_wp2_with fail
      go_meet
      case rel=>exact⟨A7,c7,by rw[hq.out],by rw[hq.out];exact H7⟩
     ·have hq:Hid (m2=m7++dK e.act.owt):=by show _=_;rw[Hm2d.out,if_pos (by simpa using k4)]
      have d6:=kt H7.out.b2 hs.out.act;have hwt:=hs.out.act.owt
      go_wp2_with fail
      refine (kJ e.act.owt w7 hwt).mono ?_;rintro e9 w8 ⟨A8,c8,rfl,hown8,hb8⟩;have h8:=H7.out.below hb8;have H8:=hid h8;have hw8:=eR e.act.owt;have HW8:=hid (IZ (l:=dK e.act.owt) (n:=(dK e.act.owt).length) (by rw[hw8];exact hown8)).1;have hle8:=h8.le;clear h8 hown8 hb8 H7 d5 d6
      go_wp2_with (at_builtin;refine ae _ rfl _ _ 43 rfl B 5 i0 (.int .u8 0) 1 IE hi0 hz0 hz1 hz2 rfl (.slice A7 m7.length c7) m7 rfl H8.out.own _ A8 8 c8 (dK e.act.owt) rfl hw8.symm HW8.out (by rw[hw8];unfold maxLen;omega) (by rw[hw8];omega) hle8 ?_;intro A9 c9 w9 hown9 hg9 _)
      have h9:=H8.out.grow hg9 hown9;have Hlen:Hid (m2.length=m7.length+8):=by show _=_;rw[hq.out,Iy,hw8]
      rw[←hq.out] at h9;have H9:=hid h9;clear h9 hown9 hg9;go_meet
      case rel=>exact⟨A9,c9,by rw[Hlen.out];first|done|rfl|simp[hw8],H9⟩
    ·have hn1:e.act.op=1:=by simpa using k3
     have hq:Hid (m2=m6++aD e.act.back):=by show _=_;rw[Hm2c.out,if_pos hn1]
     have RB:=hid (iV H6.out.b2 hs.out.act)
     go_wp2_with (first
      |((with_reducible refine aB 56 ?_);refine aa (by rfl) 56 (.tmp 36) rfl g2 3 rfl (ah e.act.back) _ RB.out bL rfl (cM hs.out.act.back) ?_))
     refine (sw B A6 c6 m6 e.act.back hs.out.act.back htold.out w6 H6.out.le H6.out.own (by omega)).mono ?_;rintro e9 w7 ⟨A7,c7,rfl,hown7,hg7⟩;have h7:=H6.out.step hg7 hown7;rw[←hq.out] at h7 ⊢;have H7:=hid h7;have d5:=iF h7.b2;clear h7 hown7 hg7 H6 d3 RB;have k4:(e.act.op==3)=false:=by simp[hn1]
     go_wp2_with fail
     go_meet
     case rel=>exact⟨A7,c7,rfl,H7⟩
  case rest =>
   obtain⟨A6,c6,rfl,H6⟩:=hcut;clear d0' H5;have d0:=fG H6.out.b2;go_upto_if 56 with fail
   go_cut [4] from 56 to 63 (fun v4 wc=>∃A' c',v4=.slice A' m3.length c'∧Hid (sy B w wc B 65 (bh A e.act.frame.length c A2 e.o.out.length c2 e).toArray g2 60 (ak A e.act.frame.length c e.act).toArray A' c' m3))
   case first =>
    rcases k2:(e.act.kind==3) with _|_
    ·have hq:Hid (m3=m2):=by show _=_;rw[Hm3.out,if_neg (by simpa using k2),IN]
     go_wp2_with fail
     go_meet
     case rel=>exact⟨A6,c6,by rw[hq.out],by rw[hq.out];exact H6⟩
    ·have hq:Hid (m3=m2++(bw e.act.name++ea e.act.well)):=by show _=_;rw[Hm3.out,if_pos (by simpa using k2)]
     clear d0;go_upto_region 13 with fail
     refine wp_region_noPanic ?_;refine wp_region_held_drew (S:=fun w'=>aj w' g2 60 (ak A e.act.frame.length c e.act).toArray) (by kernel_rfl) (H6.out.drew.b2) (fun hHeld=>?_);refine wpAnyH_take (i:=0) (v:=?_) rfl (by kernel_rfl) (by kernel_rfl) (by kernel_rfl) (fun _ _ _ h=>h) (IH ⟨by rfl,?_⟩) hHeld ?_;rotate_left
     ·intro w' hSw
      skip
      go_simp
      try with_reducible rfl
     try (simp only[IF,IB,Iz,IA,qq,IC,ID])
     refine wpAnyH_take (i:=1) (v:=?_) rfl (by kernel_rfl) (by kernel_rfl) (by kernel_rfl) (fun _ _ _ h=>h) (IH ⟨by rfl,?_⟩) hHeld ?_;rotate_left
     ·intro w' hSw
      skip
      go_simp
      try with_reducible rfl
     try (simp only[IF,IB,Iz,IA,qq,IC,ID])
     refine wpAnyH_take (i:=2) (v:=?_) rfl (by kernel_rfl) (by kernel_rfl) (by kernel_rfl) (fun _ _ _ h=>h) (IH ⟨by rfl,?_⟩) hHeld ?_;rotate_left
     ·intro w' hSw
      have d1:=fY hSw hs.out.act;go_simp
      try with_reducible rfl
     try (simp only[IF,IB,Iz,IA,qq,IC,ID])
     refine wpAnyH_take (i:=4) (v:=?_) rfl (by kernel_rfl) (by kernel_rfl) (by kernel_rfl) (fun _ _ _ h=>h) (IH ⟨by rfl,?_⟩) hHeld ?_;rotate_left
     ·intro w' hSw
      skip
      go_simp
      try with_reducible rfl
     try (simp only[IF,IB,Iz,IA,qq,IC,ID])
     refine wpAnyH_take (i:=5) (v:=?_) rfl (by kernel_rfl) (by kernel_rfl) (by kernel_rfl) (fun _ _ _ h=>h) (IH ⟨by rfl,?_⟩) hHeld ?_;rotate_left
     ·intro w' hSw
      have d1:=iq hSw hs.out.act;go_simp
      try with_reducible rfl
     try (simp only[IF,IB,Iz,IA,qq,IC,ID])
     refine wpAnyH_ready (rs:=[3]) (by kernel_rfl) (by simp) ?_;refine IK (i:=3) rfl (fun K hK=>?_) IM;go_simp
     refine (iz B A6 c6 m2 e.act.name _ H6.out.drew.le H6.out.drew.own (by omega) (by omega)).mono ?_;rintro e9 w7 ⟨A7,c7,rfl,hown7,hg7⟩;have h7:=H6.out.drew.step hg7 hown7;obtain⟨m7,hm7⟩:∃z,z=m2++bw e.act.name:=⟨_,rfl⟩;have Hq7:Hid (m3=m7++ea e.act.well):=by show _=_;rw[hq.out,hm7,IG]
     rw[←hm7] at h7 ⊢;have H7:=hid h7;have hBehind:=h7.b2;have hm7l:m7.length≤m3.length:=by rw[Hq7.out,Iy];omega
     clear h7 hown7 hg7 hm7
     go_wp2_with fail
     refine hK.out _ _ hBehind (fun hHeld=>?_);clear hK K hBehind
     try (simp only[IF,IB,Iz,IA,qq,IC,ID])
     refine wpAnyH_ready (rs:=[6]) (by kernel_rfl) (by simp) ?_;refine IK (i:=6) rfl (fun K hK=>?_) IM;go_simp
     refine (mw B A7 c7 m7 e.act.well _ H7.out.le H7.out.own (by omega)).mono ?_;rintro e9 w8 ⟨A8,c8,rfl,hown8,hg8⟩;have h8:=H7.out.step hg8 hown8;rw[←Hq7.out] at h8 ⊢;have H8:=hid h8;have hBehind:=h8.b2;clear h8 hown8 hg8
     go_wp2_with fail
     refine hK.out _ _ hBehind (fun hHeld=>?_);clear hK K hBehind
     try (simp only[IF,IB,Iz,IA,qq,IC,ID])
     refine wpAnyH_take (i:=7) (v:=?_) rfl (by kernel_rfl) (by kernel_rfl) (by kernel_rfl) (fun _ _ _ h=>h) (IH ⟨by rfl,?_⟩) hHeld ?_;rotate_left
     ·intro w' hSw
      skip
      go_simp
      try with_reducible rfl
     try (simp only[IF,IB,Iz,IA,qq,IC,ID])
     refine wpAnyH_done (by kernel_rfl) ?_ _;refine I3 ?_
     go_wp2_with fail
     go_meet
     case rel=>exact⟨A8,c8,rfl,H8⟩
   case rest =>
    obtain⟨A7,c7,rfl,H7⟩:=hcut;clear d0 H6;obtain⟨X1,hX1⟩:∃W,W=wc.alloc (.cells (cD none 0 0 qz).toArray 62):=⟨_,rfl⟩;obtain⟨X2,hX2⟩:∃W,W=X1.setCells wc.heap.size 0 (cD A2 e.o.out.length c2 e.o):=⟨_,rfl⟩;obtain⟨hth,hbx,hbe⟩:=jE wc X1 X2 62 (cD none 0 0 qz) (cD A2 e.o.out.length c2 e.o) rfl hX1 hX2;rw[mJ] at hX1;obtain⟨g5,hg5⟩:∃z,z=wc.heap.size:=⟨_,rfl⟩;have h8:sy B w X2 B 65 (bh A e.act.frame.length c A2 e.o.out.length c2 e).toArray g5 62 (cD A2 e.o.out.length c2 e.o).toArray A7 c7 m3:=by
     have h:=H7.out.below hbe;exact⟨h.b1,by rw[hg5];exact hbx,h.n1,by decide,h.own,h.gu,h.le⟩
    have H8:=hid h8;have HX1:=hid hX1;have HX2:=hid hX2;have Hth:=hid hth;have Hg5:=hid hg5;have RO:=hid (pV H7.out.b1 hs.out);clear hX1 hX2 hth hbx hbe hg5 h8;go_upto_region 15 with (first
     |((with_reducible refine aB 62 ?_);refine aa (by rfl) 62 (.tmp 64) rfl B 34 rfl (cD A2 e.o.out.length c2 e.o) _ RO.out Tryz.underlying62 rfl jN ?_)
     |(rw[←HX1.out];(with_reducible refine aR 62 ?_);refine wpList_store_mid rfl 62 (.tmp 5) (.tmp 65) rfl wc.heap.size 0 (cD A2 e.o.out.length c2 e.o).toArray rfl rfl Hth.out jN (lP _ _ _ _) ?_))
    rw[←HX2.out,←Hg5.out];clear HX1 HX2 Hth Hg5 RO H7;obtain⟨L2,hL2⟩:∃L2,L2=bY 1 e.o.err.toNat true++bY 1 e.o.reason.toNat true:=⟨_,rfl⟩;have HL2l:Hid (L2.length=2):=by rw[hL2];exact rfl
    have Hcs:Hid ((#[.int .u8 (IntKind.u8.wrap e.o.err),.int .u8 (IntKind.u8.wrap e.o.reason)]:Array Value)=(ab L2).toArray):=by
     show _=_
     rw[IntWalk.u8_in _ (by omega),IntWalk.u8_in _ (by omega),hL2,pE,pE];simp only[ab,IY,I1,mD,List.cons_append,List.nil_append];rw[←AE (by omega) (by omega),←AE (by omega) (by omega)]
    have HL2:=hid hL2;clear hL2;refine wp_region_noPanic ?_;refine wp_region_held_drew (S:=fun w'=>aj w' g5 62 (cD A2 e.o.out.length c2 e.o).toArray) (by kernel_rfl) (H8.out.drew.b2) (fun hHeld=>?_);refine wpAnyH_take (i:=0) (v:=?_) rfl (by kernel_rfl) (by kernel_rfl) (by kernel_rfl) (fun _ _ _ h=>h) (IH ⟨by rfl,?_⟩) hHeld ?_;rotate_left
    ·intro w' hSw
     skip
     go_simp
     try with_reducible rfl
    try (simp only[IF,IB,Iz,IA,qq,IC,ID])
    refine wpAnyH_take (i:=1) (v:=?_) rfl (by kernel_rfl) (by kernel_rfl) (by kernel_rfl) (fun _ _ _ h=>h) (IH ⟨by rfl,?_⟩) hHeld ?_;rotate_left
    ·intro w' hSw
     skip
     go_simp
     try with_reducible rfl
    try (simp only[IF,IB,Iz,IA,qq,IC,ID])
    refine wpAnyH_take (i:=2) (v:=?_) rfl (by kernel_rfl) (by kernel_rfl) (by kernel_rfl) (fun _ _ _ h=>h) (IH ⟨by rfl,?_⟩) hHeld ?_;rotate_left
    ·intro w' hSw
     have d1:=jf hSw;go_simp
     try with_reducible rfl
    try (simp only[IF,IB,Iz,IA,qq,IC,ID])
    refine wpAnyH_take (i:=3) (v:=?_) rfl (by kernel_rfl) (by kernel_rfl) (by kernel_rfl) (fun _ _ _ h=>h) (IH ⟨by rfl,?_⟩) hHeld ?_;rotate_left
    ·intro w' hSw
     skip
     go_simp
     try with_reducible rfl
    try (simp only[IF,IB,Iz,IA,qq,IC,ID])
    refine wpAnyH_take (i:=4) (v:=?_) rfl (by kernel_rfl) (by kernel_rfl) (by kernel_rfl) (fun _ _ _ h=>h) (IH ⟨by rfl,?_⟩) hHeld ?_;rotate_left
    ·intro w' hSw
     skip
     go_simp
     try with_reducible rfl
    try (simp only[IF,IB,Iz,IA,qq,IC,ID])
    refine wpAnyH_take (i:=5) (v:=?_) rfl (by kernel_rfl) (by kernel_rfl) (by kernel_rfl) (fun _ _ _ h=>h) (IH ⟨by rfl,?_⟩) hHeld ?_;rotate_left
    ·intro w' hSw
     have d1:=eN hSw;go_simp
     try with_reducible rfl
    try (simp only[IF,IB,Iz,IA,qq,IC,ID])
    refine wpAnyH_take (i:=6) (v:=?_) rfl (by kernel_rfl) (by kernel_rfl) (by kernel_rfl) (fun _ _ _ h=>h) (IH ⟨by rfl,?_⟩) hHeld ?_;rotate_left
    ·intro w' hSw
     skip
     go_simp
     try with_reducible rfl
    try (simp only[IF,IB,Iz,IA,qq,IC,ID])
    refine wpAnyH_take (i:=9) (v:=?_) rfl (by kernel_rfl) (by kernel_rfl) (by kernel_rfl) (fun _ _ _ h=>h) (IH ⟨by rfl,?_⟩) hHeld ?_;rotate_left
    ·intro w' hSw
     skip
     go_simp
     try with_reducible rfl
    try (simp only[IF,IB,Iz,IA,qq,IC,ID])
    refine wpAnyH_take (i:=10) (v:=?_) rfl (by kernel_rfl) (by kernel_rfl) (by kernel_rfl) (fun _ _ _ h=>h) (IH ⟨by rfl,?_⟩) hHeld ?_;rotate_left
    ·intro w' hSw
     have d1:=uk hSw;go_simp
     try with_reducible rfl
    try (simp only[IF,IB,Iz,IA,qq,IC,ID])
    refine wpAnyH_ready (rs:=[7]) (by kernel_rfl) (by simp) ?_;refine IK (i:=7) rfl (fun K hK=>?_) IM;go_simp
    obtain⟨y1,hy1⟩:∃W,W=(X2.alloc (.cells #[.int .u8 (IntKind.u8.wrap e.o.err),.int .u8 (IntKind.u8.wrap e.o.reason)] 5)).drew:=⟨_,rfl⟩;have h9:sy B w y1 B 65 (bh A e.act.frame.length c A2 e.o.out.length c2 e).toArray g5 62 (cD A2 e.o.out.length c2 e.o).toArray A7 c7 m3:=by rw[hy1];exact (H8.out.alloc _).drew
    have hbs:BS y1 y1.heap.size (some ⟨X2.heap.size,0,none⟩) L2:=by rw[hy1];exact (BS.lit' X2 L2 _ Hcs.out _ _ X2.heap.size rfl).more (by simp)
    rw[←hy1];have H9:=hid h9;have Hbs:=hid hbs;have hBehind:=h9.b2;clear h9 hbs hy1
    go_wp2_with fail
    refine hK.out _ _ hBehind (fun hHeld=>?_);clear hK K hBehind
    try (simp only[IF,IB,Iz,IA,qq,IC,ID])
    refine wpAnyH_ready (rs:=[8]) (by kernel_rfl) (by simp) ?_;refine IK (i:=8) rfl (fun K hK=>?_) IM;refine oJ _ rfl _ _ 43 rfl B 5 i0 (.int .u8 0) 1 IE hi0 hz0 hz1 hz2 rfl (.slice A7 m3.length c7) m3 rfl H9.out.own _ (some ⟨X2.heap.size,0,none⟩) 2 2 L2 rfl HL2l.out.symm Hbs.out (by rw[HL2l.out];unfold maxLen;omega) (by rw[HL2l.out];omega) H9.out.le ?_;intro A9 c9 y2 hown9 hg9 _;have hA:=H9.out.grow hg9 hown9;obtain⟨m4,hm4⟩:∃z,z=m3++L2:=⟨_,rfl⟩;have hm4l:m4.length≤150002:=by rw[hm4,Iy,HL2l.out];omega
    rw[←hm4] at hA ⊢;have HA:=hid hA;have Hm4:=hid hm4;have hBehind:=hA.b2;clear hA hown9 hg9 hm4
    go_wp2_with fail
    refine hK.out _ _ hBehind (fun hHeld=>?_);clear hK K hBehind
    try (simp only[IF,IB,Iz,IA,qq,IC,ID])
    refine wpAnyH_ready (rs:=[11]) (by kernel_rfl) (by simp) ?_;refine IK (i:=11) rfl (fun K hK=>?_) IM;go_simp
    refine (mw B A9 c9 m4 e.o.hit _ HA.out.le HA.out.own (by omega)).mono ?_;rintro e9 w8 ⟨A8,c8,rfl,hown8,hg8⟩;have h8:=HA.out.step hg8 hown8;obtain⟨m5,hm5⟩:∃z,z=m4++ea e.o.hit:=⟨_,rfl⟩;have hm5l:m5.length≤150003:=by rw[hm5,Iy,cP];omega
    rw[←hm5] at h8 ⊢;have HC:=hid h8;have Hm5:=hid hm5;have hBehind:=h8.b2;clear h8 hown8 hg8 hm5 HA
    go_wp2_with fail
    refine hK.out _ _ hBehind (fun hHeld=>?_);clear hK K hBehind
    try (simp only[IF,IB,Iz,IA,qq,IC,ID])
    refine wpAnyH_take (i:=12) (v:=?_) rfl (by kernel_rfl) (by kernel_rfl) (by kernel_rfl) (fun _ _ _ h=>h) (IH ⟨by rfl,?_⟩) hHeld ?_;rotate_left
    ·intro w' hSw
     skip
     go_simp
     try with_reducible rfl
    try (simp only[IF,IB,Iz,IA,qq,IC,ID])
    refine wpAnyH_done (by kernel_rfl) ?_ _;refine I3 ?_;go_upto_region 16 with fail
    obtain⟨n1,hn1⟩:∃n,n=e.o.version.toNat:=⟨_,rfl⟩;have Hn1:=hid hn1;have dv:=dZ HC.out.b2;have hvw:IntKind.u64.wrap e.o.version=(n1:Int):=by rw[IT _ (by omega)];omega
    have hnb:n1≤1099511627776:=by omega
    clear hn1
    go_wp2_with fail
    refine (kh n1 w8 (by omega)).mono ?_;rintro e9 v1 ⟨AA1,cc1,rfl,hown1,hb1⟩;have hh1:=HC.out.below hb1;have HH1:=hid hh1;have hvl:=aO (n:=n1) (by omega);have HV1:=hid (IZ hown1).1;have hle1:=hh1.le;clear hh1 hown1 hb1 HC dv hvw hnb;go_upto_region 17 with (at_builtin;refine ae _ rfl _ _ 43 rfl B 5 i0 (.int .u8 0) 1 IE hi0 hz0 hz1 hz2 rfl (.slice A8 m5.length c8) m5 rfl HH1.out.own _ AA1 _ cc1 (aC n1) rfl rfl HV1.out (by unfold maxLen;omega) (by omega) hle1 ?_;intro B1 d1' u1 hown1' hg1' _)
    have hi1:=HH1.out.grow hg1' hown1';obtain⟨m6,hm6⟩:∃z,z=m5++aC n1:=⟨_,rfl⟩;have hm6l:m6.length≤150020:=by rw[hm6,Iy];omega
    rw[←hm6] at hi1;rw[←Iy,←hm6];have HI1:=hid hi1;have Hm6:=hid hm6;clear hi1 hown1' hg1' hm6 HH1 HV1 hvl;have dn:=gW HI1.out.b2
    go_wp2_with fail
    refine (iz B B1 d1' m6 e.o.name u1 HI1.out.le HI1.out.own (by omega) (by omega)).mono ?_;rintro e9 w9 ⟨A9,c9,rfl,hown9,hg9⟩;have h9:=HI1.out.step hg9 hown9;obtain⟨m7,hm7⟩:∃z,z=m6++bw e.o.name:=⟨_,rfl⟩;have hm7l:m7.length≤150300:=by rw[hm7,Iy];have:=cZ (x:=e.o.name) (by omega);omega
    rw[←hm7] at h9 ⊢;have HD:=hid h9;have Hm7:=hid hm7;clear h9 hown9 hg9 hm7 HI1 dn;go_upto_region 18 with fail
    obtain⟨n2,hn2⟩:∃n,n=e.len.toNat:=⟨_,rfl⟩;have Hn2:=hid hn2;have dv:=je HD.out.b1 hs.out;have hvw:IntKind.u64.wrap e.len=(n2:Int):=by rw[IT _ (by omega)];omega
    have hnb:n2≤1099511627776:=by omega
    clear hn2
    go_wp2_with fail
    refine (kh n2 w9 (by omega)).mono ?_;rintro e9 v2 ⟨AA2,cc2,rfl,hown2,hb2⟩;have hh2:=HD.out.below hb2;have HH2:=hid hh2;have hvl:=aO (n:=n2) (by omega);have HV2:=hid (IZ hown2).1;have hle2:=hh2.le;clear hh2 hown2 hb2 HD dv hvw hnb;go_upto_region 19 with (at_builtin;refine ae _ rfl _ _ 43 rfl B 5 i0 (.int .u8 0) 1 IE hi0 hz0 hz1 hz2 rfl (.slice A9 m7.length c9) m7 rfl HH2.out.own _ AA2 _ cc2 (aC n2) rfl rfl HV2.out (by unfold maxLen;omega) (by omega) hle2 ?_;intro B2 d2' u2 hown2' hg2' _)
    have hi2:=HH2.out.grow hg2' hown2';obtain⟨m8,hm8⟩:∃z,z=m7++aC n2:=⟨_,rfl⟩;have hm8l:m8.length≤150320:=by rw[hm8,Iy];omega
    rw[←hm8] at hi2;rw[←Iy,←hm8];have HI2:=hid hi2;have Hm8:=hid hm8;clear hi2 hown2' hg2' hm8 HH2 HV2 hvl;have dv:=ui HI2.out.b1 hs.out;have hsl:=hs.out.sum;have hvw:IntKind.u64.wrap (e.sum:Int)=(e.sum:Int):=IT _ (by omega)
    go_wp2_with fail
    refine (FV e.sum 4 u2 (by omega) rfl).mono ?_;rintro e9 v3 ⟨AA3,cc3,rfl,hown3,hb3⟩;have hh3:=HI2.out.below hb3;have HH3:=hid hh3;have hvl:(bY 4 e.sum false).length=4:=az _ _ _;have HV3:=hid (IZ hown3).1;have hle3:=hh3.le;obtain⟨L4,hL4⟩:∃z,z=bY 4 e.sum false:=⟨_,rfl⟩;rw[←hL4] at hvl HV3 ⊢;have HL4:=hid hL4;have Hvl:=hid hvl;clear hvl;clear hh3 hown3 hb3 HI2 dv hvw hL4
    go_wp2_with (at_builtin;refine ae _ rfl _ _ 43 rfl B 5 i0 (.int .u8 0) 1 IE hi0 hz0 hz1 hz2 rfl (.slice B2 m8.length d2') m8 rfl HH3.out.own _ AA3 _ cc3 L4 rfl rfl HV3.out (by rw[Hvl.out];unfold maxLen;omega) (by rw[Hvl.out];omega) hle3 ?_;intro B3 d3' u3 hown3' hg3' _)
    have hi3:=HH3.out.grow hg3' hown3';obtain⟨m9,hm9⟩:∃z,z=m8++L4:=⟨_,rfl⟩;rw[←hm9] at hi3;rw[←Iy,←hm9];have hfin:bT e=m9:=by
     rw[hm9,HL4.out,Hm8.out,Hn2.out,Hm7.out,Hm6.out,Hn1.out,Hm5.out,Hm4.out,HL2.out,Hm3a.out];unfold bT;simp only[IG]
    go_ret
    rw[hfin];exact⟨B3,d3',rfl,hi3.own,hi3.gu⟩
