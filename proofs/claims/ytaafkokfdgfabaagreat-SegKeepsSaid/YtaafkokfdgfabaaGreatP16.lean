import Derived.Test.YtaafkokfdgfabaaGreatP13
import Derived.Test.YtaafkokfdgfabaaGreatP14
import Derived.Test.YtaafkokfdgfabaaGreatP15
import Derived.Lib.ConvBytes
import Derived.Deep.RegionHeld3
set_option maxHeartbeats 8000000
set_option maxRecDepth 100000
set_option linter.unusedVariables false
set_option linter.unusedSimpArgs false
open Bool renaming and_eq_true→IF,and_eq_false_iff→IG,or_eq_false_iff→IH,or_eq_true→IM,true_and→I0
open List renaming setIfInBounds_toArray→qq,length_append→Iy,getElem_cons_succ→Iz,getElem_cons_zero→IA,getElem_toArray→IB,set_cons_zero→IC,set_cons_succ→ID,append_assoc→IJ,append_nil→IP,getElem?_map→IW,all_eq_true→IX,nil_append→IY,length_nil→IZ
open Nat renaming le_of_lt→IE,le_refl→IN
open Or renaming inl→IQ
namespace Go.Proofs.YtaafkokfdgfabaaGreat
open Go.RowKit
open Lib (hid)
open Act renaming put→II
open AllReadyH renaming cons→IR,nil→IS
open Lib renaming bytesWorld→IT
open NoPanic renaming normal→IU
open Tryz renaming underlying169→IK,prog→IL,underlying56→IV
open Value renaming slice→I1
def xH(w:World)(g:Nat)(l:List UInt8):Prop:=∃A c,zR w g g A c 1048576 (l,0)
structure g8(w w':World)(g:Nat):Prop where
 bel:Below g w w'
 size:w.heap.size≤w'.heap.size
 blk:∀{k:Nat} {t:TypeId} {cs:Array Value},aj w k t cs→t≠5→k≠g→aj w' k t cs
theorem g8.trans{a b c:World}{g:Nat}(h:g8 a b g)(k:g8 b c g):g8 a c g :=
 ⟨h.bel.trans k.bel,Nat.le_trans h.size k.size,fun hb ht hk=>k.blk (h.blk hb ht hk) ht hk⟩
theorem g8.of_below{w w':World}{g:Nat}(h:Below w.heap.size w w')(hg:g≤w.heap.size):g8 w w' g :=
 ⟨h.mono hg,h.size,fun hb _ _=>aj.below hb h hb.lt⟩
theorem g8.refl(w:World)(g:Nat):g8 w w g:=⟨Below.refl _ _,IN _,fun hb _ _=>hb⟩
theorem xH.below{w w':World}{g:Nat}{l:List UInt8}(h:xH w g l)(hb:Below w.heap.size w w'):xH w' g l:=by
 obtain⟨A,c,h⟩:=h;exact⟨A,c,zR.below h hb⟩
theorem xH.lt{w:World}{g:Nat}{l:List UInt8}(h:xH w g l):g<w.heap.size:=by
 obtain⟨A,c,h⟩:=h;exact h.1.lt
theorem kX(A:Option Addr)(n c:Nat):(I1 A n c).ownBlock=(I1 A 0 0).ownBlock:=by cases A<;>rfl
def vE(w:World)(g:Nat)(l:List UInt8)(e:Ending)(w':World):Prop:=e=.returned (.tuple #[])∧xH w' g l∧g8 w w' g
theorem Fe{w w':World}{g:Nat}{A:Option Addr}{c:Nat}{s:xG}{l:List UInt8}{s':xG}{x:Ending}(h:zR w g g A c 1048576 s)(hi:iG w g g A 1048576 s' x w')(hs:s'=(l,0)):vE w g l x w':=by
 subst hs;obtain⟨rfl,A',c',hW,ho,_⟩:=hi;refine⟨rfl,⟨A',c',hW⟩,⟨ho.below (IN _) (fun k hk=>?_) (IE h.1.lt),ho.2.2.2.1,fun {k t cs} hb ht hk=>ho.blk hb hk (fun e=>?_)⟩⟩
 ·exact (h.2.1.lt k (by rw[kX];exact hk)).1
 ·rcases aK h.2.1 hb ht with h1|h1
  ·rw[kX] at h1
   rw[h1] at e;cases e
  ·rw[kX] at h1
   exact h1 e.symm
theorem mh{l b:List UInt8}(h:l.length+b.length≤1048576):iw 1048576 (l,0) b=(l++b,0):=by
 unfold iw;rw[if_neg (by simp),if_neg (by simp only;omega)]
theorem qm{w:World}{g:Nat}{l:List UInt8}(h:xH w g l)(m k:Nat)(sz:Int)(big:Bool)(hsz:sz=(k:Int))(hk1:1≤k)(hk8:k≤8)(hm:m<18446744073709551616)(hl:l.length+8≤1048576) :
  Calls IL 113 #[.pointer (some ⟨g,0,none⟩),.int .u64 (m:Int),.int .i64 sz,.bool big] w (vE w g (l++bY k m big)):=by
 subst hsz;obtain⟨A,c,h⟩:=h;have hc:dw (k:Int)=k:=by unfold dw;omega
 refine (Bh g g A c 1048576 (l,0) w m (k:Int) big h hm (by decide) (by simp only;omega)).mono fun e w' hi=>Fe h hi ?_
 unfold sK;rw[if_neg (by rintro⟨_,h1|h1⟩<;>omega),hc];exact mh (by rw[az];omega)
theorem FZ{w:World}{g:Nat}{l:List UInt8}(h:xH w g l)(n:Nat)(hn:n<18446744073709551616)(hl:l.length+10≤1048576) :
  Calls IL 115 #[.pointer (some ⟨g,0,none⟩),.int .u64 (n:Int)] w (vE w g (l++aC n)):=by
 obtain⟨A,c,h⟩:=h;have:=aO (n:=n) hn;exact (Bf g g A c 1048576 (l,0) w n h hn (by decide) (by simp only;omega)).mono fun e w' hi=>Fe h hi (mh (by omega))
theorem rF{w:World}{g:Nat}{l:List UInt8}(h:xH w g l)(X:Option Addr)(n d:Nat)(b:List UInt8)(hn:n=b.length)(hb:BS w w.heap.size X b)(hl:l.length+b.length+10≤1048576) :
  Calls IL 116 #[.pointer (some ⟨g,0,none⟩),.slice X n d] w (vE w g (l++(aC b.length++b))):=by
 subst hn;obtain⟨A,c,h⟩:=h;have:=aO (n:=b.length) (by omega);exact (yo g g A c 1048576 (l,0) w X d b h hb (by decide) (by simp only;omega) (by omega)).mono fun e w' hi=>Fe h hi (mh (by rw[Iy];omega))
theorem qL{w:World}{g:Nat}{l:List UInt8}(h:xH w g l)(X:Option Addr)(n d:Nat)(b:List UInt8)(hn:n=b.length)(hb:BS w w.heap.size X b)(hl:l.length+b.length≤1048576) :
  Calls IL 160 #[.pointer (some ⟨g,0,none⟩),.slice X n d] w (vE w g (l++b)):=by
 obtain⟨A,c,h⟩:=h;exact (gF g g A c 1048576 (l,0) X n d b w h hn hb (by decide) (by simp only;omega) (by omega)).mono fun e w' hi=>Fe h hi (mh hl)
theorem eO(w:World)(e:TypeId)(s:ByteArray):Below w.heap.size w (IT w e s) :=
 ⟨rfl,rfl,rfl,by rw[Lib.bytesWorld_size];omega,fun k hk=>Lib.bytesWorld_at_old w e s k hk⟩
theorem gw(w:World)(e:TypeId)(l:List UInt8):BS (IT w e ⟨l.toArray⟩) (IT w e ⟨l.toArray⟩).heap.size (some ⟨w.heap.size,0,none⟩) l:=fun hn=>by
 refine⟨⟨w.heap.size,0,none⟩,rfl,by rw[Lib.bytesWorld_size];show w.heap.size<_;omega,fun j c hj=>?_⟩;have hjl:=(List.getElem?_eq_some_iff.1 hj).1;have:=Lib.bytesWorld_cell w e ⟨l.toArray⟩ j (show j<l.toArray.size by simpa using hjl);rw[show (⟨w.heap.size,0,none⟩:Addr).add j=⟨w.heap.size,j,none⟩ by unfold Addr.add;split<;>simp_all,this];simp[List.getD,hj,mD]
theorem ji(w:World)(l:List UInt8):(convert 9 43 (.string ⟨l.toArray⟩)).run IL w=.ok (.slice (some ⟨w.heap.size,0,none⟩) l.length (grownCap w l.length 0 5)) (IT w 5 ⟨l.toArray⟩) :=
 Lib.run_convert_string_bytes (P:=IL) w 9 43 5 ⟨l.toArray⟩ Tryz.underlying9 Tryz.underlying43 Tryz.underlying5
def ea(b:Bool):List UInt8:=if b then [1] else [0]
def bw(x:List UInt8):List UInt8:=aC x.length++x
def aD(b:aU):List UInt8:=bw b.name++(ea b.addr.1++(b.addr.2++(bY 2 b.port.toNat true++(b.mac++(dK b.wt++ea b.drain)))))
def ba(a:ca):List UInt8 :=
 bY 1 a.kind.toNat true ++
  (if a.kind=1 then bw a.frame
   else if a.kind=2 then bY 1 a.op.toNat true++(if a.op=1 then aD a.back else bw a.oname++(if a.op=3 then dK a.owt else []))
   else if a.kind=3 then bw a.name++ea a.well else [])
theorem cP(b:Bool):(ea b).length=1:=by cases b<;>rfl
theorem cZ{x:List UInt8}(h:x.length≤1000000):(bw x).length≤x.length+10:=by
 have:=aO (n:=x.length) (by omega);rw[bw,Iy];omega
theorem Bi(b:Bool):bY 1 (if b then 1 else 0) true=ea b:=by cases b<;>decide
theorem mi:(IL.info? 169).map (·.size)=some 1:=by kernel_rfl
def tf(g:Nat):Value:=.agg #[.pointer (some ⟨g,0,none⟩)]
theorem ni{w:World}{g:Nat}{l:List UInt8}(h:xH w g l)(b:Bool)(hl:l.length+8≤1048576) :
  Calls IL 114 #[tf g,.bool b] w (vE w g (l++ea b)):=by
 rw[←Bi];unfold tf;obtain⟨W,hW⟩:∃W,W=w.alloc (.cells #[.pointer (some ⟨g,0,none⟩)] 169):=⟨_,rfl⟩;have hX:aj W w.heap.size 169 #[.pointer (some ⟨g,0,none⟩)]:=by rw[hW];exact aj.new w _ _ _ rfl
 have hB:Below w.heap.size w W:=by rw[hW];exact (Below.refl _ _).alloc (IN _) _
 have HA:=hid (h.below hB);have HS:=hid (g8.of_below hB (IE h.lt));have d0:W.cell? ⟨w.heap.size,0,none⟩=some (.pointer (some ⟨g,0,none⟩)):=hX.cell 0;have HW:=hid hW;clear hW hX hB h;rcases b with _|_
 ·have hc:=hid (qm HA.out 0 1 1 true rfl (by decide) (by decide) (by decide) hl)
  go_enter Tryz.func114,Tryz.ntmps114
  go_upto_region 1 with fail
  rw[←HW.out]
  go_wp2_with fail
  refine hc.out.mono ?_;rintro e w2 ⟨rfl,h2,hs2⟩
  go_wp2
  go_end0
  exact⟨rfl,h2,HS.out.trans hs2⟩
 ·have hc:=hid (qm HA.out 1 1 1 true rfl (by decide) (by decide) (by decide) hl)
  go_enter Tryz.func114,Tryz.ntmps114
  go_upto_region 1 with fail
  rw[←HW.out]
  go_wp2_with fail
  refine hc.out.mono ?_;rintro e w2 ⟨rfl,h2,hs2⟩
  go_wp2
  go_end0
  exact⟨rfl,h2,HS.out.trans hs2⟩
theorem Gs{w:World}{k:Nat}{b:aU}(hb:aj w k 56 (ah b).toArray)(h:au b):BS w w.heap.size (some ⟨k,2,none⟩) b.addr.2:=fun hn=>by
 refine⟨_,rfl,hb.lt,fun j c hj=>?_⟩;have:=nc hb h (1+j) (mD c) (by rw[ai,show 1+j=j+1 by omega,List.getElem?_cons_succ,ab,IW,hj];rfl);rw[show (⟨k,2,none⟩:Addr).add j=⟨k,1+(1+j),none⟩ by unfold Addr.add;split<;>simp_all<;>omega];exact this
theorem Ff{w:World}{k:Nat}{b:aU}(hb:aj w k 56 (ah b).toArray)(h:au b):BS w w.heap.size (some ⟨k,19,none⟩) b.mac:=fun hn=>by
 refine⟨_,rfl,hb.lt,fun j c hj=>?_⟩;have:=yh hb h j (mD c) (by rw[ab,IW,hj];rfl);rw[show (⟨k,19,none⟩:Addr).add j=⟨k,19+j,none⟩ by unfold Addr.add;split<;>simp_all];exact this
theorem tg{w:World}{g:Nat}{l:List UInt8}(h:xH w g l)(b:aU)(hb0:au b)(hp:0≤b.port∧b.port≤65535)(hn:b.name.length≤1000)(hl:l.length+2000≤1048576) :
  Calls IL 159 #[tf g,.agg (ah b).toArray] w (vE w g (l++aD b)):=by
 have hb:=hid hb0;obtain⟨hp0,hp1⟩:=hp;obtain⟨P,hP⟩:∃P:Nat,P=b.port.toNat:=⟨_,rfl⟩;have hPI:b.port=(P:Int):=by omega
 have HP:=hid hP;have HPI:=hid hPI;have hPb:P≤65535:=by omega
 unfold tf;clear hb0 hP hPI hp0 hp1;obtain⟨W1,hW1⟩:∃W,W=w.alloc (.cells #[.pointer (some ⟨g,0,none⟩)] 169):=⟨_,rfl⟩;obtain⟨W,hW⟩:∃W,W=W1.alloc (.cells (ah b).toArray 56):=⟨_,rfl⟩;have hs1:W1.heap.size=w.heap.size+1:=by rw[hW1];simp
 have hX1:aj W1 w.heap.size 169 #[.pointer (some ⟨g,0,none⟩)]:=by rw[hW1];exact aj.new w _ _ _ rfl
 have HX:Hid (aj W w.heap.size 169 #[.pointer (some ⟨g,0,none⟩)]):=by rw[hW];exact aj.alloc hX1 _
 have HY:Hid (aj W (w.heap.size+1) 56 (ah b).toArray):=by rw[hW,←hs1];exact aj.new W1 _ _ _ rfl
 have hB:Below w.heap.size w W:=by rw[hW,hW1];exact ((Below.refl _ _).alloc (IN _) _).alloc (by simp) _
 have hgw:=h.lt;have hneX:w.heap.size≠g:=by omega
 have hneY:w.heap.size+1≠g:=by omega
 have HA:=hid (h.below hB);have HS:=hid (g8.of_below hB (IE hgw));have HW1:=hid hW1;have HW:=hid hW;clear hW1 hW hX1 hs1 h;have d0:W.cell? ⟨w.heap.size,0,none⟩=some (.pointer (some ⟨g,0,none⟩)):=HX.out.cell 0;have d1:=jx HY.out;have hcv:=ji W b.name;go_enter Tryz.func159,Tryz.ntmps159
 go_upto_region 1 with fail
 rw[←HW1.out];rw[←HW.out];clear HW1 HW
 go_wp2_with fail
 have hbw:=eO W 5 ⟨b.name.toArray⟩;refine (rF (HA.out.below hbw) _ _ _ b.name rfl (gw W 5 b.name) (by omega)).mono ?_;rintro e v1 ⟨rfl,H1,hs0⟩;have hs1:=(g8.of_below hbw (IE HA.out.lt)).trans hs0;clear hbw hs0 hcv d0 d1;have HS2:=hid (HS.out.trans hs1);have HX2:=hid (hs1.blk HX.out (by decide) hneX);have HY2:=hid (hs1.blk HY.out (by decide) hneY);clear HS HX HY HA hs1;have HS:=HS2;have HX:=HX2;have HY:=HY2;clear HS2 HX2 HY2;obtain⟨l1,hl1⟩:∃x,x=l++(aC b.name.length++b.name):=⟨_,rfl⟩;rw[←hl1] at H1;have n1:l1.length≤l.length+(b.name.length+10):=by rw[hl1,Iy];have:=cZ (x:=b.name) (by omega);rw[bw] at this;omega
 have Q1:=hid hl1;have HA:=hid H1;clear H1 hl1;have d0:v1.cell? ⟨w.heap.size,0,none⟩=some (.pointer (some ⟨g,0,none⟩)):=HX.out.cell 0;have d2:=uh HY.out hb.out
 go_wp2_with (first
   |((with_reducible refine aB 169 ?_);refine aa (by rfl) 169 (.tmp 2) rfl w.heap.size 0 rfl [.pointer (some ⟨g,0,none⟩)] _ (ag (cs:=[.pointer (some ⟨g,0,none⟩)]) HX.out) IK rfl mi ?_))
 refine (ni HA.out b.addr.1 (by omega)).mono ?_;rintro e v2 ⟨rfl,H1,hs1⟩;have HS2:=hid (HS.out.trans hs1);have HX2:=hid (hs1.blk HX.out (by decide) hneX);have HY2:=hid (hs1.blk HY.out (by decide) hneY);clear HS HX HY HA hs1;have HS:=HS2;have HX:=HX2;have HY:=HY2;clear HS2 HX2 HY2;obtain⟨l2,hl2⟩:∃x,x=l1++ea b.addr.1:=⟨_,rfl⟩;rw[←hl2] at H1;have n2:l2.length≤l1.length+1:=by rw[hl2,Iy];rw[cP];omega
 have Q2:=hid hl2;have HA:=hid H1;clear H1 hl2;clear d0 d2;go_upto_region 3 with fail
 have HXd:aj v2.drew w.heap.size 169 #[.pointer (some ⟨g,0,none⟩)]:=HX.out.drew;refine wp_region_noPanic ?_;refine wp_region_held_drew (S:=fun w'=>aj w' w.heap.size 169 #[.pointer (some ⟨g,0,none⟩)]∧aj w' (w.heap.size+1) 56 (ah b).toArray) (by kernel_rfl) ⟨HXd,HY.out.drew⟩ (fun hHeld=>?_);refine wpAnyH_take (i:=0) (v:=?_) rfl (by kernel_rfl) (by kernel_rfl) (by kernel_rfl) (fun _ _ _ h=>h) (IQ ⟨by rfl,?_⟩) hHeld ?_;rotate_left
 ·intro w' hSw
  skip
  go_simp
  try with_reducible rfl
 try (simp only[II,IB,Iz,IA,qq,IC,ID])
 refine wpAnyH_take (i:=1) (v:=?_) rfl (by kernel_rfl) (by kernel_rfl) (by kernel_rfl) (fun _ _ _ h=>h) (IQ ⟨by rfl,?_⟩) hHeld ?_;rotate_left
 ·intro w' hSw
  have e0:w'.cell? ⟨w.heap.size,0,none⟩=some (.pointer (some ⟨g,0,none⟩)):=hSw.1.cell 0;go_simp
  try with_reducible rfl
 try (simp only[II,IB,Iz,IA,qq,IC,ID])
 refine wpAnyH_take (i:=2) (v:=?_) rfl (by kernel_rfl) (by kernel_rfl) (by kernel_rfl) (fun _ _ _ h=>h) (IQ ⟨by rfl,?_⟩) hHeld ?_;rotate_left
 ·intro w' hSw
  skip
  go_simp
  try with_reducible rfl
 try (simp only[II,IB,Iz,IA,qq,IC,ID])
 refine wpAnyH_take (i:=3) (v:=?_) rfl (by kernel_rfl) (by kernel_rfl) (by kernel_rfl) (fun _ _ _ h=>h) (IQ ⟨by rfl,?_⟩) hHeld ?_;rotate_left
 ·intro w' hSw
  skip
  go_simp
  try with_reducible rfl
 try (simp only[II,IB,Iz,IA,qq,IC,ID])
 refine wpAnyH_take (i:=4) (v:=?_) rfl (by kernel_rfl) (by kernel_rfl) (by kernel_rfl) (fun _ _ _ h=>h) (IQ ⟨by rfl,?_⟩) hHeld ?_;rotate_left
 ·intro w' hSw
  skip
  go_simp
  try with_reducible rfl
 try (simp only[II,IB,Iz,IA,qq,IC,ID])
 generalize hwd:v2.drew=wd at hHeld ⊢
 have hbd:Below v2.heap.size v2 wd:=by rw[←hwd];exact (Below.refl _ _).drew
 have hAd:=HA.out.below hbd;have hSd:=g8.of_below hbd (IE HA.out.lt);clear hwd HXd;refine wpAnyH_ready (rs:=[5]) (by kernel_rfl) (by simp) ?_;refine IR (i:=5) rfl (fun K hK=>?_) IS;go_simp
 refine (qL hAd _ _ _ b.addr.2 hb.out.addr.symm (Gs hHeld.2 hb.out) (by have:b.addr.2.length=16:=hb.out.addr;omega)).mono ?_;rintro e v3 ⟨rfl,H1,hs0⟩;have hs1:=hSd.trans hs0;have hHn:=(⟨hs0.blk hHeld.1 (by decide) hneX,hs0.blk hHeld.2 (by decide) hneY⟩:_∧_);clear hs0 hAd hbd hSd
 go_wp2_with fail
 refine hK.out _ _ hHn (fun hHeld=>?_);clear hK K hHn
 try (simp only[II,IB,Iz,IA,qq,IC,ID])
 refine wpAnyH_done (by kernel_rfl) ?_ _;refine IU ?_;clear hHeld;have HS2:=hid (HS.out.trans hs1);have HX2:=hid (hs1.blk HX.out (by decide) hneX);have HY2:=hid (hs1.blk HY.out (by decide) hneY);clear HS HX HY HA hs1;have HS:=HS2;have HX:=HX2;have HY:=HY2;clear HS2 HX2 HY2;obtain⟨l3,hl3⟩:∃x,x=l2++b.addr.2:=⟨_,rfl⟩;rw[←hl3] at H1;have n3:l3.length≤l2.length+16:=by rw[hl3,Iy];have:b.addr.2.length=16:=hb.out.addr;omega
 have Q3:=hid hl3;have HA:=hid H1;clear H1 hl3;have d0:v3.cell? ⟨w.heap.size,0,none⟩=some (.pointer (some ⟨g,0,none⟩)):=HX.out.cell 0;have d3:v3.cell? ⟨w.heap.size+1,18,none⟩=some (.int .i64 (P:Int)):=by rw[←HPI.out];exact jy HY.out hb.out
 go_wp2_with fail
 refine (qm HA.out P 2 2 true rfl (by decide) (by decide) (by omega) (by omega)).mono ?_;rintro e v4 ⟨rfl,H1,hs1⟩;have HS2:=hid (HS.out.trans hs1);have HX2:=hid (hs1.blk HX.out (by decide) hneX);have HY2:=hid (hs1.blk HY.out (by decide) hneY);clear HS HX HY HA hs1;have HS:=HS2;have HX:=HX2;have HY:=HY2;clear HS2 HX2 HY2;obtain⟨l4,hl4⟩:∃x,x=l3++bY 2 P true:=⟨_,rfl⟩;rw[←hl4] at H1;have n4:l4.length≤l3.length+2:=by rw[hl4,Iy];rw[az];omega
 have Q4:=hid hl4;have HA:=hid H1;clear H1 hl4;clear d0 d3;go_upto_region 5 with fail
 have HXd:aj v4.drew w.heap.size 169 #[.pointer (some ⟨g,0,none⟩)]:=HX.out.drew;refine wp_region_noPanic ?_;refine wp_region_held_drew (S:=fun w'=>aj w' w.heap.size 169 #[.pointer (some ⟨g,0,none⟩)]∧aj w' (w.heap.size+1) 56 (ah b).toArray) (by kernel_rfl) ⟨HXd,HY.out.drew⟩ (fun hHeld=>?_);refine wpAnyH_take (i:=0) (v:=?_) rfl (by kernel_rfl) (by kernel_rfl) (by kernel_rfl) (fun _ _ _ h=>h) (IQ ⟨by rfl,?_⟩) hHeld ?_;rotate_left
 ·intro w' hSw
  skip
  go_simp
  try with_reducible rfl
 try (simp only[II,IB,Iz,IA,qq,IC,ID])
 refine wpAnyH_take (i:=1) (v:=?_) rfl (by kernel_rfl) (by kernel_rfl) (by kernel_rfl) (fun _ _ _ h=>h) (IQ ⟨by rfl,?_⟩) hHeld ?_;rotate_left
 ·intro w' hSw
  have e0:w'.cell? ⟨w.heap.size,0,none⟩=some (.pointer (some ⟨g,0,none⟩)):=hSw.1.cell 0;go_simp
  try with_reducible rfl
 try (simp only[II,IB,Iz,IA,qq,IC,ID])
 refine wpAnyH_take (i:=2) (v:=?_) rfl (by kernel_rfl) (by kernel_rfl) (by kernel_rfl) (fun _ _ _ h=>h) (IQ ⟨by rfl,?_⟩) hHeld ?_;rotate_left
 ·intro w' hSw
  skip
  go_simp
  try with_reducible rfl
 try (simp only[II,IB,Iz,IA,qq,IC,ID])
 refine wpAnyH_take (i:=3) (v:=?_) rfl (by kernel_rfl) (by kernel_rfl) (by kernel_rfl) (fun _ _ _ h=>h) (IQ ⟨by rfl,?_⟩) hHeld ?_;rotate_left
 ·intro w' hSw
  skip
  go_simp
  try with_reducible rfl
 try (simp only[II,IB,Iz,IA,qq,IC,ID])
 generalize hwd:v4.drew=wd at hHeld ⊢
 have hbd:Below v4.heap.size v4 wd:=by rw[←hwd];exact (Below.refl _ _).drew
 have hAd:=HA.out.below hbd;have hSd:=g8.of_below hbd (IE HA.out.lt);clear hwd HXd;refine wpAnyH_ready (rs:=[4]) (by kernel_rfl) (by simp) ?_;refine IR (i:=4) rfl (fun K hK=>?_) IS;go_simp
 refine (qL hAd _ _ _ b.mac hb.out.mac.symm (Ff hHeld.2 hb.out) (by have:=hb.out.mac;omega)).mono ?_;rintro e v5 ⟨rfl,H1,hs0⟩;have hs1:=hSd.trans hs0;have hHn:=(⟨hs0.blk hHeld.1 (by decide) hneX,hs0.blk hHeld.2 (by decide) hneY⟩:_∧_);clear hs0 hAd hbd hSd
 go_wp2_with fail
 refine hK.out _ _ hHn (fun hHeld=>?_);clear hK K hHn
 try (simp only[II,IB,Iz,IA,qq,IC,ID])
 refine wpAnyH_done (by kernel_rfl) ?_ _;refine IU ?_;clear hHeld;have HS2:=hid (HS.out.trans hs1);have HX2:=hid (hs1.blk HX.out (by decide) hneX);have HY2:=hid (hs1.blk HY.out (by decide) hneY);clear HS HX HY HA hs1;have HS:=HS2;have HX:=HX2;have HY:=HY2;clear HS2 HX2 HY2;obtain⟨l5,hl5⟩:∃x,x=l4++b.mac:=⟨_,rfl⟩;rw[←hl5] at H1;have n5:l5.length≤l4.length+6:=by rw[hl5,Iy];have:=hb.out.mac;omega
 have Q5:=hid hl5;have HA:=hid H1;clear H1 hl5;go_upto_region 6 with fail
 have HXd:aj v5.drew w.heap.size 169 #[.pointer (some ⟨g,0,none⟩)]:=HX.out.drew;refine wp_region_noPanic ?_;refine wp_region_held_drew (S:=fun w'=>aj w' w.heap.size 169 #[.pointer (some ⟨g,0,none⟩)]∧aj w' (w.heap.size+1) 56 (ah b).toArray) (by kernel_rfl) ⟨HXd,HY.out.drew⟩ (fun hHeld=>?_);refine wpAnyH_take (i:=0) (v:=?_) rfl (by kernel_rfl) (by kernel_rfl) (by kernel_rfl) (fun _ _ _ h=>h) (IQ ⟨by rfl,?_⟩) hHeld ?_;rotate_left
 ·intro w' hSw
  skip
  go_simp
  try with_reducible rfl
 try (simp only[II,IB,Iz,IA,qq,IC,ID])
 refine wpAnyH_take (i:=1) (v:=?_) rfl (by kernel_rfl) (by kernel_rfl) (by kernel_rfl) (fun _ _ _ h=>h) (IQ ⟨by rfl,?_⟩) hHeld ?_;rotate_left
 ·intro w' hSw
  have e0:w'.cell? ⟨w.heap.size,0,none⟩=some (.pointer (some ⟨g,0,none⟩)):=hSw.1.cell 0;go_simp
  try with_reducible rfl
 try (simp only[II,IB,Iz,IA,qq,IC,ID])
 refine wpAnyH_take (i:=2) (v:=?_) rfl (by kernel_rfl) (by kernel_rfl) (by kernel_rfl) (fun _ _ _ h=>h) (IQ ⟨by rfl,?_⟩) hHeld ?_;rotate_left
 ·intro w' hSw
  skip
  go_simp
  try with_reducible rfl
 try (simp only[II,IB,Iz,IA,qq,IC,ID])
 refine wpAnyH_take (i:=3) (v:=?_) rfl (by kernel_rfl) (by kernel_rfl) (by kernel_rfl) (fun _ _ _ h=>h) (IQ ⟨by rfl,?_⟩) hHeld ?_;rotate_left
 ·intro w' hSw
  have e0:=lv hSw.2 hb.out;go_simp
  try with_reducible rfl
 try (simp only[II,IB,Iz,IA,qq,IC,ID])
 generalize hwd:v5.drew=wd at hHeld ⊢
 have hbd:Below v5.heap.size v5 wd:=by rw[←hwd];exact (Below.refl _ _).drew
 have hAd:=HA.out.below hbd;have hSd:=g8.of_below hbd (IE HA.out.lt);clear hwd HXd;refine wpAnyH_ready (rs:=[4]) (by kernel_rfl) (by simp) ?_;refine IR (i:=4) rfl (fun K hK=>?_) IS;go_simp
 refine (vr b.wt _ hb.out.wt).mono ?_;rintro e wp ⟨Ap,cp,rfl,hownp,hbp⟩;have hHn:=(⟨aj.below hHeld.1 hbp hHeld.1.lt,aj.below hHeld.2 hbp hHeld.2.lt⟩:_∧_);have hAd2:=hAd.below hbp;have hSd2:=hSd.trans (g8.of_below hbp (IE hAd.lt));have h8:=eR b.wt;have HBp:Hid (BS wp wp.heap.size Ap (dK b.wt)):=by
  rw[←h8] at hownp;exact (BS.of_own hownp).1
 clear hAd hSd hownp hbp;have hAd:=hAd2;have hSd:=hSd2;clear hAd2 hSd2
 go_wp2_with fail
 refine hK.out _ _ hHn (fun hHeld=>?_);clear hK K hHn
 try (simp only[II,IB,Iz,IA,qq,IC,ID])
 refine wpAnyH_ready (rs:=[5]) (by kernel_rfl) (by simp) ?_;refine IR (i:=5) rfl (fun K hK=>?_) IS;go_simp
 refine (qL hAd Ap _ cp (dK b.wt) h8.symm HBp.out (by rw[h8];omega)).mono ?_;rintro e v6 ⟨rfl,H1,hs0⟩;have hs1:=hSd.trans hs0;have hHn:=(⟨hs0.blk hHeld.1 (by decide) hneX,hs0.blk hHeld.2 (by decide) hneY⟩:_∧_);clear hs0 hAd hbd hSd
 go_wp2_with fail
 refine hK.out _ _ hHn (fun hHeld=>?_);clear hK K hHn
 try (simp only[II,IB,Iz,IA,qq,IC,ID])
 refine wpAnyH_done (by kernel_rfl) ?_ _;refine IU ?_;clear hHeld;have HS2:=hid (HS.out.trans hs1);have HX2:=hid (hs1.blk HX.out (by decide) hneX);have HY2:=hid (hs1.blk HY.out (by decide) hneY);clear HS HX HY HA hs1;have HS:=HS2;have HX:=HX2;have HY:=HY2;clear HS2 HX2 HY2;obtain⟨l6,hl6⟩:∃x,x=l5++dK b.wt:=⟨_,rfl⟩;rw[←hl6] at H1;have n6:l6.length≤l5.length+8:=by rw[hl6,Iy];rw[eR];omega
 have Q6:=hid hl6;have HA:=hid H1;clear H1 hl6;have d0:v6.cell? ⟨w.heap.size,0,none⟩=some (.pointer (some ⟨g,0,none⟩)):=HX.out.cell 0;have d4:=mI HY.out hb.out
 go_wp2_with (first
   |((with_reducible refine aB 169 ?_);refine aa (by rfl) 169 (.tmp 2) rfl w.heap.size 0 rfl [.pointer (some ⟨g,0,none⟩)] _ (ag (cs:=[.pointer (some ⟨g,0,none⟩)]) HX.out) IK rfl mi ?_))
 refine (ni HA.out b.drain (by omega)).mono ?_;rintro e v7 ⟨rfl,H1,hs1⟩;have HS2:=hid (HS.out.trans hs1);have HX2:=hid (hs1.blk HX.out (by decide) hneX);have HY2:=hid (hs1.blk HY.out (by decide) hneY);clear HS HX HY HA hs1;have HS:=HS2;have HX:=HX2;have HY:=HY2;clear HS2 HX2 HY2;obtain⟨l7,hl7⟩:∃x,x=l6++ea b.drain:=⟨_,rfl⟩;rw[←hl7] at H1;have n7:l7.length≤l6.length+1:=by rw[hl7,Iy];rw[cP];omega
 have Q7:=hid hl7;have HA:=hid H1;clear H1 hl7
 go_wp2
 go_end0
 refine⟨rfl,?_,HS.out⟩;have he:l7=l++aD b:=by
  rw[Q7.out,Q6.out,Q5.out,Q4.out,Q3.out,Q2.out,Q1.out,HP.out];simp only[aD,bw,IJ]
 rw[←he];exact HA.out
theorem gx{b:aU}(h:au b)(hn:b.name.length≤1000):(aD b).length≤2000:=by
 have h1:=cZ (x:=b.name) (by omega);have h2:b.addr.2.length=16:=h.addr;have h3:=h.mac;simp only[aD,Iy,cP,az,eR];omega
theorem Dp{w:World}{g:Nat}{l:List UInt8}(h:xH w g l)(A:Option Addr)(c:Nat)(a:ca)(ha0:aA a)(hk:1≤a.kind∧a.kind≤4)(hop:a.kind=2→1≤a.op∧a.op≤5)(hp:0≤a.back.port∧a.back.port≤65535)(hn:a.back.name.length≤1000∧a.oname.length≤1000∧a.name.length≤1000∧a.frame.length≤200000)(hf:BS w g A a.frame)(hl:l.length≤100) :
  Calls IL 112 #[tf g,.agg (ak A a.frame.length c a).toArray] w (vE w g (l++ba a)):=by
 have ha:=hid ha0;obtain⟨hk0,hk1⟩:=hk;obtain⟨hn1,hn2,hn3,hn4⟩:=hn;obtain⟨K,hK⟩:∃K:Nat,K=a.kind.toNat:=⟨_,rfl⟩;have hKI:a.kind=(K:Int):=by omega
 have HK:=hid hK;have HKI:=hid hKI;have hKb:K≤4:=by omega
 have Hp:=hid hp;have Hop:=hid hop;have HF:=hid hf;unfold tf;clear ha0 hK hKI hk0 hk1 hp hop hf;obtain⟨W1,hW1⟩:∃W,W=w.alloc (.cells #[.pointer (some ⟨g,0,none⟩)] 169):=⟨_,rfl⟩;obtain⟨W,hW⟩:∃W,W=W1.alloc (.cells (ak A a.frame.length c a).toArray 60):=⟨_,rfl⟩;have hs1:W1.heap.size=w.heap.size+1:=by rw[hW1];simp
 have hX1:aj W1 w.heap.size 169 #[.pointer (some ⟨g,0,none⟩)]:=by rw[hW1];exact aj.new w _ _ _ rfl
 have HX:Hid (aj W w.heap.size 169 #[.pointer (some ⟨g,0,none⟩)]):=by rw[hW];exact aj.alloc hX1 _
 have HY:Hid (aj W (w.heap.size+1) 60 (ak A a.frame.length c a).toArray):=by rw[hW,←hs1];exact aj.new W1 _ _ _ rfl
 have hB:Below w.heap.size w W:=by rw[hW,hW1];exact ((Below.refl _ _).alloc (IN _) _).alloc (by simp) _
 have hgw:=h.lt;have hneX:w.heap.size≠g:=by omega
 have hneY:w.heap.size+1≠g:=by omega
 have HA:=hid (h.below hB);have HS:=hid (g8.of_below hB (IE hgw));have HW1:=hid hW1;have HW:=hid hW;clear hW1 hW hX1 hs1 h;have d0:W.cell? ⟨w.heap.size,0,none⟩=some (.pointer (some ⟨g,0,none⟩)):=HX.out.cell 0;have d1:W.cell? ⟨w.heap.size+1,0,none⟩=some (.int .i64 (K:Int)):=by rw[←HKI.out];exact fG HY.out
 go_enter Tryz.func112,Tryz.ntmps112
 go_upto_region 1 with fail
 rw[←HW1.out];rw[←HW.out];clear HW1 HW
 go_wp2_with fail
 refine (qm HA.out K 1 1 true rfl (by decide) (by decide) (by omega) (by omega)).mono ?_;rintro e v1 ⟨rfl,H1,hs1⟩;have HS2:=hid (HS.out.trans hs1);have HX2:=hid (hs1.blk HX.out (by decide) hneX);have HY2:=hid (hs1.blk HY.out (by decide) hneY);clear HS HX HY HA hs1;have HS:=HS2;have HX:=HX2;have HY:=HY2;clear HS2 HX2 HY2;obtain⟨l1,hl1⟩:∃x,x=l++bY 1 K true:=⟨_,rfl⟩;rw[←hl1] at H1;have n1:l1.length≤l.length+1:=by rw[hl1,Iy];rw[az];omega
 have Q1:=hid hl1;have HA:=hid H1;clear H1 hl1;clear d0 d1;have d1:v1.cell? ⟨w.heap.size+1,0,none⟩=some (.int .i64 (K:Int)):=by rw[←HKI.out];exact fG HY.out
 go_upto_region 3 with fail
 rcases k1:((K:Int)==1) with _|_
 rotate_left
 ·have d0:v1.cell? ⟨w.heap.size,0,none⟩=some (.pointer (some ⟨g,0,none⟩)):=HX.out.cell 0
  have d2:=fu HY.out;have HFr:BS v1 v1.heap.size A a.frame:=(HF.out.below HS.out.bel).more (IE HA.out.lt)
  go_wp2_with fail
  refine (rF HA.out A _ c a.frame rfl HFr (by omega)).mono ?_;rintro e v2 ⟨rfl,H1,hs1⟩;have HS2:=hid (HS.out.trans hs1);have HX2:=hid (hs1.blk HX.out (by decide) hneX);have HY2:=hid (hs1.blk HY.out (by decide) hneY);clear HS HX HY HA hs1;have HS:=HS2;have HX:=HX2;have HY:=HY2;clear HS2 HX2 HY2;obtain⟨l2,hl2⟩:∃x,x=l1++(aC a.frame.length++a.frame):=⟨_,rfl⟩;rw[←hl2] at H1;have n2:l2.length≤l1.length+(a.frame.length+10):=by rw[hl2,Iy];have:=cZ (x:=a.frame) (by omega);rw[bw] at this;omega
  have Q2:=hid hl2;have HA:=hid H1;clear H1 hl2;clear d0 d1 d2
  go_wp2
  go_end0
  refine⟨rfl,?_,HS.out⟩;have he:l2=l++ba a:=by
   rw[Q2.out,Q1.out,HK.out];unfold ba;rw[if_pos (by rw[HKI.out];simpa using k1)];simp only[bw,IJ,IP]
  rw[←he];exact HA.out
 rcases k2:((K:Int)==2) with _|_
 rotate_left
 ·obtain⟨P,hP⟩:∃P:Nat,P=a.op.toNat:=⟨_,rfl⟩
  have hop2:=Hop.out (by rw[HKI.out];simpa using k2);have hPI:a.op=(P:Int):=by omega
  have hPb:P≤5:=by omega
  have HP:=hid hP;have HPI:=hid hPI;clear hP hPI hop2;have d0:v1.cell? ⟨w.heap.size,0,none⟩=some (.pointer (some ⟨g,0,none⟩)):=HX.out.cell 0;have d3:v1.cell? ⟨w.heap.size+1,2,none⟩=some (.int .i64 (P:Int)):=by rw[←HPI.out];exact iF HY.out
  go_wp2_with fail
  refine (qm HA.out P 1 1 true rfl (by decide) (by decide) (by omega) (by omega)).mono ?_;rintro e v2 ⟨rfl,H1,hs1⟩;have HS2:=hid (HS.out.trans hs1);have HX2:=hid (hs1.blk HX.out (by decide) hneX);have HY2:=hid (hs1.blk HY.out (by decide) hneY);clear HS HX HY HA hs1;have HS:=HS2;have HX:=HX2;have HY:=HY2;clear HS2 HX2 HY2;obtain⟨l2,hl2⟩:∃x,x=l1++bY 1 P true:=⟨_,rfl⟩;rw[←hl2] at H1;have n2:l2.length≤l1.length+1:=by rw[hl2,Iy];rw[az];omega
  have Q2:=hid hl2;have HA:=hid H1;clear H1 hl2;clear d0 d1 d3;have d3:v2.cell? ⟨w.heap.size+1,2,none⟩=some (.int .i64 (P:Int)):=by rw[←HPI.out];exact iF HY.out
  rcases k3:((P:Int)==1) with _|_
  rotate_left
  ·have RB:=hid (iV HY.out ha.out)
   go_wp2_with (first
     |((with_reducible refine aB 169 ?_);refine aa (by rfl) 169 (.tmp 2) rfl w.heap.size 0 rfl [.pointer (some ⟨g,0,none⟩)] _ (ag (cs:=[.pointer (some ⟨g,0,none⟩)]) HX.out) IK rfl mi ?_)
     |((with_reducible refine aB 56 ?_);refine aa (by rfl) 56 (.tmp 34) rfl (w.heap.size+1) 3 rfl (ah a.back) _ RB.out IV rfl (cM ha.out.back) ?_))
   refine (tg HA.out a.back ha.out.back Hp.out (by omega) (by omega)).mono ?_;rintro e v3 ⟨rfl,H1,hs1⟩;have HS2:=hid (HS.out.trans hs1);have HX2:=hid (hs1.blk HX.out (by decide) hneX);have HY2:=hid (hs1.blk HY.out (by decide) hneY);clear HS HX HY HA hs1;have HS:=HS2;have HX:=HX2;have HY:=HY2;clear HS2 HX2 HY2;obtain⟨l3,hl3⟩:∃x,x=l2++aD a.back:=⟨_,rfl⟩;rw[←hl3] at H1;have n3:l3.length≤l2.length+2000:=by rw[hl3,Iy];have:=gx ha.out.back (by omega:a.back.name.length≤1000);omega
   have Q3:=hid hl3;have HA:=hid H1;clear H1 hl3;clear d3 RB
   go_wp2
   go_end0
   refine⟨rfl,?_,HS.out⟩;have he:l3=l++ba a:=by
    rw[Q3.out,Q2.out,Q1.out,HK.out];unfold ba;rw[if_neg (by rw[HKI.out];simpa using k1),if_pos (by rw[HKI.out];simpa using k2),if_pos (by rw[HPI.out];simpa using k3),HP.out];simp only[bw,IJ,IP]
   rw[←he];exact HA.out
  have d0:v2.cell? ⟨w.heap.size,0,none⟩=some (.pointer (some ⟨g,0,none⟩)):=HX.out.cell 0;have d2:=ed HY.out ha.out;have hcv:=ji v2 a.oname
  go_wp2_with fail
  have hbw:=eO v2 5 ⟨a.oname.toArray⟩;refine (rF (HA.out.below hbw) _ _ _ a.oname rfl (gw v2 5 a.oname) (by omega)).mono ?_;rintro e v3 ⟨rfl,H1,hs0⟩;have hs1:=(g8.of_below hbw (IE HA.out.lt)).trans hs0;clear hbw hs0 hcv d0 d2;have HS2:=hid (HS.out.trans hs1);have HX2:=hid (hs1.blk HX.out (by decide) hneX);have HY2:=hid (hs1.blk HY.out (by decide) hneY);clear HS HX HY HA hs1;have HS:=HS2;have HX:=HX2;have HY:=HY2;clear HS2 HX2 HY2;obtain⟨l3,hl3⟩:∃x,x=l2++(aC a.oname.length++a.oname):=⟨_,rfl⟩;rw[←hl3] at H1;have n3:l3.length≤l2.length+(a.oname.length+10):=by rw[hl3,Iy];have:=cZ (x:=a.oname) (by omega);rw[bw] at this;omega
  have Q3:=hid hl3;have HA:=hid H1;clear H1 hl3;clear d3;have d3:v3.cell? ⟨w.heap.size+1,2,none⟩=some (.int .i64 (P:Int)):=by rw[←HPI.out];exact iF HY.out
  rcases k5:((P:Int)==3) with _|_
  rotate_left
  ·go_upto_region 11 with fail
   have HXd:aj v3.drew w.heap.size 169 #[.pointer (some ⟨g,0,none⟩)]:=HX.out.drew;refine wp_region_noPanic ?_;refine wp_region_held_drew (S:=fun w'=>aj w' w.heap.size 169 #[.pointer (some ⟨g,0,none⟩)]∧aj w' (w.heap.size+1) 60 (ak A a.frame.length c a).toArray) (by kernel_rfl) ⟨HXd,HY.out.drew⟩ (fun hHeld=>?_);refine wpAnyH_take (i:=0) (v:=?_) rfl (by kernel_rfl) (by kernel_rfl) (by kernel_rfl) (fun _ _ _ h=>h) (IQ ⟨by rfl,?_⟩) hHeld ?_;rotate_left
   ·intro w' hSw
    skip
    go_simp
    try with_reducible rfl
   try (simp only[II,IB,Iz,IA,qq,IC,ID])
   refine wpAnyH_take (i:=1) (v:=?_) rfl (by kernel_rfl) (by kernel_rfl) (by kernel_rfl) (fun _ _ _ h=>h) (IQ ⟨by rfl,?_⟩) hHeld ?_;rotate_left
   ·intro w' hSw
    have e0:w'.cell? ⟨w.heap.size,0,none⟩=some (.pointer (some ⟨g,0,none⟩)):=hSw.1.cell 0;go_simp
    try with_reducible rfl
   try (simp only[II,IB,Iz,IA,qq,IC,ID])
   refine wpAnyH_take (i:=2) (v:=?_) rfl (by kernel_rfl) (by kernel_rfl) (by kernel_rfl) (fun _ _ _ h=>h) (IQ ⟨by rfl,?_⟩) hHeld ?_;rotate_left
   ·intro w' hSw
    skip
    go_simp
    try with_reducible rfl
   try (simp only[II,IB,Iz,IA,qq,IC,ID])
   refine wpAnyH_take (i:=3) (v:=?_) rfl (by kernel_rfl) (by kernel_rfl) (by kernel_rfl) (fun _ _ _ h=>h) (IQ ⟨by rfl,?_⟩) hHeld ?_;rotate_left
   ·intro w' hSw
    skip
    go_simp
    try with_reducible rfl
   try (simp only[II,IB,Iz,IA,qq,IC,ID])
   refine wpAnyH_take (i:=4) (v:=?_) rfl (by kernel_rfl) (by kernel_rfl) (by kernel_rfl) (fun _ _ _ h=>h) (IQ ⟨by rfl,?_⟩) hHeld ?_;rotate_left
   ·intro w' hSw
    have e0:=kt hSw.2 ha.out;go_simp
    try with_reducible rfl
   try (simp only[II,IB,Iz,IA,qq,IC,ID])
   generalize hwd:v3.drew=wd at hHeld ⊢
   have hbd:Below v3.heap.size v3 wd:=by rw[←hwd];exact (Below.refl _ _).drew
   have hAd:=HA.out.below hbd;have hSd:=g8.of_below hbd (IE HA.out.lt);clear hwd HXd;refine wpAnyH_ready (rs:=[5]) (by kernel_rfl) (by simp) ?_;refine IR (i:=5) rfl (fun K hK=>?_) IS;go_simp
   refine (vr a.owt _ ha.out.owt).mono ?_;rintro e wp ⟨Ap,cp,rfl,hownp,hbp⟩;have hHn:=(⟨aj.below hHeld.1 hbp hHeld.1.lt,aj.below hHeld.2 hbp hHeld.2.lt⟩:_∧_);have hAd2:=hAd.below hbp;have hSd2:=hSd.trans (g8.of_below hbp (IE hAd.lt));have h8:=eR a.owt;have HBp:Hid (BS wp wp.heap.size Ap (dK a.owt)):=by
    rw[←h8] at hownp;exact (BS.of_own hownp).1
   clear hAd hSd hownp hbp;have hAd:=hAd2;have hSd:=hSd2;clear hAd2 hSd2
   go_wp2_with fail
   refine hK.out _ _ hHn (fun hHeld=>?_);clear hK K hHn
   try (simp only[II,IB,Iz,IA,qq,IC,ID])
   refine wpAnyH_ready (rs:=[6]) (by kernel_rfl) (by simp) ?_;refine IR (i:=6) rfl (fun K hK=>?_) IS;go_simp
   refine (qL hAd Ap _ cp (dK a.owt) h8.symm HBp.out (by rw[h8];omega)).mono ?_;rintro e v4 ⟨rfl,H1,hs0⟩;have hs1:=hSd.trans hs0;have hHn:=(⟨hs0.blk hHeld.1 (by decide) hneX,hs0.blk hHeld.2 (by decide) hneY⟩:_∧_);clear hs0 hAd hbd hSd
   go_wp2_with fail
   refine hK.out _ _ hHn (fun hHeld=>?_);clear hK K hHn
   try (simp only[II,IB,Iz,IA,qq,IC,ID])
   refine wpAnyH_done (by kernel_rfl) ?_ _;refine IU ?_;clear hHeld;have HS2:=hid (HS.out.trans hs1);have HX2:=hid (hs1.blk HX.out (by decide) hneX);have HY2:=hid (hs1.blk HY.out (by decide) hneY);clear HS HX HY HA hs1;have HS:=HS2;have HX:=HX2;have HY:=HY2;clear HS2 HX2 HY2;obtain⟨l4,hl4⟩:∃x,x=l3++dK a.owt:=⟨_,rfl⟩;rw[←hl4] at H1;have n4:l4.length≤l3.length+8:=by rw[hl4,Iy];rw[eR];omega
   have Q4:=hid hl4;have HA:=hid H1;clear H1 hl4
   go_wp2
   go_end0
   refine⟨rfl,?_,HS.out⟩;have he:l4=l++ba a:=by
    rw[Q4.out,Q3.out,Q2.out,Q1.out,HK.out];unfold ba;rw[if_neg (by rw[HKI.out];simpa using k1),if_pos (by rw[HKI.out];simpa using k2),if_neg (by rw[HPI.out];simpa using k3),if_pos (by rw[HPI.out];simpa using k5),HP.out];simp only[bw,IJ,IP]
   rw[←he];exact HA.out
  go_wp2
  go_end0
  refine⟨rfl,?_,HS.out⟩;have he:l3=l++ba a:=by
   rw[Q3.out,Q2.out,Q1.out,HK.out];unfold ba;rw[if_neg (by rw[HKI.out];simpa using k1),if_pos (by rw[HKI.out];simpa using k2),if_neg (by rw[HPI.out];simpa using k3),if_neg (by rw[HPI.out];simpa using k5),HP.out];simp only[bw,IJ,IP]
  rw[←he];exact HA.out
 rcases k6:((K:Int)==3) with _|_
 rotate_left
 ·have d0:v1.cell? ⟨w.heap.size,0,none⟩=some (.pointer (some ⟨g,0,none⟩)):=HX.out.cell 0
  have d2:=fY HY.out ha.out;have hcv:=ji v1 a.name
  go_wp2_with fail
  have hbw:=eO v1 5 ⟨a.name.toArray⟩;refine (rF (HA.out.below hbw) _ _ _ a.name rfl (gw v1 5 a.name) (by omega)).mono ?_;rintro e v2 ⟨rfl,H1,hs0⟩;have hs1:=(g8.of_below hbw (IE HA.out.lt)).trans hs0;clear hbw hs0 hcv d0 d2;have HS2:=hid (HS.out.trans hs1);have HX2:=hid (hs1.blk HX.out (by decide) hneX);have HY2:=hid (hs1.blk HY.out (by decide) hneY);clear HS HX HY HA hs1;have HS:=HS2;have HX:=HX2;have HY:=HY2;clear HS2 HX2 HY2;obtain⟨l2,hl2⟩:∃x,x=l1++(aC a.name.length++a.name):=⟨_,rfl⟩;rw[←hl2] at H1;have n2:l2.length≤l1.length+(a.name.length+10):=by rw[hl2,Iy];have:=cZ (x:=a.name) (by omega);rw[bw] at this;omega
  have Q2:=hid hl2;have HA:=hid H1;clear H1 hl2;have d0:v2.cell? ⟨w.heap.size,0,none⟩=some (.pointer (some ⟨g,0,none⟩)):=HX.out.cell 0;have d2:=iq HY.out ha.out
  go_wp2_with (first
    |((with_reducible refine aB 169 ?_);refine aa (by rfl) 169 (.tmp 2) rfl w.heap.size 0 rfl [.pointer (some ⟨g,0,none⟩)] _ (ag (cs:=[.pointer (some ⟨g,0,none⟩)]) HX.out) IK rfl mi ?_))
  refine (ni HA.out a.well (by omega)).mono ?_;rintro e v3 ⟨rfl,H1,hs1⟩;have HS2:=hid (HS.out.trans hs1);have HX2:=hid (hs1.blk HX.out (by decide) hneX);have HY2:=hid (hs1.blk HY.out (by decide) hneY);clear HS HX HY HA hs1;have HS:=HS2;have HX:=HX2;have HY:=HY2;clear HS2 HX2 HY2;obtain⟨l3,hl3⟩:∃x,x=l2++ea a.well:=⟨_,rfl⟩;rw[←hl3] at H1;have n3:l3.length≤l2.length+1:=by rw[hl3,Iy];rw[cP];omega
  have Q3:=hid hl3;have HA:=hid H1;clear H1 hl3;clear d0 d1 d2
  go_wp2
  go_end0
  refine⟨rfl,?_,HS.out⟩;have he:l3=l++ba a:=by
   rw[Q3.out,Q2.out,Q1.out,HK.out];unfold ba;rw[if_neg (by rw[HKI.out];simpa using k1),if_neg (by rw[HKI.out];simpa using k2),if_pos (by rw[HKI.out];simpa using k6)];simp only[bw,IJ,IP]
  rw[←he];exact HA.out
 go_wp2
 go_end0
 refine⟨rfl,?_,HS.out⟩;have he:l1=l++ba a:=by
  rw[Q1.out,HK.out];unfold ba;rw[if_neg (by rw[HKI.out];simpa using k1),if_neg (by rw[HKI.out];simpa using k2),if_neg (by rw[HKI.out];simpa using k6)];simp only[bw,IJ,IP]
 rw[←he];exact HA.out
def bT(e:dI):List UInt8:=ba e.act++(bY 1 e.o.err.toNat true++(bY 1 e.o.reason.toNat true++(ea e.o.hit++(aC e.o.version.toNat++(bw e.o.name++(aC e.len.toNat++bY 4 e.sum false))))))
def ix(w:World)(r:Bool)(m:List UInt8)(x:Ending)(w':World):Prop :=
 Below w.heap.size w w'∧(r=false→x=.returned (.tuple #[.slice none 0 0,.int .i64 1])) ∧
  (r=true→∃A' c',x=.returned (.tuple #[.slice A' m.length c',.int .i64 0])∧w'.ownsRow w.heap.size 5 1 (.slice A' m.length c') m.length (ab m))
theorem F8{w:World}{g:Nat}{l:List UInt8}(h:xH w g l)(hl:l.length≤1048576) :
  Calls IL 117 #[.pointer (some ⟨g,0,none⟩)] w fun x w'=>∃A' c',x=.returned (.tuple #[.slice A' l.length c',.int .i64 0])∧w'.ownsRow w.heap.size 5 1 (.slice A' l.length c') l.length (ab l)∧Below w.heap.size w w':=by
 obtain⟨A,c,h⟩:=h;exact Bg g g A c 1048576 (l,0) w h (by simp only;omega)
theorem rG(b:aU)(hb0:au b)(w:World) :
  Calls IL 131 #[.agg (ah b).toArray] w (ix w (dM b) (aD b)):=by
 have hb:=hid hb0;clear hb0;obtain⟨W,hW⟩:∃W,W=w.alloc (.cells (ah b).toArray 56):=⟨_,rfl⟩;have HY:Hid (aj W w.heap.size 56 (ah b).toArray):=by rw[hW];exact aj.new w _ _ _ rfl
 have HB:Hid (Below w.heap.size w W):=by rw[hW];exact (Below.refl _ _).alloc (IN _) _
 have RB:=hid (ag HY.out);have HW:=hid hW;clear hW;go_enter Tryz.func131,Tryz.ntmps131
 go_upto_region 1 with fail
 rw[←HW.out];clear HW
 go_wp2_with (first
   |((with_reducible refine aB 56 ?_);refine aa (by rfl) 56 (.tmp 1) rfl w.heap.size 0 rfl (ah b) _ RB.out IV rfl (cM hb.out) ?_))
 refine (vD b hb.out W).mono ?_;rintro e w1 ⟨rfl,hb1⟩;have HY1:=hid (aj.below HY.out hb1 HY.out.lt);have HB1:Hid (Below w.heap.size w w1):=HB.out.trans (hb1.mono HB.out.size);clear HY RB HB hb1;have HY:=HY1;have HB:=HB1;clear HY1 HB1;rcases ht:dM b with _|_
 ·go_wp2
  go_ret2
  exact⟨HB.out,fun _=>rfl,fun h=>by rw[ht] at h;cases h⟩
 ·have Ht:=hid ht
  clear ht
  go_wp2_with fail
  refine (nP 1048576 w1 (by decide)).mono ?_;rintro e w2 ⟨rfl,hW2,hb2⟩;have HA2:Hid (xH w2 w1.heap.size []):=⟨none,0,hW2⟩;have HY2:=hid (aj.below HY.out hb2 HY.out.lt);have HB2:Hid (Below w.heap.size w w2):=HB.out.trans (hb2.mono HB.out.size);have hgw:w.heap.size<w1.heap.size:=HY.out.lt;obtain⟨g,hg⟩:∃g,g=w1.heap.size:=⟨_,rfl⟩;rw[←hg] at HA2 hgw ⊢;clear HY HB hb2 hW2 hg;obtain⟨w3,hw3⟩:∃W,W=w2.alloc (.cells #[.pointer (some ⟨g,0,none⟩)] 169):=⟨_,rfl⟩;have hb3:Below w2.heap.size w2 w3:=by rw[hw3];exact (Below.refl _ _).alloc (IN _) _
  have HX:Hid (aj w3 w2.heap.size 169 #[.pointer (some ⟨g,0,none⟩)]):=by rw[hw3];exact aj.new w2 _ _ _ rfl
  have HY3:=hid (aj.below HY2.out hb3 HY2.out.lt);have HA:=hid (HA2.out.below hb3);have HB:Hid (Below w.heap.size w w3):=HB2.out.trans (hb3.mono HB2.out.size);have HW3:=hid hw3;have hxg:w2.heap.size≠g:=by have:=HA2.out.lt;omega
  clear hw3 hb3 HA2 HY2 HB2;go_upto_region 4 with fail
  rw[←HW3.out];clear HW3;have RB:=hid (ag HY3.out);have RX:=hid (ag (cs:=[.pointer (some ⟨g,0,none⟩)]) HX.out);have Hn:Hid (b.name.length≤255∧0≤b.port∧b.port≤65535):=by
   have:=Ht.out;simp only[dM,IF,decide_eq_true_eq,bF] at this;exact this
  go_wp2_with (first
   |((with_reducible refine aB 169 ?_);refine aa (by rfl) 169 (.tmp 4) rfl w2.heap.size 0 rfl ([.pointer (some ⟨g,0,none⟩)]) _ RX.out IK rfl mi ?_)
   |((with_reducible refine aB 56 ?_);refine aa (by rfl) 56 (.tmp 1) rfl w.heap.size 0 rfl (ah b) _ RB.out IV rfl (cM hb.out) ?_))
  refine (tg HA.out b hb.out Hn.out.2 (by have:=Hn.out.1;omega) (by decide)).mono ?_;rintro e w4 ⟨rfl,h4,hs4⟩;have HX4:=hid (hs4.blk HX.out (by decide) hxg);have HB4:Hid (Below w.heap.size w w4):=HB.out.trans (hs4.bel.mono (IE hgw));have H4:=hid h4;have d0:w4.cell? ⟨w2.heap.size,0,none⟩=some (.pointer (some ⟨g,0,none⟩)):=HX4.out.cell 0;rw[IY] at H4;have hlen:=gx hb.out (by have:=Hn.out.1;omega:b.name.length≤1000);clear HX HY3 RB RX HB h4 hs4
  go_wp2_with fail
  refine (F8 H4.out (by omega)).mono ?_;rintro e w5 ⟨A',c',rfl,hown,hb5⟩;have hend:Below w.heap.size w w5:=HB4.out.trans (hb5.mono HB4.out.size);have hown2:=bP hown HB4.out.size
  go_wp2
  go_ret2
  exact⟨hend,(fun h=>by rw[Ht.out] at h;cases h),fun _=>⟨A',c',rfl,hown2⟩⟩
theorem gG{e:dI}(h:aP e)(hr:aG e=true):(bT e).length≤200000:=by
 simp only[aG,bj,dM,IF,decide_eq_true_eq,bF] at hr;obtain⟨⟨hk,_,_,hfr,hon,hnm,hbn,hbp⟩,he,hre,hv,hn,ho,hl⟩:=hr;have h1:=cZ (x:=e.act.frame) (by omega);have h2:=cZ (x:=e.act.oname) (by omega);have h3:=cZ (x:=e.act.name) (by omega);have h4:=cZ (x:=e.o.name) (by omega);have h5:=gx h.act.back (by omega);have h6:=aO (n:=e.o.version.toNat) (by omega);have h7:=aO (n:=e.len.toNat) (by omega);have ha:(ba e.act).length≤150000:=by
  unfold ba;rw[Iy,az];split
  ·omega
  ·split
   ·rw[Iy,az]
    split
    ·omega
    ·rw[Iy]
     split
     ·rw[eR];omega
     ·simp only[IZ];omega
   ·split
    ·rw[Iy,cP];omega
    ·simp only[IZ];omega
 simp only[bT,Iy,az,cP];omega
theorem Dq(A:Option Addr)(c:Nat)(A2:Option Addr)(c2:Nat)(e0:dI)(he0:aP e0)(w:World)(hf:BS w w.heap.size A e0.act.frame) :
  Calls IL 50 #[.agg (bh A e0.act.frame.length c A2 e0.o.out.length c2 e0).toArray] w (ix w (aG e0) (bT e0)):=by
 have ha:=hid he0;clear he0;obtain⟨W,hW⟩:∃W,W=w.alloc (.cells (bh A e0.act.frame.length c A2 e0.o.out.length c2 e0).toArray 65):=⟨_,rfl⟩;have HY:Hid (aj W w.heap.size 65 (bh A e0.act.frame.length c A2 e0.o.out.length c2 e0).toArray):=by rw[hW];exact aj.new w _ _ _ rfl
 have HB:Hid (Below w.heap.size w W):=by rw[hW];exact (Below.refl _ _).alloc (IN _) _
 have RB:=hid (ag HY.out);have HFw:=hid hf;have HW:=hid hW;clear hW hf;go_enter Tryz.func50,Tryz.ntmps50
 go_upto_region 1 with fail
 rw[←HW.out];clear HW
 go_wp2_with (first
  |((with_reducible refine aB 65 ?_);refine aa (by rfl) 65 (.tmp 1) rfl w.heap.size 0 rfl (bh A e0.act.frame.length c A2 e0.o.out.length c2 e0) _ RB.out Tryz.underlying65 rfl (ll ha.out) ?_))
 refine (og A c A2 c2 e0 ha.out W ((HFw.out.below HB.out).more HB.out.size)).mono ?_;rintro e w1 ⟨rfl,hb1⟩;have HY1:=hid (aj.below HY.out hb1 HY.out.lt);have HB1:Hid (Below w.heap.size w w1):=HB.out.trans (hb1.mono HB.out.size);clear HY RB HB hb1;have HY:=HY1;have HB:=HB1;clear HY1 HB1;rcases ht:aG e0 with _|_
 ·go_wp2
  go_ret2
  exact⟨HB.out,fun _=>rfl,fun h=>by rw[ht] at h;cases h⟩
 ·have Ht:=hid ht
  have hlenE:=gG ha.out ht;clear ht
  go_wp2_with fail
  refine (nP 1048576 w1 (by decide)).mono ?_;rintro e w2 ⟨rfl,hW2,hb2⟩;have HA2:Hid (xH w2 w1.heap.size []):=⟨none,0,hW2⟩;have HY2:=hid (aj.below HY.out hb2 HY.out.lt);have HB2:Hid (Below w.heap.size w w2):=HB.out.trans (hb2.mono HB.out.size);have hgw:w.heap.size<w1.heap.size:=HY.out.lt;obtain⟨g,hg⟩:∃g,g=w1.heap.size:=⟨_,rfl⟩;rw[←hg] at HA2 hgw ⊢;clear HY HB hb2 hW2 hg;obtain⟨w3,hw3⟩:∃W,W=w2.alloc (.cells #[.pointer (some ⟨g,0,none⟩)] 169):=⟨_,rfl⟩;have hb3:Below w2.heap.size w2 w3:=by rw[hw3];exact (Below.refl _ _).alloc (IN _) _
  obtain⟨bx,hbx⟩:∃z,z=w2.heap.size:=⟨_,rfl⟩;have HX:Hid (aj w3 w2.heap.size 169 #[.pointer (some ⟨g,0,none⟩)]):=by rw[hw3];exact aj.new w2 _ _ _ rfl
  have HY3:=hid (aj.below HY2.out hb3 HY2.out.lt);have HA:=hid (HA2.out.below hb3);have HB:Hid (Below w.heap.size w w3):=HB2.out.trans (hb3.mono HB2.out.size);have HW3:=hid hw3;have hxg:w2.heap.size≠g:=by have:=HA2.out.lt;omega
  clear hw3 hb3 HA2 HY2 HB2;go_upto_region 4 with fail
  rw[←HW3.out];rw[←hbx] at HX hxg ⊢;clear HW3 hbx;have hyg:w.heap.size≠g:=by omega
  have RA:=hid (ob HY3.out ha.out);have RX:=hid (ag (cs:=[.pointer (some ⟨g,0,none⟩)]) HX.out);have hr:=Ht.out;simp only[aG,bj,dM,IF,decide_eq_true_eq,bF] at hr;obtain⟨⟨hk,hop,_,hfr,hon,hnm,hbn,hbp⟩,hee,hre,hvv,hnn,hoo,hll⟩:=hr;have hop2:e0.act.kind=2→1≤e0.act.op∧e0.act.op≤5:=fun h=>by
   rw[h] at hop;simpa[bF] using hop
  have HF3:BS w3 g A e0.act.frame:=(HFw.out.below HB.out).more (IE hgw);have hc:=hid (Dp HA.out A c e0.act ha.out.act hk hop2 hbp ⟨by omega,by omega,by omega,by omega⟩ HF3 (by decide));obtain⟨E,hE⟩:∃E:Nat,E=e0.o.err.toNat:=⟨_,rfl⟩;obtain⟨Rr,hR⟩:∃E:Nat,E=e0.o.reason.toNat:=⟨_,rfl⟩;obtain⟨V,hV⟩:∃E:Nat,E=e0.o.version.toNat:=⟨_,rfl⟩;obtain⟨Ln,hLn⟩:∃E:Nat,E=e0.len.toNat:=⟨_,rfl⟩;have HEI:Hid (e0.o.err=(E:Int)):=by show _=_;omega
  have HRI:Hid (e0.o.reason=(Rr:Int)):=by show _=_;omega
  have HVI:Hid (e0.o.version=(V:Int)):=by show _=_;omega
  have HLI:Hid (e0.len=(Ln:Int)):=by show _=_;omega
  have hEb:E≤9:=by omega
  have hRb:Rr≤10:=by omega
  have hVb:V≤1099511627776:=by omega
  have hLb:Ln≤262144:=by omega
  have hSb:=ha.out.sum;have Hev:Hid (bT e0=ba e0.act++(bY 1 E true++(bY 1 Rr true++(ea e0.o.hit++(aC V++(bw e0.o.name++(aC Ln++bY 4 e0.sum false))))))):=by
   show _=_
   rw[bT,hE,hR,hV,hLn]
  have hab:(ba e0.act).length≤200000:=by
   have:=congrArg List.length Hev.out;rw[Iy] at this;omega
  clear hE hR hV hLn hk hop hop2 hbp hee hre hvv hll HF3 hfr hon hnm hbn hoo HFw
  go_wp2_with (first
   |((with_reducible refine aB 169 ?_);refine aa (by rfl) 169 (.tmp 4) rfl bx 0 rfl ([.pointer (some ⟨g,0,none⟩)]) _ RX.out IK rfl mi ?_)
   |((with_reducible refine aB 60 ?_);refine aa (by rfl) 60 (.tmp 12) rfl w.heap.size 0 rfl (ak A e0.act.frame.length c e0.act) _ RA.out Tryz.underlying60 rfl (bv ha.out.act) ?_))
  refine hc.out.mono ?_;rintro e w4 ⟨rfl,h4,hs4⟩;rw[IY] at h4;have HX4:=hid (hs4.blk HX.out (by decide) hxg);have HY4:=hid (hs4.blk HY3.out (by decide) hyg);have HB4:Hid (Below w.heap.size w w4):=HB.out.trans (hs4.bel.mono (IE hgw));have H4:=hid h4;clear HX HY3 RA RX HB HA hc h4 hs4 hxg;obtain⟨x1,hx1⟩:∃Z,Z=w4.alloc (.cells (cD none 0 0 qz).toArray 62):=⟨_,rfl⟩;obtain⟨W5,hy1⟩:∃Z,Z=x1.setCells w4.heap.size 0 (cD A2 e0.o.out.length c2 e0.o):=⟨_,rfl⟩;obtain⟨htx,hbx,hex⟩:=jE w4 x1 W5 62 (cD none 0 0 qz) (cD A2 e0.o.out.length c2 e0.o) rfl hx1 hy1;rw[mJ] at hx1;have Qx:=hid hx1;have Qy:=hid hy1;have Tx:=hid htx;have HP:=hid hbx;have HX:=hid (aj.below HX4.out hex HX4.out.lt);have HY:=hid (aj.below HY4.out hex HY4.out.lt);have HA:=hid (H4.out.below hex);have HB:Hid (Below w.heap.size w W5):=HB4.out.trans (hex.mono HB4.out.size);have hpg:w4.heap.size≠g:=by have:=H4.out.lt;omega
  have hxg:bx≠g:=fun e=>aj.ne HX4.out (H4.out.choose_spec.choose_spec.1) (by decide) e
  have RO:=hid (pV HY4.out ha.out);clear hx1 hy1 htx hbx hex HX4 HY4 H4 HB4;go_upto_region 6 with (first
   |((with_reducible refine aB 62 ?_);refine aa (by rfl) 62 (.tmp 15) rfl w.heap.size 34 rfl (cD A2 e0.o.out.length c2 e0.o) _ RO.out Tryz.underlying62 rfl jN ?_)
   |(rw[←Qx.out];(with_reducible refine aR 62 ?_);refine wpList_store_mid rfl 62 (.tmp 5) (.tmp 16) rfl w4.heap.size 0 (cD A2 e0.o.out.length c2 e0.o).toArray rfl rfl Tx.out jN (lP _ _ _ _) ?_))
  rw[←Qy.out];clear Qx Qy Tx RO;obtain⟨bp,hbp⟩:∃z,z=w4.heap.size:=⟨_,rfl⟩;rw[←hbp] at HP hpg ⊢;clear hbp;have d0:W5.cell? ⟨bx,0,none⟩=some (.pointer (some ⟨g,0,none⟩)):=HX.out.cell 0;have d1:W5.cell? ⟨bp,0,none⟩=some (.int .i64 (E:Int)):=by rw[←HEI.out];exact jf HP.out
  go_wp2_with fail
  refine (qm HA.out E 1 1 true rfl (by decide) (by decide) (by omega) (by omega)).mono ?_;rintro e v1 ⟨rfl,H1,hs1⟩;have HX2:=hid (hs1.blk HX.out (by decide) hxg);have HY2:=hid (hs1.blk HY.out (by decide) hyg);have HP2:=hid (hs1.blk HP.out (by decide) hpg);have HB2:Hid (Below w.heap.size w v1):=HB.out.trans (hs1.bel.mono (IE hgw));clear HX HY HP HB HA hs1;have HX:=HX2;have HY:=HY2;have HP:=HP2;have HB:=HB2;clear HX2 HY2 HP2 HB2;obtain⟨l1,hl1⟩:∃x,x=(ba e0.act)++bY 1 E true:=⟨_,rfl⟩;rw[←hl1] at H1;have n1:l1.length≤(ba e0.act).length+1:=by rw[hl1,Iy];rw[az];omega
  have Q1:=hid hl1;have HA:=hid H1;clear H1 hl1;clear d0 d1;have d0:v1.cell? ⟨bx,0,none⟩=some (.pointer (some ⟨g,0,none⟩)):=HX.out.cell 0;have d1:v1.cell? ⟨bp,1,none⟩=some (.int .i64 (Rr:Int)):=by rw[←HRI.out];exact eN HP.out
  go_wp2_with fail
  refine (qm HA.out Rr 1 1 true rfl (by decide) (by decide) (by omega) (by omega)).mono ?_;rintro e v2 ⟨rfl,H1,hs1⟩;have HX2:=hid (hs1.blk HX.out (by decide) hxg);have HY2:=hid (hs1.blk HY.out (by decide) hyg);have HP2:=hid (hs1.blk HP.out (by decide) hpg);have HB2:Hid (Below w.heap.size w v2):=HB.out.trans (hs1.bel.mono (IE hgw));clear HX HY HP HB HA hs1;have HX:=HX2;have HY:=HY2;have HP:=HP2;have HB:=HB2;clear HX2 HY2 HP2 HB2;obtain⟨l2,hl2⟩:∃x,x=l1++bY 1 Rr true:=⟨_,rfl⟩;rw[←hl2] at H1;have n2:l2.length≤l1.length+1:=by rw[hl2,Iy];rw[az];omega
  have Q2:=hid hl2;have HA:=hid H1;clear H1 hl2;clear d0 d1;have RX:=hid (ag (cs:=[.pointer (some ⟨g,0,none⟩)]) HX.out);have d0:v2.cell? ⟨bx,0,none⟩=some (.pointer (some ⟨g,0,none⟩)):=HX.out.cell 0;have d1:=uk HP.out
  go_wp2_with (first
    |((with_reducible refine aB 169 ?_);refine aa (by rfl) 169 (.tmp 4) rfl bx 0 rfl ([.pointer (some ⟨g,0,none⟩)]) _ RX.out IK rfl mi ?_))
  refine (ni HA.out e0.o.hit (by omega)).mono ?_;rintro e v3 ⟨rfl,H1,hs1⟩;have HX2:=hid (hs1.blk HX.out (by decide) hxg);have HY2:=hid (hs1.blk HY.out (by decide) hyg);have HP2:=hid (hs1.blk HP.out (by decide) hpg);have HB2:Hid (Below w.heap.size w v3):=HB.out.trans (hs1.bel.mono (IE hgw));clear HX HY HP HB HA hs1;have HX:=HX2;have HY:=HY2;have HP:=HP2;have HB:=HB2;clear HX2 HY2 HP2 HB2;obtain⟨l3,hl3⟩:∃x,x=l2++ea e0.o.hit:=⟨_,rfl⟩;rw[←hl3] at H1;have n3:l3.length≤l2.length+1:=by rw[hl3,Iy];rw[cP];omega
  have Q3:=hid hl3;have HA:=hid H1;clear H1 hl3;clear d0 d1 RX;have d0:v3.cell? ⟨bx,0,none⟩=some (.pointer (some ⟨g,0,none⟩)):=HX.out.cell 0;have d1:v3.cell? ⟨bp,3,none⟩=some (.int .i64 (V:Int)):=by rw[←HVI.out];exact dZ HP.out
  go_wp2_with fail
  refine (FZ HA.out V (by omega) (by omega)).mono ?_;rintro e v4 ⟨rfl,H1,hs1⟩;have HX2:=hid (hs1.blk HX.out (by decide) hxg);have HY2:=hid (hs1.blk HY.out (by decide) hyg);have HP2:=hid (hs1.blk HP.out (by decide) hpg);have HB2:Hid (Below w.heap.size w v4):=HB.out.trans (hs1.bel.mono (IE hgw));clear HX HY HP HB HA hs1;have HX:=HX2;have HY:=HY2;have HP:=HP2;have HB:=HB2;clear HX2 HY2 HP2 HB2;obtain⟨l4,hl4⟩:∃x,x=l3++aC V:=⟨_,rfl⟩;rw[←hl4] at H1;have n4:l4.length≤l3.length+10:=by rw[hl4,Iy];have:=aO (n:=V) (by omega);omega
  have Q4:=hid hl4;have HA:=hid H1;clear H1 hl4;clear d0 d1;have d0:v4.cell? ⟨bx,0,none⟩=some (.pointer (some ⟨g,0,none⟩)):=HX.out.cell 0;have d1:=gW HP.out;have hcv:=ji v4 e0.o.name
  go_wp2_with fail
  have hbw:=eO v4 5 ⟨e0.o.name.toArray⟩;refine (rF (HA.out.below hbw) _ _ _ e0.o.name rfl (gw v4 5 e0.o.name) (by omega)).mono ?_;rintro e v5 ⟨rfl,H1,hs0⟩;have hs1:=(g8.of_below hbw (IE HA.out.lt)).trans hs0;clear hbw hs0 hcv d0 d1;have HX2:=hid (hs1.blk HX.out (by decide) hxg);have HY2:=hid (hs1.blk HY.out (by decide) hyg);have HP2:=hid (hs1.blk HP.out (by decide) hpg);have HB2:Hid (Below w.heap.size w v5):=HB.out.trans (hs1.bel.mono (IE hgw));clear HX HY HP HB HA hs1;have HX:=HX2;have HY:=HY2;have HP:=HP2;have HB:=HB2;clear HX2 HY2 HP2 HB2;obtain⟨l5,hl5⟩:∃x,x=l4++(aC e0.o.name.length++e0.o.name):=⟨_,rfl⟩;rw[←hl5] at H1;have n5:l5.length≤l4.length+(e0.o.name.length+10):=by rw[hl5,Iy];have:=cZ (x:=e0.o.name) (by omega);rw[bw] at this;omega
  have Q5:=hid hl5;have HA:=hid H1;clear H1 hl5;have d0:v5.cell? ⟨bx,0,none⟩=some (.pointer (some ⟨g,0,none⟩)):=HX.out.cell 0;have d1:v5.cell? ⟨w.heap.size,40,none⟩=some (.int .i64 (Ln:Int)):=by rw[←HLI.out];exact je HY.out ha.out
  go_wp2_with fail
  refine (FZ HA.out Ln (by omega) (by omega)).mono ?_;rintro e v6 ⟨rfl,H1,hs1⟩;have HX2:=hid (hs1.blk HX.out (by decide) hxg);have HY2:=hid (hs1.blk HY.out (by decide) hyg);have HP2:=hid (hs1.blk HP.out (by decide) hpg);have HB2:Hid (Below w.heap.size w v6):=HB.out.trans (hs1.bel.mono (IE hgw));clear HX HY HP HB HA hs1;have HX:=HX2;have HY:=HY2;have HP:=HP2;have HB:=HB2;clear HX2 HY2 HP2 HB2;obtain⟨l6,hl6⟩:∃x,x=l5++aC Ln:=⟨_,rfl⟩;rw[←hl6] at H1;have n6:l6.length≤l5.length+10:=by rw[hl6,Iy];have:=aO (n:=Ln) (by omega);omega
  have Q6:=hid hl6;have HA:=hid H1;clear H1 hl6;clear d0 d1;have d0:v6.cell? ⟨bx,0,none⟩=some (.pointer (some ⟨g,0,none⟩)):=HX.out.cell 0;have d1:=ui HY.out ha.out
  go_wp2_with fail
  refine (qm HA.out e0.sum 4 4 false rfl (by decide) (by decide) (by omega) (by omega)).mono ?_;rintro e v7 ⟨rfl,H1,hs1⟩;have HX2:=hid (hs1.blk HX.out (by decide) hxg);have HY2:=hid (hs1.blk HY.out (by decide) hyg);have HP2:=hid (hs1.blk HP.out (by decide) hpg);have HB2:Hid (Below w.heap.size w v7):=HB.out.trans (hs1.bel.mono (IE hgw));clear HX HY HP HB HA hs1;have HX:=HX2;have HY:=HY2;have HP:=HP2;have HB:=HB2;clear HX2 HY2 HP2 HB2;obtain⟨l7,hl7⟩:∃x,x=l6++bY 4 e0.sum false:=⟨_,rfl⟩;rw[←hl7] at H1;have n7:l7.length≤l6.length+4:=by rw[hl7,Iy];rw[az];omega
  have Q7:=hid hl7;have HA:=hid H1;clear H1 hl7;clear d0 d1;have d0:v7.cell? ⟨bx,0,none⟩=some (.pointer (some ⟨g,0,none⟩)):=HX.out.cell 0;have he:l7=bT e0:=by
   rw[Q7.out,Q6.out,Q5.out,Q4.out,Q3.out,Q2.out,Q1.out,Hev.out];simp only[bw,IJ]
  rw[he] at HA
  go_wp2_with fail
  refine (F8 HA.out (by omega)).mono ?_;rintro e w9 ⟨A',c',rfl,hown,hb5⟩;have hend:Below w.heap.size w w9:=HB.out.trans (hb5.mono HB.out.size);have hown2:=bP hown HB.out.size
  go_wp2
  go_ret2
  exact⟨hend,(fun h=>by rw[Ht.out] at h;cases h),fun _=>⟨A',c',rfl,hown2⟩⟩
def eZ(n:Nat):Bool:=(decide (97≤n)&&decide (n≤122))||(decide (48≤n)&&decide (n≤57))||decide (n=45)||decide (n=46)
def gy(l:List UInt8):Bool:=l.all (fun c=>eZ c.toNat)&&decide (1≤l.length)&&decide (l.length≤24)
theorem rH(l:List UInt8)(hl:l.length≤1000000000)(w:World) :
  Calls IL 169 #[.string ⟨l.toArray⟩] w fun e w'=>e=.returned (.bool (gy l))∧Below w.heap.size w w':=by
 have hcv:=ji w l;have hbw:=eO w 5 ⟨l.toArray⟩;have hbs:=gw w 5 l;go_enter Tryz.func169,Tryz.ntmps169
 go_wp2_with fail
 obtain⟨v,hv⟩:∃v,v=IT w 5 ⟨l.toArray⟩:=⟨_,rfl⟩;rw[←hv] at hbw hbs ⊢;have Hbw:=hid hbw;have Hbs:=hid hbs;clear hcv hbw hbs hv;go_loopw [8] (fun i wr=>∃k:Nat,k≤l.length∧i=.int .i64 (k:Int)∧Hid (Below v.heap.size v wr)∧Hid (∀j (hj:j<l.length),j<k→eZ l[j].toNat=true)) (fun i _=>l.length-(intOf i).toNat)
 case atStart=>exact⟨0,by omega,rfl,Below.refl _ _,fun j hj h=>by omega⟩
 case round =>
  obtain⟨k,hk,rfl,hbel,hat⟩:=hrel;rename World=>wr
  by_cases hlt:k<l.length
  ·have hltI:(k:Int)<(l.length:Int):=by omega
   have hk0:(0:Int)≤(k:Int):=by omega
   obtain⟨ad,hA,hadb,hcell⟩:=(Hbs.out.below hbel.out).at_ hlt;injection hA with hA
   subst hA;obtain⟨n,hn⟩:∃n,n=l[k].toNat:=⟨_,rfl⟩;rw[←hn,show (⟨w.heap.size,0,none⟩:Addr).add k=⟨w.heap.size,k,none⟩ by unfold Addr.add;split<;>simp_all] at hcell;have Hn:=hid hn;have hn2:n<256:=by rw[hn];exact l[k].toNat_lt
   have Hat2:Hid (eZ n=true→∀j (hj:j<l.length),j<k+1→eZ l[j].toNat=true):=fun h j hj hjk=>by
    by_cases e:j=k
    ·subst e;rw[←Hn.out];exact h
    ·exact hat.out j hj (by omega)
   have Hbad:Hid (eZ n=false→gy l=false):=fun h=>by
    have this:l.all (fun c=>eZ c.toNat)=false:=by
     rw[←Bool.not_eq_true,IX];intro hall;have:=hall l[k] (List.getElem_mem hlt);rw[←Hn.out,h] at this;cases this
    unfold gy;rw[this];rfl
   clear hn hat hadb;by_cases a1:n<97
   ·by_cases a2:n<48
    ·by_cases a3:n=45
     ·rw[show (n:Int)=45 by omega] at hcell
      have Hc:Hid (eZ n=true):=by show _=_;simp only[eZ,IM,IF,decide_eq_true_eq,IH,IG,decide_eq_false_iff_not];omega
      go_wp2_with fail
      first
       |(go_roundw;exact⟨k+1,by omega,by go_num,hbel,hid (Hat2.out Hc.out)⟩;simp[intOf];omega)
       |exact⟨⟨k+1,by omega,by go_num,hbel,hid (Hat2.out Hc.out)⟩,by simp[intOf];omega⟩
     ·by_cases a4:n=46
      ·rw[show (n:Int)=46 by omega] at hcell
       have Hc:Hid (eZ n=true):=by show _=_;simp only[eZ,IM,IF,decide_eq_true_eq,IH,IG,decide_eq_false_iff_not];omega
       go_wp2_with fail
       first
        |(go_roundw;exact⟨k+1,by omega,by go_num,hbel,hid (Hat2.out Hc.out)⟩;simp[intOf];omega)
        |exact⟨⟨k+1,by omega,by go_num,hbel,hid (Hat2.out Hc.out)⟩,by simp[intOf];omega⟩
      ·skip
       have:(n:Int)<97:=by omega
       have:(n:Int)<48:=by omega
       have:((n:Int) != 45)=true:=by simp;omega
       have:((n:Int) != 46)=true:=by simp;omega
       have Hc:Hid (eZ n=false):=by show _=_;simp only[eZ,IM,IF,decide_eq_true_eq,IH,IG,decide_eq_false_iff_not];omega
       go_wp2_with fail
       go_ret
       exact⟨by rw[Hbad.out Hc.out];rfl,Hbw.out.trans (hbel.out.mono Hbw.out.size)⟩
    ·by_cases a3:n≤57
     ·skip
      have:(n:Int)<97:=by omega
      have:¬(n:Int)<48:=by omega
      have:¬(57:Int)<(n:Int):=by omega
      have Hc:Hid (eZ n=true):=by show _=_;simp only[eZ,IM,IF,decide_eq_true_eq,IH,IG,decide_eq_false_iff_not];omega
      go_wp2_with fail
      first
       |(go_roundw;exact⟨k+1,by omega,by go_num,hbel,hid (Hat2.out Hc.out)⟩;simp[intOf];omega)
       |exact⟨⟨k+1,by omega,by go_num,hbel,hid (Hat2.out Hc.out)⟩,by simp[intOf];omega⟩
     ·skip
      have:(n:Int)<97:=by omega
      have:¬(n:Int)<48:=by omega
      have:(57:Int)<(n:Int):=by omega
      have:((n:Int) != 45)=true:=by simp;omega
      have:((n:Int) != 46)=true:=by simp;omega
      have Hc:Hid (eZ n=false):=by show _=_;simp only[eZ,IM,IF,decide_eq_true_eq,IH,IG,decide_eq_false_iff_not];omega
      go_wp2_with fail
      go_ret
      exact⟨by rw[Hbad.out Hc.out];rfl,Hbw.out.trans (hbel.out.mono Hbw.out.size)⟩
   ·by_cases a2:n≤122
    ·skip
     have:¬(n:Int)<97:=by omega
     have:¬(122:Int)<(n:Int):=by omega
     have Hc:Hid (eZ n=true):=by show _=_;simp only[eZ,IM,IF,decide_eq_true_eq,IH,IG,decide_eq_false_iff_not];omega
     go_wp2_with fail
     first
      |(go_roundw;exact⟨k+1,by omega,by go_num,hbel,hid (Hat2.out Hc.out)⟩;simp[intOf];omega)
      |exact⟨⟨k+1,by omega,by go_num,hbel,hid (Hat2.out Hc.out)⟩,by simp[intOf];omega⟩
    ·skip
     have:¬(n:Int)<97:=by omega
     have:(122:Int)<(n:Int):=by omega
     have:¬(n:Int)<48:=by omega
     have:(57:Int)<(n:Int):=by omega
     have:((n:Int) != 45)=true:=by simp;omega
     have:((n:Int) != 46)=true:=by simp;omega
     have Hc:Hid (eZ n=false):=by show _=_;simp only[eZ,IM,IF,decide_eq_true_eq,IH,IG,decide_eq_false_iff_not];omega
     go_wp2_with fail
     go_ret
     exact⟨by rw[Hbad.out Hc.out];rfl,Hbw.out.trans (hbel.out.mono Hbw.out.size)⟩
  ·have hltI:¬(k:Int)<(l.length:Int):=by omega
   have Hall:Hid (l.all (fun c=>eZ c.toNat)=true):=by
    show _=_
    rw[IX];intro c hc;obtain⟨j,hj,rfl⟩:=List.getElem_of_mem hc;exact hat.out j hj (by omega)
   by_cases b1:1≤l.length
   ·have f1:(1:Int)≤(l.length:Int):=by omega
    have f2:(0:Int)<(l.length:Int):=by omega
    have f3:0<l.length:=by omega
    have f4:l≠[]:=by intro e;rw[e] at b1;simp at b1
    have Hr:Hid (gy l=decide ((l.length:Int)≤24)):=by
     show _=_;unfold gy;rw[Hall.out,decide_eq_true b1,I0,I0]
     exact decide_eq_decide.2 ⟨fun h=>by omega,fun h=>by omega⟩
    go_wp2_with fail
    go_ret
    exact⟨by rw[Hr.out];rfl,Hbw.out.trans (hbel.out.mono Hbw.out.size)⟩
   ·have f1:¬(1:Int)≤(l.length:Int):=by omega
    have f3:l.length=0:=by omega
    have f4:l=[]:=List.eq_nil_of_length_eq_zero f3;have Hr:Hid (gy l=false):=by show _=_;unfold gy;rw[Hall.out,decide_eq_false b1];rfl
    clear f3 f4
    go_wp2_with fail
    go_ret
    exact⟨by rw[Hr.out];rfl,Hbw.out.trans (hbel.out.mono Hbw.out.size)⟩
