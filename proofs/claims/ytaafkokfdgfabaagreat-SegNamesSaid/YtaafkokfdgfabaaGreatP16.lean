import Derived.Test.YtaafkokfdgfabaaGreatP13
import Derived.Test.YtaafkokfdgfabaaGreatP14
import Derived.Test.YtaafkokfdgfabaaGreatP15
import Derived.Lib.ConvBytes
import Derived.Deep.RegionHeld3
set_option maxHeartbeats 8000000
namespace Go.Proofs.YtaafkokfdgfabaaGreat
open Go.RowKit
set_option linter.unusedVariables false
set_option linter.unusedSimpArgs false
def ul (w:World) (g:Nat) (l:List UInt8):Prop:=∃ A c,wP w g g A c 1048576 (l,0)
structure fG (w w':World) (g:Nat):Prop where
 bel:Below g w w'
 size:w.heap.size≤w'.heap.size
 blk:∀ {k:Nat} {t:TypeId} {cs:Array Value},ah w k t cs→t≠5→k≠g→ah w' k t cs
theorem fG.trans {a b c:World} {g:Nat} (h:fG a b g) (k:fG b c g):fG a c g :=
 ⟨h.bel.trans k.bel,Nat.le_trans h.size k.size,fun hb ht hk=>k.blk (h.blk hb ht hk) ht hk⟩
theorem fG.of_below {w w':World} {g:Nat} (h:Below w.heap.size w w') (hg:g≤w.heap.size):fG w w' g :=
 ⟨h.mono hg,h.size,fun hb _ _=>ah.below hb h hb.lt⟩
theorem fG.refl (w:World) (g:Nat):fG w w g:=⟨Below.refl _ _,Nat.le_refl _,fun hb _ _=>hb⟩
theorem ul.below {w w':World} {g:Nat} {l:List UInt8} (h:ul w g l) (hb:Below w.heap.size w w'):ul w' g l:=by
 obtain ⟨A,c,h⟩:=h;exact ⟨A,c,wP.below h hb⟩
theorem ul.lt {w:World} {g:Nat} {l:List UInt8} (h:ul w g l):g<w.heap.size:=by
 obtain ⟨A,c,h⟩:=h;exact h.1.lt
theorem jz (A:Option Addr) (n c:Nat):(Value.slice A n c).ownBlock=(Value.slice A 0 0).ownBlock:=by cases A <;> rfl
def sS (w:World) (g:Nat) (l:List UInt8) (e:Ending) (w':World):Prop:=e=.returned (.tuple #[])∧ul w' g l∧fG w w' g
theorem CF {w w':World} {g:Nat} {A:Option Addr} {c:Nat} {s:uk} {l:List UInt8} {s':uk} {x:Ending} (h:wP w g g A c 1048576 s) (hi:gm w g g A 1048576 s' x w') (hs:s'=(l,0)):sS w g l x w':=by
 subst hs;obtain ⟨rfl,A',c',hW,ho,_⟩:=hi;refine ⟨rfl,⟨A',c',hW⟩,⟨ho.below (Nat.le_refl _) (fun k hk=>?_) (Nat.le_of_lt h.1.lt),ho.2.2.2.1,fun {k t cs} hb ht hk=>ho.blk hb hk (fun e=>?_)⟩⟩
 ·exact (h.2.1.lt k (by rw [jz];exact hk)).1
 ·rcases aF h.2.1 hb ht with h1 | h1
  ·rw [jz] at h1
   rw [h1] at e;cases e
  ·rw [jz] at h1
   exact h1 e.symm
theorem ki {l b:List UInt8} (h:l.length + b.length≤1048576):fV 1048576 (l,0) b=(l ++ b,0):=by
 unfold fV;rw [if_neg (by simp),if_neg (by simp only;omega)]
theorem oe {w:World} {g:Nat} {l:List UInt8} (h:ul w g l) (m k:Nat) (sz:Int) (big:Bool) (hsz:sz=(k:Int)) (hk1:1≤k) (hk8:k≤8) (hm:m<18446744073709551616) (hl:l.length + 8≤1048576) :
  Calls Tryz.prog 113 #[.pointer (some ⟨g,0,none⟩),.int .u64 (m:Int),.int .i64 sz,.bool big] w (sS w g (l ++ bT k m big)):=by
 subst hsz;obtain ⟨A,c,h⟩:=h;have hc:cD (k:Int)=k:=by unfold cD;omega
 refine (ym g g A c 1048576 (l,0) w m (k:Int) big h hm (by decide) (by simp only;omega)).mono fun e w' hi=>CF h hi ?_
 unfold qd;rw [if_neg (by rintro ⟨_,h1 | h1⟩ <;> omega),hc];exact ki (by rw [av];omega)
theorem Dp {w:World} {g:Nat} {l:List UInt8} (h:ul w g l) (n:Nat) (hn:n<18446744073709551616) (hl:l.length + 10≤1048576) :
  Calls Tryz.prog 115 #[.pointer (some ⟨g,0,none⟩),.int .u64 (n:Int)] w (sS w g (l ++ aE n)):=by
 obtain ⟨A,c,h⟩:=h;have:=aW (n:=n) hn;exact (yh g g A c 1048576 (l,0) w n h hn (by decide) (by simp only;omega)).mono fun e w' hi=>CF h hi (ki (by omega))
theorem pp {w:World} {g:Nat} {l:List UInt8} (h:ul w g l) (X:Option Addr) (n d:Nat) (b:List UInt8) (hn:n=b.length) (hb:BS w w.heap.size X b) (hl:l.length + b.length + 10≤1048576) :
  Calls Tryz.prog 116 #[.pointer (some ⟨g,0,none⟩),.slice X n d] w (sS w g (l ++ (aE b.length ++ b))):=by
 subst hn;obtain ⟨A,c,h⟩:=h;have:=aW (n:=b.length) (by omega);exact (uQ g g A c 1048576 (l,0) w X d b h hb (by decide) (by simp only;omega) (by omega)).mono fun e w' hi=>CF h hi (ki (by rw [List.length_append];omega))
theorem oH {w:World} {g:Nat} {l:List UInt8} (h:ul w g l) (X:Option Addr) (n d:Nat) (b:List UInt8) (hn:n=b.length) (hb:BS w w.heap.size X b) (hl:l.length + b.length≤1048576) :
  Calls Tryz.prog 160 #[.pointer (some ⟨g,0,none⟩),.slice X n d] w (sS w g (l ++ b)):=by
 obtain ⟨A,c,h⟩:=h;exact (fj g g A c 1048576 (l,0) X n d b w h hn hb (by decide) (by simp only;omega) (by omega)).mono fun e w' hi=>CF h hi (ki hl)
theorem dO (w:World) (e:TypeId) (s:ByteArray):Below w.heap.size w (Lib.bytesWorld w e s) :=
 ⟨rfl,rfl,rfl,by rw [Lib.bytesWorld_size];omega,fun k hk=>Lib.bytesWorld_at_old w e s k hk⟩
theorem eX (w:World) (e:TypeId) (l:List UInt8):BS (Lib.bytesWorld w e ⟨l.toArray⟩) (Lib.bytesWorld w e ⟨l.toArray⟩).heap.size (some ⟨w.heap.size,0,none⟩) l:=fun hn=>by
 refine ⟨⟨w.heap.size,0,none⟩,rfl,by rw [Lib.bytesWorld_size];show w.heap.size<_;omega,fun j c hj=>?_⟩;have hjl:=(List.getElem?_eq_some_iff.1 hj).1;have:=Lib.bytesWorld_cell w e ⟨l.toArray⟩ j (show j<l.toArray.size by simpa using hjl);rw [show (⟨w.heap.size,0,none⟩:Addr).add j=⟨w.heap.size,j,none⟩ by unfold Addr.add;split <;> simp_all,this];simp [List.getD,hj,p8]
theorem gS (w:World) (l:List UInt8):(convert 9 43 (.string ⟨l.toArray⟩)).run Tryz.prog w=.ok (.slice (some ⟨w.heap.size,0,none⟩) l.length (grownCap w l.length 0 5)) (Lib.bytesWorld w 5 ⟨l.toArray⟩) :=
 Lib.run_convert_string_bytes (P:=Tryz.prog) w 9 43 5 ⟨l.toArray⟩ Tryz.underlying9 Tryz.underlying43 Tryz.underlying5
end Go.Proofs.YtaafkokfdgfabaaGreat
namespace Go.Proofs.YtaafkokfdgfabaaGreat
open Go.RowKit
set_option linter.unusedVariables false
set_option linter.unusedSimpArgs false
def fH (b:Bool):List UInt8:=if b then [1] else [0]
def bC (x:List UInt8):List UInt8:=aE x.length ++ x
def aD (b:aR):List UInt8:=bC b.name ++ (fH b.addr.1 ++ (b.addr.2 ++ (bT 2 b.port.toNat true ++ (b.mac ++ (eJ b.wt ++ fH b.drain)))))
def aV (a:bY):List UInt8 :=
 bT 1 a.kind.toNat true ++
  (if a.kind=1 then bC a.frame
   else if a.kind=2 then bT 1 a.op.toNat true ++ (if a.op=1 then aD a.back else bC a.oname ++ (if a.op=3 then eJ a.owt else []))
   else if a.kind=3 then bC a.name ++ fH a.well else [])
theorem cJ (b:Bool):(fH b).length=1:=by cases b <;> rfl
theorem eY {x:List UInt8} (h:x.length≤1000000):(bC x).length≤x.length + 10:=by
 have:=aW (n:=x.length) (by omega);rw [bC,List.length_append];omega
theorem yn (b:Bool):bT 1 (if b then 1 else 0) true=fH b:=by cases b <;> decide
theorem kj:(Tryz.prog.info? 169).map (·.size)=some 1:=by kernel_rfl
def qw (g:Nat):Value:=.agg #[.pointer (some ⟨g,0,none⟩)]
set_option maxRecDepth 100000 in
theorem ln {w:World} {g:Nat} {l:List UInt8} (h:ul w g l) (b:Bool) (hl:l.length + 8≤1048576) :
  Calls Tryz.prog 114 #[qw g,.bool b] w (sS w g (l ++ fH b)):=by
 rw [←yn];unfold qw;obtain ⟨W,hW⟩:∃ W,W=w.alloc (.cells #[.pointer (some ⟨g,0,none⟩)] 169):=⟨_,rfl⟩
 have hX:ah W w.heap.size 169 #[.pointer (some ⟨g,0,none⟩)]:=by rw [hW];exact ah.new w _ _ _ rfl
 have hB:Below w.heap.size w W:=by rw [hW];exact (Below.refl _ _).alloc (Nat.le_refl _) _
 have HA:=Lib.hid (h.below hB);have HS:=Lib.hid (fG.of_below hB (Nat.le_of_lt h.lt));have d0:W.cell? ⟨w.heap.size,0,none⟩=some (.pointer (some ⟨g,0,none⟩)):=hX.cell 0;have HW:=Lib.hid hW;clear hW hX hB h;rcases b with _ | _
 ·have hc:=Lib.hid (oe HA.out 0 1 1 true rfl (by decide) (by decide) (by decide) hl)
  go_enter Tryz.func114,Tryz.ntmps114
  go_upto_region 1 with fail
  rw [←HW.out]
  go_wp2_with fail
  refine hc.out.mono ?_;rintro e w2 ⟨rfl,h2,hs2⟩
  go_wp2
  go_end0
  exact ⟨rfl,h2,HS.out.trans hs2⟩
 ·have hc:=Lib.hid (oe HA.out 1 1 1 true rfl (by decide) (by decide) (by decide) hl)
  go_enter Tryz.func114,Tryz.ntmps114
  go_upto_region 1 with fail
  rw [←HW.out]
  go_wp2_with fail
  refine hc.out.mono ?_;rintro e w2 ⟨rfl,h2,hs2⟩
  go_wp2
  go_end0
  exact ⟨rfl,h2,HS.out.trans hs2⟩
theorem DK {w:World} {k:Nat} {b:aR} (hb:ah w k 56 (ae b).toArray) (h:ar b):BS w w.heap.size (some ⟨k,2,none⟩) b.addr.2:=fun hn=>by
 refine ⟨_,rfl,hb.lt,fun j c hj=>?_⟩;have:=oF hb h (1 + j) (p8 c) (by rw [ag,show 1 + j=j + 1 by omega,List.getElem?_cons_succ,ab,List.getElem?_map,hj];rfl);rw [show (⟨k,2,none⟩:Addr).add j=⟨k,1 + (1 + j),none⟩ by unfold Addr.add;split <;> simp_all <;> omega];exact this
theorem CG {w:World} {k:Nat} {b:aR} (hb:ah w k 56 (ae b).toArray) (h:ar b):BS w w.heap.size (some ⟨k,19,none⟩) b.mac:=fun hn=>by
 refine ⟨_,rfl,hb.lt,fun j c hj=>?_⟩;have:=uK hb h j (p8 c) (by rw [ab,List.getElem?_map,hj];rfl);rw [show (⟨k,19,none⟩:Addr).add j=⟨k,19 + j,none⟩ by unfold Addr.add;split <;> simp_all];exact this
set_option maxRecDepth 100000 in
theorem qy {w:World} {g:Nat} {l:List UInt8} (h:ul w g l) (b:aR) (hb0:ar b) (hp:0≤b.port∧b.port≤65535) (hn:b.name.length≤1000) (hl:l.length + 2000≤1048576) :
  Calls Tryz.prog 159 #[qw g,.agg (ae b).toArray] w (sS w g (l ++ aD b)):=by
 have hb:=Lib.hid hb0;obtain ⟨hp0,hp1⟩:=hp;obtain ⟨P,hP⟩:∃ P:Nat,P=b.port.toNat:=⟨_,rfl⟩
 have hPI:b.port=(P:Int):=by omega
 have HP:=Lib.hid hP;have HPI:=Lib.hid hPI;have hPb:P≤65535:=by omega
 unfold qw;clear hb0 hP hPI hp0 hp1;obtain ⟨W1,hW1⟩:∃ W,W=w.alloc (.cells #[.pointer (some ⟨g,0,none⟩)] 169):=⟨_,rfl⟩
 obtain ⟨W,hW⟩:∃ W,W=W1.alloc (.cells (ae b).toArray 56):=⟨_,rfl⟩
 have hs1:W1.heap.size=w.heap.size + 1:=by rw [hW1];simp
 have hX1:ah W1 w.heap.size 169 #[.pointer (some ⟨g,0,none⟩)]:=by rw [hW1];exact ah.new w _ _ _ rfl
 have HX:Hid (ah W w.heap.size 169 #[.pointer (some ⟨g,0,none⟩)]):=by rw [hW];exact ah.alloc hX1 _
 have HY:Hid (ah W (w.heap.size + 1) 56 (ae b).toArray):=by rw [hW,←hs1];exact ah.new W1 _ _ _ rfl
 have hB:Below w.heap.size w W:=by rw [hW,hW1];exact ((Below.refl _ _).alloc (Nat.le_refl _) _).alloc (by simp) _
 have hgw:=h.lt;have hneX:w.heap.size≠g:=by omega
 have hneY:w.heap.size + 1≠g:=by omega
 have HA:=Lib.hid (h.below hB);have HS:=Lib.hid (fG.of_below hB (Nat.le_of_lt hgw));have HW1:=Lib.hid hW1;have HW:=Lib.hid hW;clear hW1 hW hX1 hs1 h;have d0:W.cell? ⟨w.heap.size,0,none⟩=some (.pointer (some ⟨g,0,none⟩)):=HX.out.cell 0;have d1:=ll HY.out;have hcv:=gS W b.name;go_enter Tryz.func159,Tryz.ntmps159
 go_upto_region 1 with fail
 rw [←HW1.out];rw [←HW.out];clear HW1 HW
 go_wp2_with fail
 have hbw:=dO W 5 ⟨b.name.toArray⟩;refine (pp (HA.out.below hbw) _ _ _ b.name rfl (eX W 5 b.name) (by omega)).mono ?_;rintro e v1 ⟨rfl,H1,hs0⟩;have hs1:=(fG.of_below hbw (Nat.le_of_lt HA.out.lt)).trans hs0;clear hbw hs0 hcv d0 d1;have HS2:=Lib.hid (HS.out.trans hs1);have HX2:=Lib.hid (hs1.blk HX.out (by decide) hneX);have HY2:=Lib.hid (hs1.blk HY.out (by decide) hneY);clear HS HX HY HA hs1;have HS:=HS2;have HX:=HX2;have HY:=HY2;clear HS2 HX2 HY2;obtain ⟨l1,hl1⟩:∃ x,x=l ++ (aE b.name.length ++ b.name):=⟨_,rfl⟩
 rw [←hl1] at H1;have n1:l1.length≤l.length + (b.name.length + 10):=by rw [hl1,List.length_append];have:=eY (x:=b.name) (by omega);rw [bC] at this;omega
 have Q1:=Lib.hid hl1;have HA:=Lib.hid H1;clear H1 hl1;have d0:v1.cell? ⟨w.heap.size,0,none⟩=some (.pointer (some ⟨g,0,none⟩)):=HX.out.cell 0;have d2:=uJ HY.out hb.out
 go_wp2_with (first
   | ((with_reducible refine aI 169 ?_);refine aa (by rfl) 169 (.tmp 2) rfl w.heap.size 0 rfl [.pointer (some ⟨g,0,none⟩)] _ (aj (cs:=[.pointer (some ⟨g,0,none⟩)]) HX.out) Tryz.underlying169 rfl kj ?_))
 refine (ln HA.out b.addr.1 (by omega)).mono ?_;rintro e v2 ⟨rfl,H1,hs1⟩;have HS2:=Lib.hid (HS.out.trans hs1);have HX2:=Lib.hid (hs1.blk HX.out (by decide) hneX);have HY2:=Lib.hid (hs1.blk HY.out (by decide) hneY);clear HS HX HY HA hs1;have HS:=HS2;have HX:=HX2;have HY:=HY2;clear HS2 HX2 HY2;obtain ⟨l2,hl2⟩:∃ x,x=l1 ++ fH b.addr.1:=⟨_,rfl⟩
 rw [←hl2] at H1;have n2:l2.length≤l1.length + 1:=by rw [hl2,List.length_append];rw [cJ];omega
 have Q2:=Lib.hid hl2;have HA:=Lib.hid H1;clear H1 hl2;clear d0 d2;go_upto_region 3 with fail
 have HXd:ah v2.drew w.heap.size 169 #[.pointer (some ⟨g,0,none⟩)]:=HX.out.drew;refine wp_region_noPanic ?_;refine wp_region_held_drew (S:=fun w'=>ah w' w.heap.size 169 #[.pointer (some ⟨g,0,none⟩)]∧ah w' (w.heap.size + 1) 56 (ae b).toArray) (by kernel_rfl) ⟨HXd,HY.out.drew⟩ (fun hHeld=>?_);refine wpAnyH_take (i:=0) (v:=?_) rfl (by kernel_rfl) (by kernel_rfl) (by kernel_rfl) (fun _ _ _ h=>h) (Or.inl ⟨by rfl,?_⟩) hHeld ?_;rotate_left
 ·intro w' hSw
  skip
  go_simp
  try with_reducible rfl
 try (simp only [Act.put,List.getElem_toArray,List.getElem_cons_succ,List.getElem_cons_zero,List.setIfInBounds_toArray,List.set_cons_zero,List.set_cons_succ])
 refine wpAnyH_take (i:=1) (v:=?_) rfl (by kernel_rfl) (by kernel_rfl) (by kernel_rfl) (fun _ _ _ h=>h) (Or.inl ⟨by rfl,?_⟩) hHeld ?_;rotate_left
 ·intro w' hSw
  have e0:w'.cell? ⟨w.heap.size,0,none⟩=some (.pointer (some ⟨g,0,none⟩)):=hSw.1.cell 0;go_simp
  try with_reducible rfl
 try (simp only [Act.put,List.getElem_toArray,List.getElem_cons_succ,List.getElem_cons_zero,List.setIfInBounds_toArray,List.set_cons_zero,List.set_cons_succ])
 refine wpAnyH_take (i:=2) (v:=?_) rfl (by kernel_rfl) (by kernel_rfl) (by kernel_rfl) (fun _ _ _ h=>h) (Or.inl ⟨by rfl,?_⟩) hHeld ?_;rotate_left
 ·intro w' hSw
  skip
  go_simp
  try with_reducible rfl
 try (simp only [Act.put,List.getElem_toArray,List.getElem_cons_succ,List.getElem_cons_zero,List.setIfInBounds_toArray,List.set_cons_zero,List.set_cons_succ])
 refine wpAnyH_take (i:=3) (v:=?_) rfl (by kernel_rfl) (by kernel_rfl) (by kernel_rfl) (fun _ _ _ h=>h) (Or.inl ⟨by rfl,?_⟩) hHeld ?_;rotate_left
 ·intro w' hSw
  skip
  go_simp
  try with_reducible rfl
 try (simp only [Act.put,List.getElem_toArray,List.getElem_cons_succ,List.getElem_cons_zero,List.setIfInBounds_toArray,List.set_cons_zero,List.set_cons_succ])
 refine wpAnyH_take (i:=4) (v:=?_) rfl (by kernel_rfl) (by kernel_rfl) (by kernel_rfl) (fun _ _ _ h=>h) (Or.inl ⟨by rfl,?_⟩) hHeld ?_;rotate_left
 ·intro w' hSw
  skip
  go_simp
  try with_reducible rfl
 try (simp only [Act.put,List.getElem_toArray,List.getElem_cons_succ,List.getElem_cons_zero,List.setIfInBounds_toArray,List.set_cons_zero,List.set_cons_succ])
 generalize hwd:v2.drew=wd at hHeld ⊢
 have hbd:Below v2.heap.size v2 wd:=by rw [←hwd];exact (Below.refl _ _).drew
 have hAd:=HA.out.below hbd;have hSd:=fG.of_below hbd (Nat.le_of_lt HA.out.lt);clear hwd HXd;refine wpAnyH_ready (rs:=[5]) (by kernel_rfl) (by simp) ?_;refine AllReadyH.cons (i:=5) rfl (fun K hK=>?_) AllReadyH.nil;go_simp
 refine (oH hAd _ _ _ b.addr.2 hb.out.addr.symm (DK hHeld.2 hb.out) (by have:b.addr.2.length=16:=hb.out.addr;omega)).mono ?_;rintro e v3 ⟨rfl,H1,hs0⟩;have hs1:=hSd.trans hs0;have hHn:=(⟨hs0.blk hHeld.1 (by decide) hneX,hs0.blk hHeld.2 (by decide) hneY⟩:_∧_)
 clear hs0 hAd hbd hSd
 go_wp2_with fail
 refine hK.out _ _ hHn (fun hHeld=>?_);clear hK K hHn
 try (simp only [Act.put,List.getElem_toArray,List.getElem_cons_succ,List.getElem_cons_zero,List.setIfInBounds_toArray,List.set_cons_zero,List.set_cons_succ])
 refine wpAnyH_done (by kernel_rfl) ?_ _;refine NoPanic.normal ?_;clear hHeld;have HS2:=Lib.hid (HS.out.trans hs1);have HX2:=Lib.hid (hs1.blk HX.out (by decide) hneX);have HY2:=Lib.hid (hs1.blk HY.out (by decide) hneY);clear HS HX HY HA hs1;have HS:=HS2;have HX:=HX2;have HY:=HY2;clear HS2 HX2 HY2;obtain ⟨l3,hl3⟩:∃ x,x=l2 ++ b.addr.2:=⟨_,rfl⟩
 rw [←hl3] at H1;have n3:l3.length≤l2.length + 16:=by rw [hl3,List.length_append];have:b.addr.2.length=16:=hb.out.addr;omega
 have Q3:=Lib.hid hl3;have HA:=Lib.hid H1;clear H1 hl3;have d0:v3.cell? ⟨w.heap.size,0,none⟩=some (.pointer (some ⟨g,0,none⟩)):=HX.out.cell 0;have d3:v3.cell? ⟨w.heap.size + 1,18,none⟩=some (.int .i64 (P:Int)):=by rw [←HPI.out];exact kb HY.out hb.out
 go_wp2_with fail
 refine (oe HA.out P 2 2 true rfl (by decide) (by decide) (by omega) (by omega)).mono ?_;rintro e v4 ⟨rfl,H1,hs1⟩;have HS2:=Lib.hid (HS.out.trans hs1);have HX2:=Lib.hid (hs1.blk HX.out (by decide) hneX);have HY2:=Lib.hid (hs1.blk HY.out (by decide) hneY);clear HS HX HY HA hs1;have HS:=HS2;have HX:=HX2;have HY:=HY2;clear HS2 HX2 HY2;obtain ⟨l4,hl4⟩:∃ x,x=l3 ++ bT 2 P true:=⟨_,rfl⟩
 rw [←hl4] at H1;have n4:l4.length≤l3.length + 2:=by rw [hl4,List.length_append];rw [av];omega
 have Q4:=Lib.hid hl4;have HA:=Lib.hid H1;clear H1 hl4;clear d0 d3;go_upto_region 5 with fail
 have HXd:ah v4.drew w.heap.size 169 #[.pointer (some ⟨g,0,none⟩)]:=HX.out.drew;refine wp_region_noPanic ?_;refine wp_region_held_drew (S:=fun w'=>ah w' w.heap.size 169 #[.pointer (some ⟨g,0,none⟩)]∧ah w' (w.heap.size + 1) 56 (ae b).toArray) (by kernel_rfl) ⟨HXd,HY.out.drew⟩ (fun hHeld=>?_);refine wpAnyH_take (i:=0) (v:=?_) rfl (by kernel_rfl) (by kernel_rfl) (by kernel_rfl) (fun _ _ _ h=>h) (Or.inl ⟨by rfl,?_⟩) hHeld ?_;rotate_left
 ·intro w' hSw
  skip
  go_simp
  try with_reducible rfl
 try (simp only [Act.put,List.getElem_toArray,List.getElem_cons_succ,List.getElem_cons_zero,List.setIfInBounds_toArray,List.set_cons_zero,List.set_cons_succ])
 refine wpAnyH_take (i:=1) (v:=?_) rfl (by kernel_rfl) (by kernel_rfl) (by kernel_rfl) (fun _ _ _ h=>h) (Or.inl ⟨by rfl,?_⟩) hHeld ?_;rotate_left
 ·intro w' hSw
  have e0:w'.cell? ⟨w.heap.size,0,none⟩=some (.pointer (some ⟨g,0,none⟩)):=hSw.1.cell 0;go_simp
  try with_reducible rfl
 try (simp only [Act.put,List.getElem_toArray,List.getElem_cons_succ,List.getElem_cons_zero,List.setIfInBounds_toArray,List.set_cons_zero,List.set_cons_succ])
 refine wpAnyH_take (i:=2) (v:=?_) rfl (by kernel_rfl) (by kernel_rfl) (by kernel_rfl) (fun _ _ _ h=>h) (Or.inl ⟨by rfl,?_⟩) hHeld ?_;rotate_left
 ·intro w' hSw
  skip
  go_simp
  try with_reducible rfl
 try (simp only [Act.put,List.getElem_toArray,List.getElem_cons_succ,List.getElem_cons_zero,List.setIfInBounds_toArray,List.set_cons_zero,List.set_cons_succ])
 refine wpAnyH_take (i:=3) (v:=?_) rfl (by kernel_rfl) (by kernel_rfl) (by kernel_rfl) (fun _ _ _ h=>h) (Or.inl ⟨by rfl,?_⟩) hHeld ?_;rotate_left
 ·intro w' hSw
  skip
  go_simp
  try with_reducible rfl
 try (simp only [Act.put,List.getElem_toArray,List.getElem_cons_succ,List.getElem_cons_zero,List.setIfInBounds_toArray,List.set_cons_zero,List.set_cons_succ])
 generalize hwd:v4.drew=wd at hHeld ⊢
 have hbd:Below v4.heap.size v4 wd:=by rw [←hwd];exact (Below.refl _ _).drew
 have hAd:=HA.out.below hbd;have hSd:=fG.of_below hbd (Nat.le_of_lt HA.out.lt);clear hwd HXd;refine wpAnyH_ready (rs:=[4]) (by kernel_rfl) (by simp) ?_;refine AllReadyH.cons (i:=4) rfl (fun K hK=>?_) AllReadyH.nil;go_simp
 refine (oH hAd _ _ _ b.mac hb.out.mac.symm (CG hHeld.2 hb.out) (by have:=hb.out.mac;omega)).mono ?_;rintro e v5 ⟨rfl,H1,hs0⟩;have hs1:=hSd.trans hs0;have hHn:=(⟨hs0.blk hHeld.1 (by decide) hneX,hs0.blk hHeld.2 (by decide) hneY⟩:_∧_)
 clear hs0 hAd hbd hSd
 go_wp2_with fail
 refine hK.out _ _ hHn (fun hHeld=>?_);clear hK K hHn
 try (simp only [Act.put,List.getElem_toArray,List.getElem_cons_succ,List.getElem_cons_zero,List.setIfInBounds_toArray,List.set_cons_zero,List.set_cons_succ])
 refine wpAnyH_done (by kernel_rfl) ?_ _;refine NoPanic.normal ?_;clear hHeld;have HS2:=Lib.hid (HS.out.trans hs1);have HX2:=Lib.hid (hs1.blk HX.out (by decide) hneX);have HY2:=Lib.hid (hs1.blk HY.out (by decide) hneY);clear HS HX HY HA hs1;have HS:=HS2;have HX:=HX2;have HY:=HY2;clear HS2 HX2 HY2;obtain ⟨l5,hl5⟩:∃ x,x=l4 ++ b.mac:=⟨_,rfl⟩
 rw [←hl5] at H1;have n5:l5.length≤l4.length + 6:=by rw [hl5,List.length_append];have:=hb.out.mac;omega
 have Q5:=Lib.hid hl5;have HA:=Lib.hid H1;clear H1 hl5;go_upto_region 6 with fail
 have HXd:ah v5.drew w.heap.size 169 #[.pointer (some ⟨g,0,none⟩)]:=HX.out.drew;refine wp_region_noPanic ?_;refine wp_region_held_drew (S:=fun w'=>ah w' w.heap.size 169 #[.pointer (some ⟨g,0,none⟩)]∧ah w' (w.heap.size + 1) 56 (ae b).toArray) (by kernel_rfl) ⟨HXd,HY.out.drew⟩ (fun hHeld=>?_);refine wpAnyH_take (i:=0) (v:=?_) rfl (by kernel_rfl) (by kernel_rfl) (by kernel_rfl) (fun _ _ _ h=>h) (Or.inl ⟨by rfl,?_⟩) hHeld ?_;rotate_left
 ·intro w' hSw
  skip
  go_simp
  try with_reducible rfl
 try (simp only [Act.put,List.getElem_toArray,List.getElem_cons_succ,List.getElem_cons_zero,List.setIfInBounds_toArray,List.set_cons_zero,List.set_cons_succ])
 refine wpAnyH_take (i:=1) (v:=?_) rfl (by kernel_rfl) (by kernel_rfl) (by kernel_rfl) (fun _ _ _ h=>h) (Or.inl ⟨by rfl,?_⟩) hHeld ?_;rotate_left
 ·intro w' hSw
  have e0:w'.cell? ⟨w.heap.size,0,none⟩=some (.pointer (some ⟨g,0,none⟩)):=hSw.1.cell 0;go_simp
  try with_reducible rfl
 try (simp only [Act.put,List.getElem_toArray,List.getElem_cons_succ,List.getElem_cons_zero,List.setIfInBounds_toArray,List.set_cons_zero,List.set_cons_succ])
 refine wpAnyH_take (i:=2) (v:=?_) rfl (by kernel_rfl) (by kernel_rfl) (by kernel_rfl) (fun _ _ _ h=>h) (Or.inl ⟨by rfl,?_⟩) hHeld ?_;rotate_left
 ·intro w' hSw
  skip
  go_simp
  try with_reducible rfl
 try (simp only [Act.put,List.getElem_toArray,List.getElem_cons_succ,List.getElem_cons_zero,List.setIfInBounds_toArray,List.set_cons_zero,List.set_cons_succ])
 refine wpAnyH_take (i:=3) (v:=?_) rfl (by kernel_rfl) (by kernel_rfl) (by kernel_rfl) (fun _ _ _ h=>h) (Or.inl ⟨by rfl,?_⟩) hHeld ?_;rotate_left
 ·intro w' hSw
  have e0:=lM hSw.2 hb.out;go_simp
  try with_reducible rfl
 try (simp only [Act.put,List.getElem_toArray,List.getElem_cons_succ,List.getElem_cons_zero,List.setIfInBounds_toArray,List.set_cons_zero,List.set_cons_succ])
 generalize hwd:v5.drew=wd at hHeld ⊢
 have hbd:Below v5.heap.size v5 wd:=by rw [←hwd];exact (Below.refl _ _).drew
 have hAd:=HA.out.below hbd;have hSd:=fG.of_below hbd (Nat.le_of_lt HA.out.lt);clear hwd HXd;refine wpAnyH_ready (rs:=[4]) (by kernel_rfl) (by simp) ?_;refine AllReadyH.cons (i:=4) rfl (fun K hK=>?_) AllReadyH.nil;go_simp
 refine (sF b.wt _ hb.out.wt).mono ?_;rintro e wp ⟨Ap,cp,rfl,hownp,hbp⟩;have hHn:=(⟨ah.below hHeld.1 hbp hHeld.1.lt,ah.below hHeld.2 hbp hHeld.2.lt⟩:_∧_)
 have hAd2:=hAd.below hbp;have hSd2:=hSd.trans (fG.of_below hbp (Nat.le_of_lt hAd.lt));have h8:=fd b.wt;have HBp:Hid (BS wp wp.heap.size Ap (eJ b.wt)):=by
  rw [←h8] at hownp;exact (BS.of_own hownp).1
 clear hAd hSd hownp hbp;have hAd:=hAd2;have hSd:=hSd2;clear hAd2 hSd2
 go_wp2_with fail
 refine hK.out _ _ hHn (fun hHeld=>?_);clear hK K hHn
 try (simp only [Act.put,List.getElem_toArray,List.getElem_cons_succ,List.getElem_cons_zero,List.setIfInBounds_toArray,List.set_cons_zero,List.set_cons_succ])
 refine wpAnyH_ready (rs:=[5]) (by kernel_rfl) (by simp) ?_;refine AllReadyH.cons (i:=5) rfl (fun K hK=>?_) AllReadyH.nil;go_simp
 refine (oH hAd Ap _ cp (eJ b.wt) h8.symm HBp.out (by rw [h8];omega)).mono ?_;rintro e v6 ⟨rfl,H1,hs0⟩;have hs1:=hSd.trans hs0;have hHn:=(⟨hs0.blk hHeld.1 (by decide) hneX,hs0.blk hHeld.2 (by decide) hneY⟩:_∧_)
 clear hs0 hAd hbd hSd
 go_wp2_with fail
 refine hK.out _ _ hHn (fun hHeld=>?_);clear hK K hHn
 try (simp only [Act.put,List.getElem_toArray,List.getElem_cons_succ,List.getElem_cons_zero,List.setIfInBounds_toArray,List.set_cons_zero,List.set_cons_succ])
 refine wpAnyH_done (by kernel_rfl) ?_ _;refine NoPanic.normal ?_;clear hHeld;have HS2:=Lib.hid (HS.out.trans hs1);have HX2:=Lib.hid (hs1.blk HX.out (by decide) hneX);have HY2:=Lib.hid (hs1.blk HY.out (by decide) hneY);clear HS HX HY HA hs1;have HS:=HS2;have HX:=HX2;have HY:=HY2;clear HS2 HX2 HY2;obtain ⟨l6,hl6⟩:∃ x,x=l5 ++ eJ b.wt:=⟨_,rfl⟩
 rw [←hl6] at H1;have n6:l6.length≤l5.length + 8:=by rw [hl6,List.length_append];rw [fd];omega
 have Q6:=Lib.hid hl6;have HA:=Lib.hid H1;clear H1 hl6;have d0:v6.cell? ⟨w.heap.size,0,none⟩=some (.pointer (some ⟨g,0,none⟩)):=HX.out.cell 0;have d4:=mM HY.out hb.out
 go_wp2_with (first
   | ((with_reducible refine aI 169 ?_);refine aa (by rfl) 169 (.tmp 2) rfl w.heap.size 0 rfl [.pointer (some ⟨g,0,none⟩)] _ (aj (cs:=[.pointer (some ⟨g,0,none⟩)]) HX.out) Tryz.underlying169 rfl kj ?_))
 refine (ln HA.out b.drain (by omega)).mono ?_;rintro e v7 ⟨rfl,H1,hs1⟩;have HS2:=Lib.hid (HS.out.trans hs1);have HX2:=Lib.hid (hs1.blk HX.out (by decide) hneX);have HY2:=Lib.hid (hs1.blk HY.out (by decide) hneY);clear HS HX HY HA hs1;have HS:=HS2;have HX:=HX2;have HY:=HY2;clear HS2 HX2 HY2;obtain ⟨l7,hl7⟩:∃ x,x=l6 ++ fH b.drain:=⟨_,rfl⟩
 rw [←hl7] at H1;have n7:l7.length≤l6.length + 1:=by rw [hl7,List.length_append];rw [cJ];omega
 have Q7:=Lib.hid hl7;have HA:=Lib.hid H1;clear H1 hl7
 go_wp2
 go_end0
 refine ⟨rfl,?_,HS.out⟩;have he:l7=l ++ aD b:=by
  rw [Q7.out,Q6.out,Q5.out,Q4.out,Q3.out,Q2.out,Q1.out,HP.out];simp only [aD,bC,List.append_assoc]
 rw [←he];exact HA.out
end Go.Proofs.YtaafkokfdgfabaaGreat
namespace Go.Proofs.YtaafkokfdgfabaaGreat
open Go.RowKit
set_option linter.unusedVariables false
set_option linter.unusedSimpArgs false
theorem fM {b:aR} (h:ar b) (hn:b.name.length≤1000):(aD b).length≤2000:=by
 have h1:=eY (x:=b.name) (by omega);have h2:b.addr.2.length=16:=h.addr;have h3:=h.mac;simp only [aD,List.length_append,cJ,av,fd];omega
set_option maxRecDepth 100000 in
theorem AE {w:World} {g:Nat} {l:List UInt8} (h:ul w g l) (A:Option Addr) (c:Nat) (a:bY) (ha0:az a) (hk:1≤a.kind∧a.kind≤4) (hop:a.kind=2→1≤a.op∧a.op≤5) (hp:0≤a.back.port∧a.back.port≤65535) (hn:a.back.name.length≤1000∧a.oname.length≤1000∧a.name.length≤1000∧a.frame.length≤200000) (hf:BS w g A a.frame) (hl:l.length≤100) :
  Calls Tryz.prog 112 #[qw g,.agg (aq A a.frame.length c a).toArray] w (sS w g (l ++ aV a)):=by
 have ha:=Lib.hid ha0;obtain ⟨hk0,hk1⟩:=hk;obtain ⟨hn1,hn2,hn3,hn4⟩:=hn;obtain ⟨K,hK⟩:∃ K:Nat,K=a.kind.toNat:=⟨_,rfl⟩
 have hKI:a.kind=(K:Int):=by omega
 have HK:=Lib.hid hK;have HKI:=Lib.hid hKI;have hKb:K≤4:=by omega
 have Hp:=Lib.hid hp;have Hop:=Lib.hid hop;have HF:=Lib.hid hf;unfold qw;clear ha0 hK hKI hk0 hk1 hp hop hf;obtain ⟨W1,hW1⟩:∃ W,W=w.alloc (.cells #[.pointer (some ⟨g,0,none⟩)] 169):=⟨_,rfl⟩
 obtain ⟨W,hW⟩:∃ W,W=W1.alloc (.cells (aq A a.frame.length c a).toArray 60):=⟨_,rfl⟩
 have hs1:W1.heap.size=w.heap.size + 1:=by rw [hW1];simp
 have hX1:ah W1 w.heap.size 169 #[.pointer (some ⟨g,0,none⟩)]:=by rw [hW1];exact ah.new w _ _ _ rfl
 have HX:Hid (ah W w.heap.size 169 #[.pointer (some ⟨g,0,none⟩)]):=by rw [hW];exact ah.alloc hX1 _
 have HY:Hid (ah W (w.heap.size + 1) 60 (aq A a.frame.length c a).toArray):=by rw [hW,←hs1];exact ah.new W1 _ _ _ rfl
 have hB:Below w.heap.size w W:=by rw [hW,hW1];exact ((Below.refl _ _).alloc (Nat.le_refl _) _).alloc (by simp) _
 have hgw:=h.lt;have hneX:w.heap.size≠g:=by omega
 have hneY:w.heap.size + 1≠g:=by omega
 have HA:=Lib.hid (h.below hB);have HS:=Lib.hid (fG.of_below hB (Nat.le_of_lt hgw));have HW1:=Lib.hid hW1;have HW:=Lib.hid hW;clear hW1 hW hX1 hs1 h;have d0:W.cell? ⟨w.heap.size,0,none⟩=some (.pointer (some ⟨g,0,none⟩)):=HX.out.cell 0;have d1:W.cell? ⟨w.heap.size + 1,0,none⟩=some (.int .i64 (K:Int)):=by rw [←HKI.out];exact hU HY.out
 go_enter Tryz.func112,Tryz.ntmps112
 go_upto_region 1 with fail
 rw [←HW1.out];rw [←HW.out];clear HW1 HW
 go_wp2_with fail
 refine (oe HA.out K 1 1 true rfl (by decide) (by decide) (by omega) (by omega)).mono ?_;rintro e v1 ⟨rfl,H1,hs1⟩;have HS2:=Lib.hid (HS.out.trans hs1);have HX2:=Lib.hid (hs1.blk HX.out (by decide) hneX);have HY2:=Lib.hid (hs1.blk HY.out (by decide) hneY);clear HS HX HY HA hs1;have HS:=HS2;have HX:=HX2;have HY:=HY2;clear HS2 HX2 HY2;obtain ⟨l1,hl1⟩:∃ x,x=l ++ bT 1 K true:=⟨_,rfl⟩
 rw [←hl1] at H1;have n1:l1.length≤l.length + 1:=by rw [hl1,List.length_append];rw [av];omega
 have Q1:=Lib.hid hl1;have HA:=Lib.hid H1;clear H1 hl1;clear d0 d1;have d1:v1.cell? ⟨w.heap.size + 1,0,none⟩=some (.int .i64 (K:Int)):=by rw [←HKI.out];exact hU HY.out
 go_upto_region 3 with fail
 rcases k1:((K:Int) == 1) with _ | _
 rotate_left
 ·have d0:v1.cell? ⟨w.heap.size,0,none⟩=some (.pointer (some ⟨g,0,none⟩)):=HX.out.cell 0
  have d2:=gH HY.out;have HFr:BS v1 v1.heap.size A a.frame:=(HF.out.below HS.out.bel).more (Nat.le_of_lt HA.out.lt)
  go_wp2_with fail
  refine (pp HA.out A _ c a.frame rfl HFr (by omega)).mono ?_;rintro e v2 ⟨rfl,H1,hs1⟩;have HS2:=Lib.hid (HS.out.trans hs1);have HX2:=Lib.hid (hs1.blk HX.out (by decide) hneX);have HY2:=Lib.hid (hs1.blk HY.out (by decide) hneY);clear HS HX HY HA hs1;have HS:=HS2;have HX:=HX2;have HY:=HY2;clear HS2 HX2 HY2;obtain ⟨l2,hl2⟩:∃ x,x=l1 ++ (aE a.frame.length ++ a.frame):=⟨_,rfl⟩
  rw [←hl2] at H1;have n2:l2.length≤l1.length + (a.frame.length + 10):=by rw [hl2,List.length_append];have:=eY (x:=a.frame) (by omega);rw [bC] at this;omega
  have Q2:=Lib.hid hl2;have HA:=Lib.hid H1;clear H1 hl2;clear d0 d1 d2
  go_wp2
  go_end0
  refine ⟨rfl,?_,HS.out⟩;have he:l2=l ++ aV a:=by
   rw [Q2.out,Q1.out,HK.out];unfold aV;rw [if_pos (by rw [HKI.out];simpa using k1)];simp only [bC,List.append_assoc,List.append_nil]
  rw [←he];exact HA.out
 rcases k2:((K:Int) == 2) with _ | _
 rotate_left
 ·obtain ⟨P,hP⟩:∃ P:Nat,P=a.op.toNat:=⟨_,rfl⟩
  have hop2:=Hop.out (by rw [HKI.out];simpa using k2);have hPI:a.op=(P:Int):=by omega
  have hPb:P≤5:=by omega
  have HP:=Lib.hid hP;have HPI:=Lib.hid hPI;clear hP hPI hop2;have d0:v1.cell? ⟨w.heap.size,0,none⟩=some (.pointer (some ⟨g,0,none⟩)):=HX.out.cell 0;have d3:v1.cell? ⟨w.heap.size + 1,2,none⟩=some (.int .i64 (P:Int)):=by rw [←HPI.out];exact jO HY.out
  go_wp2_with fail
  refine (oe HA.out P 1 1 true rfl (by decide) (by decide) (by omega) (by omega)).mono ?_;rintro e v2 ⟨rfl,H1,hs1⟩;have HS2:=Lib.hid (HS.out.trans hs1);have HX2:=Lib.hid (hs1.blk HX.out (by decide) hneX);have HY2:=Lib.hid (hs1.blk HY.out (by decide) hneY);clear HS HX HY HA hs1;have HS:=HS2;have HX:=HX2;have HY:=HY2;clear HS2 HX2 HY2;obtain ⟨l2,hl2⟩:∃ x,x=l1 ++ bT 1 P true:=⟨_,rfl⟩
  rw [←hl2] at H1;have n2:l2.length≤l1.length + 1:=by rw [hl2,List.length_append];rw [av];omega
  have Q2:=Lib.hid hl2;have HA:=Lib.hid H1;clear H1 hl2;clear d0 d1 d3;have d3:v2.cell? ⟨w.heap.size + 1,2,none⟩=some (.int .i64 (P:Int)):=by rw [←HPI.out];exact jO HY.out
  rcases k3:((P:Int) == 1) with _ | _
  rotate_left
  ·have RB:=Lib.hid (ke HY.out ha.out)
   go_wp2_with (first
     | ((with_reducible refine aI 169 ?_);refine aa (by rfl) 169 (.tmp 2) rfl w.heap.size 0 rfl [.pointer (some ⟨g,0,none⟩)] _ (aj (cs:=[.pointer (some ⟨g,0,none⟩)]) HX.out) Tryz.underlying169 rfl kj ?_)
     | ((with_reducible refine aI 56 ?_);refine aa (by rfl) 56 (.tmp 34) rfl (w.heap.size + 1) 3 rfl (ae a.back) _ RB.out Tryz.underlying56 rfl (cQ ha.out.back) ?_))
   refine (qy HA.out a.back ha.out.back Hp.out (by omega) (by omega)).mono ?_;rintro e v3 ⟨rfl,H1,hs1⟩;have HS2:=Lib.hid (HS.out.trans hs1);have HX2:=Lib.hid (hs1.blk HX.out (by decide) hneX);have HY2:=Lib.hid (hs1.blk HY.out (by decide) hneY);clear HS HX HY HA hs1;have HS:=HS2;have HX:=HX2;have HY:=HY2;clear HS2 HX2 HY2;obtain ⟨l3,hl3⟩:∃ x,x=l2 ++ aD a.back:=⟨_,rfl⟩
   rw [←hl3] at H1;have n3:l3.length≤l2.length + 2000:=by rw [hl3,List.length_append];have:=fM ha.out.back (by omega:a.back.name.length≤1000);omega
   have Q3:=Lib.hid hl3;have HA:=Lib.hid H1;clear H1 hl3;clear d3 RB
   go_wp2
   go_end0
   refine ⟨rfl,?_,HS.out⟩;have he:l3=l ++ aV a:=by
    rw [Q3.out,Q2.out,Q1.out,HK.out];unfold aV;rw [if_neg (by rw [HKI.out];simpa using k1),if_pos (by rw [HKI.out];simpa using k2),if_pos (by rw [HPI.out];simpa using k3),HP.out];simp only [bC,List.append_assoc,List.append_nil]
   rw [←he];exact HA.out
  have d0:v2.cell? ⟨w.heap.size,0,none⟩=some (.pointer (some ⟨g,0,none⟩)):=HX.out.cell 0;have d2:=fh HY.out ha.out;have hcv:=gS v2 a.oname
  go_wp2_with fail
  have hbw:=dO v2 5 ⟨a.oname.toArray⟩;refine (pp (HA.out.below hbw) _ _ _ a.oname rfl (eX v2 5 a.oname) (by omega)).mono ?_;rintro e v3 ⟨rfl,H1,hs0⟩;have hs1:=(fG.of_below hbw (Nat.le_of_lt HA.out.lt)).trans hs0;clear hbw hs0 hcv d0 d2;have HS2:=Lib.hid (HS.out.trans hs1);have HX2:=Lib.hid (hs1.blk HX.out (by decide) hneX);have HY2:=Lib.hid (hs1.blk HY.out (by decide) hneY);clear HS HX HY HA hs1;have HS:=HS2;have HX:=HX2;have HY:=HY2;clear HS2 HX2 HY2;obtain ⟨l3,hl3⟩:∃ x,x=l2 ++ (aE a.oname.length ++ a.oname):=⟨_,rfl⟩
  rw [←hl3] at H1;have n3:l3.length≤l2.length + (a.oname.length + 10):=by rw [hl3,List.length_append];have:=eY (x:=a.oname) (by omega);rw [bC] at this;omega
  have Q3:=Lib.hid hl3;have HA:=Lib.hid H1;clear H1 hl3;clear d3;have d3:v3.cell? ⟨w.heap.size + 1,2,none⟩=some (.int .i64 (P:Int)):=by rw [←HPI.out];exact jO HY.out
  rcases k5:((P:Int) == 3) with _ | _
  rotate_left
  ·go_upto_region 11 with fail
   have HXd:ah v3.drew w.heap.size 169 #[.pointer (some ⟨g,0,none⟩)]:=HX.out.drew;refine wp_region_noPanic ?_;refine wp_region_held_drew (S:=fun w'=>ah w' w.heap.size 169 #[.pointer (some ⟨g,0,none⟩)]∧ah w' (w.heap.size + 1) 60 (aq A a.frame.length c a).toArray) (by kernel_rfl) ⟨HXd,HY.out.drew⟩ (fun hHeld=>?_);refine wpAnyH_take (i:=0) (v:=?_) rfl (by kernel_rfl) (by kernel_rfl) (by kernel_rfl) (fun _ _ _ h=>h) (Or.inl ⟨by rfl,?_⟩) hHeld ?_;rotate_left
   ·intro w' hSw
    skip
    go_simp
    try with_reducible rfl
   try (simp only [Act.put,List.getElem_toArray,List.getElem_cons_succ,List.getElem_cons_zero,List.setIfInBounds_toArray,List.set_cons_zero,List.set_cons_succ])
   refine wpAnyH_take (i:=1) (v:=?_) rfl (by kernel_rfl) (by kernel_rfl) (by kernel_rfl) (fun _ _ _ h=>h) (Or.inl ⟨by rfl,?_⟩) hHeld ?_;rotate_left
   ·intro w' hSw
    have e0:w'.cell? ⟨w.heap.size,0,none⟩=some (.pointer (some ⟨g,0,none⟩)):=hSw.1.cell 0;go_simp
    try with_reducible rfl
   try (simp only [Act.put,List.getElem_toArray,List.getElem_cons_succ,List.getElem_cons_zero,List.setIfInBounds_toArray,List.set_cons_zero,List.set_cons_succ])
   refine wpAnyH_take (i:=2) (v:=?_) rfl (by kernel_rfl) (by kernel_rfl) (by kernel_rfl) (fun _ _ _ h=>h) (Or.inl ⟨by rfl,?_⟩) hHeld ?_;rotate_left
   ·intro w' hSw
    skip
    go_simp
    try with_reducible rfl
   try (simp only [Act.put,List.getElem_toArray,List.getElem_cons_succ,List.getElem_cons_zero,List.setIfInBounds_toArray,List.set_cons_zero,List.set_cons_succ])
   refine wpAnyH_take (i:=3) (v:=?_) rfl (by kernel_rfl) (by kernel_rfl) (by kernel_rfl) (fun _ _ _ h=>h) (Or.inl ⟨by rfl,?_⟩) hHeld ?_;rotate_left
   ·intro w' hSw
    skip
    go_simp
    try with_reducible rfl
   try (simp only [Act.put,List.getElem_toArray,List.getElem_cons_succ,List.getElem_cons_zero,List.setIfInBounds_toArray,List.set_cons_zero,List.set_cons_succ])
   refine wpAnyH_take (i:=4) (v:=?_) rfl (by kernel_rfl) (by kernel_rfl) (by kernel_rfl) (fun _ _ _ h=>h) (Or.inl ⟨by rfl,?_⟩) hHeld ?_;rotate_left
   ·intro w' hSw
    have e0:=kP hSw.2 ha.out;go_simp
    try with_reducible rfl
   try (simp only [Act.put,List.getElem_toArray,List.getElem_cons_succ,List.getElem_cons_zero,List.setIfInBounds_toArray,List.set_cons_zero,List.set_cons_succ])
   generalize hwd:v3.drew=wd at hHeld ⊢
   have hbd:Below v3.heap.size v3 wd:=by rw [←hwd];exact (Below.refl _ _).drew
   have hAd:=HA.out.below hbd;have hSd:=fG.of_below hbd (Nat.le_of_lt HA.out.lt);clear hwd HXd;refine wpAnyH_ready (rs:=[5]) (by kernel_rfl) (by simp) ?_;refine AllReadyH.cons (i:=5) rfl (fun K hK=>?_) AllReadyH.nil;go_simp
   refine (sF a.owt _ ha.out.owt).mono ?_;rintro e wp ⟨Ap,cp,rfl,hownp,hbp⟩;have hHn:=(⟨ah.below hHeld.1 hbp hHeld.1.lt,ah.below hHeld.2 hbp hHeld.2.lt⟩:_∧_)
   have hAd2:=hAd.below hbp;have hSd2:=hSd.trans (fG.of_below hbp (Nat.le_of_lt hAd.lt));have h8:=fd a.owt;have HBp:Hid (BS wp wp.heap.size Ap (eJ a.owt)):=by
    rw [←h8] at hownp;exact (BS.of_own hownp).1
   clear hAd hSd hownp hbp;have hAd:=hAd2;have hSd:=hSd2;clear hAd2 hSd2
   go_wp2_with fail
   refine hK.out _ _ hHn (fun hHeld=>?_);clear hK K hHn
   try (simp only [Act.put,List.getElem_toArray,List.getElem_cons_succ,List.getElem_cons_zero,List.setIfInBounds_toArray,List.set_cons_zero,List.set_cons_succ])
   refine wpAnyH_ready (rs:=[6]) (by kernel_rfl) (by simp) ?_;refine AllReadyH.cons (i:=6) rfl (fun K hK=>?_) AllReadyH.nil;go_simp
   refine (oH hAd Ap _ cp (eJ a.owt) h8.symm HBp.out (by rw [h8];omega)).mono ?_;rintro e v4 ⟨rfl,H1,hs0⟩;have hs1:=hSd.trans hs0;have hHn:=(⟨hs0.blk hHeld.1 (by decide) hneX,hs0.blk hHeld.2 (by decide) hneY⟩:_∧_)
   clear hs0 hAd hbd hSd
   go_wp2_with fail
   refine hK.out _ _ hHn (fun hHeld=>?_);clear hK K hHn
   try (simp only [Act.put,List.getElem_toArray,List.getElem_cons_succ,List.getElem_cons_zero,List.setIfInBounds_toArray,List.set_cons_zero,List.set_cons_succ])
   refine wpAnyH_done (by kernel_rfl) ?_ _;refine NoPanic.normal ?_;clear hHeld;have HS2:=Lib.hid (HS.out.trans hs1);have HX2:=Lib.hid (hs1.blk HX.out (by decide) hneX);have HY2:=Lib.hid (hs1.blk HY.out (by decide) hneY);clear HS HX HY HA hs1;have HS:=HS2;have HX:=HX2;have HY:=HY2;clear HS2 HX2 HY2;obtain ⟨l4,hl4⟩:∃ x,x=l3 ++ eJ a.owt:=⟨_,rfl⟩
   rw [←hl4] at H1;have n4:l4.length≤l3.length + 8:=by rw [hl4,List.length_append];rw [fd];omega
   have Q4:=Lib.hid hl4;have HA:=Lib.hid H1;clear H1 hl4
   go_wp2
   go_end0
   refine ⟨rfl,?_,HS.out⟩;have he:l4=l ++ aV a:=by
    rw [Q4.out,Q3.out,Q2.out,Q1.out,HK.out];unfold aV;rw [if_neg (by rw [HKI.out];simpa using k1),if_pos (by rw [HKI.out];simpa using k2),if_neg (by rw [HPI.out];simpa using k3),if_pos (by rw [HPI.out];simpa using k5),HP.out];simp only [bC,List.append_assoc,List.append_nil]
   rw [←he];exact HA.out
  go_wp2
  go_end0
  refine ⟨rfl,?_,HS.out⟩;have he:l3=l ++ aV a:=by
   rw [Q3.out,Q2.out,Q1.out,HK.out];unfold aV;rw [if_neg (by rw [HKI.out];simpa using k1),if_pos (by rw [HKI.out];simpa using k2),if_neg (by rw [HPI.out];simpa using k3),if_neg (by rw [HPI.out];simpa using k5),HP.out];simp only [bC,List.append_assoc,List.append_nil]
  rw [←he];exact HA.out
 rcases k6:((K:Int) == 3) with _ | _
 rotate_left
 ·have d0:v1.cell? ⟨w.heap.size,0,none⟩=some (.pointer (some ⟨g,0,none⟩)):=HX.out.cell 0
  have d2:=ia HY.out ha.out;have hcv:=gS v1 a.name
  go_wp2_with fail
  have hbw:=dO v1 5 ⟨a.name.toArray⟩;refine (pp (HA.out.below hbw) _ _ _ a.name rfl (eX v1 5 a.name) (by omega)).mono ?_;rintro e v2 ⟨rfl,H1,hs0⟩;have hs1:=(fG.of_below hbw (Nat.le_of_lt HA.out.lt)).trans hs0;clear hbw hs0 hcv d0 d2;have HS2:=Lib.hid (HS.out.trans hs1);have HX2:=Lib.hid (hs1.blk HX.out (by decide) hneX);have HY2:=Lib.hid (hs1.blk HY.out (by decide) hneY);clear HS HX HY HA hs1;have HS:=HS2;have HX:=HX2;have HY:=HY2;clear HS2 HX2 HY2;obtain ⟨l2,hl2⟩:∃ x,x=l1 ++ (aE a.name.length ++ a.name):=⟨_,rfl⟩
  rw [←hl2] at H1;have n2:l2.length≤l1.length + (a.name.length + 10):=by rw [hl2,List.length_append];have:=eY (x:=a.name) (by omega);rw [bC] at this;omega
  have Q2:=Lib.hid hl2;have HA:=Lib.hid H1;clear H1 hl2;have d0:v2.cell? ⟨w.heap.size,0,none⟩=some (.pointer (some ⟨g,0,none⟩)):=HX.out.cell 0;have d2:=iJ HY.out ha.out
  go_wp2_with (first
    | ((with_reducible refine aI 169 ?_);refine aa (by rfl) 169 (.tmp 2) rfl w.heap.size 0 rfl [.pointer (some ⟨g,0,none⟩)] _ (aj (cs:=[.pointer (some ⟨g,0,none⟩)]) HX.out) Tryz.underlying169 rfl kj ?_))
  refine (ln HA.out a.well (by omega)).mono ?_;rintro e v3 ⟨rfl,H1,hs1⟩;have HS2:=Lib.hid (HS.out.trans hs1);have HX2:=Lib.hid (hs1.blk HX.out (by decide) hneX);have HY2:=Lib.hid (hs1.blk HY.out (by decide) hneY);clear HS HX HY HA hs1;have HS:=HS2;have HX:=HX2;have HY:=HY2;clear HS2 HX2 HY2;obtain ⟨l3,hl3⟩:∃ x,x=l2 ++ fH a.well:=⟨_,rfl⟩
  rw [←hl3] at H1;have n3:l3.length≤l2.length + 1:=by rw [hl3,List.length_append];rw [cJ];omega
  have Q3:=Lib.hid hl3;have HA:=Lib.hid H1;clear H1 hl3;clear d0 d1 d2
  go_wp2
  go_end0
  refine ⟨rfl,?_,HS.out⟩;have he:l3=l ++ aV a:=by
   rw [Q3.out,Q2.out,Q1.out,HK.out];unfold aV;rw [if_neg (by rw [HKI.out];simpa using k1),if_neg (by rw [HKI.out];simpa using k2),if_pos (by rw [HKI.out];simpa using k6)];simp only [bC,List.append_assoc,List.append_nil]
  rw [←he];exact HA.out
 go_wp2
 go_end0
 refine ⟨rfl,?_,HS.out⟩;have he:l1=l ++ aV a:=by
  rw [Q1.out,HK.out];unfold aV;rw [if_neg (by rw [HKI.out];simpa using k1),if_neg (by rw [HKI.out];simpa using k2),if_neg (by rw [HKI.out];simpa using k6)];simp only [bC,List.append_assoc,List.append_nil]
 rw [←he];exact HA.out
end Go.Proofs.YtaafkokfdgfabaaGreat
namespace Go.Proofs.YtaafkokfdgfabaaGreat
open Go.RowKit
set_option linter.unusedVariables false
set_option linter.unusedSimpArgs false
def bG (e:dR):List UInt8:=aV e.act ++ (bT 1 e.o.err.toNat true ++ (bT 1 e.o.reason.toNat true ++ (fH e.o.hit ++ (aE e.o.version.toNat ++ (bC e.o.name ++ (aE e.len.toNat ++ bT 4 e.sum false))))))
def fW (w:World) (r:Bool) (m:List UInt8) (x:Ending) (w':World):Prop :=
 Below w.heap.size w w'∧(r=false→x=.returned (.tuple #[.slice none 0 0,.int .i64 1])) ∧
  (r=true→∃ A' c',x=.returned (.tuple #[.slice A' m.length c',.int .i64 0])∧w'.ownsRow w.heap.size 5 1 (.slice A' m.length c') m.length (ab m))
theorem Dq {w:World} {g:Nat} {l:List UInt8} (h:ul w g l) (hl:l.length≤1048576) :
  Calls Tryz.prog 117 #[.pointer (some ⟨g,0,none⟩)] w fun x w'=>∃ A' c',x=.returned (.tuple #[.slice A' l.length c',.int .i64 0])∧w'.ownsRow w.heap.size 5 1 (.slice A' l.length c') l.length (ab l)∧Below w.heap.size w w':=by
 obtain ⟨A,c,h⟩:=h;exact yj g g A c 1048576 (l,0) w h (by simp only;omega)
set_option maxRecDepth 100000 in
theorem pq (b:aR) (hb0:ar b) (w:World) :
  Calls Tryz.prog 131 #[.agg (ae b).toArray] w (fW w (ff b) (aD b)):=by
 have hb:=Lib.hid hb0;clear hb0;obtain ⟨W,hW⟩:∃ W,W=w.alloc (.cells (ae b).toArray 56):=⟨_,rfl⟩
 have HY:Hid (ah W w.heap.size 56 (ae b).toArray):=by rw [hW];exact ah.new w _ _ _ rfl
 have HB:Hid (Below w.heap.size w W):=by rw [hW];exact (Below.refl _ _).alloc (Nat.le_refl _) _
 have RB:=Lib.hid (aj HY.out);have HW:=Lib.hid hW;clear hW;go_enter Tryz.func131,Tryz.ntmps131
 go_upto_region 1 with fail
 rw [←HW.out];clear HW
 go_wp2_with (first
   | ((with_reducible refine aI 56 ?_);refine aa (by rfl) 56 (.tmp 1) rfl w.heap.size 0 rfl (ae b) _ RB.out Tryz.underlying56 rfl (cQ hb.out) ?_))
 refine (sR b hb.out W).mono ?_;rintro e w1 ⟨rfl,hb1⟩;have HY1:=Lib.hid (ah.below HY.out hb1 HY.out.lt);have HB1:Hid (Below w.heap.size w w1):=HB.out.trans (hb1.mono HB.out.size);clear HY RB HB hb1;have HY:=HY1;have HB:=HB1;clear HY1 HB1;rcases ht:ff b with _ | _
 ·go_wp2
  go_ret2
  exact ⟨HB.out,fun _=>rfl,fun h=>by rw [ht] at h;cases h⟩
 ·have Ht:=Lib.hid ht
  clear ht
  go_wp2_with fail
  refine (lO 1048576 w1 (by decide)).mono ?_;rintro e w2 ⟨rfl,hW2,hb2⟩;have HA2:Hid (ul w2 w1.heap.size []):=⟨none,0,hW2⟩
  have HY2:=Lib.hid (ah.below HY.out hb2 HY.out.lt);have HB2:Hid (Below w.heap.size w w2):=HB.out.trans (hb2.mono HB.out.size);have hgw:w.heap.size<w1.heap.size:=HY.out.lt;obtain ⟨g,hg⟩:∃ g,g=w1.heap.size:=⟨_,rfl⟩
  rw [←hg] at HA2 hgw ⊢;clear HY HB hb2 hW2 hg;obtain ⟨w3,hw3⟩:∃ W,W=w2.alloc (.cells #[.pointer (some ⟨g,0,none⟩)] 169):=⟨_,rfl⟩
  have hb3:Below w2.heap.size w2 w3:=by rw [hw3];exact (Below.refl _ _).alloc (Nat.le_refl _) _
  have HX:Hid (ah w3 w2.heap.size 169 #[.pointer (some ⟨g,0,none⟩)]):=by rw [hw3];exact ah.new w2 _ _ _ rfl
  have HY3:=Lib.hid (ah.below HY2.out hb3 HY2.out.lt);have HA:=Lib.hid (HA2.out.below hb3);have HB:Hid (Below w.heap.size w w3):=HB2.out.trans (hb3.mono HB2.out.size);have HW3:=Lib.hid hw3;have hxg:w2.heap.size≠g:=by have:=HA2.out.lt;omega
  clear hw3 hb3 HA2 HY2 HB2;go_upto_region 4 with fail
  rw [←HW3.out];clear HW3;have RB:=Lib.hid (aj HY3.out);have RX:=Lib.hid (aj (cs:=[.pointer (some ⟨g,0,none⟩)]) HX.out);have Hn:Hid (b.name.length≤255∧0≤b.port∧b.port≤65535):=by
   have:=Ht.out;simp only [ff,Bool.and_eq_true,decide_eq_true_eq,bF] at this;exact this
  go_wp2_with (first
   | ((with_reducible refine aI 169 ?_);refine aa (by rfl) 169 (.tmp 4) rfl w2.heap.size 0 rfl ([.pointer (some ⟨g,0,none⟩)]) _ RX.out Tryz.underlying169 rfl kj ?_)
   | ((with_reducible refine aI 56 ?_);refine aa (by rfl) 56 (.tmp 1) rfl w.heap.size 0 rfl (ae b) _ RB.out Tryz.underlying56 rfl (cQ hb.out) ?_))
  refine (qy HA.out b hb.out Hn.out.2 (by have:=Hn.out.1;omega) (by decide)).mono ?_;rintro e w4 ⟨rfl,h4,hs4⟩;have HX4:=Lib.hid (hs4.blk HX.out (by decide) hxg);have HB4:Hid (Below w.heap.size w w4):=HB.out.trans (hs4.bel.mono (Nat.le_of_lt hgw));have H4:=Lib.hid h4;have d0:w4.cell? ⟨w2.heap.size,0,none⟩=some (.pointer (some ⟨g,0,none⟩)):=HX4.out.cell 0;rw [List.nil_append] at H4;have hlen:=fM hb.out (by have:=Hn.out.1;omega:b.name.length≤1000);clear HX HY3 RB RX HB h4 hs4
  go_wp2_with fail
  refine (Dq H4.out (by omega)).mono ?_;rintro e w5 ⟨A',c',rfl,hown,hb5⟩;have hend:Below w.heap.size w w5:=HB4.out.trans (hb5.mono HB4.out.size);have hown2:=bJ hown HB4.out.size
  go_wp2
  go_ret2
  exact ⟨hend,(fun h=>by rw [Ht.out] at h;cases h),fun _=>⟨A',c',rfl,hown2⟩⟩
theorem im {e:dR} (h:aH e) (hr:aO e=true):(bG e).length≤200000:=by
 simp only [aO,dS,ff,Bool.and_eq_true,decide_eq_true_eq,bF] at hr;obtain ⟨⟨hk,_,_,hfr,hon,hnm,hbn,hbp⟩,he,hre,hv,hn,ho,hl⟩:=hr;have h1:=eY (x:=e.act.frame) (by omega);have h2:=eY (x:=e.act.oname) (by omega);have h3:=eY (x:=e.act.name) (by omega);have h4:=eY (x:=e.o.name) (by omega);have h5:=fM h.act.back (by omega);have h6:=aW (n:=e.o.version.toNat) (by omega);have h7:=aW (n:=e.len.toNat) (by omega);have ha:(aV e.act).length≤150000:=by
  unfold aV;rw [List.length_append,av];split
  ·omega
  ·split
   ·rw [List.length_append,av]
    split
    ·omega
    ·rw [List.length_append]
     split
     ·rw [fd];omega
     ·simp only [List.length_nil];omega
   ·split
    ·rw [List.length_append,cJ];omega
    ·simp only [List.length_nil];omega
 simp only [bG,List.length_append,av,cJ];omega
set_option maxRecDepth 100000 in
theorem AF (A:Option Addr) (c:Nat) (A2:Option Addr) (c2:Nat) (e0:dR) (he0:aH e0) (w:World) (hf:BS w w.heap.size A e0.act.frame) :
  Calls Tryz.prog 50 #[.agg (bm A e0.act.frame.length c A2 e0.o.out.length c2 e0).toArray] w (fW w (aO e0) (bG e0)):=by
 have ha:=Lib.hid he0;clear he0;obtain ⟨W,hW⟩:∃ W,W=w.alloc (.cells (bm A e0.act.frame.length c A2 e0.o.out.length c2 e0).toArray 65):=⟨_,rfl⟩
 have HY:Hid (ah W w.heap.size 65 (bm A e0.act.frame.length c A2 e0.o.out.length c2 e0).toArray):=by rw [hW];exact ah.new w _ _ _ rfl
 have HB:Hid (Below w.heap.size w W):=by rw [hW];exact (Below.refl _ _).alloc (Nat.le_refl _) _
 have RB:=Lib.hid (aj HY.out);have HFw:=Lib.hid hf;have HW:=Lib.hid hW;clear hW hf;go_enter Tryz.func50,Tryz.ntmps50
 go_upto_region 1 with fail
 rw [←HW.out];clear HW
 go_wp2_with (first
  | ((with_reducible refine aI 65 ?_);refine aa (by rfl) 65 (.tmp 1) rfl w.heap.size 0 rfl (bm A e0.act.frame.length c A2 e0.o.out.length c2 e0) _ RB.out Tryz.underlying65 rfl (kL ha.out) ?_))
 refine (md A c A2 c2 e0 ha.out W ((HFw.out.below HB.out).more HB.out.size)).mono ?_;rintro e w1 ⟨rfl,hb1⟩;have HY1:=Lib.hid (ah.below HY.out hb1 HY.out.lt);have HB1:Hid (Below w.heap.size w w1):=HB.out.trans (hb1.mono HB.out.size);clear HY RB HB hb1;have HY:=HY1;have HB:=HB1;clear HY1 HB1;rcases ht:aO e0 with _ | _
 ·go_wp2
  go_ret2
  exact ⟨HB.out,fun _=>rfl,fun h=>by rw [ht] at h;cases h⟩
 ·have Ht:=Lib.hid ht
  have hlenE:=im ha.out ht;clear ht
  go_wp2_with fail
  refine (lO 1048576 w1 (by decide)).mono ?_;rintro e w2 ⟨rfl,hW2,hb2⟩;have HA2:Hid (ul w2 w1.heap.size []):=⟨none,0,hW2⟩
  have HY2:=Lib.hid (ah.below HY.out hb2 HY.out.lt);have HB2:Hid (Below w.heap.size w w2):=HB.out.trans (hb2.mono HB.out.size);have hgw:w.heap.size<w1.heap.size:=HY.out.lt;obtain ⟨g,hg⟩:∃ g,g=w1.heap.size:=⟨_,rfl⟩
  rw [←hg] at HA2 hgw ⊢;clear HY HB hb2 hW2 hg;obtain ⟨w3,hw3⟩:∃ W,W=w2.alloc (.cells #[.pointer (some ⟨g,0,none⟩)] 169):=⟨_,rfl⟩
  have hb3:Below w2.heap.size w2 w3:=by rw [hw3];exact (Below.refl _ _).alloc (Nat.le_refl _) _
  obtain ⟨bx,hbx⟩:∃ z,z=w2.heap.size:=⟨_,rfl⟩
  have HX:Hid (ah w3 w2.heap.size 169 #[.pointer (some ⟨g,0,none⟩)]):=by rw [hw3];exact ah.new w2 _ _ _ rfl
  have HY3:=Lib.hid (ah.below HY2.out hb3 HY2.out.lt);have HA:=Lib.hid (HA2.out.below hb3);have HB:Hid (Below w.heap.size w w3):=HB2.out.trans (hb3.mono HB2.out.size);have HW3:=Lib.hid hw3;have hxg:w2.heap.size≠g:=by have:=HA2.out.lt;omega
  clear hw3 hb3 HA2 HY2 HB2;go_upto_region 4 with fail
  rw [←HW3.out];rw [←hbx] at HX hxg ⊢;clear HW3 hbx;have hyg:w.heap.size≠g:=by omega
  have RA:=Lib.hid (rt HY3.out ha.out);have RX:=Lib.hid (aj (cs:=[.pointer (some ⟨g,0,none⟩)]) HX.out);have hr:=Ht.out;simp only [aO,dS,ff,Bool.and_eq_true,decide_eq_true_eq,bF] at hr;obtain ⟨⟨hk,hop,_,hfr,hon,hnm,hbn,hbp⟩,hee,hre,hvv,hnn,hoo,hll⟩:=hr;have hop2:e0.act.kind=2→1≤e0.act.op∧e0.act.op≤5:=fun h=>by
   rw [h] at hop;simpa [bF] using hop
  have HF3:BS w3 g A e0.act.frame:=(HFw.out.below HB.out).more (Nat.le_of_lt hgw);have hc:=Lib.hid (AE HA.out A c e0.act ha.out.act hk hop2 hbp ⟨by omega,by omega,by omega,by omega⟩ HF3 (by decide));obtain ⟨E,hE⟩:∃ E:Nat,E=e0.o.err.toNat:=⟨_,rfl⟩
  obtain ⟨Rr,hR⟩:∃ E:Nat,E=e0.o.reason.toNat:=⟨_,rfl⟩
  obtain ⟨V,hV⟩:∃ E:Nat,E=e0.o.version.toNat:=⟨_,rfl⟩
  obtain ⟨Ln,hLn⟩:∃ E:Nat,E=e0.len.toNat:=⟨_,rfl⟩
  have HEI:Hid (e0.o.err=(E:Int)):=by show _=_;omega
  have HRI:Hid (e0.o.reason=(Rr:Int)):=by show _=_;omega
  have HVI:Hid (e0.o.version=(V:Int)):=by show _=_;omega
  have HLI:Hid (e0.len=(Ln:Int)):=by show _=_;omega
  have hEb:E≤9:=by omega
  have hRb:Rr≤10:=by omega
  have hVb:V≤1099511627776:=by omega
  have hLb:Ln≤262144:=by omega
  have hSb:=ha.out.sum;have Hev:Hid (bG e0=aV e0.act ++ (bT 1 E true ++ (bT 1 Rr true ++ (fH e0.o.hit ++ (aE V ++ (bC e0.o.name ++ (aE Ln ++ bT 4 e0.sum false))))))):=by
   show _=_
   rw [bG,hE,hR,hV,hLn]
  have hab:(aV e0.act).length≤200000:=by
   have:=congrArg List.length Hev.out;rw [List.length_append] at this;omega
  clear hE hR hV hLn hk hop hop2 hbp hee hre hvv hll HF3 hfr hon hnm hbn hoo HFw
  go_wp2_with (first
   | ((with_reducible refine aI 169 ?_);refine aa (by rfl) 169 (.tmp 4) rfl bx 0 rfl ([.pointer (some ⟨g,0,none⟩)]) _ RX.out Tryz.underlying169 rfl kj ?_)
   | ((with_reducible refine aI 60 ?_);refine aa (by rfl) 60 (.tmp 12) rfl w.heap.size 0 rfl (aq A e0.act.frame.length c e0.act) _ RA.out Tryz.underlying60 rfl (bP ha.out.act) ?_))
  refine hc.out.mono ?_;rintro e w4 ⟨rfl,h4,hs4⟩;rw [List.nil_append] at h4;have HX4:=Lib.hid (hs4.blk HX.out (by decide) hxg);have HY4:=Lib.hid (hs4.blk HY3.out (by decide) hyg);have HB4:Hid (Below w.heap.size w w4):=HB.out.trans (hs4.bel.mono (Nat.le_of_lt hgw));have H4:=Lib.hid h4;clear HX HY3 RA RX HB HA hc h4 hs4 hxg;obtain ⟨x1,hx1⟩:∃ Z,Z=w4.alloc (.cells (du none 0 0 sH).toArray 62):=⟨_,rfl⟩
  obtain ⟨W5,hy1⟩:∃ Z,Z=x1.setCells w4.heap.size 0 (du A2 e0.o.out.length c2 e0.o):=⟨_,rfl⟩
  obtain ⟨htx,hbx,hex⟩:=my w4 x1 W5 62 (du none 0 0 sH) (du A2 e0.o.out.length c2 e0.o) rfl hx1 hy1;rw [pi] at hx1;have Qx:=Lib.hid hx1;have Qy:=Lib.hid hy1;have Tx:=Lib.hid htx;have HP:=Lib.hid hbx;have HX:=Lib.hid (ah.below HX4.out hex HX4.out.lt);have HY:=Lib.hid (ah.below HY4.out hex HY4.out.lt);have HA:=Lib.hid (H4.out.below hex);have HB:Hid (Below w.heap.size w W5):=HB4.out.trans (hex.mono HB4.out.size);have hpg:w4.heap.size≠g:=by have:=H4.out.lt;omega
  have hxg:bx≠g:=fun e=>ah.ne HX4.out (H4.out.choose_spec.choose_spec.1) (by decide) e
  have RO:=Lib.hid (ru HY4.out ha.out);clear hx1 hy1 htx hbx hex HX4 HY4 H4 HB4;go_upto_region 6 with (first
   | ((with_reducible refine aI 62 ?_);refine aa (by rfl) 62 (.tmp 15) rfl w.heap.size 34 rfl (du A2 e0.o.out.length c2 e0.o) _ RO.out Tryz.underlying62 rfl kK ?_)
   | (rw [←Qx.out];(with_reducible refine aM 62 ?_);refine wpList_store_mid rfl 62 (.tmp 5) (.tmp 16) rfl w4.heap.size 0 (du A2 e0.o.out.length c2 e0.o).toArray rfl rfl Tx.out kK (mA _ _ _ _) ?_))
  rw [←Qy.out];clear Qx Qy Tx RO;obtain ⟨bp,hbp⟩:∃ z,z=w4.heap.size:=⟨_,rfl⟩
  rw [←hbp] at HP hpg ⊢;clear hbp;have d0:W5.cell? ⟨bx,0,none⟩=some (.pointer (some ⟨g,0,none⟩)):=HX.out.cell 0;have d1:W5.cell? ⟨bp,0,none⟩=some (.int .i64 (E:Int)):=by rw [←HEI.out];exact iZ HP.out
  go_wp2_with fail
  refine (oe HA.out E 1 1 true rfl (by decide) (by decide) (by omega) (by omega)).mono ?_;rintro e v1 ⟨rfl,H1,hs1⟩;have HX2:=Lib.hid (hs1.blk HX.out (by decide) hxg);have HY2:=Lib.hid (hs1.blk HY.out (by decide) hyg);have HP2:=Lib.hid (hs1.blk HP.out (by decide) hpg);have HB2:Hid (Below w.heap.size w v1):=HB.out.trans (hs1.bel.mono (Nat.le_of_lt hgw));clear HX HY HP HB HA hs1;have HX:=HX2;have HY:=HY2;have HP:=HP2;have HB:=HB2;clear HX2 HY2 HP2 HB2;obtain ⟨l1,hl1⟩:∃ x,x=(aV e0.act) ++ bT 1 E true:=⟨_,rfl⟩
  rw [←hl1] at H1;have n1:l1.length≤(aV e0.act).length + 1:=by rw [hl1,List.length_append];rw [av];omega
  have Q1:=Lib.hid hl1;have HA:=Lib.hid H1;clear H1 hl1;clear d0 d1;have d0:v1.cell? ⟨bx,0,none⟩=some (.pointer (some ⟨g,0,none⟩)):=HX.out.cell 0;have d1:v1.cell? ⟨bp,1,none⟩=some (.int .i64 (Rr:Int)):=by rw [←HRI.out];exact eD HP.out
  go_wp2_with fail
  refine (oe HA.out Rr 1 1 true rfl (by decide) (by decide) (by omega) (by omega)).mono ?_;rintro e v2 ⟨rfl,H1,hs1⟩;have HX2:=Lib.hid (hs1.blk HX.out (by decide) hxg);have HY2:=Lib.hid (hs1.blk HY.out (by decide) hyg);have HP2:=Lib.hid (hs1.blk HP.out (by decide) hpg);have HB2:Hid (Below w.heap.size w v2):=HB.out.trans (hs1.bel.mono (Nat.le_of_lt hgw));clear HX HY HP HB HA hs1;have HX:=HX2;have HY:=HY2;have HP:=HP2;have HB:=HB2;clear HX2 HY2 HP2 HB2;obtain ⟨l2,hl2⟩:∃ x,x=l1 ++ bT 1 Rr true:=⟨_,rfl⟩
  rw [←hl2] at H1;have n2:l2.length≤l1.length + 1:=by rw [hl2,List.length_append];rw [av];omega
  have Q2:=Lib.hid hl2;have HA:=Lib.hid H1;clear H1 hl2;clear d0 d1;have RX:=Lib.hid (aj (cs:=[.pointer (some ⟨g,0,none⟩)]) HX.out);have d0:v2.cell? ⟨bx,0,none⟩=some (.pointer (some ⟨g,0,none⟩)):=HX.out.cell 0;have d1:=uN HP.out
  go_wp2_with (first
    | ((with_reducible refine aI 169 ?_);refine aa (by rfl) 169 (.tmp 4) rfl bx 0 rfl ([.pointer (some ⟨g,0,none⟩)]) _ RX.out Tryz.underlying169 rfl kj ?_))
  refine (ln HA.out e0.o.hit (by omega)).mono ?_;rintro e v3 ⟨rfl,H1,hs1⟩;have HX2:=Lib.hid (hs1.blk HX.out (by decide) hxg);have HY2:=Lib.hid (hs1.blk HY.out (by decide) hyg);have HP2:=Lib.hid (hs1.blk HP.out (by decide) hpg);have HB2:Hid (Below w.heap.size w v3):=HB.out.trans (hs1.bel.mono (Nat.le_of_lt hgw));clear HX HY HP HB HA hs1;have HX:=HX2;have HY:=HY2;have HP:=HP2;have HB:=HB2;clear HX2 HY2 HP2 HB2;obtain ⟨l3,hl3⟩:∃ x,x=l2 ++ fH e0.o.hit:=⟨_,rfl⟩
  rw [←hl3] at H1;have n3:l3.length≤l2.length + 1:=by rw [hl3,List.length_append];rw [cJ];omega
  have Q3:=Lib.hid hl3;have HA:=Lib.hid H1;clear H1 hl3;clear d0 d1 RX;have d0:v3.cell? ⟨bx,0,none⟩=some (.pointer (some ⟨g,0,none⟩)):=HX.out.cell 0;have d1:v3.cell? ⟨bp,3,none⟩=some (.int .i64 (V:Int)):=by rw [←HVI.out];exact dX HP.out
  go_wp2_with fail
  refine (Dp HA.out V (by omega) (by omega)).mono ?_;rintro e v4 ⟨rfl,H1,hs1⟩;have HX2:=Lib.hid (hs1.blk HX.out (by decide) hxg);have HY2:=Lib.hid (hs1.blk HY.out (by decide) hyg);have HP2:=Lib.hid (hs1.blk HP.out (by decide) hpg);have HB2:Hid (Below w.heap.size w v4):=HB.out.trans (hs1.bel.mono (Nat.le_of_lt hgw));clear HX HY HP HB HA hs1;have HX:=HX2;have HY:=HY2;have HP:=HP2;have HB:=HB2;clear HX2 HY2 HP2 HB2;obtain ⟨l4,hl4⟩:∃ x,x=l3 ++ aE V:=⟨_,rfl⟩
  rw [←hl4] at H1;have n4:l4.length≤l3.length + 10:=by rw [hl4,List.length_append];have:=aW (n:=V) (by omega);omega
  have Q4:=Lib.hid hl4;have HA:=Lib.hid H1;clear H1 hl4;clear d0 d1;have d0:v4.cell? ⟨bx,0,none⟩=some (.pointer (some ⟨g,0,none⟩)):=HX.out.cell 0;have d1:=gI HP.out;have hcv:=gS v4 e0.o.name
  go_wp2_with fail
  have hbw:=dO v4 5 ⟨e0.o.name.toArray⟩;refine (pp (HA.out.below hbw) _ _ _ e0.o.name rfl (eX v4 5 e0.o.name) (by omega)).mono ?_;rintro e v5 ⟨rfl,H1,hs0⟩;have hs1:=(fG.of_below hbw (Nat.le_of_lt HA.out.lt)).trans hs0;clear hbw hs0 hcv d0 d1;have HX2:=Lib.hid (hs1.blk HX.out (by decide) hxg);have HY2:=Lib.hid (hs1.blk HY.out (by decide) hyg);have HP2:=Lib.hid (hs1.blk HP.out (by decide) hpg);have HB2:Hid (Below w.heap.size w v5):=HB.out.trans (hs1.bel.mono (Nat.le_of_lt hgw));clear HX HY HP HB HA hs1;have HX:=HX2;have HY:=HY2;have HP:=HP2;have HB:=HB2;clear HX2 HY2 HP2 HB2;obtain ⟨l5,hl5⟩:∃ x,x=l4 ++ (aE e0.o.name.length ++ e0.o.name):=⟨_,rfl⟩
  rw [←hl5] at H1;have n5:l5.length≤l4.length + (e0.o.name.length + 10):=by rw [hl5,List.length_append];have:=eY (x:=e0.o.name) (by omega);rw [bC] at this;omega
  have Q5:=Lib.hid hl5;have HA:=Lib.hid H1;clear H1 hl5;have d0:v5.cell? ⟨bx,0,none⟩=some (.pointer (some ⟨g,0,none⟩)):=HX.out.cell 0;have d1:v5.cell? ⟨w.heap.size,40,none⟩=some (.int .i64 (Ln:Int)):=by rw [←HLI.out];exact iY HY.out ha.out
  go_wp2_with fail
  refine (Dp HA.out Ln (by omega) (by omega)).mono ?_;rintro e v6 ⟨rfl,H1,hs1⟩;have HX2:=Lib.hid (hs1.blk HX.out (by decide) hxg);have HY2:=Lib.hid (hs1.blk HY.out (by decide) hyg);have HP2:=Lib.hid (hs1.blk HP.out (by decide) hpg);have HB2:Hid (Below w.heap.size w v6):=HB.out.trans (hs1.bel.mono (Nat.le_of_lt hgw));clear HX HY HP HB HA hs1;have HX:=HX2;have HY:=HY2;have HP:=HP2;have HB:=HB2;clear HX2 HY2 HP2 HB2;obtain ⟨l6,hl6⟩:∃ x,x=l5 ++ aE Ln:=⟨_,rfl⟩
  rw [←hl6] at H1;have n6:l6.length≤l5.length + 10:=by rw [hl6,List.length_append];have:=aW (n:=Ln) (by omega);omega
  have Q6:=Lib.hid hl6;have HA:=Lib.hid H1;clear H1 hl6;clear d0 d1;have d0:v6.cell? ⟨bx,0,none⟩=some (.pointer (some ⟨g,0,none⟩)):=HX.out.cell 0;have d1:=uL HY.out ha.out
  go_wp2_with fail
  refine (oe HA.out e0.sum 4 4 false rfl (by decide) (by decide) (by omega) (by omega)).mono ?_;rintro e v7 ⟨rfl,H1,hs1⟩;have HX2:=Lib.hid (hs1.blk HX.out (by decide) hxg);have HY2:=Lib.hid (hs1.blk HY.out (by decide) hyg);have HP2:=Lib.hid (hs1.blk HP.out (by decide) hpg);have HB2:Hid (Below w.heap.size w v7):=HB.out.trans (hs1.bel.mono (Nat.le_of_lt hgw));clear HX HY HP HB HA hs1;have HX:=HX2;have HY:=HY2;have HP:=HP2;have HB:=HB2;clear HX2 HY2 HP2 HB2;obtain ⟨l7,hl7⟩:∃ x,x=l6 ++ bT 4 e0.sum false:=⟨_,rfl⟩
  rw [←hl7] at H1;have n7:l7.length≤l6.length + 4:=by rw [hl7,List.length_append];rw [av];omega
  have Q7:=Lib.hid hl7;have HA:=Lib.hid H1;clear H1 hl7;clear d0 d1;have d0:v7.cell? ⟨bx,0,none⟩=some (.pointer (some ⟨g,0,none⟩)):=HX.out.cell 0;have he:l7=bG e0:=by
   rw [Q7.out,Q6.out,Q5.out,Q4.out,Q3.out,Q2.out,Q1.out,Hev.out];simp only [bC,List.append_assoc]
  rw [he] at HA
  go_wp2_with fail
  refine (Dq HA.out (by omega)).mono ?_;rintro e w9 ⟨A',c',rfl,hown,hb5⟩;have hend:Below w.heap.size w w9:=HB.out.trans (hb5.mono HB.out.size);have hown2:=bJ hown HB.out.size
  go_wp2
  go_ret2
  exact ⟨hend,(fun h=>by rw [Ht.out] at h;cases h),fun _=>⟨A',c',rfl,hown2⟩⟩
end Go.Proofs.YtaafkokfdgfabaaGreat
namespace Go.Proofs.YtaafkokfdgfabaaGreat
open Go.RowKit
set_option linter.unusedVariables false
set_option linter.unusedSimpArgs false
def fN (n:Nat):Bool:=(decide (97≤n) && decide (n≤122)) || (decide (48≤n) && decide (n≤57)) || decide (n=45) || decide (n=46)
def i3 (l:List UInt8):Bool:=l.all (fun c=>fN c.toNat) && decide (1≤l.length) && decide (l.length≤24)
set_option maxRecDepth 100000 in
theorem pu (l:List UInt8) (hl:l.length≤1000000000) (w:World) :
  Calls Tryz.prog 169 #[.string ⟨l.toArray⟩] w fun e w'=>e=.returned (.bool (i3 l))∧Below w.heap.size w w':=by
 have hcv:=gS w l;have hbw:=dO w 5 ⟨l.toArray⟩;have hbs:=eX w 5 l;go_enter Tryz.func169,Tryz.ntmps169
 go_wp2_with fail
 obtain ⟨v,hv⟩:∃ v,v=Lib.bytesWorld w 5 ⟨l.toArray⟩:=⟨_,rfl⟩
 rw [←hv] at hbw hbs ⊢;have Hbw:=Lib.hid hbw;have Hbs:=Lib.hid hbs;clear hcv hbw hbs hv;go_loopw [8] (fun i wr=>∃ k:Nat,k≤l.length∧i=.int .i64 (k:Int)∧Hid (Below v.heap.size v wr)∧Hid (∀ j (hj:j<l.length),j<k→fN l[j].toNat=true)) (fun i _=>l.length - (intOf i).toNat)
 case atStart=>exact ⟨0,by omega,rfl,Below.refl _ _,fun j hj h=>by omega⟩
 case round =>
  obtain ⟨k,hk,rfl,hbel,hat⟩:=hrel;rename World=>wr
  by_cases hlt:k<l.length
  ·have hltI:(k:Int)<(l.length:Int):=by omega
   have hk0:(0:Int)≤(k:Int):=by omega
   obtain ⟨ad,hA,hadb,hcell⟩:=(Hbs.out.below hbel.out).at_ hlt;injection hA with hA
   subst hA;obtain ⟨n,hn⟩:∃ n,n=l[k].toNat:=⟨_,rfl⟩
   rw [←hn,show (⟨w.heap.size,0,none⟩:Addr).add k=⟨w.heap.size,k,none⟩ by unfold Addr.add;split <;> simp_all] at hcell;have Hn:=Lib.hid hn;have hn2:n<256:=by rw [hn];exact l[k].toNat_lt
   have Hat2:Hid (fN n=true→∀ j (hj:j<l.length),j<k + 1→fN l[j].toNat=true):=fun h j hj hjk=>by
    by_cases e:j=k
    ·subst e;rw [←Hn.out];exact h
    ·exact hat.out j hj (by omega)
   have Hbad:Hid (fN n=false→i3 l=false):=fun h=>by
    have this:l.all (fun c=>fN c.toNat)=false:=by
     rw [←Bool.not_eq_true,List.all_eq_true];intro hall;have:=hall l[k] (List.getElem_mem hlt);rw [←Hn.out,h] at this;cases this
    unfold i3;rw [this];rfl
   clear hn hat hadb;by_cases a1:n<97
   ·by_cases a2:n<48
    ·by_cases a3:n=45
     ·rw [show (n:Int)=45 by omega] at hcell
      have Hc:Hid (fN n=true):=by show _=_;simp only [fN,Bool.or_eq_true,Bool.and_eq_true,decide_eq_true_eq,Bool.or_eq_false_iff,Bool.and_eq_false_iff,decide_eq_false_iff_not];omega
      go_wp2_with fail
      first
       | (go_roundw;exact ⟨k + 1,by omega,by go_num,hbel,Lib.hid (Hat2.out Hc.out)⟩;simp [intOf];omega)
       | exact ⟨⟨k + 1,by omega,by go_num,hbel,Lib.hid (Hat2.out Hc.out)⟩,by simp [intOf];omega⟩
     ·by_cases a4:n=46
      ·rw [show (n:Int)=46 by omega] at hcell
       have Hc:Hid (fN n=true):=by show _=_;simp only [fN,Bool.or_eq_true,Bool.and_eq_true,decide_eq_true_eq,Bool.or_eq_false_iff,Bool.and_eq_false_iff,decide_eq_false_iff_not];omega
       go_wp2_with fail
       first
        | (go_roundw;exact ⟨k + 1,by omega,by go_num,hbel,Lib.hid (Hat2.out Hc.out)⟩;simp [intOf];omega)
        | exact ⟨⟨k + 1,by omega,by go_num,hbel,Lib.hid (Hat2.out Hc.out)⟩,by simp [intOf];omega⟩
      ·skip
       have:(n:Int)<97:=by omega
       have:(n:Int)<48:=by omega
       have:((n:Int) != 45)=true:=by simp;omega
       have:((n:Int) != 46)=true:=by simp;omega
       have Hc:Hid (fN n=false):=by show _=_;simp only [fN,Bool.or_eq_true,Bool.and_eq_true,decide_eq_true_eq,Bool.or_eq_false_iff,Bool.and_eq_false_iff,decide_eq_false_iff_not];omega
       go_wp2_with fail
       go_ret
       exact ⟨by rw [Hbad.out Hc.out];rfl,Hbw.out.trans (hbel.out.mono Hbw.out.size)⟩
    ·by_cases a3:n≤57
     ·skip
      have:(n:Int)<97:=by omega
      have:¬ (n:Int)<48:=by omega
      have:¬ (57:Int)<(n:Int):=by omega
      have Hc:Hid (fN n=true):=by show _=_;simp only [fN,Bool.or_eq_true,Bool.and_eq_true,decide_eq_true_eq,Bool.or_eq_false_iff,Bool.and_eq_false_iff,decide_eq_false_iff_not];omega
      go_wp2_with fail
      first
       | (go_roundw;exact ⟨k + 1,by omega,by go_num,hbel,Lib.hid (Hat2.out Hc.out)⟩;simp [intOf];omega)
       | exact ⟨⟨k + 1,by omega,by go_num,hbel,Lib.hid (Hat2.out Hc.out)⟩,by simp [intOf];omega⟩
     ·skip
      have:(n:Int)<97:=by omega
      have:¬ (n:Int)<48:=by omega
      have:(57:Int)<(n:Int):=by omega
      have:((n:Int) != 45)=true:=by simp;omega
      have:((n:Int) != 46)=true:=by simp;omega
      have Hc:Hid (fN n=false):=by show _=_;simp only [fN,Bool.or_eq_true,Bool.and_eq_true,decide_eq_true_eq,Bool.or_eq_false_iff,Bool.and_eq_false_iff,decide_eq_false_iff_not];omega
      go_wp2_with fail
      go_ret
      exact ⟨by rw [Hbad.out Hc.out];rfl,Hbw.out.trans (hbel.out.mono Hbw.out.size)⟩
   ·by_cases a2:n≤122
    ·skip
     have:¬ (n:Int)<97:=by omega
     have:¬ (122:Int)<(n:Int):=by omega
     have Hc:Hid (fN n=true):=by show _=_;simp only [fN,Bool.or_eq_true,Bool.and_eq_true,decide_eq_true_eq,Bool.or_eq_false_iff,Bool.and_eq_false_iff,decide_eq_false_iff_not];omega
     go_wp2_with fail
     first
      | (go_roundw;exact ⟨k + 1,by omega,by go_num,hbel,Lib.hid (Hat2.out Hc.out)⟩;simp [intOf];omega)
      | exact ⟨⟨k + 1,by omega,by go_num,hbel,Lib.hid (Hat2.out Hc.out)⟩,by simp [intOf];omega⟩
    ·skip
     have:¬ (n:Int)<97:=by omega
     have:(122:Int)<(n:Int):=by omega
     have:¬ (n:Int)<48:=by omega
     have:(57:Int)<(n:Int):=by omega
     have:((n:Int) != 45)=true:=by simp;omega
     have:((n:Int) != 46)=true:=by simp;omega
     have Hc:Hid (fN n=false):=by show _=_;simp only [fN,Bool.or_eq_true,Bool.and_eq_true,decide_eq_true_eq,Bool.or_eq_false_iff,Bool.and_eq_false_iff,decide_eq_false_iff_not];omega
     go_wp2_with fail
     go_ret
     exact ⟨by rw [Hbad.out Hc.out];rfl,Hbw.out.trans (hbel.out.mono Hbw.out.size)⟩
  ·have hltI:¬ (k:Int)<(l.length:Int):=by omega
   have Hall:Hid (l.all (fun c=>fN c.toNat)=true):=by
    show _=_
    rw [List.all_eq_true];intro c hc;obtain ⟨j,hj,rfl⟩:=List.getElem_of_mem hc;exact hat.out j hj (by omega)
   by_cases b1:1≤l.length
   ·have f1:(1:Int)≤(l.length:Int):=by omega
    have f2:(0:Int)<(l.length:Int):=by omega
    have f3:0<l.length:=by omega
    have f4:l≠[]:=by intro e;rw [e] at b1;simp at b1
    have Hr:Hid (i3 l=decide ((l.length:Int)≤24)):=by
     show _=_;unfold i3;rw [Hall.out,decide_eq_true b1,Bool.true_and,Bool.true_and]
     exact decide_eq_decide.2 ⟨fun h=>by omega,fun h=>by omega⟩
    go_wp2_with fail
    go_ret
    exact ⟨by rw [Hr.out];rfl,Hbw.out.trans (hbel.out.mono Hbw.out.size)⟩
   ·have f1:¬ (1:Int)≤(l.length:Int):=by omega
    have f3:l.length=0:=by omega
    have f4:l=[]:=List.eq_nil_of_length_eq_zero f3;have Hr:Hid (i3 l=false):=by show _=_;unfold i3;rw [Hall.out,decide_eq_false b1];rfl
    clear f3 f4
    go_wp2_with fail
    go_ret
    exact ⟨by rw [Hr.out];rfl,Hbw.out.trans (hbel.out.mono Hbw.out.size)⟩
end Go.Proofs.YtaafkokfdgfabaaGreat
