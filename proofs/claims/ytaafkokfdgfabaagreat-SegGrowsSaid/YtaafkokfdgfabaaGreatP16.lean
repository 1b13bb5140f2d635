import Derived.Test.YtaafkokfdgfabaaGreatP13
import Derived.Test.YtaafkokfdgfabaaGreatP14
import Derived.Test.YtaafkokfdgfabaaGreatP15
import Derived.Lib.ConvBytes
import Derived.Deep.RegionHeld3
set_option maxHeartbeats 8000000
namespace Go.Proofs.YtaafkokfdgfabaaGreat
open Go.RowKit
set_option linter.unusedVariables false
set_option linter.unusedSimpArgs false
def vS (w:World) (g:Nat) (l:List UInt8):Prop:=∃ A c,yP w g g A c 1048576 (l,0)
structure gg (w w':World) (g:Nat):Prop where
 bel:Below g w w'
 size:w.heap.size≤w'.heap.size
 blk:∀ {k:Nat} {t:TypeId} {cs:Array Value},ah w k t cs→t≠5→k≠g→ah w' k t cs
theorem gg.trans {a b c:World} {g:Nat} (h:gg a b g) (k:gg b c g):gg a c g :=
 ⟨h.bel.trans k.bel,Nat.le_trans h.size k.size,fun hb ht hk=>k.blk (h.blk hb ht hk) ht hk⟩
theorem gg.of_below {w w':World} {g:Nat} (h:Below w.heap.size w w') (hg:g≤w.heap.size):gg w w' g :=
 ⟨h.mono hg,h.size,fun hb _ _=>ah.below hb h hb.lt⟩
theorem gg.refl (w:World) (g:Nat):gg w w g:=⟨Below.refl _ _,Nat.le_refl _,fun hb _ _=>hb⟩
theorem vS.below {w w':World} {g:Nat} {l:List UInt8} (h:vS w g l) (hb:Below w.heap.size w w'):vS w' g l:=by
 obtain ⟨A,c,h⟩:=h;exact ⟨A,c,yP.below h hb⟩
theorem vS.lt {w:World} {g:Nat} {l:List UInt8} (h:vS w g l):g<w.heap.size:=by
 obtain ⟨A,c,h⟩:=h;exact h.1.lt
theorem kh (A:Option Addr) (n c:Nat):(Value.slice A n c).ownBlock=(Value.slice A 0 0).ownBlock:=by cases A <;> rfl
def uy (w:World) (g:Nat) (l:List UInt8) (e:Ending) (w':World):Prop:=e=.returned (.tuple #[])∧vS w' g l∧gg w w' g
theorem Ef {w w':World} {g:Nat} {A:Option Addr} {c:Nat} {s:vR} {l:List UInt8} {s':vR} {x:Ending} (h:yP w g g A c 1048576 s) (hi:gU w g g A 1048576 s' x w') (hs:s'=(l,0)):uy w g l x w':=by
 subst hs;obtain ⟨rfl,A',c',hW,ho,_⟩:=hi;refine ⟨rfl,⟨A',c',hW⟩,⟨ho.below (Nat.le_refl _) (fun k hk=>?_) (Nat.le_of_lt h.1.lt),ho.2.2.2.1,fun {k t cs} hb ht hk=>ho.blk hb hk (fun e=>?_)⟩⟩
 ·exact (h.2.1.lt k (by rw [kh];exact hk)).1
 ·rcases aK h.2.1 hb ht with h1 | h1
  ·rw [kh] at h1
   rw [h1] at e;cases e
  ·rw [kh] at h1
   exact h1 e.symm
theorem k8 {l b:List UInt8} (h:l.length + b.length≤1048576):gK 1048576 (l,0) b=(l ++ b,0):=by
 unfold gK;rw [if_neg (by simp),if_neg (by simp only;omega)]
theorem pw {w:World} {g:Nat} {l:List UInt8} (h:vS w g l) (m k:Nat) (sz:Int) (big:Bool) (hsz:sz=(k:Int)) (hk1:1≤k) (hk8:k≤8) (hm:m<18446744073709551616) (hl:l.length + 8≤1048576) :
  Calls Tryz.prog 113 #[.pointer (some ⟨g,0,none⟩),.int .u64 (m:Int),.int .i64 sz,.bool big] w (uy w g (l ++ cd k m big)):=by
 subst hsz;obtain ⟨A,c,h⟩:=h;have hc:cR (k:Int)=k:=by unfold cR;omega
 refine (Ag g g A c 1048576 (l,0) w m (k:Int) big h hm (by decide) (by simp only;omega)).mono fun e w' hi=>Ef h hi ?_
 unfold ru;rw [if_neg (by rintro ⟨_,h1 | h1⟩ <;> omega),hc];exact k8 (by rw [aw];omega)
theorem E8 {w:World} {g:Nat} {l:List UInt8} (h:vS w g l) (n:Nat) (hn:n<18446744073709551616) (hl:l.length + 10≤1048576) :
  Calls Tryz.prog 115 #[.pointer (some ⟨g,0,none⟩),.int .u64 (n:Int)] w (uy w g (l ++ aI n)):=by
 obtain ⟨A,c,h⟩:=h;have:=a7 (n:=n) hn;exact (z8 g g A c 1048576 (l,0) w n h hn (by decide) (by simp only;omega)).mono fun e w' hi=>Ef h hi (k8 (by omega))
theorem qu {w:World} {g:Nat} {l:List UInt8} (h:vS w g l) (X:Option Addr) (n d:Nat) (b:List UInt8) (hn:n=b.length) (hb:BS w w.heap.size X b) (hl:l.length + b.length + 10≤1048576) :
  Calls Tryz.prog 116 #[.pointer (some ⟨g,0,none⟩),.slice X n d] w (uy w g (l ++ (aI b.length ++ b))):=by
 subst hn;obtain ⟨A,c,h⟩:=h;have:=a7 (n:=b.length) (by omega);exact (wS g g A c 1048576 (l,0) w X d b h hb (by decide) (by simp only;omega) (by omega)).mono fun e w' hi=>Ef h hi (k8 (by rw [List.length_append];omega))
theorem pR {w:World} {g:Nat} {l:List UInt8} (h:vS w g l) (X:Option Addr) (n d:Nat) (b:List UInt8) (hn:n=b.length) (hb:BS w w.heap.size X b) (hl:l.length + b.length≤1048576) :
  Calls Tryz.prog 160 #[.pointer (some ⟨g,0,none⟩),.slice X n d] w (uy w g (l ++ b)):=by
 obtain ⟨A,c,h⟩:=h;exact (fO g g A c 1048576 (l,0) X n d b w h hn hb (by decide) (by simp only;omega) (by omega)).mono fun e w' hi=>Ef h hi (k8 hl)
theorem eh (w:World) (e:TypeId) (s:ByteArray):Below w.heap.size w (Lib.bytesWorld w e s) :=
 ⟨rfl,rfl,rfl,by rw [Lib.bytesWorld_size];omega,fun k hk=>Lib.bytesWorld_at_old w e s k hk⟩
theorem fD (w:World) (e:TypeId) (l:List UInt8):BS (Lib.bytesWorld w e ⟨l.toArray⟩) (Lib.bytesWorld w e ⟨l.toArray⟩).heap.size (some ⟨w.heap.size,0,none⟩) l:=fun hn=>by
 refine ⟨⟨w.heap.size,0,none⟩,rfl,by rw [Lib.bytesWorld_size];show w.heap.size<_;omega,fun j c hj=>?_⟩;have hjl:=(List.getElem?_eq_some_iff.1 hj).1;have:=Lib.bytesWorld_cell w e ⟨l.toArray⟩ j (show j<l.toArray.size by simpa using hjl);rw [show (⟨w.heap.size,0,none⟩:Addr).add j=⟨w.heap.size,j,none⟩ by unfold Addr.add;split <;> simp_all,this];simp [List.getD,hj,rm]
theorem iA (w:World) (l:List UInt8):(convert 9 43 (.string ⟨l.toArray⟩)).run Tryz.prog w=.ok (.slice (some ⟨w.heap.size,0,none⟩) l.length (grownCap w l.length 0 5)) (Lib.bytesWorld w 5 ⟨l.toArray⟩) :=
 Lib.run_convert_string_bytes (P:=Tryz.prog) w 9 43 5 ⟨l.toArray⟩ Tryz.underlying9 Tryz.underlying43 Tryz.underlying5
end Go.Proofs.YtaafkokfdgfabaaGreat
namespace Go.Proofs.YtaafkokfdgfabaaGreat
open Go.RowKit
set_option linter.unusedVariables false
set_option linter.unusedSimpArgs false
def fP (b:Bool):List UInt8:=if b then [1] else [0]
def bI (x:List UInt8):List UInt8:=aI x.length ++ x
def aD (b:aU):List UInt8:=bI b.name ++ (fP b.addr.1 ++ (b.addr.2 ++ (cd 2 b.port.toNat true ++ (b.mac ++ (fj b.wt ++ fP b.drain)))))
def aZ (a:cz):List UInt8 :=
 cd 1 a.kind.toNat true ++
  (if a.kind=1 then bI a.frame
   else if a.kind=2 then cd 1 a.op.toNat true ++ (if a.op=1 then aD a.back else bI a.oname ++ (if a.op=3 then fj a.owt else []))
   else if a.kind=3 then bI a.name ++ fP a.well else [])
theorem dd (b:Bool):(fP b).length=1:=by cases b <;> rfl
theorem fE {x:List UInt8} (h:x.length≤1000000):(bI x).length≤x.length + 10:=by
 have:=a7 (n:=x.length) (by omega);rw [bI,List.length_append];omega
theorem Ai (b:Bool):cd 1 (if b then 1 else 0) true=fP b:=by cases b <;> decide
theorem la:(Tryz.prog.info? 169).map (·.size)=some 1:=by kernel_rfl
def rR (g:Nat):Value:=.agg #[.pointer (some ⟨g,0,none⟩)]
set_option maxRecDepth 100000 in
theorem mr {w:World} {g:Nat} {l:List UInt8} (h:vS w g l) (b:Bool) (hl:l.length + 8≤1048576) :
  Calls Tryz.prog 114 #[rR g,.bool b] w (uy w g (l ++ fP b)):=by
 rw [←Ai];unfold rR;obtain ⟨W,hW⟩:∃ W,W=w.alloc (.cells #[.pointer (some ⟨g,0,none⟩)] 169):=⟨_,rfl⟩
 have hX:ah W w.heap.size 169 #[.pointer (some ⟨g,0,none⟩)]:=by rw [hW];exact ah.new w _ _ _ rfl
 have hB:Below w.heap.size w W:=by rw [hW];exact (Below.refl _ _).alloc (Nat.le_refl _) _
 have HA:=Lib.hid (h.below hB);have HS:=Lib.hid (gg.of_below hB (Nat.le_of_lt h.lt));have d0:W.cell? ⟨w.heap.size,0,none⟩=some (.pointer (some ⟨g,0,none⟩)):=hX.cell 0;have HW:=Lib.hid hW;clear hW hX hB h;rcases b with _ | _
 ·have hc:=Lib.hid (pw HA.out 0 1 1 true rfl (by decide) (by decide) (by decide) hl)
  go_enter Tryz.func114,Tryz.ntmps114
  go_upto_region 1 with fail
  rw [←HW.out]
  go_wp2_with fail
  refine hc.out.mono ?_;rintro e w2 ⟨rfl,h2,hs2⟩
  go_wp2
  go_end0
  exact ⟨rfl,h2,HS.out.trans hs2⟩
 ·have hc:=Lib.hid (pw HA.out 1 1 1 true rfl (by decide) (by decide) (by decide) hl)
  go_enter Tryz.func114,Tryz.ntmps114
  go_upto_region 1 with fail
  rw [←HW.out]
  go_wp2_with fail
  refine hc.out.mono ?_;rintro e w2 ⟨rfl,h2,hs2⟩
  go_wp2
  go_end0
  exact ⟨rfl,h2,HS.out.trans hs2⟩
theorem Fu {w:World} {k:Nat} {b:aU} (hb:ah w k 56 (ag b).toArray) (h:au b):BS w w.heap.size (some ⟨k,2,none⟩) b.addr.2:=fun hn=>by
 refine ⟨_,rfl,hb.lt,fun j c hj=>?_⟩;have:=pP hb h (1 + j) (rm c) (by rw [ai,show 1 + j=j + 1 by omega,List.getElem?_cons_succ,ab,List.getElem?_map,hj];rfl);rw [show (⟨k,2,none⟩:Addr).add j=⟨k,1 + (1 + j),none⟩ by unfold Addr.add;split <;> simp_all <;> omega];exact this
theorem Eg {w:World} {k:Nat} {b:aU} (hb:ah w k 56 (ag b).toArray) (h:au b):BS w w.heap.size (some ⟨k,19,none⟩) b.mac:=fun hn=>by
 refine ⟨_,rfl,hb.lt,fun j c hj=>?_⟩;have:=wL hb h j (rm c) (by rw [ab,List.getElem?_map,hj];rfl);rw [show (⟨k,19,none⟩:Addr).add j=⟨k,19 + j,none⟩ by unfold Addr.add;split <;> simp_all];exact this
set_option maxRecDepth 100000 in
theorem rS {w:World} {g:Nat} {l:List UInt8} (h:vS w g l) (b:aU) (hb0:au b) (hp:0≤b.port∧b.port≤65535) (hn:b.name.length≤1000) (hl:l.length + 2000≤1048576) :
  Calls Tryz.prog 159 #[rR g,.agg (ag b).toArray] w (uy w g (l ++ aD b)):=by
 have hb:=Lib.hid hb0;obtain ⟨hp0,hp1⟩:=hp;obtain ⟨P,hP⟩:∃ P:Nat,P=b.port.toNat:=⟨_,rfl⟩
 have hPI:b.port=(P:Int):=by omega
 have HP:=Lib.hid hP;have HPI:=Lib.hid hPI;have hPb:P≤65535:=by omega
 unfold rR;clear hb0 hP hPI hp0 hp1;obtain ⟨W1,hW1⟩:∃ W,W=w.alloc (.cells #[.pointer (some ⟨g,0,none⟩)] 169):=⟨_,rfl⟩
 obtain ⟨W,hW⟩:∃ W,W=W1.alloc (.cells (ag b).toArray 56):=⟨_,rfl⟩
 have hs1:W1.heap.size=w.heap.size + 1:=by rw [hW1];simp
 have hX1:ah W1 w.heap.size 169 #[.pointer (some ⟨g,0,none⟩)]:=by rw [hW1];exact ah.new w _ _ _ rfl
 have HX:Hid (ah W w.heap.size 169 #[.pointer (some ⟨g,0,none⟩)]):=by rw [hW];exact ah.alloc hX1 _
 have HY:Hid (ah W (w.heap.size + 1) 56 (ag b).toArray):=by rw [hW,←hs1];exact ah.new W1 _ _ _ rfl
 have hB:Below w.heap.size w W:=by rw [hW,hW1];exact ((Below.refl _ _).alloc (Nat.le_refl _) _).alloc (by simp) _
 have hgw:=h.lt;have hneX:w.heap.size≠g:=by omega
 have hneY:w.heap.size + 1≠g:=by omega
 have HA:=Lib.hid (h.below hB);have HS:=Lib.hid (gg.of_below hB (Nat.le_of_lt hgw));have HW1:=Lib.hid hW1;have HW:=Lib.hid hW;clear hW1 hW hX1 hs1 h;have d0:W.cell? ⟨w.heap.size,0,none⟩=some (.pointer (some ⟨g,0,none⟩)):=HX.out.cell 0;have d1:=mq HY.out;have hcv:=iA W b.name;go_enter Tryz.func159,Tryz.ntmps159
 go_upto_region 1 with fail
 rw [←HW1.out];rw [←HW.out];clear HW1 HW
 go_wp2_with fail
 have hbw:=eh W 5 ⟨b.name.toArray⟩;refine (qu (HA.out.below hbw) _ _ _ b.name rfl (fD W 5 b.name) (by omega)).mono ?_;rintro e v1 ⟨rfl,H1,hs0⟩;have hs1:=(gg.of_below hbw (Nat.le_of_lt HA.out.lt)).trans hs0;clear hbw hs0 hcv d0 d1;have HS2:=Lib.hid (HS.out.trans hs1);have HX2:=Lib.hid (hs1.blk HX.out (by decide) hneX);have HY2:=Lib.hid (hs1.blk HY.out (by decide) hneY);clear HS HX HY HA hs1;have HS:=HS2;have HX:=HX2;have HY:=HY2;clear HS2 HX2 HY2;obtain ⟨l1,hl1⟩:∃ x,x=l ++ (aI b.name.length ++ b.name):=⟨_,rfl⟩
 rw [←hl1] at H1;have n1:l1.length≤l.length + (b.name.length + 10):=by rw [hl1,List.length_append];have:=fE (x:=b.name) (by omega);rw [bI] at this;omega
 have Q1:=Lib.hid hl1;have HA:=Lib.hid H1;clear H1 hl1;have d0:v1.cell? ⟨w.heap.size,0,none⟩=some (.pointer (some ⟨g,0,none⟩)):=HX.out.cell 0;have d2:=wK HY.out hb.out
 go_wp2_with (first
   | ((with_reducible refine aE 169 ?_);refine aa (by rfl) 169 (.tmp 2) rfl w.heap.size 0 rfl [.pointer (some ⟨g,0,none⟩)] _ (ae (cs:=[.pointer (some ⟨g,0,none⟩)]) HX.out) Tryz.underlying169 rfl la ?_))
 refine (mr HA.out b.addr.1 (by omega)).mono ?_;rintro e v2 ⟨rfl,H1,hs1⟩;have HS2:=Lib.hid (HS.out.trans hs1);have HX2:=Lib.hid (hs1.blk HX.out (by decide) hneX);have HY2:=Lib.hid (hs1.blk HY.out (by decide) hneY);clear HS HX HY HA hs1;have HS:=HS2;have HX:=HX2;have HY:=HY2;clear HS2 HX2 HY2;obtain ⟨l2,hl2⟩:∃ x,x=l1 ++ fP b.addr.1:=⟨_,rfl⟩
 rw [←hl2] at H1;have n2:l2.length≤l1.length + 1:=by rw [hl2,List.length_append];rw [dd];omega
 have Q2:=Lib.hid hl2;have HA:=Lib.hid H1;clear H1 hl2;clear d0 d2;go_upto_region 3 with fail
 have HXd:ah v2.drew w.heap.size 169 #[.pointer (some ⟨g,0,none⟩)]:=HX.out.drew;refine wp_region_noPanic ?_;refine wp_region_held_drew (S:=fun w'=>ah w' w.heap.size 169 #[.pointer (some ⟨g,0,none⟩)]∧ah w' (w.heap.size + 1) 56 (ag b).toArray) (by kernel_rfl) ⟨HXd,HY.out.drew⟩ (fun hHeld=>?_);refine wpAnyH_take (i:=0) (v:=?_) rfl (by kernel_rfl) (by kernel_rfl) (by kernel_rfl) (fun _ _ _ h=>h) (Or.inl ⟨by rfl,?_⟩) hHeld ?_;rotate_left
 ·intro w' hSw
  skip
  go_simp
  try with_reducible rfl
 try (simp only [Act.put,List.getElem_toArray,List.getElem_cons_succ,List.getElem_cons_zero,List.setIfInBounds_toArray,List.set_cons_zero,List.set_cons_succ])
 refine wpAnyH_take (i:=1) (v:=?_) rfl (by kernel_rfl) (by kernel_rfl) (by kernel_rfl) (fun _ _ _ h=>h) (Or.inl ⟨by rfl,?_⟩) hHeld ?_;rotate_left
 ·intro w' hSw
  have e0:w'.cell? ⟨w.heap.size,0,none⟩=some (.pointer (some ⟨g,0,none⟩)):=hSw.1.cell 0;go_simp
  try with_reducible rfl
 try (simp only [Act.put,List.getElem_toArray,List.getElem_cons_succ,List.getElem_cons_zero,List.setIfInBounds_toArray,List.set_cons_zero,List.set_cons_succ])
 refine wpAnyH_take (i:=2) (v:=?_) rfl (by kernel_rfl) (by kernel_rfl) (by kernel_rfl) (fun _ _ _ h=>h) (Or.inl ⟨by rfl,?_⟩) hHeld ?_;rotate_left
 ·intro w' hSw
  skip
  go_simp
  try with_reducible rfl
 try (simp only [Act.put,List.getElem_toArray,List.getElem_cons_succ,List.getElem_cons_zero,List.setIfInBounds_toArray,List.set_cons_zero,List.set_cons_succ])
 refine wpAnyH_take (i:=3) (v:=?_) rfl (by kernel_rfl) (by kernel_rfl) (by kernel_rfl) (fun _ _ _ h=>h) (Or.inl ⟨by rfl,?_⟩) hHeld ?_;rotate_left
 ·intro w' hSw
  skip
  go_simp
  try with_reducible rfl
 try (simp only [Act.put,List.getElem_toArray,List.getElem_cons_succ,List.getElem_cons_zero,List.setIfInBounds_toArray,List.set_cons_zero,List.set_cons_succ])
 refine wpAnyH_take (i:=4) (v:=?_) rfl (by kernel_rfl) (by kernel_rfl) (by kernel_rfl) (fun _ _ _ h=>h) (Or.inl ⟨by rfl,?_⟩) hHeld ?_;rotate_left
 ·intro w' hSw
  skip
  go_simp
  try with_reducible rfl
 try (simp only [Act.put,List.getElem_toArray,List.getElem_cons_succ,List.getElem_cons_zero,List.setIfInBounds_toArray,List.set_cons_zero,List.set_cons_succ])
 generalize hwd:v2.drew=wd at hHeld ⊢
 have hbd:Below v2.heap.size v2 wd:=by rw [←hwd];exact (Below.refl _ _).drew
 have hAd:=HA.out.below hbd;have hSd:=gg.of_below hbd (Nat.le_of_lt HA.out.lt);clear hwd HXd;refine wpAnyH_ready (rs:=[5]) (by kernel_rfl) (by simp) ?_;refine AllReadyH.cons (i:=5) rfl (fun K hK=>?_) AllReadyH.nil;go_simp
 refine (pR hAd _ _ _ b.addr.2 hb.out.addr.symm (Fu hHeld.2 hb.out) (by have:b.addr.2.length=16:=hb.out.addr;omega)).mono ?_;rintro e v3 ⟨rfl,H1,hs0⟩;have hs1:=hSd.trans hs0;have hHn:=(⟨hs0.blk hHeld.1 (by decide) hneX,hs0.blk hHeld.2 (by decide) hneY⟩:_∧_)
 clear hs0 hAd hbd hSd
 go_wp2_with fail
 refine hK.out _ _ hHn (fun hHeld=>?_);clear hK K hHn
 try (simp only [Act.put,List.getElem_toArray,List.getElem_cons_succ,List.getElem_cons_zero,List.setIfInBounds_toArray,List.set_cons_zero,List.set_cons_succ])
 refine wpAnyH_done (by kernel_rfl) ?_ _;refine NoPanic.normal ?_;clear hHeld;have HS2:=Lib.hid (HS.out.trans hs1);have HX2:=Lib.hid (hs1.blk HX.out (by decide) hneX);have HY2:=Lib.hid (hs1.blk HY.out (by decide) hneY);clear HS HX HY HA hs1;have HS:=HS2;have HX:=HX2;have HY:=HY2;clear HS2 HX2 HY2;obtain ⟨l3,hl3⟩:∃ x,x=l2 ++ b.addr.2:=⟨_,rfl⟩
 rw [←hl3] at H1;have n3:l3.length≤l2.length + 16:=by rw [hl3,List.length_append];have:b.addr.2.length=16:=hb.out.addr;omega
 have Q3:=Lib.hid hl3;have HA:=Lib.hid H1;clear H1 hl3;have d0:v3.cell? ⟨w.heap.size,0,none⟩=some (.pointer (some ⟨g,0,none⟩)):=HX.out.cell 0;have d3:v3.cell? ⟨w.heap.size + 1,18,none⟩=some (.int .i64 (P:Int)):=by rw [←HPI.out];exact kY HY.out hb.out
 go_wp2_with fail
 refine (pw HA.out P 2 2 true rfl (by decide) (by decide) (by omega) (by omega)).mono ?_;rintro e v4 ⟨rfl,H1,hs1⟩;have HS2:=Lib.hid (HS.out.trans hs1);have HX2:=Lib.hid (hs1.blk HX.out (by decide) hneX);have HY2:=Lib.hid (hs1.blk HY.out (by decide) hneY);clear HS HX HY HA hs1;have HS:=HS2;have HX:=HX2;have HY:=HY2;clear HS2 HX2 HY2;obtain ⟨l4,hl4⟩:∃ x,x=l3 ++ cd 2 P true:=⟨_,rfl⟩
 rw [←hl4] at H1;have n4:l4.length≤l3.length + 2:=by rw [hl4,List.length_append];rw [aw];omega
 have Q4:=Lib.hid hl4;have HA:=Lib.hid H1;clear H1 hl4;clear d0 d3;go_upto_region 5 with fail
 have HXd:ah v4.drew w.heap.size 169 #[.pointer (some ⟨g,0,none⟩)]:=HX.out.drew;refine wp_region_noPanic ?_;refine wp_region_held_drew (S:=fun w'=>ah w' w.heap.size 169 #[.pointer (some ⟨g,0,none⟩)]∧ah w' (w.heap.size + 1) 56 (ag b).toArray) (by kernel_rfl) ⟨HXd,HY.out.drew⟩ (fun hHeld=>?_);refine wpAnyH_take (i:=0) (v:=?_) rfl (by kernel_rfl) (by kernel_rfl) (by kernel_rfl) (fun _ _ _ h=>h) (Or.inl ⟨by rfl,?_⟩) hHeld ?_;rotate_left
 ·intro w' hSw
  skip
  go_simp
  try with_reducible rfl
 try (simp only [Act.put,List.getElem_toArray,List.getElem_cons_succ,List.getElem_cons_zero,List.setIfInBounds_toArray,List.set_cons_zero,List.set_cons_succ])
 refine wpAnyH_take (i:=1) (v:=?_) rfl (by kernel_rfl) (by kernel_rfl) (by kernel_rfl) (fun _ _ _ h=>h) (Or.inl ⟨by rfl,?_⟩) hHeld ?_;rotate_left
 ·intro w' hSw
  have e0:w'.cell? ⟨w.heap.size,0,none⟩=some (.pointer (some ⟨g,0,none⟩)):=hSw.1.cell 0;go_simp
  try with_reducible rfl
 try (simp only [Act.put,List.getElem_toArray,List.getElem_cons_succ,List.getElem_cons_zero,List.setIfInBounds_toArray,List.set_cons_zero,List.set_cons_succ])
 refine wpAnyH_take (i:=2) (v:=?_) rfl (by kernel_rfl) (by kernel_rfl) (by kernel_rfl) (fun _ _ _ h=>h) (Or.inl ⟨by rfl,?_⟩) hHeld ?_;rotate_left
 ·intro w' hSw
  skip
  go_simp
  try with_reducible rfl
 try (simp only [Act.put,List.getElem_toArray,List.getElem_cons_succ,List.getElem_cons_zero,List.setIfInBounds_toArray,List.set_cons_zero,List.set_cons_succ])
 refine wpAnyH_take (i:=3) (v:=?_) rfl (by kernel_rfl) (by kernel_rfl) (by kernel_rfl) (fun _ _ _ h=>h) (Or.inl ⟨by rfl,?_⟩) hHeld ?_;rotate_left
 ·intro w' hSw
  skip
  go_simp
  try with_reducible rfl
 try (simp only [Act.put,List.getElem_toArray,List.getElem_cons_succ,List.getElem_cons_zero,List.setIfInBounds_toArray,List.set_cons_zero,List.set_cons_succ])
 generalize hwd:v4.drew=wd at hHeld ⊢
 have hbd:Below v4.heap.size v4 wd:=by rw [←hwd];exact (Below.refl _ _).drew
 have hAd:=HA.out.below hbd;have hSd:=gg.of_below hbd (Nat.le_of_lt HA.out.lt);clear hwd HXd;refine wpAnyH_ready (rs:=[4]) (by kernel_rfl) (by simp) ?_;refine AllReadyH.cons (i:=4) rfl (fun K hK=>?_) AllReadyH.nil;go_simp
 refine (pR hAd _ _ _ b.mac hb.out.mac.symm (Eg hHeld.2 hb.out) (by have:=hb.out.mac;omega)).mono ?_;rintro e v5 ⟨rfl,H1,hs0⟩;have hs1:=hSd.trans hs0;have hHn:=(⟨hs0.blk hHeld.1 (by decide) hneX,hs0.blk hHeld.2 (by decide) hneY⟩:_∧_)
 clear hs0 hAd hbd hSd
 go_wp2_with fail
 refine hK.out _ _ hHn (fun hHeld=>?_);clear hK K hHn
 try (simp only [Act.put,List.getElem_toArray,List.getElem_cons_succ,List.getElem_cons_zero,List.setIfInBounds_toArray,List.set_cons_zero,List.set_cons_succ])
 refine wpAnyH_done (by kernel_rfl) ?_ _;refine NoPanic.normal ?_;clear hHeld;have HS2:=Lib.hid (HS.out.trans hs1);have HX2:=Lib.hid (hs1.blk HX.out (by decide) hneX);have HY2:=Lib.hid (hs1.blk HY.out (by decide) hneY);clear HS HX HY HA hs1;have HS:=HS2;have HX:=HX2;have HY:=HY2;clear HS2 HX2 HY2;obtain ⟨l5,hl5⟩:∃ x,x=l4 ++ b.mac:=⟨_,rfl⟩
 rw [←hl5] at H1;have n5:l5.length≤l4.length + 6:=by rw [hl5,List.length_append];have:=hb.out.mac;omega
 have Q5:=Lib.hid hl5;have HA:=Lib.hid H1;clear H1 hl5;go_upto_region 6 with fail
 have HXd:ah v5.drew w.heap.size 169 #[.pointer (some ⟨g,0,none⟩)]:=HX.out.drew;refine wp_region_noPanic ?_;refine wp_region_held_drew (S:=fun w'=>ah w' w.heap.size 169 #[.pointer (some ⟨g,0,none⟩)]∧ah w' (w.heap.size + 1) 56 (ag b).toArray) (by kernel_rfl) ⟨HXd,HY.out.drew⟩ (fun hHeld=>?_);refine wpAnyH_take (i:=0) (v:=?_) rfl (by kernel_rfl) (by kernel_rfl) (by kernel_rfl) (fun _ _ _ h=>h) (Or.inl ⟨by rfl,?_⟩) hHeld ?_;rotate_left
 ·intro w' hSw
  skip
  go_simp
  try with_reducible rfl
 try (simp only [Act.put,List.getElem_toArray,List.getElem_cons_succ,List.getElem_cons_zero,List.setIfInBounds_toArray,List.set_cons_zero,List.set_cons_succ])
 refine wpAnyH_take (i:=1) (v:=?_) rfl (by kernel_rfl) (by kernel_rfl) (by kernel_rfl) (fun _ _ _ h=>h) (Or.inl ⟨by rfl,?_⟩) hHeld ?_;rotate_left
 ·intro w' hSw
  have e0:w'.cell? ⟨w.heap.size,0,none⟩=some (.pointer (some ⟨g,0,none⟩)):=hSw.1.cell 0;go_simp
  try with_reducible rfl
 try (simp only [Act.put,List.getElem_toArray,List.getElem_cons_succ,List.getElem_cons_zero,List.setIfInBounds_toArray,List.set_cons_zero,List.set_cons_succ])
 refine wpAnyH_take (i:=2) (v:=?_) rfl (by kernel_rfl) (by kernel_rfl) (by kernel_rfl) (fun _ _ _ h=>h) (Or.inl ⟨by rfl,?_⟩) hHeld ?_;rotate_left
 ·intro w' hSw
  skip
  go_simp
  try with_reducible rfl
 try (simp only [Act.put,List.getElem_toArray,List.getElem_cons_succ,List.getElem_cons_zero,List.setIfInBounds_toArray,List.set_cons_zero,List.set_cons_succ])
 refine wpAnyH_take (i:=3) (v:=?_) rfl (by kernel_rfl) (by kernel_rfl) (by kernel_rfl) (fun _ _ _ h=>h) (Or.inl ⟨by rfl,?_⟩) hHeld ?_;rotate_left
 ·intro w' hSw
  have e0:=mO hSw.2 hb.out;go_simp
  try with_reducible rfl
 try (simp only [Act.put,List.getElem_toArray,List.getElem_cons_succ,List.getElem_cons_zero,List.setIfInBounds_toArray,List.set_cons_zero,List.set_cons_succ])
 generalize hwd:v5.drew=wd at hHeld ⊢
 have hbd:Below v5.heap.size v5 wd:=by rw [←hwd];exact (Below.refl _ _).drew
 have hAd:=HA.out.below hbd;have hSd:=gg.of_below hbd (Nat.le_of_lt HA.out.lt);clear hwd HXd;refine wpAnyH_ready (rs:=[4]) (by kernel_rfl) (by simp) ?_;refine AllReadyH.cons (i:=4) rfl (fun K hK=>?_) AllReadyH.nil;go_simp
 refine (uj b.wt _ hb.out.wt).mono ?_;rintro e wp ⟨Ap,cp,rfl,hownp,hbp⟩;have hHn:=(⟨ah.below hHeld.1 hbp hHeld.1.lt,ah.below hHeld.2 hbp hHeld.2.lt⟩:_∧_)
 have hAd2:=hAd.below hbp;have hSd2:=hSd.trans (gg.of_below hbp (Nat.le_of_lt hAd.lt));have h8:=fK b.wt;have HBp:Hid (BS wp wp.heap.size Ap (fj b.wt)):=by
  rw [←h8] at hownp;exact (BS.of_own hownp).1
 clear hAd hSd hownp hbp;have hAd:=hAd2;have hSd:=hSd2;clear hAd2 hSd2
 go_wp2_with fail
 refine hK.out _ _ hHn (fun hHeld=>?_);clear hK K hHn
 try (simp only [Act.put,List.getElem_toArray,List.getElem_cons_succ,List.getElem_cons_zero,List.setIfInBounds_toArray,List.set_cons_zero,List.set_cons_succ])
 refine wpAnyH_ready (rs:=[5]) (by kernel_rfl) (by simp) ?_;refine AllReadyH.cons (i:=5) rfl (fun K hK=>?_) AllReadyH.nil;go_simp
 refine (pR hAd Ap _ cp (fj b.wt) h8.symm HBp.out (by rw [h8];omega)).mono ?_;rintro e v6 ⟨rfl,H1,hs0⟩;have hs1:=hSd.trans hs0;have hHn:=(⟨hs0.blk hHeld.1 (by decide) hneX,hs0.blk hHeld.2 (by decide) hneY⟩:_∧_)
 clear hs0 hAd hbd hSd
 go_wp2_with fail
 refine hK.out _ _ hHn (fun hHeld=>?_);clear hK K hHn
 try (simp only [Act.put,List.getElem_toArray,List.getElem_cons_succ,List.getElem_cons_zero,List.setIfInBounds_toArray,List.set_cons_zero,List.set_cons_succ])
 refine wpAnyH_done (by kernel_rfl) ?_ _;refine NoPanic.normal ?_;clear hHeld;have HS2:=Lib.hid (HS.out.trans hs1);have HX2:=Lib.hid (hs1.blk HX.out (by decide) hneX);have HY2:=Lib.hid (hs1.blk HY.out (by decide) hneY);clear HS HX HY HA hs1;have HS:=HS2;have HX:=HX2;have HY:=HY2;clear HS2 HX2 HY2;obtain ⟨l6,hl6⟩:∃ x,x=l5 ++ fj b.wt:=⟨_,rfl⟩
 rw [←hl6] at H1;have n6:l6.length≤l5.length + 8:=by rw [hl6,List.length_append];rw [fK];omega
 have Q6:=Lib.hid hl6;have HA:=Lib.hid H1;clear H1 hl6;have d0:v6.cell? ⟨w.heap.size,0,none⟩=some (.pointer (some ⟨g,0,none⟩)):=HX.out.cell 0;have d4:=oa HY.out hb.out
 go_wp2_with (first
   | ((with_reducible refine aE 169 ?_);refine aa (by rfl) 169 (.tmp 2) rfl w.heap.size 0 rfl [.pointer (some ⟨g,0,none⟩)] _ (ae (cs:=[.pointer (some ⟨g,0,none⟩)]) HX.out) Tryz.underlying169 rfl la ?_))
 refine (mr HA.out b.drain (by omega)).mono ?_;rintro e v7 ⟨rfl,H1,hs1⟩;have HS2:=Lib.hid (HS.out.trans hs1);have HX2:=Lib.hid (hs1.blk HX.out (by decide) hneX);have HY2:=Lib.hid (hs1.blk HY.out (by decide) hneY);clear HS HX HY HA hs1;have HS:=HS2;have HX:=HX2;have HY:=HY2;clear HS2 HX2 HY2;obtain ⟨l7,hl7⟩:∃ x,x=l6 ++ fP b.drain:=⟨_,rfl⟩
 rw [←hl7] at H1;have n7:l7.length≤l6.length + 1:=by rw [hl7,List.length_append];rw [dd];omega
 have Q7:=Lib.hid hl7;have HA:=Lib.hid H1;clear H1 hl7
 go_wp2
 go_end0
 refine ⟨rfl,?_,HS.out⟩;have he:l7=l ++ aD b:=by
  rw [Q7.out,Q6.out,Q5.out,Q4.out,Q3.out,Q2.out,Q1.out,HP.out];simp only [aD,bI,List.append_assoc]
 rw [←he];exact HA.out
end Go.Proofs.YtaafkokfdgfabaaGreat
namespace Go.Proofs.YtaafkokfdgfabaaGreat
open Go.RowKit
set_option linter.unusedVariables false
set_option linter.unusedSimpArgs false
theorem gw {b:aU} (h:au b) (hn:b.name.length≤1000):(aD b).length≤2000:=by
 have h1:=fE (x:=b.name) (by omega);have h2:b.addr.2.length=16:=h.addr;have h3:=h.mac;simp only [aD,List.length_append,dd,aw,fK];omega
set_option maxRecDepth 100000 in
theorem CD {w:World} {g:Nat} {l:List UInt8} (h:vS w g l) (A:Option Addr) (c:Nat) (a:cz) (ha0:aA a) (hk:1≤a.kind∧a.kind≤4) (hop:a.kind=2→1≤a.op∧a.op≤5) (hp:0≤a.back.port∧a.back.port≤65535) (hn:a.back.name.length≤1000∧a.oname.length≤1000∧a.name.length≤1000∧a.frame.length≤200000) (hf:BS w g A a.frame) (hl:l.length≤100) :
  Calls Tryz.prog 112 #[rR g,.agg (aq A a.frame.length c a).toArray] w (uy w g (l ++ aZ a)):=by
 have ha:=Lib.hid ha0;obtain ⟨hk0,hk1⟩:=hk;obtain ⟨hn1,hn2,hn3,hn4⟩:=hn;obtain ⟨K,hK⟩:∃ K:Nat,K=a.kind.toNat:=⟨_,rfl⟩
 have hKI:a.kind=(K:Int):=by omega
 have HK:=Lib.hid hK;have HKI:=Lib.hid hKI;have hKb:K≤4:=by omega
 have Hp:=Lib.hid hp;have Hop:=Lib.hid hop;have HF:=Lib.hid hf;unfold rR;clear ha0 hK hKI hk0 hk1 hp hop hf;obtain ⟨W1,hW1⟩:∃ W,W=w.alloc (.cells #[.pointer (some ⟨g,0,none⟩)] 169):=⟨_,rfl⟩
 obtain ⟨W,hW⟩:∃ W,W=W1.alloc (.cells (aq A a.frame.length c a).toArray 60):=⟨_,rfl⟩
 have hs1:W1.heap.size=w.heap.size + 1:=by rw [hW1];simp
 have hX1:ah W1 w.heap.size 169 #[.pointer (some ⟨g,0,none⟩)]:=by rw [hW1];exact ah.new w _ _ _ rfl
 have HX:Hid (ah W w.heap.size 169 #[.pointer (some ⟨g,0,none⟩)]):=by rw [hW];exact ah.alloc hX1 _
 have HY:Hid (ah W (w.heap.size + 1) 60 (aq A a.frame.length c a).toArray):=by rw [hW,←hs1];exact ah.new W1 _ _ _ rfl
 have hB:Below w.heap.size w W:=by rw [hW,hW1];exact ((Below.refl _ _).alloc (Nat.le_refl _) _).alloc (by simp) _
 have hgw:=h.lt;have hneX:w.heap.size≠g:=by omega
 have hneY:w.heap.size + 1≠g:=by omega
 have HA:=Lib.hid (h.below hB);have HS:=Lib.hid (gg.of_below hB (Nat.le_of_lt hgw));have HW1:=Lib.hid hW1;have HW:=Lib.hid hW;clear hW1 hW hX1 hs1 h;have d0:W.cell? ⟨w.heap.size,0,none⟩=some (.pointer (some ⟨g,0,none⟩)):=HX.out.cell 0;have d1:W.cell? ⟨w.heap.size + 1,0,none⟩=some (.int .i64 (K:Int)):=by rw [←HKI.out];exact iL HY.out
 go_enter Tryz.func112,Tryz.ntmps112
 go_upto_region 1 with fail
 rw [←HW1.out];rw [←HW.out];clear HW1 HW
 go_wp2_with fail
 refine (pw HA.out K 1 1 true rfl (by decide) (by decide) (by omega) (by omega)).mono ?_;rintro e v1 ⟨rfl,H1,hs1⟩;have HS2:=Lib.hid (HS.out.trans hs1);have HX2:=Lib.hid (hs1.blk HX.out (by decide) hneX);have HY2:=Lib.hid (hs1.blk HY.out (by decide) hneY);clear HS HX HY HA hs1;have HS:=HS2;have HX:=HX2;have HY:=HY2;clear HS2 HX2 HY2;obtain ⟨l1,hl1⟩:∃ x,x=l ++ cd 1 K true:=⟨_,rfl⟩
 rw [←hl1] at H1;have n1:l1.length≤l.length + 1:=by rw [hl1,List.length_append];rw [aw];omega
 have Q1:=Lib.hid hl1;have HA:=Lib.hid H1;clear H1 hl1;clear d0 d1;have d1:v1.cell? ⟨w.heap.size + 1,0,none⟩=some (.int .i64 (K:Int)):=by rw [←HKI.out];exact iL HY.out
 go_upto_region 3 with fail
 rcases k1:((K:Int) == 1) with _ | _
 rotate_left
 ·have d0:v1.cell? ⟨w.heap.size,0,none⟩=some (.pointer (some ⟨g,0,none⟩)):=HX.out.cell 0
  have d2:=go HY.out;have HFr:BS v1 v1.heap.size A a.frame:=(HF.out.below HS.out.bel).more (Nat.le_of_lt HA.out.lt)
  go_wp2_with fail
  refine (qu HA.out A _ c a.frame rfl HFr (by omega)).mono ?_;rintro e v2 ⟨rfl,H1,hs1⟩;have HS2:=Lib.hid (HS.out.trans hs1);have HX2:=Lib.hid (hs1.blk HX.out (by decide) hneX);have HY2:=Lib.hid (hs1.blk HY.out (by decide) hneY);clear HS HX HY HA hs1;have HS:=HS2;have HX:=HX2;have HY:=HY2;clear HS2 HX2 HY2;obtain ⟨l2,hl2⟩:∃ x,x=l1 ++ (aI a.frame.length ++ a.frame):=⟨_,rfl⟩
  rw [←hl2] at H1;have n2:l2.length≤l1.length + (a.frame.length + 10):=by rw [hl2,List.length_append];have:=fE (x:=a.frame) (by omega);rw [bI] at this;omega
  have Q2:=Lib.hid hl2;have HA:=Lib.hid H1;clear H1 hl2;clear d0 d1 d2
  go_wp2
  go_end0
  refine ⟨rfl,?_,HS.out⟩;have he:l2=l ++ aZ a:=by
   rw [Q2.out,Q1.out,HK.out];unfold aZ;rw [if_pos (by rw [HKI.out];simpa using k1)];simp only [bI,List.append_assoc,List.append_nil]
  rw [←he];exact HA.out
 rcases k2:((K:Int) == 2) with _ | _
 rotate_left
 ·obtain ⟨P,hP⟩:∃ P:Nat,P=a.op.toNat:=⟨_,rfl⟩
  have hop2:=Hop.out (by rw [HKI.out];simpa using k2);have hPI:a.op=(P:Int):=by omega
  have hPb:P≤5:=by omega
  have HP:=Lib.hid hP;have HPI:=Lib.hid hPI;clear hP hPI hop2;have d0:v1.cell? ⟨w.heap.size,0,none⟩=some (.pointer (some ⟨g,0,none⟩)):=HX.out.cell 0;have d3:v1.cell? ⟨w.heap.size + 1,2,none⟩=some (.int .i64 (P:Int)):=by rw [←HPI.out];exact kz HY.out
  go_wp2_with fail
  refine (pw HA.out P 1 1 true rfl (by decide) (by decide) (by omega) (by omega)).mono ?_;rintro e v2 ⟨rfl,H1,hs1⟩;have HS2:=Lib.hid (HS.out.trans hs1);have HX2:=Lib.hid (hs1.blk HX.out (by decide) hneX);have HY2:=Lib.hid (hs1.blk HY.out (by decide) hneY);clear HS HX HY HA hs1;have HS:=HS2;have HX:=HX2;have HY:=HY2;clear HS2 HX2 HY2;obtain ⟨l2,hl2⟩:∃ x,x=l1 ++ cd 1 P true:=⟨_,rfl⟩
  rw [←hl2] at H1;have n2:l2.length≤l1.length + 1:=by rw [hl2,List.length_append];rw [aw];omega
  have Q2:=Lib.hid hl2;have HA:=Lib.hid H1;clear H1 hl2;clear d0 d1 d3;have d3:v2.cell? ⟨w.heap.size + 1,2,none⟩=some (.int .i64 (P:Int)):=by rw [←HPI.out];exact kz HY.out
  rcases k3:((P:Int) == 1) with _ | _
  rotate_left
  ·have RB:=Lib.hid (jT HY.out ha.out)
   go_wp2_with (first
     | ((with_reducible refine aE 169 ?_);refine aa (by rfl) 169 (.tmp 2) rfl w.heap.size 0 rfl [.pointer (some ⟨g,0,none⟩)] _ (ae (cs:=[.pointer (some ⟨g,0,none⟩)]) HX.out) Tryz.underlying169 rfl la ?_)
     | ((with_reducible refine aE 56 ?_);refine aa (by rfl) 56 (.tmp 34) rfl (w.heap.size + 1) 3 rfl (ag a.back) _ RB.out Tryz.underlying56 rfl (dv ha.out.back) ?_))
   refine (rS HA.out a.back ha.out.back Hp.out (by omega) (by omega)).mono ?_;rintro e v3 ⟨rfl,H1,hs1⟩;have HS2:=Lib.hid (HS.out.trans hs1);have HX2:=Lib.hid (hs1.blk HX.out (by decide) hneX);have HY2:=Lib.hid (hs1.blk HY.out (by decide) hneY);clear HS HX HY HA hs1;have HS:=HS2;have HX:=HX2;have HY:=HY2;clear HS2 HX2 HY2;obtain ⟨l3,hl3⟩:∃ x,x=l2 ++ aD a.back:=⟨_,rfl⟩
   rw [←hl3] at H1;have n3:l3.length≤l2.length + 2000:=by rw [hl3,List.length_append];have:=gw ha.out.back (by omega:a.back.name.length≤1000);omega
   have Q3:=Lib.hid hl3;have HA:=Lib.hid H1;clear H1 hl3;clear d3 RB
   go_wp2
   go_end0
   refine ⟨rfl,?_,HS.out⟩;have he:l3=l ++ aZ a:=by
    rw [Q3.out,Q2.out,Q1.out,HK.out];unfold aZ;rw [if_neg (by rw [HKI.out];simpa using k1),if_pos (by rw [HKI.out];simpa using k2),if_pos (by rw [HPI.out];simpa using k3),HP.out];simp only [bI,List.append_assoc,List.append_nil]
   rw [←he];exact HA.out
  have d0:v2.cell? ⟨w.heap.size,0,none⟩=some (.pointer (some ⟨g,0,none⟩)):=HX.out.cell 0;have d2:=fA HY.out ha.out;have hcv:=iA v2 a.oname
  go_wp2_with fail
  have hbw:=eh v2 5 ⟨a.oname.toArray⟩;refine (qu (HA.out.below hbw) _ _ _ a.oname rfl (fD v2 5 a.oname) (by omega)).mono ?_;rintro e v3 ⟨rfl,H1,hs0⟩;have hs1:=(gg.of_below hbw (Nat.le_of_lt HA.out.lt)).trans hs0;clear hbw hs0 hcv d0 d2;have HS2:=Lib.hid (HS.out.trans hs1);have HX2:=Lib.hid (hs1.blk HX.out (by decide) hneX);have HY2:=Lib.hid (hs1.blk HY.out (by decide) hneY);clear HS HX HY HA hs1;have HS:=HS2;have HX:=HX2;have HY:=HY2;clear HS2 HX2 HY2;obtain ⟨l3,hl3⟩:∃ x,x=l2 ++ (aI a.oname.length ++ a.oname):=⟨_,rfl⟩
  rw [←hl3] at H1;have n3:l3.length≤l2.length + (a.oname.length + 10):=by rw [hl3,List.length_append];have:=fE (x:=a.oname) (by omega);rw [bI] at this;omega
  have Q3:=Lib.hid hl3;have HA:=Lib.hid H1;clear H1 hl3;clear d3;have d3:v3.cell? ⟨w.heap.size + 1,2,none⟩=some (.int .i64 (P:Int)):=by rw [←HPI.out];exact kz HY.out
  rcases k5:((P:Int) == 3) with _ | _
  rotate_left
  ·go_upto_region 11 with fail
   have HXd:ah v3.drew w.heap.size 169 #[.pointer (some ⟨g,0,none⟩)]:=HX.out.drew;refine wp_region_noPanic ?_;refine wp_region_held_drew (S:=fun w'=>ah w' w.heap.size 169 #[.pointer (some ⟨g,0,none⟩)]∧ah w' (w.heap.size + 1) 60 (aq A a.frame.length c a).toArray) (by kernel_rfl) ⟨HXd,HY.out.drew⟩ (fun hHeld=>?_);refine wpAnyH_take (i:=0) (v:=?_) rfl (by kernel_rfl) (by kernel_rfl) (by kernel_rfl) (fun _ _ _ h=>h) (Or.inl ⟨by rfl,?_⟩) hHeld ?_;rotate_left
   ·intro w' hSw
    skip
    go_simp
    try with_reducible rfl
   try (simp only [Act.put,List.getElem_toArray,List.getElem_cons_succ,List.getElem_cons_zero,List.setIfInBounds_toArray,List.set_cons_zero,List.set_cons_succ])
   refine wpAnyH_take (i:=1) (v:=?_) rfl (by kernel_rfl) (by kernel_rfl) (by kernel_rfl) (fun _ _ _ h=>h) (Or.inl ⟨by rfl,?_⟩) hHeld ?_;rotate_left
   ·intro w' hSw
    have e0:w'.cell? ⟨w.heap.size,0,none⟩=some (.pointer (some ⟨g,0,none⟩)):=hSw.1.cell 0;go_simp
    try with_reducible rfl
   try (simp only [Act.put,List.getElem_toArray,List.getElem_cons_succ,List.getElem_cons_zero,List.setIfInBounds_toArray,List.set_cons_zero,List.set_cons_succ])
   refine wpAnyH_take (i:=2) (v:=?_) rfl (by kernel_rfl) (by kernel_rfl) (by kernel_rfl) (fun _ _ _ h=>h) (Or.inl ⟨by rfl,?_⟩) hHeld ?_;rotate_left
   ·intro w' hSw
    skip
    go_simp
    try with_reducible rfl
   try (simp only [Act.put,List.getElem_toArray,List.getElem_cons_succ,List.getElem_cons_zero,List.setIfInBounds_toArray,List.set_cons_zero,List.set_cons_succ])
   refine wpAnyH_take (i:=3) (v:=?_) rfl (by kernel_rfl) (by kernel_rfl) (by kernel_rfl) (fun _ _ _ h=>h) (Or.inl ⟨by rfl,?_⟩) hHeld ?_;rotate_left
   ·intro w' hSw
    skip
    go_simp
    try with_reducible rfl
   try (simp only [Act.put,List.getElem_toArray,List.getElem_cons_succ,List.getElem_cons_zero,List.setIfInBounds_toArray,List.set_cons_zero,List.set_cons_succ])
   refine wpAnyH_take (i:=4) (v:=?_) rfl (by kernel_rfl) (by kernel_rfl) (by kernel_rfl) (fun _ _ _ h=>h) (Or.inl ⟨by rfl,?_⟩) hHeld ?_;rotate_left
   ·intro w' hSw
    have e0:=lT hSw.2 ha.out;go_simp
    try with_reducible rfl
   try (simp only [Act.put,List.getElem_toArray,List.getElem_cons_succ,List.getElem_cons_zero,List.setIfInBounds_toArray,List.set_cons_zero,List.set_cons_succ])
   generalize hwd:v3.drew=wd at hHeld ⊢
   have hbd:Below v3.heap.size v3 wd:=by rw [←hwd];exact (Below.refl _ _).drew
   have hAd:=HA.out.below hbd;have hSd:=gg.of_below hbd (Nat.le_of_lt HA.out.lt);clear hwd HXd;refine wpAnyH_ready (rs:=[5]) (by kernel_rfl) (by simp) ?_;refine AllReadyH.cons (i:=5) rfl (fun K hK=>?_) AllReadyH.nil;go_simp
   refine (uj a.owt _ ha.out.owt).mono ?_;rintro e wp ⟨Ap,cp,rfl,hownp,hbp⟩;have hHn:=(⟨ah.below hHeld.1 hbp hHeld.1.lt,ah.below hHeld.2 hbp hHeld.2.lt⟩:_∧_)
   have hAd2:=hAd.below hbp;have hSd2:=hSd.trans (gg.of_below hbp (Nat.le_of_lt hAd.lt));have h8:=fK a.owt;have HBp:Hid (BS wp wp.heap.size Ap (fj a.owt)):=by
    rw [←h8] at hownp;exact (BS.of_own hownp).1
   clear hAd hSd hownp hbp;have hAd:=hAd2;have hSd:=hSd2;clear hAd2 hSd2
   go_wp2_with fail
   refine hK.out _ _ hHn (fun hHeld=>?_);clear hK K hHn
   try (simp only [Act.put,List.getElem_toArray,List.getElem_cons_succ,List.getElem_cons_zero,List.setIfInBounds_toArray,List.set_cons_zero,List.set_cons_succ])
   refine wpAnyH_ready (rs:=[6]) (by kernel_rfl) (by simp) ?_;refine AllReadyH.cons (i:=6) rfl (fun K hK=>?_) AllReadyH.nil;go_simp
   refine (pR hAd Ap _ cp (fj a.owt) h8.symm HBp.out (by rw [h8];omega)).mono ?_;rintro e v4 ⟨rfl,H1,hs0⟩;have hs1:=hSd.trans hs0;have hHn:=(⟨hs0.blk hHeld.1 (by decide) hneX,hs0.blk hHeld.2 (by decide) hneY⟩:_∧_)
   clear hs0 hAd hbd hSd
   go_wp2_with fail
   refine hK.out _ _ hHn (fun hHeld=>?_);clear hK K hHn
   try (simp only [Act.put,List.getElem_toArray,List.getElem_cons_succ,List.getElem_cons_zero,List.setIfInBounds_toArray,List.set_cons_zero,List.set_cons_succ])
   refine wpAnyH_done (by kernel_rfl) ?_ _;refine NoPanic.normal ?_;clear hHeld;have HS2:=Lib.hid (HS.out.trans hs1);have HX2:=Lib.hid (hs1.blk HX.out (by decide) hneX);have HY2:=Lib.hid (hs1.blk HY.out (by decide) hneY);clear HS HX HY HA hs1;have HS:=HS2;have HX:=HX2;have HY:=HY2;clear HS2 HX2 HY2;obtain ⟨l4,hl4⟩:∃ x,x=l3 ++ fj a.owt:=⟨_,rfl⟩
   rw [←hl4] at H1;have n4:l4.length≤l3.length + 8:=by rw [hl4,List.length_append];rw [fK];omega
   have Q4:=Lib.hid hl4;have HA:=Lib.hid H1;clear H1 hl4
   go_wp2
   go_end0
   refine ⟨rfl,?_,HS.out⟩;have he:l4=l ++ aZ a:=by
    rw [Q4.out,Q3.out,Q2.out,Q1.out,HK.out];unfold aZ;rw [if_neg (by rw [HKI.out];simpa using k1),if_pos (by rw [HKI.out];simpa using k2),if_neg (by rw [HPI.out];simpa using k3),if_pos (by rw [HPI.out];simpa using k5),HP.out];simp only [bI,List.append_assoc,List.append_nil]
   rw [←he];exact HA.out
  go_wp2
  go_end0
  refine ⟨rfl,?_,HS.out⟩;have he:l3=l ++ aZ a:=by
   rw [Q3.out,Q2.out,Q1.out,HK.out];unfold aZ;rw [if_neg (by rw [HKI.out];simpa using k1),if_pos (by rw [HKI.out];simpa using k2),if_neg (by rw [HPI.out];simpa using k3),if_neg (by rw [HPI.out];simpa using k5),HP.out];simp only [bI,List.append_assoc,List.append_nil]
  rw [←he];exact HA.out
 rcases k6:((K:Int) == 3) with _ | _
 rotate_left
 ·have d0:v1.cell? ⟨w.heap.size,0,none⟩=some (.pointer (some ⟨g,0,none⟩)):=HX.out.cell 0
  have d2:=ij HY.out ha.out;have hcv:=iA v1 a.name
  go_wp2_with fail
  have hbw:=eh v1 5 ⟨a.name.toArray⟩;refine (qu (HA.out.below hbw) _ _ _ a.name rfl (fD v1 5 a.name) (by omega)).mono ?_;rintro e v2 ⟨rfl,H1,hs0⟩;have hs1:=(gg.of_below hbw (Nat.le_of_lt HA.out.lt)).trans hs0;clear hbw hs0 hcv d0 d2;have HS2:=Lib.hid (HS.out.trans hs1);have HX2:=Lib.hid (hs1.blk HX.out (by decide) hneX);have HY2:=Lib.hid (hs1.blk HY.out (by decide) hneY);clear HS HX HY HA hs1;have HS:=HS2;have HX:=HX2;have HY:=HY2;clear HS2 HX2 HY2;obtain ⟨l2,hl2⟩:∃ x,x=l1 ++ (aI a.name.length ++ a.name):=⟨_,rfl⟩
  rw [←hl2] at H1;have n2:l2.length≤l1.length + (a.name.length + 10):=by rw [hl2,List.length_append];have:=fE (x:=a.name) (by omega);rw [bI] at this;omega
  have Q2:=Lib.hid hl2;have HA:=Lib.hid H1;clear H1 hl2;have d0:v2.cell? ⟨w.heap.size,0,none⟩=some (.pointer (some ⟨g,0,none⟩)):=HX.out.cell 0;have d2:=jf HY.out ha.out
  go_wp2_with (first
    | ((with_reducible refine aE 169 ?_);refine aa (by rfl) 169 (.tmp 2) rfl w.heap.size 0 rfl [.pointer (some ⟨g,0,none⟩)] _ (ae (cs:=[.pointer (some ⟨g,0,none⟩)]) HX.out) Tryz.underlying169 rfl la ?_))
  refine (mr HA.out a.well (by omega)).mono ?_;rintro e v3 ⟨rfl,H1,hs1⟩;have HS2:=Lib.hid (HS.out.trans hs1);have HX2:=Lib.hid (hs1.blk HX.out (by decide) hneX);have HY2:=Lib.hid (hs1.blk HY.out (by decide) hneY);clear HS HX HY HA hs1;have HS:=HS2;have HX:=HX2;have HY:=HY2;clear HS2 HX2 HY2;obtain ⟨l3,hl3⟩:∃ x,x=l2 ++ fP a.well:=⟨_,rfl⟩
  rw [←hl3] at H1;have n3:l3.length≤l2.length + 1:=by rw [hl3,List.length_append];rw [dd];omega
  have Q3:=Lib.hid hl3;have HA:=Lib.hid H1;clear H1 hl3;clear d0 d1 d2
  go_wp2
  go_end0
  refine ⟨rfl,?_,HS.out⟩;have he:l3=l ++ aZ a:=by
   rw [Q3.out,Q2.out,Q1.out,HK.out];unfold aZ;rw [if_neg (by rw [HKI.out];simpa using k1),if_neg (by rw [HKI.out];simpa using k2),if_pos (by rw [HKI.out];simpa using k6)];simp only [bI,List.append_assoc,List.append_nil]
  rw [←he];exact HA.out
 go_wp2
 go_end0
 refine ⟨rfl,?_,HS.out⟩;have he:l1=l ++ aZ a:=by
  rw [Q1.out,HK.out];unfold aZ;rw [if_neg (by rw [HKI.out];simpa using k1),if_neg (by rw [HKI.out];simpa using k2),if_neg (by rw [HKI.out];simpa using k6)];simp only [bI,List.append_assoc,List.append_nil]
 rw [←he];exact HA.out
end Go.Proofs.YtaafkokfdgfabaaGreat
namespace Go.Proofs.YtaafkokfdgfabaaGreat
open Go.RowKit
set_option linter.unusedVariables false
set_option linter.unusedSimpArgs false
def bP (e:da):List UInt8:=aZ e.act ++ (cd 1 e.o.err.toNat true ++ (cd 1 e.o.reason.toNat true ++ (fP e.o.hit ++ (aI e.o.version.toNat ++ (bI e.o.name ++ (aI e.len.toNat ++ cd 4 e.sum false))))))
def gL (w:World) (r:Bool) (m:List UInt8) (x:Ending) (w':World):Prop :=
 Below w.heap.size w w'∧(r=false→x=.returned (.tuple #[.slice none 0 0,.int .i64 1])) ∧
  (r=true→∃ A' c',x=.returned (.tuple #[.slice A' m.length c',.int .i64 0])∧w'.ownsRow w.heap.size 5 1 (.slice A' m.length c') m.length (ab m))
theorem E9 {w:World} {g:Nat} {l:List UInt8} (h:vS w g l) (hl:l.length≤1048576) :
  Calls Tryz.prog 117 #[.pointer (some ⟨g,0,none⟩)] w fun x w'=>∃ A' c',x=.returned (.tuple #[.slice A' l.length c',.int .i64 0])∧w'.ownsRow w.heap.size 5 1 (.slice A' l.length c') l.length (ab l)∧Below w.heap.size w w':=by
 obtain ⟨A,c,h⟩:=h;exact Ad g g A c 1048576 (l,0) w h (by simp only;omega)
set_option maxRecDepth 100000 in
theorem qv (b:aU) (hb0:au b) (w:World) :
  Calls Tryz.prog 131 #[.agg (ag b).toArray] w (gL w (fL b) (aD b)):=by
 have hb:=Lib.hid hb0;clear hb0;obtain ⟨W,hW⟩:∃ W,W=w.alloc (.cells (ag b).toArray 56):=⟨_,rfl⟩
 have HY:Hid (ah W w.heap.size 56 (ag b).toArray):=by rw [hW];exact ah.new w _ _ _ rfl
 have HB:Hid (Below w.heap.size w W):=by rw [hW];exact (Below.refl _ _).alloc (Nat.le_refl _) _
 have RB:=Lib.hid (ae HY.out);have HW:=Lib.hid hW;clear hW;go_enter Tryz.func131,Tryz.ntmps131
 go_upto_region 1 with fail
 rw [←HW.out];clear HW
 go_wp2_with (first
   | ((with_reducible refine aE 56 ?_);refine aa (by rfl) 56 (.tmp 1) rfl w.heap.size 0 rfl (ag b) _ RB.out Tryz.underlying56 rfl (dv hb.out) ?_))
 refine (ux b hb.out W).mono ?_;rintro e w1 ⟨rfl,hb1⟩;have HY1:=Lib.hid (ah.below HY.out hb1 HY.out.lt);have HB1:Hid (Below w.heap.size w w1):=HB.out.trans (hb1.mono HB.out.size);clear HY RB HB hb1;have HY:=HY1;have HB:=HB1;clear HY1 HB1;rcases ht:fL b with _ | _
 ·go_wp2
  go_ret2
  exact ⟨HB.out,fun _=>rfl,fun h=>by rw [ht] at h;cases h⟩
 ·have Ht:=Lib.hid ht
  clear ht
  go_wp2_with fail
  refine (mP 1048576 w1 (by decide)).mono ?_;rintro e w2 ⟨rfl,hW2,hb2⟩;have HA2:Hid (vS w2 w1.heap.size []):=⟨none,0,hW2⟩
  have HY2:=Lib.hid (ah.below HY.out hb2 HY.out.lt);have HB2:Hid (Below w.heap.size w w2):=HB.out.trans (hb2.mono HB.out.size);have hgw:w.heap.size<w1.heap.size:=HY.out.lt;obtain ⟨g,hg⟩:∃ g,g=w1.heap.size:=⟨_,rfl⟩
  rw [←hg] at HA2 hgw ⊢;clear HY HB hb2 hW2 hg;obtain ⟨w3,hw3⟩:∃ W,W=w2.alloc (.cells #[.pointer (some ⟨g,0,none⟩)] 169):=⟨_,rfl⟩
  have hb3:Below w2.heap.size w2 w3:=by rw [hw3];exact (Below.refl _ _).alloc (Nat.le_refl _) _
  have HX:Hid (ah w3 w2.heap.size 169 #[.pointer (some ⟨g,0,none⟩)]):=by rw [hw3];exact ah.new w2 _ _ _ rfl
  have HY3:=Lib.hid (ah.below HY2.out hb3 HY2.out.lt);have HA:=Lib.hid (HA2.out.below hb3);have HB:Hid (Below w.heap.size w w3):=HB2.out.trans (hb3.mono HB2.out.size);have HW3:=Lib.hid hw3;have hxg:w2.heap.size≠g:=by have:=HA2.out.lt;omega
  clear hw3 hb3 HA2 HY2 HB2;go_upto_region 4 with fail
  rw [←HW3.out];clear HW3;have RB:=Lib.hid (ae HY3.out);have RX:=Lib.hid (ae (cs:=[.pointer (some ⟨g,0,none⟩)]) HX.out);have Hn:Hid (b.name.length≤255∧0≤b.port∧b.port≤65535):=by
   have:=Ht.out;simp only [fL,Bool.and_eq_true,decide_eq_true_eq,bE] at this;exact this
  go_wp2_with (first
   | ((with_reducible refine aE 169 ?_);refine aa (by rfl) 169 (.tmp 4) rfl w2.heap.size 0 rfl ([.pointer (some ⟨g,0,none⟩)]) _ RX.out Tryz.underlying169 rfl la ?_)
   | ((with_reducible refine aE 56 ?_);refine aa (by rfl) 56 (.tmp 1) rfl w.heap.size 0 rfl (ag b) _ RB.out Tryz.underlying56 rfl (dv hb.out) ?_))
  refine (rS HA.out b hb.out Hn.out.2 (by have:=Hn.out.1;omega) (by decide)).mono ?_;rintro e w4 ⟨rfl,h4,hs4⟩;have HX4:=Lib.hid (hs4.blk HX.out (by decide) hxg);have HB4:Hid (Below w.heap.size w w4):=HB.out.trans (hs4.bel.mono (Nat.le_of_lt hgw));have H4:=Lib.hid h4;have d0:w4.cell? ⟨w2.heap.size,0,none⟩=some (.pointer (some ⟨g,0,none⟩)):=HX4.out.cell 0;rw [List.nil_append] at H4;have hlen:=gw hb.out (by have:=Hn.out.1;omega:b.name.length≤1000);clear HX HY3 RB RX HB h4 hs4
  go_wp2_with fail
  refine (E9 H4.out (by omega)).mono ?_;rintro e w5 ⟨A',c',rfl,hown,hb5⟩;have hend:Below w.heap.size w w5:=HB4.out.trans (hb5.mono HB4.out.size);have hown2:=bV hown HB4.out.size
  go_wp2
  go_ret2
  exact ⟨hend,(fun h=>by rw [Ht.out] at h;cases h),fun _=>⟨A',c',rfl,hown2⟩⟩
theorem iU {e:da} (h:aB e) (hr:aL e=true):(bP e).length≤200000:=by
 simp only [aL,ek,fL,Bool.and_eq_true,decide_eq_true_eq,bE] at hr;obtain ⟨⟨hk,_,_,hfr,hon,hnm,hbn,hbp⟩,he,hre,hv,hn,ho,hl⟩:=hr;have h1:=fE (x:=e.act.frame) (by omega);have h2:=fE (x:=e.act.oname) (by omega);have h3:=fE (x:=e.act.name) (by omega);have h4:=fE (x:=e.o.name) (by omega);have h5:=gw h.act.back (by omega);have h6:=a7 (n:=e.o.version.toNat) (by omega);have h7:=a7 (n:=e.len.toNat) (by omega);have ha:(aZ e.act).length≤150000:=by
  unfold aZ;rw [List.length_append,aw];split
  ·omega
  ·split
   ·rw [List.length_append,aw]
    split
    ·omega
    ·rw [List.length_append]
     split
     ·rw [fK];omega
     ·simp only [List.length_nil];omega
   ·split
    ·rw [List.length_append,dd];omega
    ·simp only [List.length_nil];omega
 simp only [bP,List.length_append,aw,dd];omega
set_option maxRecDepth 100000 in
theorem CE (A:Option Addr) (c:Nat) (A2:Option Addr) (c2:Nat) (e0:da) (he0:aB e0) (w:World) (hf:BS w w.heap.size A e0.act.frame) :
  Calls Tryz.prog 50 #[.agg (bm A e0.act.frame.length c A2 e0.o.out.length c2 e0).toArray] w (gL w (aL e0) (bP e0)):=by
 have ha:=Lib.hid he0;clear he0;obtain ⟨W,hW⟩:∃ W,W=w.alloc (.cells (bm A e0.act.frame.length c A2 e0.o.out.length c2 e0).toArray 65):=⟨_,rfl⟩
 have HY:Hid (ah W w.heap.size 65 (bm A e0.act.frame.length c A2 e0.o.out.length c2 e0).toArray):=by rw [hW];exact ah.new w _ _ _ rfl
 have HB:Hid (Below w.heap.size w W):=by rw [hW];exact (Below.refl _ _).alloc (Nat.le_refl _) _
 have RB:=Lib.hid (ae HY.out);have HFw:=Lib.hid hf;have HW:=Lib.hid hW;clear hW hf;go_enter Tryz.func50,Tryz.ntmps50
 go_upto_region 1 with fail
 rw [←HW.out];clear HW
 go_wp2_with (first
  | ((with_reducible refine aE 65 ?_);refine aa (by rfl) 65 (.tmp 1) rfl w.heap.size 0 rfl (bm A e0.act.frame.length c A2 e0.o.out.length c2 e0) _ RB.out Tryz.underlying65 rfl (lG ha.out) ?_))
 refine (nk A c A2 c2 e0 ha.out W ((HFw.out.below HB.out).more HB.out.size)).mono ?_;rintro e w1 ⟨rfl,hb1⟩;have HY1:=Lib.hid (ah.below HY.out hb1 HY.out.lt);have HB1:Hid (Below w.heap.size w w1):=HB.out.trans (hb1.mono HB.out.size);clear HY RB HB hb1;have HY:=HY1;have HB:=HB1;clear HY1 HB1;rcases ht:aL e0 with _ | _
 ·go_wp2
  go_ret2
  exact ⟨HB.out,fun _=>rfl,fun h=>by rw [ht] at h;cases h⟩
 ·have Ht:=Lib.hid ht
  have hlenE:=iU ha.out ht;clear ht
  go_wp2_with fail
  refine (mP 1048576 w1 (by decide)).mono ?_;rintro e w2 ⟨rfl,hW2,hb2⟩;have HA2:Hid (vS w2 w1.heap.size []):=⟨none,0,hW2⟩
  have HY2:=Lib.hid (ah.below HY.out hb2 HY.out.lt);have HB2:Hid (Below w.heap.size w w2):=HB.out.trans (hb2.mono HB.out.size);have hgw:w.heap.size<w1.heap.size:=HY.out.lt;obtain ⟨g,hg⟩:∃ g,g=w1.heap.size:=⟨_,rfl⟩
  rw [←hg] at HA2 hgw ⊢;clear HY HB hb2 hW2 hg;obtain ⟨w3,hw3⟩:∃ W,W=w2.alloc (.cells #[.pointer (some ⟨g,0,none⟩)] 169):=⟨_,rfl⟩
  have hb3:Below w2.heap.size w2 w3:=by rw [hw3];exact (Below.refl _ _).alloc (Nat.le_refl _) _
  obtain ⟨bx,hbx⟩:∃ z,z=w2.heap.size:=⟨_,rfl⟩
  have HX:Hid (ah w3 w2.heap.size 169 #[.pointer (some ⟨g,0,none⟩)]):=by rw [hw3];exact ah.new w2 _ _ _ rfl
  have HY3:=Lib.hid (ah.below HY2.out hb3 HY2.out.lt);have HA:=Lib.hid (HA2.out.below hb3);have HB:Hid (Below w.heap.size w w3):=HB2.out.trans (hb3.mono HB2.out.size);have HW3:=Lib.hid hw3;have hxg:w2.heap.size≠g:=by have:=HA2.out.lt;omega
  clear hw3 hb3 HA2 HY2 HB2;go_upto_region 4 with fail
  rw [←HW3.out];rw [←hbx] at HX hxg ⊢;clear HW3 hbx;have hyg:w.heap.size≠g:=by omega
  have RA:=Lib.hid (qm HY3.out ha.out);have RX:=Lib.hid (ae (cs:=[.pointer (some ⟨g,0,none⟩)]) HX.out);have hr:=Ht.out;simp only [aL,ek,fL,Bool.and_eq_true,decide_eq_true_eq,bE] at hr;obtain ⟨⟨hk,hop,_,hfr,hon,hnm,hbn,hbp⟩,hee,hre,hvv,hnn,hoo,hll⟩:=hr;have hop2:e0.act.kind=2→1≤e0.act.op∧e0.act.op≤5:=fun h=>by
   rw [h] at hop;simpa [bE] using hop
  have HF3:BS w3 g A e0.act.frame:=(HFw.out.below HB.out).more (Nat.le_of_lt hgw);have hc:=Lib.hid (CD HA.out A c e0.act ha.out.act hk hop2 hbp ⟨by omega,by omega,by omega,by omega⟩ HF3 (by decide));obtain ⟨E,hE⟩:∃ E:Nat,E=e0.o.err.toNat:=⟨_,rfl⟩
  obtain ⟨Rr,hR⟩:∃ E:Nat,E=e0.o.reason.toNat:=⟨_,rfl⟩
  obtain ⟨V,hV⟩:∃ E:Nat,E=e0.o.version.toNat:=⟨_,rfl⟩
  obtain ⟨Ln,hLn⟩:∃ E:Nat,E=e0.len.toNat:=⟨_,rfl⟩
  have HEI:Hid (e0.o.err=(E:Int)):=by show _=_;omega
  have HRI:Hid (e0.o.reason=(Rr:Int)):=by show _=_;omega
  have HVI:Hid (e0.o.version=(V:Int)):=by show _=_;omega
  have HLI:Hid (e0.len=(Ln:Int)):=by show _=_;omega
  have hEb:E≤9:=by omega
  have hRb:Rr≤10:=by omega
  have hVb:V≤1099511627776:=by omega
  have hLb:Ln≤262144:=by omega
  have hSb:=ha.out.sum;have Hev:Hid (bP e0=aZ e0.act ++ (cd 1 E true ++ (cd 1 Rr true ++ (fP e0.o.hit ++ (aI V ++ (bI e0.o.name ++ (aI Ln ++ cd 4 e0.sum false))))))):=by
   show _=_
   rw [bP,hE,hR,hV,hLn]
  have hab:(aZ e0.act).length≤200000:=by
   have:=congrArg List.length Hev.out;rw [List.length_append] at this;omega
  clear hE hR hV hLn hk hop hop2 hbp hee hre hvv hll HF3 hfr hon hnm hbn hoo HFw
  go_wp2_with (first
   | ((with_reducible refine aE 169 ?_);refine aa (by rfl) 169 (.tmp 4) rfl bx 0 rfl ([.pointer (some ⟨g,0,none⟩)]) _ RX.out Tryz.underlying169 rfl la ?_)
   | ((with_reducible refine aE 60 ?_);refine aa (by rfl) 60 (.tmp 12) rfl w.heap.size 0 rfl (aq A e0.act.frame.length c e0.act) _ RA.out Tryz.underlying60 rfl (bR ha.out.act) ?_))
  refine hc.out.mono ?_;rintro e w4 ⟨rfl,h4,hs4⟩;rw [List.nil_append] at h4;have HX4:=Lib.hid (hs4.blk HX.out (by decide) hxg);have HY4:=Lib.hid (hs4.blk HY3.out (by decide) hyg);have HB4:Hid (Below w.heap.size w w4):=HB.out.trans (hs4.bel.mono (Nat.le_of_lt hgw));have H4:=Lib.hid h4;clear HX HY3 RA RX HB HA hc h4 hs4 hxg;obtain ⟨x1,hx1⟩:∃ Z,Z=w4.alloc (.cells (dG none 0 0 ul).toArray 62):=⟨_,rfl⟩
  obtain ⟨W5,hy1⟩:∃ Z,Z=x1.setCells w4.heap.size 0 (dG A2 e0.o.out.length c2 e0.o):=⟨_,rfl⟩
  obtain ⟨htx,hbx,hex⟩:=mL w4 x1 W5 62 (dG none 0 0 ul) (dG A2 e0.o.out.length c2 e0.o) rfl hx1 hy1;rw [qn] at hx1;have Qx:=Lib.hid hx1;have Qy:=Lib.hid hy1;have Tx:=Lib.hid htx;have HP:=Lib.hid hbx;have HX:=Lib.hid (ah.below HX4.out hex HX4.out.lt);have HY:=Lib.hid (ah.below HY4.out hex HY4.out.lt);have HA:=Lib.hid (H4.out.below hex);have HB:Hid (Below w.heap.size w W5):=HB4.out.trans (hex.mono HB4.out.size);have hpg:w4.heap.size≠g:=by have:=H4.out.lt;omega
  have hxg:bx≠g:=fun e=>ah.ne HX4.out (H4.out.choose_spec.choose_spec.1) (by decide) e
  have RO:=Lib.hid (sX HY4.out ha.out);clear hx1 hy1 htx hbx hex HX4 HY4 H4 HB4;go_upto_region 6 with (first
   | ((with_reducible refine aE 62 ?_);refine aa (by rfl) 62 (.tmp 15) rfl w.heap.size 34 rfl (dG A2 e0.o.out.length c2 e0.o) _ RO.out Tryz.underlying62 rfl lQ ?_)
   | (rw [←Qx.out];(with_reducible refine aM 62 ?_);refine wpList_store_mid rfl 62 (.tmp 5) (.tmp 16) rfl w4.heap.size 0 (dG A2 e0.o.out.length c2 e0.o).toArray rfl rfl Tx.out lQ (nR _ _ _ _) ?_))
  rw [←Qy.out];clear Qx Qy Tx RO;obtain ⟨bp,hbp⟩:∃ z,z=w4.heap.size:=⟨_,rfl⟩
  rw [←hbp] at HP hpg ⊢;clear hbp;have d0:W5.cell? ⟨bx,0,none⟩=some (.pointer (some ⟨g,0,none⟩)):=HX.out.cell 0;have d1:W5.cell? ⟨bp,0,none⟩=some (.int .i64 (E:Int)):=by rw [←HEI.out];exact jz HP.out
  go_wp2_with fail
  refine (pw HA.out E 1 1 true rfl (by decide) (by decide) (by omega) (by omega)).mono ?_;rintro e v1 ⟨rfl,H1,hs1⟩;have HX2:=Lib.hid (hs1.blk HX.out (by decide) hxg);have HY2:=Lib.hid (hs1.blk HY.out (by decide) hyg);have HP2:=Lib.hid (hs1.blk HP.out (by decide) hpg);have HB2:Hid (Below w.heap.size w v1):=HB.out.trans (hs1.bel.mono (Nat.le_of_lt hgw));clear HX HY HP HB HA hs1;have HX:=HX2;have HY:=HY2;have HP:=HP2;have HB:=HB2;clear HX2 HY2 HP2 HB2;obtain ⟨l1,hl1⟩:∃ x,x=(aZ e0.act) ++ cd 1 E true:=⟨_,rfl⟩
  rw [←hl1] at H1;have n1:l1.length≤(aZ e0.act).length + 1:=by rw [hl1,List.length_append];rw [aw];omega
  have Q1:=Lib.hid hl1;have HA:=Lib.hid H1;clear H1 hl1;clear d0 d1;have d0:v1.cell? ⟨bx,0,none⟩=some (.pointer (some ⟨g,0,none⟩)):=HX.out.cell 0;have d1:v1.cell? ⟨bp,1,none⟩=some (.int .i64 (Rr:Int)):=by rw [←HRI.out];exact e9 HP.out
  go_wp2_with fail
  refine (pw HA.out Rr 1 1 true rfl (by decide) (by decide) (by omega) (by omega)).mono ?_;rintro e v2 ⟨rfl,H1,hs1⟩;have HX2:=Lib.hid (hs1.blk HX.out (by decide) hxg);have HY2:=Lib.hid (hs1.blk HY.out (by decide) hyg);have HP2:=Lib.hid (hs1.blk HP.out (by decide) hpg);have HB2:Hid (Below w.heap.size w v2):=HB.out.trans (hs1.bel.mono (Nat.le_of_lt hgw));clear HX HY HP HB HA hs1;have HX:=HX2;have HY:=HY2;have HP:=HP2;have HB:=HB2;clear HX2 HY2 HP2 HB2;obtain ⟨l2,hl2⟩:∃ x,x=l1 ++ cd 1 Rr true:=⟨_,rfl⟩
  rw [←hl2] at H1;have n2:l2.length≤l1.length + 1:=by rw [hl2,List.length_append];rw [aw];omega
  have Q2:=Lib.hid hl2;have HA:=Lib.hid H1;clear H1 hl2;clear d0 d1;have RX:=Lib.hid (ae (cs:=[.pointer (some ⟨g,0,none⟩)]) HX.out);have d0:v2.cell? ⟨bx,0,none⟩=some (.pointer (some ⟨g,0,none⟩)):=HX.out.cell 0;have d1:=wP HP.out
  go_wp2_with (first
    | ((with_reducible refine aE 169 ?_);refine aa (by rfl) 169 (.tmp 4) rfl bx 0 rfl ([.pointer (some ⟨g,0,none⟩)]) _ RX.out Tryz.underlying169 rfl la ?_))
  refine (mr HA.out e0.o.hit (by omega)).mono ?_;rintro e v3 ⟨rfl,H1,hs1⟩;have HX2:=Lib.hid (hs1.blk HX.out (by decide) hxg);have HY2:=Lib.hid (hs1.blk HY.out (by decide) hyg);have HP2:=Lib.hid (hs1.blk HP.out (by decide) hpg);have HB2:Hid (Below w.heap.size w v3):=HB.out.trans (hs1.bel.mono (Nat.le_of_lt hgw));clear HX HY HP HB HA hs1;have HX:=HX2;have HY:=HY2;have HP:=HP2;have HB:=HB2;clear HX2 HY2 HP2 HB2;obtain ⟨l3,hl3⟩:∃ x,x=l2 ++ fP e0.o.hit:=⟨_,rfl⟩
  rw [←hl3] at H1;have n3:l3.length≤l2.length + 1:=by rw [hl3,List.length_append];rw [dd];omega
  have Q3:=Lib.hid hl3;have HA:=Lib.hid H1;clear H1 hl3;clear d0 d1 RX;have d0:v3.cell? ⟨bx,0,none⟩=some (.pointer (some ⟨g,0,none⟩)):=HX.out.cell 0;have d1:v3.cell? ⟨bp,3,none⟩=some (.int .i64 (V:Int)):=by rw [←HVI.out];exact eo HP.out
  go_wp2_with fail
  refine (E8 HA.out V (by omega) (by omega)).mono ?_;rintro e v4 ⟨rfl,H1,hs1⟩;have HX2:=Lib.hid (hs1.blk HX.out (by decide) hxg);have HY2:=Lib.hid (hs1.blk HY.out (by decide) hyg);have HP2:=Lib.hid (hs1.blk HP.out (by decide) hpg);have HB2:Hid (Below w.heap.size w v4):=HB.out.trans (hs1.bel.mono (Nat.le_of_lt hgw));clear HX HY HP HB HA hs1;have HX:=HX2;have HY:=HY2;have HP:=HP2;have HB:=HB2;clear HX2 HY2 HP2 HB2;obtain ⟨l4,hl4⟩:∃ x,x=l3 ++ aI V:=⟨_,rfl⟩
  rw [←hl4] at H1;have n4:l4.length≤l3.length + 10:=by rw [hl4,List.length_append];have:=a7 (n:=V) (by omega);omega
  have Q4:=Lib.hid hl4;have HA:=Lib.hid H1;clear H1 hl4;clear d0 d1;have d0:v4.cell? ⟨bx,0,none⟩=some (.pointer (some ⟨g,0,none⟩)):=HX.out.cell 0;have d1:=ik HP.out;have hcv:=iA v4 e0.o.name
  go_wp2_with fail
  have hbw:=eh v4 5 ⟨e0.o.name.toArray⟩;refine (qu (HA.out.below hbw) _ _ _ e0.o.name rfl (fD v4 5 e0.o.name) (by omega)).mono ?_;rintro e v5 ⟨rfl,H1,hs0⟩;have hs1:=(gg.of_below hbw (Nat.le_of_lt HA.out.lt)).trans hs0;clear hbw hs0 hcv d0 d1;have HX2:=Lib.hid (hs1.blk HX.out (by decide) hxg);have HY2:=Lib.hid (hs1.blk HY.out (by decide) hyg);have HP2:=Lib.hid (hs1.blk HP.out (by decide) hpg);have HB2:Hid (Below w.heap.size w v5):=HB.out.trans (hs1.bel.mono (Nat.le_of_lt hgw));clear HX HY HP HB HA hs1;have HX:=HX2;have HY:=HY2;have HP:=HP2;have HB:=HB2;clear HX2 HY2 HP2 HB2;obtain ⟨l5,hl5⟩:∃ x,x=l4 ++ (aI e0.o.name.length ++ e0.o.name):=⟨_,rfl⟩
  rw [←hl5] at H1;have n5:l5.length≤l4.length + (e0.o.name.length + 10):=by rw [hl5,List.length_append];have:=fE (x:=e0.o.name) (by omega);rw [bI] at this;omega
  have Q5:=Lib.hid hl5;have HA:=Lib.hid H1;clear H1 hl5;have d0:v5.cell? ⟨bx,0,none⟩=some (.pointer (some ⟨g,0,none⟩)):=HX.out.cell 0;have d1:v5.cell? ⟨w.heap.size,40,none⟩=some (.int .i64 (Ln:Int)):=by rw [←HLI.out];exact jy HY.out ha.out
  go_wp2_with fail
  refine (E8 HA.out Ln (by omega) (by omega)).mono ?_;rintro e v6 ⟨rfl,H1,hs1⟩;have HX2:=Lib.hid (hs1.blk HX.out (by decide) hxg);have HY2:=Lib.hid (hs1.blk HY.out (by decide) hyg);have HP2:=Lib.hid (hs1.blk HP.out (by decide) hpg);have HB2:Hid (Below w.heap.size w v6):=HB.out.trans (hs1.bel.mono (Nat.le_of_lt hgw));clear HX HY HP HB HA hs1;have HX:=HX2;have HY:=HY2;have HP:=HP2;have HB:=HB2;clear HX2 HY2 HP2 HB2;obtain ⟨l6,hl6⟩:∃ x,x=l5 ++ aI Ln:=⟨_,rfl⟩
  rw [←hl6] at H1;have n6:l6.length≤l5.length + 10:=by rw [hl6,List.length_append];have:=a7 (n:=Ln) (by omega);omega
  have Q6:=Lib.hid hl6;have HA:=Lib.hid H1;clear H1 hl6;clear d0 d1;have d0:v6.cell? ⟨bx,0,none⟩=some (.pointer (some ⟨g,0,none⟩)):=HX.out.cell 0;have d1:=wM HY.out ha.out
  go_wp2_with fail
  refine (pw HA.out e0.sum 4 4 false rfl (by decide) (by decide) (by omega) (by omega)).mono ?_;rintro e v7 ⟨rfl,H1,hs1⟩;have HX2:=Lib.hid (hs1.blk HX.out (by decide) hxg);have HY2:=Lib.hid (hs1.blk HY.out (by decide) hyg);have HP2:=Lib.hid (hs1.blk HP.out (by decide) hpg);have HB2:Hid (Below w.heap.size w v7):=HB.out.trans (hs1.bel.mono (Nat.le_of_lt hgw));clear HX HY HP HB HA hs1;have HX:=HX2;have HY:=HY2;have HP:=HP2;have HB:=HB2;clear HX2 HY2 HP2 HB2;obtain ⟨l7,hl7⟩:∃ x,x=l6 ++ cd 4 e0.sum false:=⟨_,rfl⟩
  rw [←hl7] at H1;have n7:l7.length≤l6.length + 4:=by rw [hl7,List.length_append];rw [aw];omega
  have Q7:=Lib.hid hl7;have HA:=Lib.hid H1;clear H1 hl7;clear d0 d1;have d0:v7.cell? ⟨bx,0,none⟩=some (.pointer (some ⟨g,0,none⟩)):=HX.out.cell 0;have he:l7=bP e0:=by
   rw [Q7.out,Q6.out,Q5.out,Q4.out,Q3.out,Q2.out,Q1.out,Hev.out];simp only [bI,List.append_assoc]
  rw [he] at HA
  go_wp2_with fail
  refine (E9 HA.out (by omega)).mono ?_;rintro e w9 ⟨A',c',rfl,hown,hb5⟩;have hend:Below w.heap.size w w9:=HB.out.trans (hb5.mono HB.out.size);have hown2:=bV hown HB.out.size
  go_wp2
  go_ret2
  exact ⟨hend,(fun h=>by rw [Ht.out] at h;cases h),fun _=>⟨A',c',rfl,hown2⟩⟩
end Go.Proofs.YtaafkokfdgfabaaGreat
namespace Go.Proofs.YtaafkokfdgfabaaGreat
open Go.RowKit
set_option linter.unusedVariables false
set_option linter.unusedSimpArgs false
def gx (n:Nat):Bool:=(decide (97≤n) && decide (n≤122)) || (decide (48≤n) && decide (n≤57)) || decide (n=45) || decide (n=46)
def jA (l:List UInt8):Bool:=l.all (fun c=>gx c.toNat) && decide (1≤l.length) && decide (l.length≤24)
set_option maxRecDepth 100000 in
theorem qw (l:List UInt8) (hl:l.length≤1000000000) (w:World) :
  Calls Tryz.prog 169 #[.string ⟨l.toArray⟩] w fun e w'=>e=.returned (.bool (jA l))∧Below w.heap.size w w':=by
 have hcv:=iA w l;have hbw:=eh w 5 ⟨l.toArray⟩;have hbs:=fD w 5 l;go_enter Tryz.func169,Tryz.ntmps169
 go_wp2_with fail
 obtain ⟨v,hv⟩:∃ v,v=Lib.bytesWorld w 5 ⟨l.toArray⟩:=⟨_,rfl⟩
 rw [←hv] at hbw hbs ⊢;have Hbw:=Lib.hid hbw;have Hbs:=Lib.hid hbs;clear hcv hbw hbs hv;go_loopw [8] (fun i wr=>∃ k:Nat,k≤l.length∧i=.int .i64 (k:Int)∧Hid (Below v.heap.size v wr)∧Hid (∀ j (hj:j<l.length),j<k→gx l[j].toNat=true)) (fun i _=>l.length - (intOf i).toNat)
 case atStart=>exact ⟨0,by omega,rfl,Below.refl _ _,fun j hj h=>by omega⟩
 case round =>
  obtain ⟨k,hk,rfl,hbel,hat⟩:=hrel;rename World=>wr
  by_cases hlt:k<l.length
  ·have hltI:(k:Int)<(l.length:Int):=by omega
   have hk0:(0:Int)≤(k:Int):=by omega
   obtain ⟨ad,hA,hadb,hcell⟩:=(Hbs.out.below hbel.out).at_ hlt;injection hA with hA
   subst hA;obtain ⟨n,hn⟩:∃ n,n=l[k].toNat:=⟨_,rfl⟩
   rw [←hn,show (⟨w.heap.size,0,none⟩:Addr).add k=⟨w.heap.size,k,none⟩ by unfold Addr.add;split <;> simp_all] at hcell;have Hn:=Lib.hid hn;have hn2:n<256:=by rw [hn];exact l[k].toNat_lt
   have Hat2:Hid (gx n=true→∀ j (hj:j<l.length),j<k + 1→gx l[j].toNat=true):=fun h j hj hjk=>by
    by_cases e:j=k
    ·subst e;rw [←Hn.out];exact h
    ·exact hat.out j hj (by omega)
   have Hbad:Hid (gx n=false→jA l=false):=fun h=>by
    have this:l.all (fun c=>gx c.toNat)=false:=by
     rw [←Bool.not_eq_true,List.all_eq_true];intro hall;have:=hall l[k] (List.getElem_mem hlt);rw [←Hn.out,h] at this;cases this
    unfold jA;rw [this];rfl
   clear hn hat hadb;by_cases a1:n<97
   ·by_cases a2:n<48
    ·by_cases a3:n=45
     ·rw [show (n:Int)=45 by omega] at hcell
      have Hc:Hid (gx n=true):=by show _=_;simp only [gx,Bool.or_eq_true,Bool.and_eq_true,decide_eq_true_eq,Bool.or_eq_false_iff,Bool.and_eq_false_iff,decide_eq_false_iff_not];omega
      go_wp2_with fail
      first
       | (go_roundw;exact ⟨k + 1,by omega,by go_num,hbel,Lib.hid (Hat2.out Hc.out)⟩;simp [intOf];omega)
       | exact ⟨⟨k + 1,by omega,by go_num,hbel,Lib.hid (Hat2.out Hc.out)⟩,by simp [intOf];omega⟩
     ·by_cases a4:n=46
      ·rw [show (n:Int)=46 by omega] at hcell
       have Hc:Hid (gx n=true):=by show _=_;simp only [gx,Bool.or_eq_true,Bool.and_eq_true,decide_eq_true_eq,Bool.or_eq_false_iff,Bool.and_eq_false_iff,decide_eq_false_iff_not];omega
       go_wp2_with fail
       first
        | (go_roundw;exact ⟨k + 1,by omega,by go_num,hbel,Lib.hid (Hat2.out Hc.out)⟩;simp [intOf];omega)
        | exact ⟨⟨k + 1,by omega,by go_num,hbel,Lib.hid (Hat2.out Hc.out)⟩,by simp [intOf];omega⟩
      ·skip
       have:(n:Int)<97:=by omega
       have:(n:Int)<48:=by omega
       have:((n:Int) != 45)=true:=by simp;omega
       have:((n:Int) != 46)=true:=by simp;omega
       have Hc:Hid (gx n=false):=by show _=_;simp only [gx,Bool.or_eq_true,Bool.and_eq_true,decide_eq_true_eq,Bool.or_eq_false_iff,Bool.and_eq_false_iff,decide_eq_false_iff_not];omega
       go_wp2_with fail
       go_ret
       exact ⟨by rw [Hbad.out Hc.out];rfl,Hbw.out.trans (hbel.out.mono Hbw.out.size)⟩
    ·by_cases a3:n≤57
     ·skip
      have:(n:Int)<97:=by omega
      have:¬ (n:Int)<48:=by omega
      have:¬ (57:Int)<(n:Int):=by omega
      have Hc:Hid (gx n=true):=by show _=_;simp only [gx,Bool.or_eq_true,Bool.and_eq_true,decide_eq_true_eq,Bool.or_eq_false_iff,Bool.and_eq_false_iff,decide_eq_false_iff_not];omega
      go_wp2_with fail
      first
       | (go_roundw;exact ⟨k + 1,by omega,by go_num,hbel,Lib.hid (Hat2.out Hc.out)⟩;simp [intOf];omega)
       | exact ⟨⟨k + 1,by omega,by go_num,hbel,Lib.hid (Hat2.out Hc.out)⟩,by simp [intOf];omega⟩
     ·skip
      have:(n:Int)<97:=by omega
      have:¬ (n:Int)<48:=by omega
      have:(57:Int)<(n:Int):=by omega
      have:((n:Int) != 45)=true:=by simp;omega
      have:((n:Int) != 46)=true:=by simp;omega
      have Hc:Hid (gx n=false):=by show _=_;simp only [gx,Bool.or_eq_true,Bool.and_eq_true,decide_eq_true_eq,Bool.or_eq_false_iff,Bool.and_eq_false_iff,decide_eq_false_iff_not];omega
      go_wp2_with fail
      go_ret
      exact ⟨by rw [Hbad.out Hc.out];rfl,Hbw.out.trans (hbel.out.mono Hbw.out.size)⟩
   ·by_cases a2:n≤122
    ·skip
     have:¬ (n:Int)<97:=by omega
     have:¬ (122:Int)<(n:Int):=by omega
     have Hc:Hid (gx n=true):=by show _=_;simp only [gx,Bool.or_eq_true,Bool.and_eq_true,decide_eq_true_eq,Bool.or_eq_false_iff,Bool.and_eq_false_iff,decide_eq_false_iff_not];omega
     go_wp2_with fail
     first
      | (go_roundw;exact ⟨k + 1,by omega,by go_num,hbel,Lib.hid (Hat2.out Hc.out)⟩;simp [intOf];omega)
      | exact ⟨⟨k + 1,by omega,by go_num,hbel,Lib.hid (Hat2.out Hc.out)⟩,by simp [intOf];omega⟩
    ·skip
     have:¬ (n:Int)<97:=by omega
     have:(122:Int)<(n:Int):=by omega
     have:¬ (n:Int)<48:=by omega
     have:(57:Int)<(n:Int):=by omega
     have:((n:Int) != 45)=true:=by simp;omega
     have:((n:Int) != 46)=true:=by simp;omega
     have Hc:Hid (gx n=false):=by show _=_;simp only [gx,Bool.or_eq_true,Bool.and_eq_true,decide_eq_true_eq,Bool.or_eq_false_iff,Bool.and_eq_false_iff,decide_eq_false_iff_not];omega
     go_wp2_with fail
     go_ret
     exact ⟨by rw [Hbad.out Hc.out];rfl,Hbw.out.trans (hbel.out.mono Hbw.out.size)⟩
  ·have hltI:¬ (k:Int)<(l.length:Int):=by omega
   have Hall:Hid (l.all (fun c=>gx c.toNat)=true):=by
    show _=_
    rw [List.all_eq_true];intro c hc;obtain ⟨j,hj,rfl⟩:=List.getElem_of_mem hc;exact hat.out j hj (by omega)
   by_cases b1:1≤l.length
   ·have f1:(1:Int)≤(l.length:Int):=by omega
    have f2:(0:Int)<(l.length:Int):=by omega
    have f3:0<l.length:=by omega
    have f4:l≠[]:=by intro e;rw [e] at b1;simp at b1
    have Hr:Hid (jA l=decide ((l.length:Int)≤24)):=by
     show _=_;unfold jA;rw [Hall.out,decide_eq_true b1,Bool.true_and,Bool.true_and]
     exact decide_eq_decide.2 ⟨fun h=>by omega,fun h=>by omega⟩
    go_wp2_with fail
    go_ret
    exact ⟨by rw [Hr.out];rfl,Hbw.out.trans (hbel.out.mono Hbw.out.size)⟩
   ·have f1:¬ (1:Int)≤(l.length:Int):=by omega
    have f3:l.length=0:=by omega
    have f4:l=[]:=List.eq_nil_of_length_eq_zero f3;have Hr:Hid (jA l=false):=by show _=_;unfold jA;rw [Hall.out,decide_eq_false b1];rfl
    clear f3 f4
    go_wp2_with fail
    go_ret
    exact ⟨by rw [Hr.out];rfl,Hbw.out.trans (hbel.out.mono Hbw.out.size)⟩
end Go.Proofs.YtaafkokfdgfabaaGreat
