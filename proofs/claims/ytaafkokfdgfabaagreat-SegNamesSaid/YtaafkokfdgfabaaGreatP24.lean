import Derived.Test.YtaafkokfdgfabaaGreatP11
import Derived.Test.YtaafkokfdgfabaaGreatP14
import Derived.Test.YtaafkokfdgfabaaGreatP23
set_option maxHeartbeats 8000000
namespace Go.Proofs.YtaafkokfdgfabaaGreat
open Go.RowKit
set_option linter.unusedVariables false
set_option linter.unusedSimpArgs false
theorem ep (w:World) (t:TypeId) (z cs:List Value) (hl:cs.length=z.length):∃ x y,Hid (x=w.alloc (.cells z.toArray t))∧Hid (y=x.setCells w.heap.size 0 cs)∧Hid (x.there w.heap.size 0 cs.toArray.size)∧Hid (ah y w.heap.size t cs.toArray)∧Hid (Below w.heap.size w y):=by
 obtain ⟨h1,h2,h3⟩:=my w _ _ t z cs hl rfl rfl;exact ⟨_,_,rfl,rfl,h1,h2,h3⟩
theorem i8 {p:ob}:cI p=true↔d9 p.version 0 1099511627776=true∧p.backs.length≤1024∧∀ i,i<p.backs.length→gK p.backs i=true:=by
 simp [cI]
theorem CS {a b:Bool} (h:a=true→b=true) (e:b=false):Hid (a=false):=by
 show _=_
 rcases a with _ | _
 ·rfl
 ·rw [h rfl] at e;cases e
set_option maxRecDepth 100000 in
theorem lT (A:Option Addr) (n c:Nat) (p:ob) (hs:∀ b ∈ p.backs,ar b) (hnm:∀ b ∈ p.backs,b.name.length≤1000000000) (w:World) (hn:n=p.backs.length) (hnc:n≤c) (hb:RW ae 27 w w.heap.size A p.backs) (hl:n≤1000000) :
  Calls Tryz.prog 120 #[.agg (kO A n c p).toArray] w fun e w'=>e=.returned (.bool (cI p))∧Below w.heap.size w w':=by
 subst hn;obtain ⟨ver,bs⟩:=p;simp only at hs hnm hb hl hnc ⊢;obtain ⟨W,hW⟩:∃ W,W=w.alloc (.cells (kO A bs.length c ⟨ver,bs⟩).toArray 32):=⟨_,rfl⟩
 have HX:Hid (ah W w.heap.size 32 (kO A bs.length c ⟨ver,bs⟩).toArray):=by rw [hW];exact ah.new w _ _ _ rfl
 have HB:Hid (Below w.heap.size w W):=by rw [hW];exact (Below.refl _ _).alloc (Nat.le_refl _) _
 have HV:=Lib.hid ((hb.below HB.out).more HB.out.size);have Hs:=Lib.hid hs;have Hnm:=Lib.hid hnm;have d0:W.cell? ⟨w.heap.size,0,none⟩=some (.int .i64 ver):=HX.out.cell 0;have d1:W.cell? ⟨w.heap.size,1,none⟩=some (.slice A bs.length c):=HX.out.cell 1;have HW:=Lib.hid hW;clear hW hb hs hnm;have Hno:=fun (r:Bool) (h:cI ⟨ver,bs⟩=true→r=true)=>CS h
 go_enter Tryz.func120,Tryz.ntmps120
 go_upto_region 1 with fail
 rw [←HW.out];clear HW;by_cases v1:ver<0
 ·have Hr:=Hno (d9 ver 0 1099511627776) (fun h=>(i8.1 h).1) (by unfold d9;rw [decide_eq_false (by omega)];rfl)
  go_wp2
  go_ret
  exact ⟨by rw [Hr.out];rfl,HB.out⟩
 by_cases v2:1099511627776<ver
 ·have Hr:=Hno (d9 ver 0 1099511627776) (fun h=>(i8.1 h).1) (by unfold d9;rw [decide_eq_false (show ¬ ver≤1099511627776 by omega)];simp)
  go_wp2
  go_ret
  exact ⟨by rw [Hr.out];rfl,HB.out⟩
 by_cases v3:1024<bs.length
 ·have v3I:(1024:Int)<(bs.length:Int):=by omega
  have Hr:=Hno (decide (bs.length≤1024)) (fun h=>by have:=(i8.1 h).2.1;simpa using this) (by rw [decide_eq_false (by omega)]);clear v3
  go_wp2
  go_ret
  exact ⟨by rw [Hr.out];rfl,HB.out⟩
 have v3I:¬ (1024:Int)<(bs.length:Int):=by omega
 go_wp2
 go_loopw [22] (fun i wr=>∃ k:Nat,k≤bs.length∧i=.int .i64 (k:Int)∧Hid (Below W.heap.size W wr)∧Hid (∀ j,j<k→gK bs j=true)) (fun i _=>bs.length - (intOf i).toNat)
 case atStart=>exact ⟨0,by omega,rfl,Below.refl _ _,fun j hj=>by omega⟩
 case round =>
  obtain ⟨k,hk,rfl,hbel,hat⟩:=hrel;rename World=>wr
  by_cases hlt:k<bs.length
  ·have hltI:(k:Int)<(bs.length:Int):=by omega
   have hk0:(0:Int)≤(k:Int):=by omega
   obtain ⟨b,o,hA,hbB,hc⟩:=(HV.out.below hbel.out) (by omega);subst hA;obtain ⟨x,hx⟩:∃ x,x=bs[k]:=⟨_,rfl⟩
   have Hrg:=Lib.hid (hc k x (by rw [List.getElem?_eq_getElem hlt,hx]));have Hxs:=Lib.hid (Hs.out x (by rw [hx];exact List.getElem_mem hlt));have Hxn:=Lib.hid (Hnm.out x (by rw [hx];exact List.getElem_mem hlt));have Hat0:Hid (gK bs k=(ex x && (bj x.wt == bj (i6 x.wt) && (decide (k=0) || (match bs[k - 1]? with | some c=>Op.bytesLess c.name x.name | none=>true))))):=by
    show _=_
    unfold gK;rw [List.getElem?_eq_getElem hlt,←hx];rfl
   have Hno2:gK bs k=false→Hid (cI ⟨ver,bs⟩=false):=fun h=>Hno (gK bs k) (fun g=>(i8.1 g).2.2 k hlt) h
   have Hyes:Hid (gK bs k=true→∀ j,j<k + 1→gK bs j=true):=fun h j hj=>by
    rcases Nat.lt_or_ge j k with h1 | h1
    ·exact hat.out j h1
    ·obtain rfl:j=k:=by omega
     exact h
   have HPx:Hid (∀ y:aR,bs[k - 1]?=some y→wr.cell? ⟨b,o + (k - 1) * 27,none⟩=some (.string ⟨y.name.toArray⟩)):=fun y hy=>hc (k - 1) y hy 0 _ rfl
   have e0:wr.cell? ⟨w.heap.size,1,none⟩=some (.slice (some ⟨b,o,none⟩) bs.length c):=(ah.below HX.out hbel.out HX.out.lt).cell 1;clear hc hx hat;obtain ⟨x1,y1,X1,Y1,T1,B1,L1⟩:=ep wr 56 (ae dt) (ae x) (by rw [bn Hxs.out,bn aA]);rw [gh] at X1;have HB1:Hid (Below W.heap.size W y1):=hbel.out.trans (L1.out.mono hbel.out.size);have hold:Hid (∀ o,y1.cell? ⟨b,o,none⟩=wr.cell? ⟨b,o,none⟩):=fun o=>L1.out.cell (p:=⟨b,o,none⟩) (by have:=hbel.out.size;have:=hbB;simp;omega)
   have Hsz:=Lib.hid (cQ Hxs.out);have Hb1:Hid (b<y1.heap.size):=by have:=HB1.out.size;show _<_;omega
   go_upto_region 6 with (first
    | ((with_reducible refine aI 56 ?_);refine aa (by rfl) 56 (.tmp 25) rfl b (o + k * 27) rfl (ae x) _ Hrg.out bL rfl Hsz.out ?_)
    | (rw [←X1.out];(with_reducible refine aM 56 ?_);refine wpList_store_mid rfl 56 (.tmp 4) (.tmp 26) rfl wr.heap.size 0 (ae x).toArray rfl rfl T1.out (by rw [List.size_toArray];exact Hsz.out) (eC _) ?_))
   rw [←Y1.out];have Hwt:=Lib.hid Hxs.out.wt;have e1:y1.cell? ⟨w.heap.size,1,none⟩=some (.slice (some ⟨b,o,none⟩) bs.length c):=(ah.below HX.out HB1.out HX.out.lt).cell 1;have e2:=ll B1.out;have e3:=lM B1.out Hxs.out;have l1:w.heap.size<y1.heap.size:=by have:=HX.out.lt;have:=HB1.out.size;omega
   have l2:wr.heap.size<y1.heap.size:=B1.out.lt;have l3:b<y1.heap.size:=Hb1.out;clear X1 Y1 T1 Hrg hbel e0;have Hfin:Hid (∀ w2,Below y1.heap.size y1 w2→Below W.heap.size W w2):=fun w2 h=>HB1.out.trans (h.mono HB1.out.size)
   have Hwt:=Lib.hid Hxs.out.wt;refine Sd.start ?_;simp only [Act.put];rcases hf:ex x with _ | _
   ·have Hr:=Hno2 (by rw [Hat0.out,hf];rfl)
    repeat ((first | refine sk ?_ | refine sl (aj B1.out) l2 bL Hsz.out ?_ | refine cl (fun w _=>nj x Hxs.out Hxn.out w) ?_ | refine pt ?_);simp only [ld,lg,lf,Nat.reduceAdd,hf])
    refine Sd.done fun w2 hb2=>?_
    have Hb2:=Lib.hid (HB.out.trans ((Hfin.out w2 hb2).mono HB.out.size));clear hf hb2
    go_wp2
    go_ret
    exact ⟨by rw [Hr.out];rfl,Hb2.out⟩
   ·rcases hw:(bj x.wt == bj (i6 x.wt)) with _ | _
    ·have Hr:=Hno2 (by rw [Hat0.out,hf,hw];rfl)
     repeat ((first | refine sk ?_ | refine sl (aj B1.out) l2 bL Hsz.out ?_ | refine cl (fun w _=>nj x Hxs.out Hxn.out w) ?_ | refine cq (fun w _=>mi x.wt Hwt.out w) ?_ | refine cq (fun w _=>jL x.wt (i6 x.wt) w) ?_ | refine pt ?_);simp only [ld,lg,lf,Nat.reduceAdd,hf,hw])
     refine Sd.done fun w2 hb2=>?_
     have Hb2:=Lib.hid (HB.out.trans ((Hfin.out w2 hb2).mono HB.out.size));clear hf hw hb2
     go_wp2
     go_ret
     exact ⟨by rw [Hr.out];rfl,Hb2.out⟩
    ·rcases k with _ | j
     ·have Hr:Hid (gK bs 0=true):=by show _=_;rw [Hat0.out,hf,hw];rfl
      repeat ((first | refine sk ?_ | refine sl (aj B1.out) l2 bL Hsz.out ?_ | refine cl (fun w _=>nj x Hxs.out Hxn.out w) ?_ | refine cq (fun w _=>mi x.wt Hwt.out w) ?_ | refine cq (fun w _=>jL x.wt (i6 x.wt) w) ?_ | refine pt ?_);simp only [ld,lg,lf,Nat.reduceAdd,hf,hw])
      refine Sd.done fun w2 hb2=>?_
      have Hb2:=Lib.hid (Hfin.out w2 hb2);clear hf hw hb2
      go_wp2
      go_roundw
      case rel=>exact ⟨_,by omega,by go_num,Hb2,Lib.hid (Hyes.out Hr.out)⟩
      case measure=>simp [intOf];omega
     ·obtain ⟨y,hy⟩:∃ y,bs[j]?=some y:=⟨_,List.getElem?_eq_getElem (by omega)⟩
      have e4:y1.cell? ⟨b,o + j * 27,none⟩=some (.string ⟨y.name.toArray⟩):=(hold.out _).trans (HPx.out y hy);have Hat1:Hid (gK bs (j + 1)=Op.bytesLess y.name x.name):=by show _=_;rw [Hat0.out,hf,hw];simp [hy]
      have j1:(0:Int)≤(j:Int):=by omega
      have j2:(j:Int)<(bs.length:Int):=by omega
      have jw:IntKind.i64.wrap (j:Int)=(j:Int):=IntWalk.i64_in _ (by omega)
      repeat ((first | refine sk ?_ | refine sl (aj B1.out) l2 bL Hsz.out ?_ | refine cl (fun w _=>nj x Hxs.out Hxn.out w) ?_ | refine cq (fun w _=>mi x.wt Hwt.out w) ?_ | refine cq (fun w _=>jL x.wt (i6 x.wt) w) ?_ | refine pt ?_);simp only [ld,lg,lf,Nat.reduceAdd,hf,hw,jw])
      refine Sd.done fun w2 hb2=>?_
      have Hb2:=Lib.hid (Hfin.out w2 hb2);have Hb3:=Lib.hid (HB.out.trans (Hb2.out.mono HB.out.size));clear hf hw hb2 jw;rcases hl2:Op.bytesLess y.name x.name with _ | _
      ·have Hr:=Hno2 (by rw [Hat1.out,hl2])
       go_wp2
       go_ret
       exact ⟨by rw [Hr.out];rfl,Hb3.out⟩
      ·have Hr:Hid (gK bs (j + 1)=true):=by show _=_;rw [Hat1.out,hl2]
       go_wp2
       go_roundw
       case rel=>exact ⟨_,by omega,by go_num,Hb2,Lib.hid (Hyes.out Hr.out)⟩
       case measure=>simp [intOf];omega
  ·have hltI:¬ (k:Int)<(bs.length:Int):=by omega
   have Hr:Hid (cI ⟨ver,bs⟩=true):=i8.2 ⟨by unfold d9;rw [decide_eq_true (by omega),decide_eq_true (by omega)];rfl,by simp only;omega,fun i hi=>hat.out i (by simp only at hi;omega)⟩
   go_wp2
   go_ret
   exact ⟨by rw [Hr.out];rfl,HB.out.trans (hbel.out.mono HB.out.size)⟩
end Go.Proofs.YtaafkokfdgfabaaGreat
namespace Go.Proofs.YtaafkokfdgfabaaGreat
open Go.RowKit
set_option linter.unusedVariables false
set_option linter.unusedSimpArgs false
theorem tA (a:cH) (ha:aQ a) (w:World):Calls Tryz.prog 187 #[kH a] w fun e w'=>e=.returned (.bool (dH a))∧Below w.heap.size w w':=by
 have hlen:a.2.length=16:=ha;unfold kH;obtain ⟨W,hW⟩:∃ W,W=w.alloc (.cells (ag a).toArray 27):=⟨_,rfl⟩
 have HX:Hid (ah W w.heap.size 27 (ag a).toArray):=by rw [hW];exact pd _ _ _
 have HB:Hid (Below w.heap.size w W):=by rw [hW];exact (Below.refl _ _).alloc (Nat.le_refl _) _
 have c0:W.cell? ⟨w.heap.size,0,none⟩=some (.bool a.1):=mw HX.out;have HS:Hid (BS W W.heap.size (some ⟨w.heap.size,5,none⟩) (a.2.drop 4)):=rh HX.out 4 _ HX.out.lt;have Hdl:Hid (12=(a.2.drop 4).length):=by show _=_;simp;omega
 have HW:=Lib.hid hW;have l0:w.heap.size<W.heap.size:=HX.out.lt;clear hW hlen;go_enter Tryz.func187,Tryz.ntmps187
 go_upto_region 1 with fail
 rw [←HW.out];clear HW;refine Sd.plain ?_
 repeat ((first | refine pa ?_ | refine po ?_ | refine gq (fun w hS=>gD (Or.inr (Or.inr rfl)) _ 12 12 (a.2.drop 4) w W.heap.size Hdl.out (HS.out.below hS) (by decide)) ?_ | refine gp ?_ | refine pt ?_);simp only [ld,lg,lf,Nat.reduceAdd])
 refine Sd.done fun w2 hb2=>?_
 have Hb2:=Lib.hid (HB.out.trans (hb2.mono HB.out.size));have Hr:Hid ((a.1 || (a.2.drop 4).all fun x=>x == 0)=dH a):=by show _=_;unfold dH kC;cases a.1 <;> rfl
 clear hb2
 go_wp2
 go_ret
 exact ⟨by rw [←Hr.out];rfl,Hb2.out⟩
theorem xl {k:eZ} (h:cz k) {w:World} {g:Nat} {t:TypeId} (hb:ah w g t (aK k).toArray):w.rangeAt g 0 (ag k.src):=fun j v hj=>by
 rw [hb.cell,List.getElem?_toArray,aK,List.getElem?_append_left (by have:=(List.getElem?_eq_some_iff.1 hj).1;omega),Nat.zero_add];exact hj
theorem xm {k:eZ} (h:cz k) {w:World} {g:Nat} {t:TypeId} (hb:ah w g t (aK k).toArray):w.rangeAt g 17 (ag k.dst):=fun j v hj=>by
 have h1:=ao h.src;rw [hb.cell,List.getElem?_toArray,aK,List.getElem?_append_right (by omega),h1,List.getElem?_append_left (by have:=(List.getElem?_eq_some_iff.1 hj).1;omega),Nat.add_sub_cancel_left];exact hj
theorem lB {k:eZ} (h:cz k) {w:World} {g:Nat} {t:TypeId} (hb:ah w g t (aK k).toArray) (j:Nat):w.cell? ⟨g,34 + j,none⟩=[zv k.proto,zv k.sport,zv k.dport][j]?:=by
 have h1:=ao h.src;have h2:=ao h.dst;rw [hb.cell,List.getElem?_toArray,aK,List.getElem?_append_right (by omega),h1,List.getElem?_append_right (by omega),h2,show 34 + j - 17 - 17=j by omega]
theorem tB {a:cH} (h:aQ a):(Tryz.prog.info? 27).map (·.size)=some (ag a).length:=by rw [ao h];exact eW
set_option maxRecDepth 100000 in
theorem yN (k:eZ) (hk:cz k) (w:World):Calls Tryz.prog 168 #[.agg (aK k).toArray] w fun e w'=>e=.returned (.bool (eG k))∧Below w.heap.size w w':=by
 obtain ⟨W,hW⟩:∃ W,W=w.alloc (.cells (aK k).toArray 118):=⟨_,rfl⟩
 have HX:Hid (ah W w.heap.size 118 (aK k).toArray):=by rw [hW];exact ah.new w _ _ _ rfl
 have HB:Hid (Below w.heap.size w W):=by rw [hW];exact (Below.refl _ _).alloc (Nat.le_refl _) _
 have HS:=Lib.hid (xl hk HX.out);have HD:=Lib.hid (xm hk HX.out);have c0:W.cell? ⟨w.heap.size,0,none⟩=some (.bool k.src.1):=HS.out 0 _ rfl;have c1:W.cell? ⟨w.heap.size,17,none⟩=some (.bool k.dst.1):=HD.out 0 _ rfl;have c2:W.cell? ⟨w.heap.size,34,none⟩=some (.int .i64 k.proto):=lB hk HX.out 0;have c3:W.cell? ⟨w.heap.size,35,none⟩=some (.int .i64 k.sport):=lB hk HX.out 1;have c4:W.cell? ⟨w.heap.size,36,none⟩=some (.int .i64 k.dport):=lB hk HX.out 2;have HW:=Lib.hid hW;have l0:w.heap.size<W.heap.size:=HX.out.lt;clear hW;go_enter Tryz.func168,Tryz.ntmps168
 go_upto_region 1 with fail
 rw [←HW.out];clear HW;refine Sd.plain ?_
 repeat ((first | refine pa ?_ | refine gs HS.out l0 cP (tB hk.src) ?_ | refine gs HD.out l0 cP (tB hk.dst) ?_ | refine gc (fun w _=>tA k.src hk.src w) ?_ | refine gc (fun w _=>tA k.dst hk.dst w) ?_ | refine gp ?_ | refine pt ?_);simp only [ld,lg,lf,Nat.reduceAdd])
 refine Sd.done fun w2 hb2=>?_
 have Hb2:=Lib.hid (HB.out.trans (hb2.mono HB.out.size));clear hb2
 go_wp2
 go_ret
 exact ⟨by simp only [eG,d9,←Bool.and_assoc];rfl,Hb2.out⟩
theorem i9 {f:dB} (h:cz f.key) {w:World} {g:Nat} {t:TypeId} (hb:ah w g t (aw f).toArray):w.rangeAt g 0 (aK f.key):=fun j v hj=>by
 rw [hb.cell,List.getElem?_toArray,aw,List.getElem?_append_left (by have:=(List.getElem?_eq_some_iff.1 hj).1;omega),Nat.zero_add];exact hj
theorem ei {f:dB} (h:cz f.key) {w:World} {g:Nat} {t:TypeId} (hb:ah w g t (aw f).toArray) (j:Nat):w.cell? ⟨g,37 + j,none⟩=[sv f.name,zv f.state,zv f.seen,zv f.no][j]?:=by
 have h1:=fC h;rw [hb.cell,List.getElem?_toArray,aw,List.getElem?_append_right (by omega),h1,Nat.add_sub_cancel_left]
theorem dP:Tryz.prog.underlying 118=some (.struct (Tryz.prog.fieldsOf 118)):=by kernel_rfl
theorem BA:(Tryz.prog.info? 118).map (·.size)=some 37:=by kernel_rfl
theorem ko {k:eZ} (h:cz k):(Tryz.prog.info? 118).map (·.size)=some (aK k).length:=by rw [fC h];exact BA
set_option maxRecDepth 100000 in
theorem ic (f:dB) (hk:cz f.key) (hn:f.name.length≤1000000000) (w:World):Calls Tryz.prog 123 #[.agg (aw f).toArray] w fun e w'=>e=.returned (.bool (eH f))∧Below w.heap.size w w':=by
 obtain ⟨W,hW⟩:∃ W,W=w.alloc (.cells (aw f).toArray 120):=⟨_,rfl⟩
 have HX:Hid (ah W w.heap.size 120 (aw f).toArray):=by rw [hW];exact ah.new w _ _ _ rfl
 have HB:Hid (Below w.heap.size w W):=by rw [hW];exact (Below.refl _ _).alloc (Nat.le_refl _) _
 have c1:W.cell? ⟨w.heap.size,37,none⟩=some (.string ⟨f.name.toArray⟩):=ei hk HX.out 0;have c2:W.cell? ⟨w.heap.size,38,none⟩=some (.int .i64 f.state):=ei hk HX.out 1;have c3:W.cell? ⟨w.heap.size,39,none⟩=some (.int .i64 f.seen):=ei hk HX.out 2;have c4:W.cell? ⟨w.heap.size,40,none⟩=some (.int .i64 f.no):=ei hk HX.out 3;have HW:=Lib.hid hW;have Hn:=Lib.hid hn;have l0:w.heap.size<W.heap.size:=HX.out.lt;clear hW hn;go_enter Tryz.func123,Tryz.ntmps123
 go_upto_region 1 with fail
 rw [←HW.out];clear HW;refine Sd.plain ?_
 repeat ((first | refine pa ?_ | refine sl (i9 hk HX.out) l0 dP (ko hk) ?_ | refine cl (fun w _=>yN f.key hk w) ?_ | refine gc (fun w _=>pu f.name Hn.out w) ?_ | refine gp ?_ | refine pt ?_);simp only [ld,lg,lf,Nat.reduceAdd])
 refine Sd.done fun w2 hb2=>?_
 have Hb2:=Lib.hid (HB.out.trans (hb2.mono HB.out.size));clear hb2
 go_wp2
 go_ret
 exact ⟨by simp only [eH,d9,←Bool.and_assoc];rfl,Hb2.out⟩
end Go.Proofs.YtaafkokfdgfabaaGreat
namespace Go.Proofs.YtaafkokfdgfabaaGreat
open Go.RowKit
set_option linter.unusedVariables false
set_option linter.unusedSimpArgs false
theorem pI (m:Nat) (w:World) (hm:m<18446744073709551616):Calls Tryz.prog 118 #[.int .u64 (m:Int),.int .i64 2,.bool true] w fun e w'=>∃ A c,e=.returned (.slice A 2 c)∧w'.ownsRow w.heap.size 5 1 (.slice A 2 c) (bT 2 m true).length (ab (bT 2 m true))∧Below w.heap.size w w':=by
 refine (jI true m 2 w hm).mono ?_;rintro e w' ⟨A,c,rfl,h1,h2⟩;exact ⟨A,c,by rw [av];rfl,by rw [av] at h1 ⊢;exact h1,h2⟩
theorem pJ {w:World} {g o:Nat} {x:Bool} {l:List UInt8} (h:w.rangeAt g o (ag (x,l))) (B:Nat) (hB:g<B):BS w B (some ⟨g,o + 1,none⟩) l:=fun hp=>by
 refine ⟨_,rfl,hB,fun j c hj=>?_⟩;rw [Addr.add_mid,show o + 1 + j=o + (j + 1) by omega];exact h (j + 1) _ (by rw [ag,List.getElem?_cons_succ,ab,List.getElem?_map,hj];rfl)
theorem xn {w:World} {g:Nat} {x:UInt8} (h:w.cell? ⟨g,0,none⟩=some (p8 x)) (B:Nat) (hB:g<B):BS w B (some ⟨g,0,none⟩) [x]:=fun hp=>by
 refine ⟨_,rfl,hB,fun j c hj=>?_⟩;match j,hj with
 | 0,hj=>injection hj with hj;subst hj;rw [Addr.add_mid];exact h
theorem qM (w:World) (a b:Array Value) (t:TypeId):(∀ x,a[0]?=some x→((w.alloc (.cells a t)).alloc (.cells b t)).cell? ⟨w.heap.size,0,none⟩=some x)∧(∀ x,b[0]?=some x→((w.alloc (.cells a t)).alloc (.cells b t)).cell? ⟨w.heap.size + 1,0,none⟩=some x)∧Below w.heap.size w ((w.alloc (.cells a t)).alloc (.cells b t)):=by
 have h1:ah (w.alloc (.cells a t)) w.heap.size t a:=ah.new w _ _ _ rfl;have h2:ah ((w.alloc (.cells a t)).alloc (.cells b t)) (w.heap.size + 1) t b:=by
  have:=ah.new (w.alloc (.cells a t)) t b _ rfl;simpa using this
 have h3:Below (w.alloc (.cells a t)).heap.size (w.alloc (.cells a t)) ((w.alloc (.cells a t)).alloc (.cells b t)):=(Below.refl _ _).alloc (Nat.le_refl _) _;refine ⟨fun x hx=>?_,fun x hx=>by rw [h2.cell];exact hx,((Below.refl _ _).alloc (Nat.le_refl _) _).trans (h3.mono (by simp))⟩;rw [(h1.below h3 h1.lt).cell];exact hx
set_option maxRecDepth 100000 in
theorem kp (k:eZ) (hk:cz k) (hkn:eG k=true) (w:World):Calls Tryz.prog 66 #[.agg (aK k).toArray] w fun e w'=>∃ A c,e=.returned (.slice A (bI k).length c)∧w'.ownsRow w.heap.size 5 1 (.slice A (bI k).length c) (bI k).length (ab (bI k))∧Below w.heap.size w w':=by
 simp only [eG,Bool.and_eq_true,bF] at hkn;obtain ⟨_,_,_,hp,hs,hd⟩:=hkn;obtain ⟨i0,hi0,hz0,hz1,hz2⟩:=info_parts cy;obtain ⟨pr,hpr⟩:∃ n:Nat,k.proto=(n:Int):=⟨k.proto.toNat,by omega⟩
 obtain ⟨sp,hsp⟩:∃ n:Nat,k.sport=(n:Int):=⟨k.sport.toNat,by omega⟩
 obtain ⟨dp,hdp⟩:∃ n:Nat,k.dport=(n:Int):=⟨k.dport.toNat,by omega⟩
 rw [hpr] at hp;rw [hsp] at hs;rw [hdp] at hd;obtain ⟨φ,hφ⟩:∃ φ:UInt8,φ=if k.src.1 then 6 else 4:=⟨_,rfl⟩
 have Htb:Hid ([[φ],k.src.2,k.dst.2,[UInt8.ofNat (pr % 256)],bT 2 sp true ++ bT 2 dp true].flatten=bI k):=by
  show _=_
  rw [bI,hφ,hpr,hsp,hdp];simp [bT,jd]
 have Hlen:Hid ((bI k).length=38):=by
  show _=_
  have h1:k.src.2.length=16:=hk.src;have h2:k.dst.2.length=16:=hk.dst;simp [bI,av,h1,h2]
 obtain ⟨W,hW⟩:∃ W,W=w.alloc (.cells (aK k).toArray 118):=⟨_,rfl⟩
 have HX:Hid (ah W w.heap.size 118 (aK k).toArray):=by rw [hW];exact ah.new w _ _ _ rfl
 have HB:Hid (Below w.heap.size w W):=by rw [hW];exact (Below.refl _ _).alloc (Nat.le_refl _) _
 have HS:=Lib.hid (xl hk HX.out);have HD:=Lib.hid (xm hk HX.out);have c0:W.cell? ⟨w.heap.size,0,none⟩=some (.bool k.src.1):=HS.out 0 _ rfl;have c2:W.cell? ⟨w.heap.size,34,none⟩=some (.int .i64 (pr:Int)):=(lB hk HX.out 0).trans (by rw [hpr];rfl);have c3:W.cell? ⟨w.heap.size,35,none⟩=some (.int .i64 (sp:Int)):=(lB hk HX.out 1).trans (by rw [hsp];rfl);have c4:W.cell? ⟨w.heap.size,36,none⟩=some (.int .i64 (dp:Int)):=(lB hk HX.out 2).trans (by rw [hdp];rfl);have HW:=Lib.hid hW;have l0:w.heap.size<W.heap.size:=HX.out.lt;have Hφ:=Lib.hid hφ;clear hW hφ hpr hsp hdp;rcases h6:k.src.1 with _ | _
 all_goals
  rw [h6] at c0;go_enter Tryz.func66,Tryz.ntmps66
  go_upto_region 1 with fail
  rw [←HW.out];go_upto_region 4 with fail
  have hw1:IntKind.u64.wrap (sp:Int)=(sp:Int):=IntWalk.u64_in _ (by omega);have hw2:IntKind.u64.wrap (dp:Int)=(dp:Int):=IntWalk.u64_in _ (by omega);refine Wh.start fun hH=>?_
  have hH:=hH.out;refine tw 0 hH ?_;simp only [ld,lg,lf];refine tw 1 hH ?_;simp only [ld,lg,lf];refine tw 2 hH ?_;simp only [ld,lg,lf,hw1,hw2];refine tw 4 hH ?_;simp only [ld,lg,lf];refine tw 5 hH ?_;simp only [ld,lg,lf];refine tw 6 hH ?_;simp only [ld,lg,lf,hw1,hw2];refine one 3 (On.call (pI sp _ (by omega)) ?_);rintro e w1 ⟨A1,n1,rfl,hown1,hb1⟩;have hH1:=hH.trans (hb1.mono hH.size);refine ⟨_,rfl,hH1,?_⟩;simp only [ld,lg,lf];refine one 7 (On.call (pI dp _ (by omega)) ?_);rintro e w2 ⟨A2,n2,rfl,hown2,hb2⟩;have hH2:=hH1.trans (hb2.mono hH1.size);have ho:=ax hown1 hb2;have hW2:W.heap.size≤W.drew.heap.size:=hH.size;refine ⟨_,rfl,hH2,?_⟩;simp only [ld,lg,lf];refine one 8 (On.op fun K hK=>?_);refine kA _ _ _ 43 rfl W.drew.heap.size 5 i0 (.int .u8 0) 1 Tryz.underlying43 hi0 hz0 hz1 hz2 rfl _ (bT 2 sp true) rfl ho _ A2 2 n2 (bT 2 dp true) rfl (av 2 dp true).symm (BS.of_own hown2).1 (by rw [av,av];decide) (by rw [av,av];decide) (Nat.le_trans hb1.size hb2.size) ?_;intro A3 n3 w3 hown3 hg3 _;refine hK.out _ _ (hH2.grown hg3 hH2.size fun g hg=>Nat.le_trans hW2 (ho.lt g hg).1) fun hH3=>?_
  clear hK K;obtain ⟨pb,hpb⟩:∃ pb,pb=bT 2 sp true ++ bT 2 dp true:=⟨_,rfl⟩
  have hpl:pb.length=4:=by rw [hpb,List.length_append,av,av]
  rw [←hpb,hpl] at hown3;rw [←hpb] at Htb;rw [←hpb,hpl];simp only [ld,lg,lf];refine tw 9 hH3 ?_;simp only [ld,lg,lf];refine Wh.done ?_;have HP:Hid (BS w3 w3.heap.size A3 pb):=(BS.of_own hown3).1;have HB3:Hid (Below w.heap.size w w3):=HB.out.trans (hH3.mono HB.out.size);have HS3:Hid (BS w3 w3.heap.size (some ⟨w.heap.size,1,none⟩) k.src.2):=((pJ HS.out _ l0).below hH3).more hH3.size;have HD3:Hid (BS w3 w3.heap.size (some ⟨w.heap.size,18,none⟩) k.dst.2):=((pJ HD.out _ l0).below hH3).more hH3.size;have d2:w3.cell? ⟨w.heap.size,34,none⟩=some (.int .i64 (pr:Int)):=(dC hH3 _ _ l0).trans c2;have l3:w.heap.size<w3.heap.size:=Nat.lt_of_lt_of_le l0 hH3.size;have Hpl:=Lib.hid hpl;clear hpb hpl hown1 hown2 hown3 ho hb1 hb2 hg3 hH hH1 hH2 hH3 c0 c2 c3 c4 hw1 hw2 HW;go_upto_region 5 with fail
  have hw3:IntKind.u8.wrap (pr:Int)=(pr:Int):=IntWalk.u8_in _ (by omega)
  first | rw [show Value.int IntKind.u8 4=Value.int IntKind.u8 (φ.toNat:Int) by rw [Hφ.out,h6];rfl] | rw [show Value.int IntKind.u8 6=Value.int IntKind.u8 (φ.toNat:Int) by rw [Hφ.out,h6];rfl]
  refine Wh.start fun hH=>?_
  have hH:=hH.out;refine tw 0 hH ?_;simp only [ld,lg,lf];refine tw 2 hH ?_;simp only [ld,lg,lf];refine tw 3 hH ?_;simp only [ld,lg,lf];refine tw 4 hH ?_;simp only [ld,lg,lf];refine tw 5 hH ?_;simp only [ld,lg,lf];refine tw 6 hH ?_;simp only [ld,lg,lf];refine tw 7 hH ?_;simp only [ld,lg,lf];refine tw 8 hH ?_;simp only [ld,lg,lf];refine tw 9 hH ?_;simp only [ld,lg,lf];refine tw 10 hH ?_;simp only [ld,lg,lf,hw3];refine tw 12 hH ?_;simp only [ld,lg,lf];refine Ey 1 11 (On.val ?_ ?_) (On.val ?_ ?_)
  any_goals (rintro _ rfl;exact hH.alloc hH.size _)
  all_goals (intro hH4;have hH4:=hH4.out;simp only [ld,lg,lf])
  refine one 11 (On.val ?_ ?_);rotate_left 2
  refine one 1 (On.val ?_ ?_)
  any_goals (rintro _ rfl;exact hH4.alloc hH4.size _)
  all_goals (intro hH5;have hH5:=hH5.out;simp only [ld,lg,lf])
  obtain ⟨t2,t1,t3⟩:=qM w3 #[.int .u8 (pr:Int)] #[.int .u8 (φ.toNat:Int)] 5;obtain ⟨w5,hw5⟩:∃ w5,w5=((w3.alloc (.cells #[.int .u8 (pr:Int)] 5)).alloc (.cells #[.int .u8 (φ.toNat:Int)] 5)).drew:=⟨_,rfl⟩
  obtain ⟨p,hp⟩:∃ p,p=w3.heap.size + 1:=⟨_,rfl⟩
  obtain ⟨q,hq⟩:∃ q,q=w3.heap.size:=⟨_,rfl⟩
  rotate_left
  obtain ⟨t1,t2,t3⟩:=qM w3 #[.int .u8 (φ.toNat:Int)] #[.int .u8 (pr:Int)] 5;obtain ⟨w5,hw5⟩:∃ w5,w5=((w3.alloc (.cells #[.int .u8 (φ.toNat:Int)] 5)).alloc (.cells #[.int .u8 (pr:Int)] 5)).drew:=⟨_,rfl⟩
  obtain ⟨q,hq⟩:∃ q,q=w3.heap.size + 1:=⟨_,rfl⟩
  obtain ⟨p,hp⟩:∃ p,p=w3.heap.size:=⟨_,rfl⟩
  all_goals
   have hpq:p<w5.heap.size∧q<w5.heap.size:=by rw [hp,hq,hw5];simp;omega
   have u1:w5.cell? ⟨p,0,none⟩=some (.int .u8 (φ.toNat:Int)):=by rw [hw5,hp];exact t1 _ rfl
   have u2:w5.cell? ⟨q,0,none⟩=some (.int .u8 (pr:Int)):=by rw [hw5,hq];exact t2 _ rfl
   first | rw [←hw5,←hq,←hp] | rw [←hw5,←hp,←hq]
   rw [←hw5] at hH5;clear hp hq hw5 t1 t2 t3 hH4;refine one 13 (On.val ?_ ?_)
   ·rintro _ rfl;exact hH5.alloc hH5.size _
   intro hH6;have hH6:=hH6.out;simp only [ld,lg,lf];obtain ⟨g,hg⟩:∃ g,g=w5.heap.size:=⟨_,rfl⟩
   obtain ⟨w6,hw6⟩:∃ w6,w6=w5.alloc (.cells #[.slice (some ⟨p,0,none⟩) 1 1,.slice (some ⟨w.heap.size,1,none⟩) 16 16,.slice (some ⟨w.heap.size,18,none⟩) 16 16,.slice (some ⟨q,0,none⟩) 1 1,.slice A3 4 n3] 43):=⟨_,rfl⟩
   have X6:ah w6 g 43 #[.slice (some ⟨p,0,none⟩) 1 1,.slice (some ⟨w.heap.size,1,none⟩) 16 16,.slice (some ⟨w.heap.size,18,none⟩) 16 16,.slice (some ⟨q,0,none⟩) 1 1,.slice A3 4 n3]:=by rw [hw6,hg];exact ah.new _ _ _ _ rfl
   have B6:Below w5.heap.size w5 w6:=by rw [hw6];exact (Below.refl _ _).alloc (Nat.le_refl _) _
   rw [←hw6] at hH6 ⊢;rw [←hg];have s16:k.src.2.length=16:=hk.src;have d16:k.dst.2.length=16:=hk.dst;have hB6:w5.heap.size≤w6.heap.size:=B6.size;have up:UInt8.ofNat (pr % 256)=UInt8.ofNat (pr % 256):=rfl;have LCt:LC w6 w6.heap.size (some ⟨g,0,none⟩) [[φ],k.src.2,k.dst.2,[UInt8.ofNat (pr % 256)],pb]:=fun _=>⟨_,rfl,X6.lt,fun j l hj=>by
    rw [Addr.add_mid,Nat.zero_add,X6.cell];match j,hj with
    | 0,hj=>injection hj with hj;subst hj;exact ⟨_,_,rfl,((xn u1 _ hpq.1).below B6).more hB6⟩
    | 1,hj=>injection hj with hj;subst hj;exact ⟨_,_,by rw [s16];rfl,((HS3.out.below hH5).more hH5.size |>.below B6).more hB6⟩
    | 2,hj=>injection hj with hj;subst hj;exact ⟨_,_,by rw [d16];rfl,((HD3.out.below hH5).more hH5.size |>.below B6).more hB6⟩
    | 3,hj=>injection hj with hj;subst hj;exact ⟨_,_,rfl,((xn (u2.trans (by rw [p8];simp;omega)) _ hpq.2).below B6).more hB6⟩
    | 4,hj=>injection hj with hj;subst hj;exact ⟨_,_,by rw [Hpl.out];rfl,((HP.out.below hH5).more hH5.size |>.below B6).more hB6⟩⟩
   have HC:=pl (some ⟨g,0,none⟩) 5 5 _ w6 rfl LCt (by rw [Htb.out,Hlen.out];decide) (by rw [Htb.out,Hlen.out];decide) (by decide);rw [Htb.out] at HC;refine one 14 (On.call HC ?_);rintro e w7 ⟨A7,n7,rfl,hown7,hb7⟩;refine ⟨_,rfl,hH6.trans (hb7.mono hH6.size),?_⟩;have H7:Hid (Below w.heap.size w w7):=HB3.out.trans ((hH6.trans (hb7.mono hH6.size)).mono HB3.out.size);have O7:=Lib.hid (bJ hown7 (show w.heap.size≤w6.heap.size by have:=HB3.out.size;have:=hH5.size;omega));have h7:=hH6.trans (hb7.mono hH6.size);simp only [ld,lg,lf];refine tw 15 h7 ?_;simp only [ld,lg,lf];refine Wh.done ?_;clear LCt HC hown7 hb7 h7 hH5 hH6 hw6 X6 B6 u1 u2 s16 d16 up hB6 hg
   go_wp2
   go_ret
   exact ⟨A7,n7,rfl,O7.out,H7.out⟩
end Go.Proofs.YtaafkokfdgfabaaGreat
