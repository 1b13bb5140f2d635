import Derived.Test.YtaafkokfdgfabaaGreatP24
import Derived.Lib.BytesEntry
import Derived.Lib.Bytealg
set_option maxHeartbeats 8000000
namespace Go.Proofs.YtaafkokfdgfabaaGreat
open Go.RowKit
set_option linter.unusedVariables false
set_option linter.unusedSimpArgs false
theorem u6:∀ (a b:List UInt8),decide (Lib.compareBytes a b<0)=Op.bytesLess a b
 | [],[]=>by simp [Lib.compareBytes,Op.bytesLess]
 | [],_ :: _=>by simp [Lib.compareBytes,Op.bytesLess]
 | _ :: _,[]=>by simp [Lib.compareBytes,Op.bytesLess]
 | a :: xs,b :: ys=>by
  unfold Lib.compareBytes Op.bytesLess;rw [←u6 xs ys];by_cases h1:a<b
  ·simp [h1]
  ·by_cases h2:b<a
   ·have h3:¬ a=b:=fun e=>by subst e;exact h1 h2
    simp [h1,h2,h3]
   ·have h3:a=b:=UInt8.toNat_inj.1 (by rw [UInt8.lt_iff_toNat_lt] at h1 h2;omega)
    simp [h1,h2,h3]
theorem xF (l:List UInt8):Lib.bytesOf (l.map fun c=>(c.toNat:Int))=l:=by
 unfold Lib.bytesOf;rw [List.map_map];conv=>rhs;rw [←List.map_id l]
 refine List.map_congr_left fun c _=>?_
 exact UInt8.toNat_inj.1 (by simp)
theorem pF {P:Program} {w:World} {B:Nat} {A:Option Addr} {n c:Nat} {l:List UInt8} (hb:BS w B A l) (hn:n=l.length) (h0:0<l.length):(Extern.Bytes.bytesOf (.slice A n c)).run P w=.ok ⟨l.toArray⟩ w:=by
 subst hn;obtain ⟨ad,rfl,_,hc⟩:=hb h0;have hl:=Lib.run_loadBytesX (P:=P) w (l.map fun c=>(c.toNat:Int)) ad .empty (fun j x hj=>by
  rw [List.getElem?_map] at hj;rcases hq:l[j]? with _ | c
  ·rw [hq] at hj;cases hj
  ·rw [hq] at hj;injection hj with hj;subst hj
   exact hc j c hq)
 rw [List.length_map,xF] at hl;unfold Extern.Bytes.bytesOf;rw [hl];congr 1
 apply ByteArray.ext
 show (#[]:Array UInt8) ++ l.toArray=l.toArray
 simp
theorem va {P:Program} {w:World} {B:Nat} {A A':Option Addr} {n c n' c':Nat} {l l':List UInt8} (hb:BS w B A l) (hn:n=l.length) (h0:0<l.length) (hb':BS w B A' l') (hn':n'=l'.length) (h0':0<l'.length) :
  (Extern.BytealgCompare.compare #[.slice A n c,.slice A' n' c']).run P w=.ok (.int .i64 (Lib.compareBytes l l')) w:=by
 change Sem.run P (do pure (goInt (Extern.BytealgCompare.cmp (←Extern.Bytes.bytesOf (.slice A n c)) (←Extern.Bytes.bytesOf (.slice A' n' c'))))) w=_
 simp only [Sem.run_bind,pF hb hn h0,pF hb' hn' h0',Sem.run_pure,Result.andThen];rw [Lib.cmp_eq];rfl
theorem vb (A A':Option Addr) (n c n' c':Nat) (l l':List UInt8) (w:World) (hb:BS w w.heap.size A l) (hn:n=l.length) (h0:0<l.length) (hb':BS w w.heap.size A' l') (hn':n'=l'.length) (h0':0<l'.length) :
  Calls Tryz.prog 188 #[.slice A n c,.slice A' n' c'] w fun e w'=>e=.returned (.int .i64 (Lib.compareBytes l l'))∧w=w':=by
 have hcall:(callFunc 197 #[.slice A n c,.slice A' n' c']).run Tryz.prog w=.ok (.value (.int .i64 (Lib.compareBytes l l'))) w:=by
  rw [run_callFunc_extern Tryz.func197 (by kernel_rfl) (by kernel_rfl) (by kernel_rfl) (e:=Extern.BytealgCompare.compare) (by kernel_rfl),va hb hn h0 hb' hn' h0'];rfl
 clear hb hb' hn hn' h0 h0';go_enter Tryz.func188,Tryz.ntmps188
 go_wp2
 go_ret
 exact ⟨rfl,rfl⟩
def ny (a b:dD):Int:=if a.no=b.no then Lib.compareBytes (bG a.key) (bG b.key) else a.no - b.no
theorem vc (a b:dD):decide (ny a b<0)=lV a b:=by
 unfold ny lV;by_cases h:a.no=b.no
 ·rw [if_pos h,if_pos h];exact u6 _ _
 ·rw [if_neg h,if_neg h];exact decide_eq_decide.2 (by omega)
theorem oF (k:fz):0<(bG k).length:=by simp [bG]
set_option maxRecDepth 100000 in
theorem AM (f g:dD) (hf:cg f.key) (hg:cg g.key) (kf:fg f.key=true) (kg:fg g.key=true) (nf:0≤f.no∧f.no≤1152921504606846976) (ng:0≤g.no∧g.no≤1152921504606846976) (w:World) :
  Calls Tryz.prog 170 #[.agg (ax f).toArray,.agg (ax g).toArray] w fun e w'=>e=.returned (.int .i64 (ny f g))∧Below w.heap.size w w':=by
 obtain ⟨W1,hW1⟩:∃ W,W=w.alloc (.cells (ax f).toArray 120):=⟨_,rfl⟩
 obtain ⟨W,hW⟩:∃ W,W=W1.alloc (.cells (ax g).toArray 120):=⟨_,rfl⟩
 have X1:ah W1 w.heap.size 120 (ax f).toArray:=by rw [hW1];exact ah.new w _ _ _ rfl
 have B1:Below W1.heap.size W1 W:=by rw [hW];exact (Below.refl _ _).alloc (Nat.le_refl _) _
 have HX:=Lib.hid (X1.below B1 X1.lt);have HY:Hid (ah W (w.heap.size + 1) 120 (ax g).toArray):=by rw [hW];exact ah.new W1 _ _ _ (by rw [hW1];simp)
 have HB:Hid (Below w.heap.size w W):=by
  have:Below w.heap.size w W1:=by rw [hW1];exact (Below.refl _ _).alloc (Nat.le_refl _) _
  exact this.trans (B1.mono this.size)
 have c1:W.cell? ⟨w.heap.size,40,none⟩=some (.int .i64 f.no):=eI hf HX.out 3;have c2:W.cell? ⟨w.heap.size + 1,40,none⟩=some (.int .i64 g.no):=eI hg HY.out 3;have HW1:=Lib.hid hW1;have HW:=Lib.hid hW;have l0:w.heap.size<W.heap.size:=HX.out.lt;have l1:w.heap.size + 1<W.heap.size:=HY.out.lt;clear hW hW1 X1 B1;go_enter Tryz.func170,Tryz.ntmps170
 go_upto_region 1 with fail
 rw [←HW1.out,←HW.out];clear HW HW1;by_cases hno:f.no=g.no
 ·have Hr:Hid (ny f g=Lib.compareBytes (bG f.key) (bG g.key)):=by show _=_;unfold ny;rw [if_pos hno]
  rw [hno] at c1;clear hno;go_upto_region 3 with fail
  refine Wh.start fun hH=>?_
  have hH:=hH.out;refine tw 0 hH ?_;simp only [ld,lg,lf];refine lw 1 hH (yieldsIf_load_mid rfl _ _ rfl w.heap.size 0 rfl (aO f.key) _ (fun w' hS i c hc=>(dc hS _ _ l0).trans (jI hf HX.out i c hc)) ei rfl (ll hf)) ?_;simp only [ld,lg,lf];refine tw 3 hH ?_;simp only [ld,lg,lf];refine lw 4 hH (yieldsIf_load_mid rfl _ _ rfl (w.heap.size + 1) 0 rfl (aO g.key) _ (fun w' hS i c hc=>(dc hS _ _ l1).trans (jI hg HY.out i c hc)) ei rfl (ll hg)) ?_;simp only [ld,lg,lf];refine one 2 (On.call (lp f.key hf kf _) ?_);rintro e w1 ⟨A1,n1,rfl,hown1,hb1⟩;have hH1:=hH.trans (hb1.mono hH.size);refine ⟨_,rfl,hH1,?_⟩;simp only [ld,lg,lf];refine one 5 (On.call (lp g.key hg kg _) ?_);rintro e w2 ⟨A2,n2,rfl,hown2,hb2⟩;have hH2:=hH1.trans (hb2.mono hH1.size);refine ⟨_,rfl,hH2,?_⟩;simp only [ld,lg,lf];refine one 6 (On.call (vb A1 A2 _ n1 _ n2 _ _ w2 (BS.of_own (ay hown1 hb2)).1 rfl (oF _) (BS.of_own hown2).1 rfl (oF _)) ?_);rintro e w3 ⟨rfl,rfl⟩;refine ⟨_,rfl,hH2,?_⟩;simp only [ld,lg,lf];refine tw 7 hH2 ?_;simp only [ld,lg,lf];refine Wh.done ?_;have Hb2:=Lib.hid (HB.out.trans (hH2.mono HB.out.size));clear hH hH1 hH2 hown1 hown2 hb1 hb2
  go_wp2
  go_ret
  exact ⟨by rw [Hr.out];rfl,Hb2.out⟩
 ·have Hr:Hid (ny f g=f.no - g.no):=by show _=_;unfold ny;rw [if_neg hno]
  have hne:(f.no != g.no)=true:=by simpa using hno
  clear hno
  go_wp2
  go_ret
  exact ⟨by rw [Hr.out];rfl,HB.out⟩
theorem cD:Tryz.prog.underlying 120=some (.struct (Tryz.prog.fieldsOf 120)):=by kernel_rfl
theorem mB:(Tryz.prog.info? 120).map (·.size)=some 41:=by kernel_rfl
theorem jY {f:dD} (h:cg f.key):(Tryz.prog.info? 120).map (·.size)=some (ax f).length:=by rw [iT h];exact mB
set_option maxRecDepth 100000 in
theorem AN (f g:dD) (hf:cg f.key) (hg:cg g.key) (kf:fg f.key=true) (kg:fg g.key=true) (nf:0≤f.no∧f.no≤1152921504606846976) (ng:0≤g.no∧g.no≤1152921504606846976) (w:World) :
  Calls Tryz.prog 124 #[.agg (ax f).toArray,.agg (ax g).toArray] w fun e w'=>e=.returned (.bool (lV f g))∧Below w.heap.size w w':=by
 obtain ⟨W1,hW1⟩:∃ W,W=w.alloc (.cells (ax f).toArray 120):=⟨_,rfl⟩
 obtain ⟨W,hW⟩:∃ W,W=W1.alloc (.cells (ax g).toArray 120):=⟨_,rfl⟩
 have X1:ah W1 w.heap.size 120 (ax f).toArray:=by rw [hW1];exact ah.new w _ _ _ rfl
 have B1:Below W1.heap.size W1 W:=by rw [hW];exact (Below.refl _ _).alloc (Nat.le_refl _) _
 have HX:=Lib.hid (X1.below B1 X1.lt);have HY:Hid (ah W (w.heap.size + 1) 120 (ax g).toArray):=by rw [hW];exact ah.new W1 _ _ _ (by rw [hW1];simp)
 have HB:Hid (Below w.heap.size w W):=by
  have:Below w.heap.size w W1:=by rw [hW1];exact (Below.refl _ _).alloc (Nat.le_refl _) _
  exact this.trans (B1.mono this.size)
 have HW1:=Lib.hid hW1;have HW:=Lib.hid hW;have HK:=Lib.hid (AM f g hf hg kf kg nf ng);clear hW hW1 X1 B1 nf ng kf kg;go_enter Tryz.func124,Tryz.ntmps124
 go_upto_region 1 with fail
 rw [←HW1.out,←HW.out];clear HW HW1;refine Sd.plain ?_
 repeat ((first | refine sl (ae HX.out) HX.out.lt cD (jY hf) ?_ | refine sl (ae HY.out) HY.out.lt cD (jY hg) ?_ | refine cl (fun w _=>HK.out w) ?_ | refine pt ?_);simp only [ld,lg,lf,Nat.reduceAdd])
 refine Sd.done fun w2 hb2=>?_
 have Hb2:=Lib.hid (HB.out.trans (hb2.mono HB.out.size));clear hb2
 go_wp2
 go_ret
 exact ⟨by rw [←vc];rfl,Hb2.out⟩
end Go.Proofs.YtaafkokfdgfabaaGreat
