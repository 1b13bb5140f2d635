import Derived.Test.YtaafkokfdgfabaaGreatP24
import Derived.Maps.OwnSet
import Derived.DeepKeys4
set_option maxHeartbeats 8000000
namespace Go.Proofs.YtaafkokfdgfabaaGreat
open Go.RowKit
set_option linter.unusedVariables false
set_option linter.unusedSimpArgs false
theorem jo {α β:Type} (f:α→Option β):∀ l:List α,(∀ x ∈ l,(f x).isSome=true)→(l.mapM f).isSome=true
 | [],_=>rfl
 | x :: l,h=>by
  obtain ⟨y,hy⟩:=Option.isSome_iff_exists.1 (h x (by simp));obtain ⟨ys,hys⟩:=Option.isSome_iff_exists.1 (jo f l fun z hz=>h z (by simp [hz]));rw [List.mapM_cons,hy];simp [hys]
theorem CT (d:Nat) (c:UInt8):(Tryz.prog.keyLits (d + 1) 5 [.int .u8 (c.toNat:Int)]).isSome=true:=by
 have h:=c.toNat_lt;unfold Program.keyLits;rw [Tryz.underlying5];simp only [true_and];rw [if_pos (by simp [Lit.wf,IntKind.min,IntKind.max,IntKind.bits,IntKind.signed];omega)];rfl
theorem vq (d:Nat) {z:Int} (h:0≤z∧z≤65535):(Tryz.prog.keyLits (d + 1) 3 [.int .i64 z]).isSome=true:=by
 unfold Program.keyLits;rw [Tryz.underlying3];simp only [true_and];rw [if_pos (by simp [Lit.wf,IntKind.min,IntKind.max,IntKind.bits,IntKind.signed];omega)];rfl
theorem CU (d:Nat) (b:Bool):(Tryz.prog.keyLits (d + 1) 4 [.bool b]).isSome=true:=by
 unfold Program.keyLits;rw [Tryz.underlying4];rfl
theorem DY (d:Nat) {l:List UInt8} (hl:l.length=16):(Tryz.prog.keyLits (d + 2) 25 (ab l)).isSome=true:=by
 unfold Program.keyLits;rw [Tryz.underlying25];simp only;rw [if_pos (by rw [am,hl];kernel_rfl),Option.isSome_map];refine jo _ _ fun i hi=>?_
 have hi16:i<16:=List.mem_range.1 hi;have e:((ab l).drop (i * Tryz.prog.cellsOf 5)).take (Tryz.prog.cellsOf 5)=[.int .u8 (l[i].toNat:Int)]:=by
  rw [show Tryz.prog.cellsOf 5=1 by kernel_rfl,Nat.mul_one,List.drop_eq_getElem_cons (by rw [am];omega)];simp [ab,p8]
 rw [e];exact CT d _
theorem xo (d:Nat) {a:cH} (ha:aQ a):(Tryz.prog.keyLits (d + 3) 27 (ag a)).isSome=true:=by
 have hl:a.2.length=16:=ha;unfold Program.keyLits;rw [Tryz.underlying27];simp only;rw [if_pos ⟨by rw [ao ha];kernel_rfl,by kernel_rfl⟩,Option.isSome_map];refine jo _ _ fun f hf=>?_
 have h4:Tryz.prog.cellsOf 4=1:=by kernel_rfl
 have h25:Tryz.prog.cellsOf 25=16:=by kernel_rfl
 simp only [List.mem_cons,List.not_mem_nil,or_false] at hf;rcases hf with rfl | rfl
 ·simp only [h4,ag,List.drop_zero]
  exact CU _ _
 ·simp only [h25,ag,List.drop_succ_cons,List.drop_zero]
  rw [List.take_of_length_le (by rw [am,hl];decide)];exact DY d hl
theorem DZ (d:Nat) {k:eZ} (hk:cz k) (hkn:eG k=true):(Tryz.prog.keyLits (d + 4) 118 (aK k)).isSome=true:=by
 simp only [eG,Bool.and_eq_true,bF] at hkn;obtain ⟨_,_,_,hp,hs,hd⟩:=hkn;have h1:=ao hk.src;have h2:=ao hk.dst;unfold Program.keyLits;rw [Tryz.underlying118];simp only;rw [if_pos ⟨by rw [fC hk];kernel_rfl,by kernel_rfl⟩,Option.isSome_map];refine jo _ _ fun f hf=>?_
 have h3:Tryz.prog.cellsOf 3=1:=by kernel_rfl
 have h27:Tryz.prog.cellsOf 27=17:=by kernel_rfl
 simp only [List.mem_cons,List.not_mem_nil,or_false] at hf;have e34:∀ j,(aK k).drop (34 + j)=[zv k.proto,zv k.sport,zv k.dport].drop j:=fun j=>by
  rw [aK,←List.append_assoc,←List.drop_drop,List.drop_left' (by rw [List.length_append,h1,h2])]
 rcases hf with rfl | rfl | rfl | rfl | rfl
 ·simp only [h27,aK,List.drop_zero]
  rw [List.take_left' h1];exact xo d hk.src
 ·simp only [h27,aK]
  rw [List.drop_left' h1,List.take_left' h2];exact xo d hk.dst
 ·have e:=e34 0
  simp only [Nat.add_zero] at e;simp only [h3,e];exact vq _ (by omega)
 ·simp only [h3,e34 1]
  exact vq _ (by omega)
 ·simp only [h3,e34 2]
  exact vq _ (by omega)
theorem oK:Maps.Keyed Tryz.prog 118 :=
 Maps.Keyed.of_law (deep_law_laid (m:=4) (by kernel_rfl) (by decide) (of_decide_eq_true (by kernel_rfl)) (by kernel_rfl) (by kernel_rfl))
theorem xp {k:eZ} (hk:cz k) (hkn:eG k=true):∃ kl,keyOf Tryz.prog 118 (.agg (aK k).toArray)=some kl:=by
 obtain ⟨ls,hls⟩:=Option.isSome_iff_exists.1 (DZ (Tryz.prog.types.size - 3) hk hkn);unfold keyOf;rw [Tryz.underlying118];simp only;rw [if_pos ?_]
 ·have e:Tryz.prog.types.size + 1=Tryz.prog.types.size - 3 + 4:=by kernel_rfl
  rw [e];simp only [Value.cells];rw [hls];exact ⟨_,rfl⟩
 ·rw [Bool.and_eq_true]
  refine ⟨by kernel_rfl,?_⟩;unfold Value.formed;rw [Tryz.underlying118];simp only [List.size_toArray,fC hk,beq_iff_eq];kernel_rfl
theorem yQ {a b:eZ} (ha:cz a) (hb:cz b) (h:aK a=aK b):a=b:=by
 obtain ⟨⟨a6,al⟩,⟨b6,bl⟩,p,s,d⟩:=a;obtain ⟨⟨a6',al'⟩,⟨b6',bl'⟩,p',s',d'⟩:=b;have h1:al.length=16:=ha.src;have h2:bl.length=16:=ha.dst;have h1':al'.length=16:=hb.src;have h2':bl'.length=16:=hb.dst;have inj:∀ {x y:List UInt8},ab x=ab y→x=y:=fun {x y} e=>by
  refine List.map_inj_right (fun u v huv=>?_) |>.1 e;simp only [p8,Value.int.injEq,true_and] at huv;exact UInt8.toNat_inj.1 (by omega)
 simp only [aK,ag,List.cons_append,List.cons.injEq,Value.bool.injEq] at h;obtain ⟨r1,h⟩:=h;obtain ⟨e1,h⟩:=List.append_inj h (by rw [am,am,h1,h1']);simp only [List.cons.injEq,Value.bool.injEq] at h;obtain ⟨r2,h⟩:=h;obtain ⟨e2,h⟩:=List.append_inj h (by rw [am,am,h2,h2']);simp only [List.cons.injEq,zv,Value.int.injEq,true_and,and_true] at h;have e1:=inj e1;have e2:=inj e2;obtain ⟨h3,h4,h5⟩:=h;subst r1 r2 e1 e2 h3 h4 h5;rfl
theorem qh {v:Value} {z:DataW Unit × List MemPlace} (h:plainElem Tryz.prog 4 v=some z):∃ x,v=.bool x∧z.1=.lit (.bool x):=by
 unfold plainElem at h;have hu:=Tryz.underlying4;generalize Tryz.prog.underlying 4=u at h hu
 subst hu;cases v <;> simp at h
 subst h;exact ⟨_,rfl,rfl⟩
def ml (w:World) (b n:Nat) (ks:List eZ):Prop :=
 ∃ D:DataW Unit,w.ownsMap Tryz.prog 118 (plainElem Tryz.prog 4) b n D∧(∀ x ∈ ks,cz x) ∧
  ∀ t,cz t→∀ kl,keyOf Tryz.prog 118 (.agg (aK t).toArray)=some kl→D.atKey kl (.lit (.bool false))=.lit (.bool (ks.any fun g=>jm g t))
theorem yR (w:World):ml (w.alloc (.map #[] 0)) w.heap.size 0 [] :=
 ⟨_,World.ownsMap_made w _ _ _,by simp,fun t _ kl _=>by rfl⟩
theorem ml.below {w w':World} {b n B:Nat} {ks:List eZ} (h:ml w b n ks) (hb:Below B w w') (hB:b<B):ml w' b n ks:=by
 obtain ⟨D,⟨es,clock,h1,h2⟩,h3⟩:=h;exact ⟨D,⟨es,clock,(hb.block b hB).trans h1,h2⟩,h3⟩
theorem ml.lt {w:World} {b n:Nat} {ks:List eZ} (h:ml w b n ks):b<w.heap.size:=by
 obtain ⟨D,h1,_⟩:=h;exact h1.lt
theorem yS (w:World):(zeroValue 4).run Tryz.prog w=.ok (.bool false) w:=by kernel_rfl
theorem ml.look {w:World} {b n:Nat} {ks:List eZ} (h:ml w b n ks) {t:eZ} (ht:cz t) (hk:eG t=true) :
  (Instr.lookup 179 (.map (some b)) (.agg (aK t).toArray) false).run Tryz.prog w=.ok (.bool (ks.any fun g=>jm g t)) w:=by
 obtain ⟨D,h1,_,h2⟩:=h;obtain ⟨kl,hkl⟩:=xp ht hk;obtain ⟨v,ps,hrun,hv⟩:=h1.lookup oK Tryz.underlying179 (yS w) (plainElem_bool Tryz.underlying4 false) hkl;rw [h2 t ht kl hkl] at hv;obtain ⟨x,rfl,hx⟩:=qh hv;simp only [DataW.lit.injEq,Lit.bool.injEq] at hx;rw [hrun,hx]
theorem ml.store {w:World} {b n:Nat} {ks:List eZ} (h:ml w b n ks) (hn:n<maxLen) {t:eZ} (ht:cz t) (hk:eG t=true) :
  ∃ w',(Instr.mapUpdate 179 (.map (some b)) (.agg (aK t).toArray) (.bool true)).run Tryz.prog w=.ok () w'∧ml w' b (n + 1) (ks ++ [t])∧w.grownBy w' (some b):=by
 obtain ⟨D,h1,h3,h2⟩:=h;obtain ⟨kl,hkl⟩:=xp ht hk;obtain ⟨w',hrun,ho,hg⟩:=h1.store oK Tryz.underlying179 hn hkl (plainElem_bool Tryz.underlying4 true);refine ⟨w',hrun,⟨_,ho,fun x hx=>?_,fun t' ht' kl' hkl'=>?_⟩,hg.grown⟩
 ·rcases List.mem_append.1 hx with hx | hx
  ·exact h3 x hx
  ·obtain rfl:x=t:=by simpa using hx
   exact ht
 ·by_cases he:kl'=kl
  ·subst he
   have hin:=oK.inj hkl' hkl;simp only [Value.agg.injEq] at hin;obtain rfl:=yQ ht' ht (congrArg Array.toList hin);rw [Maps.atKey_put_same h1.isMap (oK.key hkl)];simp [qK.2]
  ·rw [Maps.atKey_put_other he,h2 t' ht' kl' hkl']
   have hne:jm t t'=false:=by
    rw [←Bool.not_eq_true,qK];rintro rfl;exact he (Option.some.inj (hkl'.symm.trans hkl))
   simp [hne]
end Go.Proofs.YtaafkokfdgfabaaGreat
