import Derived.Test.YtaafkokfdgfabaaGreatP24
import Derived.Maps.OwnSet
import Derived.DeepKeys4
set_option maxHeartbeats 8000000
namespace Go.Proofs.YtaafkokfdgfabaaGreat
open Go.RowKit
set_option linter.unusedVariables false
set_option linter.unusedSimpArgs false
theorem jZ {α β:Type} (f:α→Option β):∀ l:List α,(∀ x ∈ l,(f x).isSome=true)→(l.mapM f).isSome=true
 | [],_=>rfl
 | x :: l,h=>by
  obtain ⟨y,hy⟩:=Option.isSome_iff_exists.1 (h x (by simp));obtain ⟨ys,hys⟩:=Option.isSome_iff_exists.1 (jZ f l fun z hz=>h z (by simp [hz]));rw [List.mapM_cons,hy];simp [hys]
theorem Es (d:Nat) (c:UInt8):(Tryz.prog.keyLits (d + 1) 5 [.int .u8 (c.toNat:Int)]).isSome=true:=by
 have h:=c.toNat_lt;unfold Program.keyLits;rw [Tryz.underlying5];simp only [true_and];rw [if_pos (by simp [Lit.wf,IntKind.min,IntKind.max,IntKind.bits,IntKind.signed];omega)];rfl
theorem xG (d:Nat) {z:Int} (h:0≤z∧z≤65535):(Tryz.prog.keyLits (d + 1) 3 [.int .i64 z]).isSome=true:=by
 unfold Program.keyLits;rw [Tryz.underlying3];simp only [true_and];rw [if_pos (by simp [Lit.wf,IntKind.min,IntKind.max,IntKind.bits,IntKind.signed];omega)];rfl
theorem Et (d:Nat) (b:Bool):(Tryz.prog.keyLits (d + 1) 4 [.bool b]).isSome=true:=by
 unfold Program.keyLits;rw [Tryz.underlying4];rfl
theorem FK (d:Nat) {l:List UInt8} (hl:l.length=16):(Tryz.prog.keyLits (d + 2) 25 (ab l)).isSome=true:=by
 unfold Program.keyLits;rw [Tryz.underlying25];simp only;rw [if_pos (by rw [ao,hl];kernel_rfl),Option.isSome_map];refine jZ _ _ fun i hi=>?_
 have hi16:i<16:=List.mem_range.1 hi;have e:((ab l).drop (i * Tryz.prog.cellsOf 5)).take (Tryz.prog.cellsOf 5)=[.int .u8 (l[i].toNat:Int)]:=by
  rw [show Tryz.prog.cellsOf 5=1 by kernel_rfl,Nat.mul_one,List.drop_eq_getElem_cons (by rw [ao];omega)];simp [ab,rm]
 rw [e];exact Es d _
theorem zo (d:Nat) {a:cS} (ha:aS a):(Tryz.prog.keyLits (d + 3) 27 (ai a)).isSome=true:=by
 have hl:a.2.length=16:=ha;unfold Program.keyLits;rw [Tryz.underlying27];simp only;rw [if_pos ⟨by rw [ap ha];kernel_rfl,by kernel_rfl⟩,Option.isSome_map];refine jZ _ _ fun f hf=>?_
 have h4:Tryz.prog.cellsOf 4=1:=by kernel_rfl
 have h25:Tryz.prog.cellsOf 25=16:=by kernel_rfl
 simp only [List.mem_cons,List.not_mem_nil,or_false] at hf;rcases hf with rfl | rfl
 ·simp only [h4,ai,List.drop_zero]
  exact Et _ _
 ·simp only [h25,ai,List.drop_succ_cons,List.drop_zero]
  rw [List.take_of_length_le (by rw [ao,hl];decide)];exact FK d hl
theorem FL (d:Nat) {k:fz} (hk:cg k) (hkn:fg k=true):(Tryz.prog.keyLits (d + 4) 118 (aO k)).isSome=true:=by
 simp only [fg,Bool.and_eq_true,bE] at hkn;obtain ⟨_,_,_,hp,hs,hd⟩:=hkn;have h1:=ap hk.src;have h2:=ap hk.dst;unfold Program.keyLits;rw [Tryz.underlying118];simp only;rw [if_pos ⟨by rw [fw hk];kernel_rfl,by kernel_rfl⟩,Option.isSome_map];refine jZ _ _ fun f hf=>?_
 have h3:Tryz.prog.cellsOf 3=1:=by kernel_rfl
 have h27:Tryz.prog.cellsOf 27=17:=by kernel_rfl
 simp only [List.mem_cons,List.not_mem_nil,or_false] at hf;have e34:∀ j,(aO k).drop (34 + j)=[zv k.proto,zv k.sport,zv k.dport].drop j:=fun j=>by
  rw [aO,←List.append_assoc,←List.drop_drop,List.drop_left' (by rw [List.length_append,h1,h2])]
 rcases hf with rfl | rfl | rfl | rfl | rfl
 ·simp only [h27,aO,List.drop_zero]
  rw [List.take_left' h1];exact zo d hk.src
 ·simp only [h27,aO]
  rw [List.drop_left' h1,List.take_left' h2];exact zo d hk.dst
 ·have e:=e34 0
  simp only [Nat.add_zero] at e;simp only [h3,e];exact xG _ (by omega)
 ·simp only [h3,e34 1]
  exact xG _ (by omega)
 ·simp only [h3,e34 2]
  exact xG _ (by omega)
theorem pV:Maps.Keyed Tryz.prog 118 :=
 Maps.Keyed.of_law (deep_law_laid (m:=4) (by kernel_rfl) (by decide) (of_decide_eq_true (by kernel_rfl)) (by kernel_rfl) (by kernel_rfl))
theorem zp {k:fz} (hk:cg k) (hkn:fg k=true):∃ kl,keyOf Tryz.prog 118 (.agg (aO k).toArray)=some kl:=by
 obtain ⟨ls,hls⟩:=Option.isSome_iff_exists.1 (FL (Tryz.prog.types.size - 3) hk hkn);unfold keyOf;rw [Tryz.underlying118];simp only;rw [if_pos ?_]
 ·have e:Tryz.prog.types.size + 1=Tryz.prog.types.size - 3 + 4:=by kernel_rfl
  rw [e];simp only [Value.cells];rw [hls];exact ⟨_,rfl⟩
 ·rw [Bool.and_eq_true]
  refine ⟨by kernel_rfl,?_⟩;unfold Value.formed;rw [Tryz.underlying118];simp only [List.size_toArray,fw hk,beq_iff_eq];kernel_rfl
theorem AO {a b:fz} (ha:cg a) (hb:cg b) (h:aO a=aO b):a=b:=by
 obtain ⟨⟨a6,al⟩,⟨b6,bl⟩,p,s,d⟩:=a;obtain ⟨⟨a6',al'⟩,⟨b6',bl'⟩,p',s',d'⟩:=b;have h1:al.length=16:=ha.src;have h2:bl.length=16:=ha.dst;have h1':al'.length=16:=hb.src;have h2':bl'.length=16:=hb.dst;have inj:∀ {x y:List UInt8},ab x=ab y→x=y:=fun {x y} e=>by
  refine List.map_inj_right (fun u v huv=>?_) |>.1 e;simp only [rm,Value.int.injEq,true_and] at huv;exact UInt8.toNat_inj.1 (by omega)
 simp only [aO,ai,List.cons_append,List.cons.injEq,Value.bool.injEq] at h;obtain ⟨r1,h⟩:=h;obtain ⟨e1,h⟩:=List.append_inj h (by rw [ao,ao,h1,h1']);simp only [List.cons.injEq,Value.bool.injEq] at h;obtain ⟨r2,h⟩:=h;obtain ⟨e2,h⟩:=List.append_inj h (by rw [ao,ao,h2,h2']);simp only [List.cons.injEq,zv,Value.int.injEq,true_and,and_true] at h;have e1:=inj e1;have e2:=inj e2;obtain ⟨h3,h4,h5⟩:=h;subst r1 r2 e1 e2 h3 h4 h5;rfl
theorem rA {v:Value} {z:DataW Unit × List MemPlace} (h:plainElem Tryz.prog 4 v=some z):∃ x,v=.bool x∧z.1=.lit (.bool x):=by
 unfold plainElem at h;have hu:=Tryz.underlying4;generalize Tryz.prog.underlying 4=u at h hu
 subst hu;cases v <;> simp at h
 subst h;exact ⟨_,rfl,rfl⟩
def nz (w:World) (b n:Nat) (ks:List fz):Prop :=
 ∃ D:DataW Unit,w.ownsMap Tryz.prog 118 (plainElem Tryz.prog 4) b n D∧(∀ x ∈ ks,cg x) ∧
  ∀ t,cg t→∀ kl,keyOf Tryz.prog 118 (.agg (aO t).toArray)=some kl→D.atKey kl (.lit (.bool false))=.lit (.bool (ks.any fun g=>jG g t))
theorem AP (w:World):nz (w.alloc (.map #[] 0)) w.heap.size 0 [] :=
 ⟨_,World.ownsMap_made w _ _ _,by simp,fun t _ kl _=>by rfl⟩
theorem nz.below {w w':World} {b n B:Nat} {ks:List fz} (h:nz w b n ks) (hb:Below B w w') (hB:b<B):nz w' b n ks:=by
 obtain ⟨D,⟨es,clock,h1,h2⟩,h3⟩:=h;exact ⟨D,⟨es,clock,(hb.block b hB).trans h1,h2⟩,h3⟩
theorem nz.lt {w:World} {b n:Nat} {ks:List fz} (h:nz w b n ks):b<w.heap.size:=by
 obtain ⟨D,h1,_⟩:=h;exact h1.lt
theorem AQ (w:World):(zeroValue 4).run Tryz.prog w=.ok (.bool false) w:=by kernel_rfl
theorem nz.look {w:World} {b n:Nat} {ks:List fz} (h:nz w b n ks) {t:fz} (ht:cg t) (hk:fg t=true) :
  (Instr.lookup 179 (.map (some b)) (.agg (aO t).toArray) false).run Tryz.prog w=.ok (.bool (ks.any fun g=>jG g t)) w:=by
 obtain ⟨D,h1,_,h2⟩:=h;obtain ⟨kl,hkl⟩:=zp ht hk;obtain ⟨v,ps,hrun,hv⟩:=h1.lookup pV Tryz.underlying179 (AQ w) (plainElem_bool Tryz.underlying4 false) hkl;rw [h2 t ht kl hkl] at hv;obtain ⟨x,rfl,hx⟩:=rA hv;simp only [DataW.lit.injEq,Lit.bool.injEq] at hx;rw [hrun,hx]
theorem nz.store {w:World} {b n:Nat} {ks:List fz} (h:nz w b n ks) (hn:n<maxLen) {t:fz} (ht:cg t) (hk:fg t=true) :
  ∃ w',(Instr.mapUpdate 179 (.map (some b)) (.agg (aO t).toArray) (.bool true)).run Tryz.prog w=.ok () w'∧nz w' b (n + 1) (ks ++ [t])∧w.grownBy w' (some b):=by
 obtain ⟨D,h1,h3,h2⟩:=h;obtain ⟨kl,hkl⟩:=zp ht hk;obtain ⟨w',hrun,ho,hg⟩:=h1.store pV Tryz.underlying179 hn hkl (plainElem_bool Tryz.underlying4 true);refine ⟨w',hrun,⟨_,ho,fun x hx=>?_,fun t' ht' kl' hkl'=>?_⟩,hg.grown⟩
 ·rcases List.mem_append.1 hx with hx | hx
  ·exact h3 x hx
  ·obtain rfl:x=t:=by simpa using hx
   exact ht
 ·by_cases he:kl'=kl
  ·subst he
   have hin:=pV.inj hkl' hkl;simp only [Value.agg.injEq] at hin;obtain rfl:=AO ht' ht (congrArg Array.toList hin);rw [Maps.atKey_put_same h1.isMap (pV.key hkl)];simp [r8.2]
  ·rw [Maps.atKey_put_other he,h2 t' ht' kl' hkl']
   have hne:jG t t'=false:=by
    rw [←Bool.not_eq_true,r8];rintro rfl;exact he (Option.some.inj (hkl'.symm.trans hkl))
   simp [hne]
end Go.Proofs.YtaafkokfdgfabaaGreat
