import Derived.Test.YtaafkokfdgfabaaGreatP24
import Derived.Maps.OwnSet
import Derived.DeepKeys4
set_option maxHeartbeats 8000000
set_option maxRecDepth 100000
set_option linter.unusedVariables false
set_option linter.unusedSimpArgs false
open Bool renaming and_eq_true→IE
open List renaming drop_zero→IC,not_mem_nil→ID,drop_left'→IF,mem_cons→IG
open Option renaming isSome_iff_exists→Iy
namespace Go.Proofs.YtaafkokfdgfabaaGreat
open Go.RowKit
open List.cons renaming injEq→IB
open Tryz renaming prog→qq,underlying4→Iz,underlying118→IA
open Value renaming int→IH
theorem kP{α β:Type}(f:α→Option β):∀l:List α,(∀x∈l,(f x).isSome=true)→(l.mapM f).isSome=true
 |[],_=>rfl
 |x::l,h=>by
  obtain⟨y,hy⟩:=Iy.1 (h x (by simp));obtain⟨ys,hys⟩:=Iy.1 (kP f l fun z hz=>h z (by simp[hz]));rw[List.mapM_cons,hy];simp[hys]
theorem Fs(d:Nat)(c:UInt8):(qq.keyLits (d+1) 5 [.int .u8 (c.toNat:Int)]).isSome=true:=by
 have h:=c.toNat_lt;unfold Program.keyLits;rw[Tryz.underlying5];simp only[true_and];rw[if_pos (by simp[Lit.wf,IntKind.min,IntKind.max,IntKind.bits,IntKind.signed];omega)];rfl
theorem yO(d:Nat){z:Int}(h:0≤z∧z≤65535):(qq.keyLits (d+1) 3 [.int .i64 z]).isSome=true:=by
 unfold Program.keyLits;rw[Tryz.underlying3];simp only[true_and];rw[if_pos (by simp[Lit.wf,IntKind.min,IntKind.max,IntKind.bits,IntKind.signed];omega)];rfl
theorem Ft(d:Nat)(b:Bool):(qq.keyLits (d+1) 4 [.bool b]).isSome=true:=by
 unfold Program.keyLits;rw[Iz];rfl
theorem GG(d:Nat){l:List UInt8}(hl:l.length=16):(qq.keyLits (d+2) 25 (ab l)).isSome=true:=by
 unfold Program.keyLits;rw[Tryz.underlying25];simp only;rw[if_pos (by rw[ap,hl];kernel_rfl),Option.isSome_map];refine kP _ _ fun i hi=>?_
 have hi16:i<16:=List.mem_range.1 hi;have e:((ab l).drop (i*qq.cellsOf 5)).take (qq.cellsOf 5)=[.int .u8 (l[i].toNat:Int)]:=by
  rw[show qq.cellsOf 5=1 by kernel_rfl,Nat.mul_one,List.drop_eq_getElem_cons (by rw[ap];omega)];simp[ab,mD]
 rw[e];exact Fs d _
theorem Ak(d:Nat){a:cO}(ha:aS a):(qq.keyLits (d+3) 27 (ai a)).isSome=true:=by
 have hl:a.2.length=16:=ha;unfold Program.keyLits;rw[Tryz.underlying27];simp only;rw[if_pos ⟨by rw[ar ha];kernel_rfl,by kernel_rfl⟩,Option.isSome_map];refine kP _ _ fun f hf=>?_
 have h4:qq.cellsOf 4=1:=by kernel_rfl
 have h25:qq.cellsOf 25=16:=by kernel_rfl
 simp only[IG,ID,or_false] at hf;rcases hf with rfl|rfl
 ·simp only[h4,ai,IC]
  exact Ft _ _
 ·simp only[h25,ai,List.drop_succ_cons,IC]
  rw[List.take_of_length_le (by rw[ap,hl];decide)];exact GG d hl
theorem GH(d:Nat){k:fL}(hk:cy k)(hkn:dC k=true):(qq.keyLits (d+4) 118 (aM k)).isSome=true:=by
 simp only[dC,IE,bF] at hkn;obtain⟨_,_,_,hp,hs,hd⟩:=hkn;have h1:=ar hk.src;have h2:=ar hk.dst;unfold Program.keyLits;rw[IA];simp only;rw[if_pos ⟨by rw[fX hk];kernel_rfl,by kernel_rfl⟩,Option.isSome_map];refine kP _ _ fun f hf=>?_
 have h3:qq.cellsOf 3=1:=by kernel_rfl
 have h27:qq.cellsOf 27=17:=by kernel_rfl
 simp only[IG,ID,or_false] at hf;have e34:∀j,(aM k).drop (34+j)=[zv k.proto,zv k.sport,zv k.dport].drop j:=fun j=>by
  rw[aM,←List.append_assoc,←List.drop_drop,IF (by rw[List.length_append,h1,h2])]
 rcases hf with rfl|rfl|rfl|rfl|rfl
 ·simp only[h27,aM,IC]
  rw[List.take_left' h1];exact Ak d hk.src
 ·simp only[h27,aM]
  rw[IF h1,List.take_left' h2];exact Ak d hk.dst
 ·have e:=e34 0
  simp only[Nat.add_zero] at e;simp only[h3,e];exact yO _ (by omega)
 ·simp only[h3,e34 1]
  exact yO _ (by omega)
 ·simp only[h3,e34 2]
  exact yO _ (by omega)
theorem qR:Maps.Keyed qq 118 :=
 Maps.Keyed.of_law (deep_law_laid (m:=4) (by kernel_rfl) (by decide) (of_decide_eq_true (by kernel_rfl)) (by kernel_rfl) (by kernel_rfl))
theorem Al{k:fL}(hk:cy k)(hkn:dC k=true):∃kl,keyOf qq 118 (.agg (aM k).toArray)=some kl:=by
 obtain⟨ls,hls⟩:=Iy.1 (GH (qq.types.size-3) hk hkn);unfold keyOf;rw[IA];simp only;rw[if_pos ?_]
 ·have e:qq.types.size+1=qq.types.size-3+4:=by kernel_rfl
  rw[e];simp only[Value.cells];rw[hls];exact⟨_,rfl⟩
 ·rw[IE]
  refine⟨by kernel_rfl,?_⟩;unfold Value.formed;rw[IA];simp only[List.size_toArray,fX hk,beq_iff_eq];kernel_rfl
theorem BQ{a b:fL}(ha:cy a)(hb:cy b)(h:aM a=aM b):a=b:=by
 obtain⟨⟨a6,al⟩,⟨b6,bl⟩,p,s,d⟩:=a;obtain⟨⟨a6',al'⟩,⟨b6',bl'⟩,p',s',d'⟩:=b;have h1:al.length=16:=ha.src;have h2:bl.length=16:=ha.dst;have h1':al'.length=16:=hb.src;have h2':bl'.length=16:=hb.dst;have inj:∀{x y:List UInt8},ab x=ab y→x=y:=fun {x y} e=>by
  refine List.map_inj_right (fun u v huv=>?_) |>.1 e;simp only[mD,IH.injEq,true_and] at huv;exact UInt8.toNat_inj.1 (by omega)
 simp only[aM,ai,List.cons_append,IB,Value.bool.injEq] at h;obtain⟨r1,h⟩:=h;obtain⟨e1,h⟩:=List.append_inj h (by rw[ap,ap,h1,h1']);simp only[IB,Value.bool.injEq] at h;obtain⟨r2,h⟩:=h;obtain⟨e2,h⟩:=List.append_inj h (by rw[ap,ap,h2,h2']);simp only[IB,zv,IH.injEq,true_and,and_true] at h;have e1:=inj e1;have e2:=inj e2;obtain⟨h3,h4,h5⟩:=h;subst r1 r2 e1 e2 h3 h4 h5;rfl
theorem sO{v:Value}{z:DataW Unit×List MemPlace}(h:plainElem qq 4 v=some z):∃x,v=.bool x∧z.1=.lit (.bool x):=by
 unfold plainElem at h;have hu:=Iz;generalize qq.underlying 4=u at h hu
 subst hu;cases v<;>simp at h
 subst h;exact⟨_,rfl,rfl⟩
def oy(w:World)(b n:Nat)(ks:List fL):Prop :=
 ∃D:DataW Unit,w.ownsMap qq 118 (plainElem qq 4) b n D∧(∀x∈ks,cy x) ∧
  ∀t,cy t→∀kl,keyOf qq 118 (.agg (aM t).toArray)=some kl→D.atKey kl (.lit (.bool false))=.lit (.bool (ks.any fun g=>fD g t))
theorem BR(w:World):oy (w.alloc (.map #[] 0)) w.heap.size 0 [] :=
 ⟨_,World.ownsMap_made w _ _ _,by simp,fun t _ kl _=>by rfl⟩
theorem oy.below{w w':World}{b n B:Nat}{ks:List fL}(h:oy w b n ks)(hb:Below B w w')(hB:b<B):oy w' b n ks:=by
 obtain⟨D,⟨es,clock,h1,h2⟩,h3⟩:=h;exact⟨D,⟨es,clock,(hb.block b hB).trans h1,h2⟩,h3⟩
theorem oy.lt{w:World}{b n:Nat}{ks:List fL}(h:oy w b n ks):b<w.heap.size:=by
 obtain⟨D,h1,_⟩:=h;exact h1.lt
theorem BT(w:World):(zeroValue 4).run qq w=.ok (.bool false) w:=by kernel_rfl
theorem oy.look{w:World}{b n:Nat}{ks:List fL}(h:oy w b n ks){t:fL}(ht:cy t)(hk:dC t=true) :
  (Instr.lookup 179 (.map (some b)) (.agg (aM t).toArray) false).run qq w=.ok (.bool (ks.any fun g=>fD g t)) w:=by
 obtain⟨D,h1,_,h2⟩:=h;obtain⟨kl,hkl⟩:=Al ht hk;obtain⟨v,ps,hrun,hv⟩:=h1.lookup qR Tryz.underlying179 (BT w) (plainElem_bool Iz false) hkl;rw[h2 t ht kl hkl] at hv;obtain⟨x,rfl,hx⟩:=sO hv;simp only[DataW.lit.injEq,Lit.bool.injEq] at hx;rw[hrun,hx]
theorem oy.store{w:World}{b n:Nat}{ks:List fL}(h:oy w b n ks)(hn:n<maxLen){t:fL}(ht:cy t)(hk:dC t=true) :
  ∃w',(Instr.mapUpdate 179 (.map (some b)) (.agg (aM t).toArray) (.bool true)).run qq w=.ok () w'∧oy w' b (n+1) (ks++[t])∧w.grownBy w' (some b):=by
 obtain⟨D,h1,h3,h2⟩:=h;obtain⟨kl,hkl⟩:=Al ht hk;obtain⟨w',hrun,ho,hg⟩:=h1.store qR Tryz.underlying179 hn hkl (plainElem_bool Iz true);refine⟨w',hrun,⟨_,ho,fun x hx=>?_,fun t' ht' kl' hkl'=>?_⟩,hg.grown⟩
 ·rcases List.mem_append.1 hx with hx|hx
  ·exact h3 x hx
  ·obtain rfl:x=t:=by simpa using hx
   exact ht
 ·by_cases he:kl'=kl
  ·subst he
   have hin:=qR.inj hkl' hkl;simp only[Value.agg.injEq] at hin;obtain rfl:=BQ ht' ht (congrArg Array.toList hin);rw[Maps.atKey_put_same h1.isMap (qR.key hkl)];simp[tB.2]
  ·rw[Maps.atKey_put_other he,h2 t' ht' kl' hkl']
   have hne:fD t t'=false:=by
    rw[←Bool.not_eq_true,tB];rintro rfl;exact he (Option.some.inj (hkl'.symm.trans hkl))
   simp[hne]
