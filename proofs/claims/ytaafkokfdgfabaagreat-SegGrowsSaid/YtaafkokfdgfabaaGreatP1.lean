import Derived.Test.YtaafkokfdgfabaaGreatProg
import Derived.Below
import Derived.Laws.OwnMore
import Derived.Deep.AppendLies
import Derived.Deep.Draws
import Derived.Maps.AppendAt
import Derived.RegionTactic
import Derived.OwnWalk
import Derived.Laws.MakeOwn
import Derived.Laws.Bits64b
import Derived.Laws.BitsLemmas
import Derived.Lib.Hide
import Derived.Laws.BytesArg
import Derived.Laws.Rows
import Derived.Laws.Tables
import Derived.Laws.BitsAllLaws
import Derived.Lib.BitFns
import Derived.WalkKit
import Derived.Outline
set_option maxHeartbeats 8000000
namespace Go.Proofs.YtaafkokfdgfabaaGreat
open Go.RowKit
def rm (c:UInt8):Value:=.int .u8 (c.toNat:Int)
def ab (l:List UInt8):List Value:=l.map rm
theorem ao (l:List UInt8):(ab l).length=l.length:=by simp [ab]
theorem dK (l m:List UInt8):ab (l ++ m)=ab l ++ ab m:=by simp [ab]
theorem ej (l:List UInt8):∀ u ∈ ab l,u.oneCell'=true:=by
 intro u hu;simp only [ab,List.mem_map] at hu;obtain ⟨c,_,rfl⟩:=hu;rfl
theorem fW (a:Addr) (n:Nat):(a.add n).block=a.block:=by unfold Addr.add;split <;> rfl
theorem p5 (a:Addr) (i j:Nat):(a.add i).add j=a.add (i + j):=by
 unfold Addr.add;by_cases hi:i=0 <;> by_cases hj:j=0 <;> simp [hi,hj,Nat.add_assoc]
def BS (w:World) (B:Nat) (A:Option Addr) (l:List UInt8):Prop :=
 0<l.length→∃ ad,A=some ad∧ad.block<B∧∀ j c,l[j]?=some c→w.cell? (ad.add j)=some (rm c)
section
variable {w w':World} {B B':Nat} {A:Option Addr} {l:List UInt8}
theorem BS.nil (w:World) (B:Nat) (A:Option Addr):BS w B A []:=fun h=>absurd h (by simp)
theorem BS.at_ {k:Nat} (h:BS w B A l) (hk:k<l.length):∃ ad,A=some ad∧ad.block<B∧w.cell? (ad.add k)=some (.int .u8 ((l[k]).toNat:Int)):=by
 obtain ⟨ad,e,hb,hc⟩:=h (by omega);exact ⟨ad,e,hb,hc k _ (List.getElem?_eq_getElem hk)⟩
theorem BS.keep (h:BS w B A l) (hk:∀ p:Addr,p.block<B→w'.cell? p=w.cell? p):BS w' B A l:=fun hn=>by
 obtain ⟨ad,e,hb,hc⟩:=h hn;exact ⟨ad,e,hb,fun j u hu=>(hk _ (by rw [fW];exact hb)).trans (hc j u hu)⟩
theorem BS.more (h:BS w B A l) (hB:B≤B'):BS w B' A l:=fun hn=>by
 obtain ⟨ad,e,hb,hc⟩:=h hn;exact ⟨ad,e,by omega,hc⟩
theorem BS.below (h:BS w B A l) (hb:Below B w w'):BS w' B A l:=h.keep fun _ hp=>hb.cell hp
theorem BS.drew (h:BS w B A l):BS w.drew B A l:=h
theorem BS.drewN (h:BS w B A l) (k:Nat):BS (w.drewN k) B A l:=h
theorem BS.alloc (h:BS w B A l) (hB:B≤w.heap.size) (o:Obj):BS (w.alloc o) B A l:=h.keep fun p hp=>World.cell?_alloc_lt w o p (by omega)
theorem BS.setCell (h:BS w B A l) {p:Addr} (hB:B≤p.block) (u:Value):BS (w.setCell p u) B A l :=
 h.keep fun q hq=>World.cell?_setCell_other w p q u (fun e=>by subst e;omega)
theorem BS.grown (h:BS w B A l) {row:Option Nat} (hg:w.grownBy w' row) (hB:B≤w.heap.size) (hr:∀ g,row=some g→B≤g):BS w' B A l :=
 h.keep fun p hp=>World.cell?_of_block (hg.block p.block (by omega) (fun e=>by have:=hr _ e.symm;omega))
theorem BS.drop (h:BS w B A l) {k cap:Nat} (hc:l.length≤cap) :
  BS w B (if cap=k then A else A.map (·.add k)) (l.drop k):=fun hn=>by
 rw [List.length_drop] at hn;obtain ⟨ad,rfl,hb,hcell⟩:=h (by omega);rw [if_neg (by omega)];refine ⟨ad.add k,rfl,by rw [fW];exact hb,fun j u hu=>?_⟩;rw [p5];exact hcell _ u (by rw [←hu,List.getElem?_drop])
theorem BS.take (h:BS w B A l) (k:Nat):BS w B A (l.take k):=fun hn=>by
 rw [List.length_take] at hn;obtain ⟨ad,rfl,hb,hcell⟩:=h (by omega);refine ⟨ad,rfl,hb,fun j u hu=>?_⟩;rw [List.getElem?_take] at hu;split at hu
 ·exact hcell j u hu
 ·cases hu
theorem BS.of_own {base:Nat} {e:TypeId} {c n:Nat} (h:w.ownsRow base e 1 (.slice A n c) n (ab l)):BS w w.heap.size A l∧n=l.length:=by
 have hn:n=l.length:=by have:=h.1;rw [ao] at this;omega
 refine ⟨fun hp=>?_,hn⟩;obtain ⟨g,cap,hv,_,hlt⟩:=h.form (by omega);have hA:A=some ⟨g,0,none⟩:=by injection hv
 subst hA;exact ⟨_,rfl,hlt,fun j c hj=>h.cells (g:=g) rfl j (rm c) (by rw [ab,List.getElem?_map,hj];rfl)⟩
end
theorem EV {a w w':World} (h:Below a.heap.size a w) (k:Below w.heap.size w w'):Below a.heap.size a w':=h.trans (k.mono h.size)
theorem cE {w:World} {base:Nat} {e:TypeId} {size n:Nat} {v:Value} {xs:List Value} (h:w.ownsRow base e size v n xs):∃ A c,v=.slice A n c∧n≤c∧c≤maxLen:=by
 rcases h.2 with ⟨rfl,rfl⟩ | ⟨g,cap,_,rfl,_,_,hc,hm,_⟩
 ·exact ⟨none,0,rfl,Nat.le_refl _,by unfold maxLen;omega⟩
 ·exact ⟨_,cap,rfl,hc,hm⟩
section
variable {P:Program} (w:World)
theorem jO (base:Nat) (t ty e:TypeId) (i:TypeInfo) (size:Nat) (ht:P.underlying t=some (.slice e)) (hi:P.info? e=some i)
  (v:Value) (n:Nat) (xs:List Value) (hown:w.ownsRow base e size v n xs) (c:Nat):(Builtin.append_ #[t,t] ty #[v,.slice none 0 c]).run P w=.ok v w:=by
 rcases hown.2 with ⟨rfl,rfl⟩ | ⟨g,cap,cur,rfl,_,_,hnc,_⟩
 ·simp [Builtin.append_,run_underlying ht,sizeOf,typeInfo,hi,Builtin.lenOf,Builtin.firstCells]
 ·simp [Builtin.append_,run_underlying ht,sizeOf,typeInfo,hi,Builtin.lenOf,Builtin.firstCells,hnc,storeCells]
theorem oQ (base:Nat) (t ty e:TypeId) (i:TypeInfo) (z:Value) (bytes:Nat) (ht:P.underlying t=some (.slice e)) (hi:P.info? e=some i) (hz:i.zero=some z)
  (hsize:i.size=1) (hby:i.bytes=bytes) (hzs:z.cells.size=1)
  (v:Value) (l:List UInt8) (hown:w.ownsRow base e 1 v l.length (ab l))
  (B:Nat) (A:Option Addr) (c:Nat) (m:List UInt8) (hr:BS w B A m)
  (h63:l.length + m.length≤maxLen) (hbytes:(l.length + m.length) * bytes≤140737488355328) (hbase:base≤w.heap.size) :
  ∃ v' w',(Builtin.append_ #[t,t] ty #[v,.slice A m.length c]).run P w=.ok v' w'∧w'.ownsRow base e 1 v' (l ++ m).length (ab (l ++ m))∧w.grownBy w' v.ownBlock ∧
   (v'.ownBlock=v.ownBlock∨v'.ownBlock=some w.heap.size):=by
 have hlen:(l ++ m).length=l.length + m.length:=List.length_append;have hcs:ab (l ++ m)=ab l ++ ab m:=dK l m;rw [hlen,hcs];rcases A with _ | ad
 ·have hm:m=[]:=by
   rcases m with _ | ⟨a,m⟩
   ·rfl
   ·obtain ⟨ad,h,_⟩:=hr (by simp)
    cases h
  subst hm;exact ⟨v,w,jO w base t ty e i 1 ht hi v _ _ hown c,by simpa [ab] using hown,World.grownBy.refl w _,.inl rfl⟩
 ·have hcells:∀ j u,(ab m)[j]?=some u→w.cell? (ad.add j)=some u:=by
   intro j u hu;rcases Nat.eq_zero_or_pos m.length with h0 | h0
   ·have hn:m=[]:=List.eq_nil_of_length_eq_zero h0
    subst hn;simp [ab] at hu
   ·obtain ⟨ad',h,_,hc⟩:=hr h0
    injection h with h
    subst h;rw [ab,List.getElem?_map] at hu;rcases hm:m[j]? with _ | x
    ·rw [hm] at hu;cases hu
    ·rw [hm] at hu
     simp only [Option.map_some,Option.some.injEq] at hu;rw [←hu];exact hc j x hm
  obtain ⟨v',w',hrun,h2,h3,_,h5⟩:=run_append_own_at (P:=P) w base t ty e i z 1 bytes ht hi hz hsize hby hzs (by omega) v _ _ hown ad m.length c (ab m) (by rw [ao];omega) hcells (ej m) h63 hbytes hbase;exact ⟨v',w',hrun,h2,h3,h5⟩
theorem lD {o:Oper} {a:Act} {K:Act→World→Prop} {Q:Exit→Act→World→Prop} (s x:Operand) (t:TypeId)
  (ho:o.op=.call { callee:=.builtin .append,args:=#[s,x],argTypes:=#[t,t] })
  (base:Nat) (e:TypeId) (i:TypeInfo) (z:Value) (bytes:Nat) (ht:P.underlying t=some (.slice e)) (hi:P.info? e=some i) (hz:i.zero=some z)
  (hsize:i.size=1) (hby:i.bytes=bytes) (hzs:z.cells.size=1)
  (v:Value) (l:List UInt8) (hs:a.eval s=v) (hown:w.ownsRow base e 1 v l.length (ab l))
  (B:Nat) (A:Option Addr) (n c:Nat) (m:List UInt8) (hx:a.eval x=.slice A n c) (hn:n=m.length) (hr:BS w B A m)
  (h63:l.length + m.length≤maxLen) (hbytes:(l.length + m.length) * bytes≤140737488355328) (hbase:base≤w.heap.size)
  (h:∀ A' c' w',w'.ownsRow base e 1 (.slice A' (l ++ m).length c') (l ++ m).length (ab (l ++ m))→w.grownBy w' v.ownBlock→((Value.slice A' (l ++ m).length c').ownBlock=v.ownBlock∨(Value.slice A' (l ++ m).length c').ownBlock=some w.heap.size)→K (a.put o.dst (.slice A' (l ++ m).length c')) w'):o.wp P a w K Q:=by
 subst hn;obtain ⟨v',w',hrun,h2,h3,h4⟩:=oQ (P:=P) w base t o.type e i z bytes ht hi hz hsize hby hzs v l hown B A c m hr h63 hbytes hbase;unfold Oper.wp execOp;simp only [ho,resolve,invoke,builtin,Sem.run_bind,Sem.run_pure,Result.andThen_ok,List.map_toArray,List.map_cons,List.map_nil,hs,hx,hrun];obtain ⟨A',c',rfl,_⟩:=cE h2;exact h A' c' w' h2 h3 h4
theorem av {ops:Array Oper} {rest:List Oper} {o:Oper} {a:Act} {Q:Exit→Act→World→Prop} (hgd:o.guard=none) (s x:Operand) (t:TypeId)
  (ho:o.op=.call { callee:=.builtin .append,args:=#[s,x],argTypes:=#[t,t] })
  (base:Nat) (e:TypeId) (i:TypeInfo) (z:Value) (bytes:Nat) (ht:P.underlying t=some (.slice e)) (hi:P.info? e=some i) (hz:i.zero=some z)
  (hsize:i.size=1) (hby:i.bytes=bytes) (hzs:z.cells.size=1)
  (v:Value) (l:List UInt8) (hs:a.eval s=v) (hown:w.ownsRow base e 1 v l.length (ab l))
  (B:Nat) (A:Option Addr) (n c:Nat) (m:List UInt8) (hx:a.eval x=.slice A n c) (hn:n=m.length) (hr:BS w B A m)
  (h63:l.length + m.length≤maxLen) (hbytes:(l.length + m.length) * bytes≤140737488355328) (hbase:base≤w.heap.size)
  (h:∀ A' c' w',w'.ownsRow base e 1 (.slice A' (l ++ m).length c') (l ++ m).length (ab (l ++ m))→w.grownBy w' v.ownBlock→((Value.slice A' (l ++ m).length c').ownBlock=v.ownBlock∨(Value.slice A' (l ++ m).length c').ownBlock=some w.heap.size)→wpList P ops Q rest (a.put o.dst (.slice A' (l ++ m).length c')) w'):wpList P ops Q (o :: rest) a w :=
 wpList_plain hgd fun _ hK=>lD w s x t ho base e i z bytes ht hi hz hsize hby hzs v l hs hown B A n c m hx hn hr h63 hbytes hbase fun A' c' w' h2 h3 h4=>hK _ _ (h A' c' w' h2 h3 h4)
end
theorem nH (w:World) (base:Nat) (e:TypeId) (hb:base≤w.heap.size) (a:Nat) (ha:w.heap.size=a):(w.alloc (.cells #[] e)).ownsRow base e 1 (.slice (some ⟨a,0,none⟩) 0 0) ([]:List UInt8).length (ab []):=by
 subst ha;exact World.ownsRow_lit w #[] 0 hb (by unfold maxLen;omega) (by simp)
theorem BS.one (w:World) (x:UInt8) (t:TypeId):BS (w.alloc (.cells #[.int .u8 (x.toNat:Int)] t)) (w.heap.size + 1) (some ⟨w.heap.size,0,none⟩) [x]:=fun _=>by
 refine ⟨_,rfl,Nat.lt_succ_self _,fun j c hj=>cell_one_new w (rm x) t j (rm c) ?_⟩;show ([x].map rm)[j]?=some (rm c)
 rw [List.getElem?_map,hj];rfl
theorem BS.one' (w:World) (x:UInt8) (z:Int) (hz:z=(x.toNat:Int)) (t:TypeId):BS (w.alloc (.cells #[.int .u8 z] t)) (w.heap.size + 1) (some ⟨w.heap.size,0,none⟩) [x]:=by
 subst hz;exact BS.one w x t
theorem BS.lit (w:World) (l:List UInt8) (cs:Array Value) (h:cs=(ab l).toArray) (t:TypeId) (m:Nat × Nat):BS (w.alloc (.cells cs t m)) (w.heap.size + 1) (some ⟨w.heap.size,0,none⟩) l:=fun _=>by
 subst h;refine ⟨_,rfl,Nat.lt_succ_self _,fun j c hj=>?_⟩;have hp:(⟨w.heap.size,0,none⟩:Addr).add j=⟨w.heap.size,j,none⟩:=by unfold Addr.add;split <;> simp_all
 rw [hp,cell_of_row _ _ j _ t m (heap_alloc_new w _)];simp [ab,hj]
theorem bu {P:Program} (src dst e:TypeId) (hs:P.underlying src=some (.slice e)) (he:P.underlying e=some (.int .u8)) (hd:P.underlying dst=some .string)
  (w:World) (B:Nat) (A:Option Addr) (l:List UInt8) (hb:BS w B A l) (n c:Nat) (hn:n=l.length) :
  (convert src dst (.slice A n c)).run P w=.ok (.string ⟨l.toArray⟩) w:=by
 subst hn;rcases A with _ | ad
 ·have hl:l=[]:=by
   rcases l with _ | ⟨a,l⟩
   ·rfl
   ·obtain ⟨ad,h,_⟩:=hb (by simp)
    cases h
  subst hl;exact run_convert_bytes_nil w src e hs he _ _ dst hd
 ·have hcells:∀ j v,(ab l)[j]?=some v→w.cell? (ad.add j)=some v:=by
   intro j v hj;rw [ab,List.getElem?_map] at hj;rcases hm:l[j]? with _ | x
   ·rw [hm] at hj;cases hj
   ·rw [hm] at hj
    simp only [Option.map_some,Option.some.injEq] at hj;rw [←hj];obtain ⟨ad',h,_,hc⟩:=hb (by have:=(List.getElem?_eq_some_iff.1 hm).1;omega);injection h with h
    subst h;exact hc j x hm
  have hl:=run_loadCells_list (P:=P) w ad (ab l) hcells;rw [ao] at hl;have hm:ab l=(l.map fun c=>(c.toNat:Int)).map (Value.int .u8):=by simp [ab,rm]
  rw [hm] at hl;rw [run_convert_bytes_string w src dst e _ _ c hs he hd,run_bytesToString w ad _ c _ hl,foldl_push_bytes];have hmm:(l.map fun c=>(c.toNat:Int)).map (fun n=>UInt8.ofNat n.toNat)=l:=by
   rw [List.map_map];conv=>rhs;rw [←List.map_id l]
   apply List.map_congr_left
   intro x _;simp
  rw [hmm];simp [ByteArray.empty,ByteArray.emptyWithCapacity];rfl
end Go.Proofs.YtaafkokfdgfabaaGreat
namespace Go.Proofs.YtaafkokfdgfabaaGreat
open Go.RowKit
def ah (w:World) (g:Nat) (t:TypeId) (cs:Array Value):Prop:=w.heap[g]?=some (.cells cs t (0,0))
section
variable {w w':World} {g:Nat} {t:TypeId} {cs:Array Value}
theorem ah.lt (h:ah w g t cs):g<w.heap.size:=by
 rcases Nat.lt_or_ge g w.heap.size with hlt | hge
 ·exact hlt
 ·unfold ah at h;rw [Array.getElem?_eq_none hge] at h;cases h
theorem ah.cell (h:ah w g t cs) (i:Nat):w.cell? ⟨g,i,none⟩=cs[i]?:=cell_of_row w g i cs t (0,0) h
theorem ah.frozen (h:ah w g t cs) (i:Nat):w.frozen? ⟨g,i,none⟩=false:=frozen_of_row w g i cs t h
theorem ah.new (w:World) (t:TypeId) (cs:Array Value) (a:Nat) (ha:w.heap.size=a):ah (w.alloc (.cells cs t)) a t cs:=by
 subst ha;exact heap_alloc_new w _
theorem ah.drew (h:ah w g t cs):ah w.drew g t cs:=h
theorem ah.drewN (h:ah w g t cs) (n:Nat):ah (w.drewN n) g t cs:=h
theorem ah.alloc (h:ah w g t cs) (o:Obj):ah (w.alloc o) g t cs:=(Below.heap_alloc w o g h.lt).trans h
theorem ah.set_ (h:ah w g t cs) (i:Nat) (u:Value):ah (w.setCell ⟨g,i,none⟩ u) g t (cs.setIfInBounds i u):=heap_setCell_same w g i cs t u h
theorem ah.far (h:ah w g t cs) {p:Addr} (hp:g≠p.block) (u:Value):ah (w.setCell p u) g t cs:=(Below.heap_setCell w p u g hp).trans h
theorem ah.row (h:ah w g t cs) (c':Array Value):ah (w.setRow g c') g t c':=setRow_heap w g cs c' t _ h
theorem ah.rowFar (h:ah w g t cs) {k:Nat} (hk:g≠k) (c':Array Value):ah (w.setRow k c') g t cs:=(setRow_other w k g c' hk).trans h
theorem ah.below {B:Nat} (h:ah w g t cs) (hb:Below B w w') (hg:g<B):ah w' g t cs:=(hb.block g hg).trans h
end
theorem nI {B:Nat} {a w:World} (h:Below B a w) {g:Nat} (hg:B≤g) (cs:Array Value):Below B a (w.setRow g cs) :=
 h.trans ⟨rfl,rfl,rfl,by simp,fun k hk=>setRow_other w g k cs (by omega)⟩
theorem ay {w w':World} {base:Nat} {e:TypeId} {size n:Nat} {v:Value} {xs:List Value} (h:w.ownsRow base e size v n xs) (hb:Below w.heap.size w w'):w'.ownsRow base e size v n xs :=
 h.kept (row:=none) ⟨hb.os,hb.tape,hb.output,hb.size,fun i hi _=>hb.block i hi⟩ (by cases hv:v.ownBlock <;> simp)
theorem nJ (n:Nat) (h:n<4294967296):IntKind.u32.wrap (n:Int)=(n:Int):=by
 simp [IntKind.wrap,IntKind.bits,IntKind.signed];omega
theorem pK (a:Nat) (ha:a<4294967296):(BitVec.ofInt 32 (a:Int)).toNat=a:=by
 rw [BitVec.ofInt_natCast,BitVec.toNat_ofNat];exact Nat.mod_eq_of_lt (by omega)
theorem mg (a b:Nat) (ha:a<4294967296) (hb:b<4294967296):bits .xor .u32 (a:Int) (b:Int)=((a ^^^ b:Nat):Int):=by
 have hx:a ^^^ b<2 ^ 32:=Nat.xor_lt_two_pow (by omega) (by omega);show IntKind.u32.wrap ((BitVec.ofInt 32 (a:Int) ^^^ BitVec.ofInt 32 (b:Int)).toNat:Int)=_
 rw [BitVec.toNat_xor,pK a ha,pK b hb,nJ _ (by omega)]
theorem yv (a b:Nat) (ha:a<4294967296) (hb:b<4294967296):bits .and .u32 (a:Int) (b:Int)=((a &&& b:Nat):Int):=by
 have hx:a &&& b<2 ^ 32:=Nat.and_lt_two_pow _ (by omega);show IntKind.u32.wrap ((BitVec.ofInt 32 (a:Int) &&& BitVec.ofInt 32 (b:Int)).toNat:Int)=_
 rw [BitVec.toNat_and,pK a ha,pK b hb,nJ _ (by omega)]
theorem BM (a:Nat) (ha:a<4294967296):bits .and .u32 (a:Int) 1=((a % 2:Nat):Int):=by
 have h:=yv a 1 ha (by omega);rw [Nat.and_one_is_mod] at h;exact h
theorem rI (a:Nat) (ha:a<4294967296):bits .and .u32 (a:Int) 15=((a % 16:Nat):Int):=by
 have h:=yv a 15 ha (by omega);rw [show a &&& 15=a % 16 from Nat.and_two_pow_sub_one_eq_mod a 4] at h;exact h
end Go.Proofs.YtaafkokfdgfabaaGreat
namespace Go.Proofs.YtaafkokfdgfabaaGreat
open Go.RowKit
def LS (w:World) (B:Nat) (A:Option Addr) (ls:List (List UInt8)):Prop :=
 0<ls.length→∃ ad,A=some ad∧ad.block<B∧∀ j l,ls[j]?=some l→∃ A' c',w.cell? (ad.add j)=some (.slice A' l.length c')∧l.length≤c'∧BS w B A' l
section
variable {w w':World} {B B':Nat} {A:Option Addr} {ls:List (List UInt8)}
theorem LS.nil (w:World) (B:Nat) (A:Option Addr):LS w B A []:=fun h=>absurd h (by simp)
theorem LS.at_ {k:Nat} (h:LS w B A ls) (hk:k<ls.length):∃ ad A' c',A=some ad∧ad.block<B∧w.cell? (ad.add k)=some (.slice A' (ls[k]).length c')∧(ls[k]).length≤c'∧BS w B A' ls[k]:=by
 obtain ⟨ad,e,hb,hc⟩:=h (by omega);obtain ⟨A',c',h1,h2,h3⟩:=hc k _ (List.getElem?_eq_getElem hk);exact ⟨ad,A',c',e,hb,h1,h2,h3⟩
theorem LS.keep (h:LS w B A ls) (hk:∀ p:Addr,p.block<B→w'.cell? p=w.cell? p):LS w' B A ls:=fun hn=>by
 obtain ⟨ad,e,hb,hc⟩:=h hn;refine ⟨ad,e,hb,fun j l hj=>?_⟩;obtain ⟨A',c',h1,h2,h3⟩:=hc j l hj;exact ⟨A',c',(hk _ (by rw [fW];exact hb)).trans h1,h2,h3.keep hk⟩
theorem LS.more (h:LS w B A ls) (hB:B≤B'):LS w B' A ls:=fun hn=>by
 obtain ⟨ad,e,hb,hc⟩:=h hn;refine ⟨ad,e,by omega,fun j l hj=>?_⟩;obtain ⟨A',c',h1,h2,h3⟩:=hc j l hj;exact ⟨A',c',h1,h2,h3.more hB⟩
theorem LS.below (h:LS w B A ls) (hb:Below B w w'):LS w' B A ls:=h.keep fun _ hp=>hb.cell hp
theorem LS.take (h:LS w B A ls) (k:Nat):LS w B A (ls.take k):=fun hn=>by
 rw [List.length_take] at hn;obtain ⟨ad,rfl,hb,hc⟩:=h (by omega);refine ⟨ad,rfl,hb,fun j u hu=>?_⟩;rw [List.getElem?_take] at hu;split at hu
 ·exact hc j u hu
 ·cases hu
end
end Go.Proofs.YtaafkokfdgfabaaGreat
namespace Go.Proofs.YtaafkokfdgfabaaGreat
def tY:Nat:=2197175160
def sh (x:Nat):Nat:=if x % 2=1 then x / 2 ^^^ tY else x / 2
def lE:Nat→Nat→Nat
 | 0,x=>x
 | k + 1,x=>lE k (sh x)
def iH:Nat:=4294967295
theorem ro (a b c:Nat):a ^^^ (b ^^^ c)=b ^^^ (a ^^^ c):=by rw [←Nat.xor_assoc,Nat.xor_comm a b,Nat.xor_assoc]
theorem tZ (a b:Nat):(a ^^^ b) % 2=(a + b) % 2:=by
 have h:(a ^^^ b) % 2 ^ 1=(a % 2 ^ 1) ^^^ (b % 2 ^ 1):=Nat.xor_mod_two_pow;rw [Nat.pow_one] at h;rw [h];rcases Nat.mod_two_eq_zero_or_one a with ha | ha <;> rcases Nat.mod_two_eq_zero_or_one b with hb | hb <;> rw [ha,hb]
 ·have:(a + b) % 2=0:=by omega
  rw [this];rfl
 ·have:(a + b) % 2=1:=by omega
  rw [this];rfl
 ·have:(a + b) % 2=1:=by omega
  rw [this];rfl
 ·have:(a + b) % 2=0:=by omega
  rw [this];rfl
theorem t8 (a b:Nat):(a ^^^ b) / 2=a / 2 ^^^ b / 2:=by
 have h:(a ^^^ b) / 2 ^ 1=(a / 2 ^ 1) ^^^ (b / 2 ^ 1):=Nat.xor_div_two_pow;rwa [Nat.pow_one] at h
theorem Fh (a b:Nat):sh (a ^^^ b)=sh a ^^^ sh b:=by
 unfold sh;rw [tZ,t8];rcases Nat.mod_two_eq_zero_or_one a with ha | ha <;> rcases Nat.mod_two_eq_zero_or_one b with hb | hb
 ·rw [if_neg (by omega),if_neg (by omega),if_neg (by omega)]
 ·rw [if_pos (by omega),if_neg (by omega),if_pos (by omega),Nat.xor_assoc]
 ·rw [if_pos (by omega),if_pos (by omega),if_neg (by omega),Nat.xor_assoc,Nat.xor_assoc,Nat.xor_comm tY]
 ·rw [if_neg (by omega),if_pos (by omega),if_pos (by omega),Nat.xor_assoc,ro tY,Nat.xor_self,Nat.xor_zero]
theorem yw:∀ (k a b:Nat),lE k (a ^^^ b)=lE k a ^^^ lE k b
 | 0,_,_=>rfl
 | k + 1,a,b=>by rw [lE,Fh,yw k,lE,lE]
theorem yx:∀ (j k x:Nat),lE (j + k) x=lE k (lE j x)
 | 0,k,x=>by rw [Nat.zero_add];rfl
 | j + 1,k,x=>by rw [Nat.add_right_comm,lE,yx j k,lE]
theorem EW {x:Nat} (h:x<4294967296):sh x<4294967296:=by
 unfold sh;split
 ·have:x / 2 ^^^ tY<2 ^ 32:=Nat.xor_lt_two_pow (by omega) (by unfold tY;omega)
  omega
 ·omega
theorem sH:∀ (k:Nat) {x:Nat},x<4294967296→lE k x<4294967296
 | 0,_,h=>h
 | k + 1,_,h=>sH k (EW h)
theorem zE (x:Nat):sh (2 * x)=x:=by
 unfold sh;rw [if_neg (by omega)];omega
theorem yy:∀ (k x:Nat),lE k (2 ^ k * x)=x
 | 0,x=>by simp [lE]
 | k + 1,x=>by rw [lE,Nat.pow_succ,Nat.mul_comm (2 ^ k) 2,Nat.mul_assoc,zE,yy k]
theorem yz:∀ (k a q:Nat),a<2 ^ k→a ^^^ (2 ^ k * q)=a + 2 ^ k * q
 | 0,a,q,h=>by
  obtain rfl:a=0:=by simpa using h
  simp
 | k + 1,a,q,h=>by
  have e:2 ^ (k + 1) * q=2 * (2 ^ k * q):=by rw [Nat.pow_succ,Nat.mul_comm (2 ^ k) 2,Nat.mul_assoc]
  rw [Nat.pow_succ] at h;have ih:=yz k (a / 2) q (by omega);have h1:=t8 a (2 * (2 ^ k * q));have h2:=tZ a (2 * (2 ^ k * q));rw [show 2 * (2 ^ k * q) / 2=2 ^ k * q by omega,ih] at h1;rw [e];omega
theorem zF (k x:Nat):x=x % 2 ^ k ^^^ (2 ^ k * (x / 2 ^ k)):=by
 rw [yz k _ _ (Nat.mod_lt _ (Nat.two_pow_pos k))];exact (Nat.mod_add_div x (2 ^ k)).symm
theorem BN (x:Nat):lE 4 x=lE 4 (x % 16) ^^^ x / 16:=by
 conv=>lhs;rw [zF 4 x]
 rw [yw,yy]
theorem DW (x:Nat):lE 8 x=lE 4 (lE 4 (x % 16) ^^^ x / 16):=by rw [←BN,←yx]
def rJ (w:Nat) (l:List UInt8):Nat:=l.foldl (fun w c=>lE 8 (w ^^^ c.toNat)) w
def yA (s:Nat) (l:List UInt8):Nat:=rJ (s ^^^ iH) l ^^^ iH
def yB (l:List UInt8):Nat:=yA 0 l
def oO:List UInt8→Nat
 | []=>0
 | c :: l=>c.toNat + 256 * oO l
theorem ua:∀ (l:List UInt8) {w:Nat},w<4294967296→rJ w l<4294967296
 | [],_,h=>h
 | c :: l,w,h=>ua l (sH 8 (by
   have hc:c.toNat<256:=c.toNat_lt;have:w ^^^ c.toNat<2 ^ 32:=Nat.xor_lt_two_pow (by omega) (by omega);omega))
theorem jq:iH<4294967296:=by unfold iH;omega
theorem kp {a b:Nat} (ha:a<4294967296) (hb:b<4294967296):a ^^^ b<4294967296:=by
 have:a ^^^ b<2 ^ 32:=Nat.xor_lt_two_pow (by omega) (by omega);omega
theorem BO {s:Nat} (h:s<4294967296) (l:List UInt8):yA s l<4294967296:=kp (ua l (kp h jq)) jq
theorem p6 (l:List UInt8):yB l<4294967296:=BO (by omega) l
end Go.Proofs.YtaafkokfdgfabaaGreat
namespace Go.Proofs.YtaafkokfdgfabaaGreat
open Go.RowKit
def hJ (i acc:Nat):List UInt8→Nat × Nat × Nat
 | []=>(0,0,2)
 | c :: l =>
  if i=9∧1<c.toNat then (0,0,3)
  else if c.toNat<128 then (if c.toNat=0∧0<i then (0,0,3) else (acc + c.toNat * 128 ^ i,i + 1,0))
  else hJ (i + 1) (acc + (c.toNat - 128) * 128 ^ i) l
def bX (l:List UInt8):Nat × Nat × Nat:=hJ 0 0 l
theorem BP (c:UInt8):c.toNat<256:=c.toNat_lt
theorem jc (n:Nat) (h:n<18446744073709551616):IntKind.u64.wrap (n:Int)=(n:Int):=by
 simp [IntKind.wrap,IntKind.bits,IntKind.signed];omega
theorem zG (d:Nat) (hd:d<256):bits .andNot .u8 (d:Int) 128=((d % 128:Nat):Int):=by
 have h:∀ d:Fin 256,bits .andNot .u8 ((d.val:Nat):Int) 128=((d.val % 128:Nat):Int):=by decide +kernel
 exact h ⟨d,hd⟩
theorem FY (d:Nat) (hd:d<256):bits .or .u8 (d:Int) 128=((d % 128 + 128:Nat):Int):=by
 have h:∀ d:Fin 256,bits .or .u8 ((d.val:Nat):Int) 128=((d.val % 128 + 128:Nat):Int):=by decide +kernel
 exact h ⟨d,hd⟩
theorem vV (k:Nat):(2:Nat) ^ (7 * k)=128 ^ k:=by rw [Nat.pow_mul]
theorem rK {k:Nat} (hk:k≤8):128 ^ k≤72057594037927936:=by
 have:=Nat.pow_le_pow_right (n:=128) (by omega) hk;simpa using this
theorem p7 {k:Nat} (hk:k≤9):128 ^ k≤9223372036854775808:=by
 have:=Nat.pow_le_pow_right (n:=128) (by omega) hk;simpa using this
theorem GD {acc k d:Nat} (hacc:acc<128 ^ k) (hd:d<256) (hk:k≤9) (h9:k=9→d≤1) :
  bits .or .u64 (acc:Int) (IntKind.u64.wrap (IntKind.u64.wrap (bits .andNot .u8 (d:Int) 128) * 2 ^ (7 * k)))=((acc + d % 128 * 128 ^ k:Nat):Int):=by
 have hp:((2:Int) ^ (7 * k))=((128 ^ k:Nat):Int):=by rw [←vV];simp
 have hm:d % 128 * 128 ^ k + 128 ^ k≤18446744073709551616:=by
  rcases Nat.lt_or_ge k 9 with h | h
  ·have h1:=rK (k:=k) (by omega)
   have h2:d % 128 * 128 ^ k≤127 * 128 ^ k:=Nat.mul_le_mul_right _ (by omega);omega
  ·have h1:=p7 hk
   have h2:d % 128 * 128 ^ k≤1 * 128 ^ k:=Nat.mul_le_mul_right _ (by have:=h9 (by omega);omega);omega
 rw [zG d hd,hp,jc _ (by omega),←Int.natCast_mul,jc _ (by omega),bits_or_u64_nat _ _ (by omega) (by omega)];congr 1
 rw [Nat.or_comm,←vV,Nat.mul_comm,←Nat.two_pow_add_eq_or_of_lt (by rw [vV];exact hacc),Nat.add_comm]
theorem Fi {k d:Nat} (hd:d<256) (hk:k≤9) (h9:k=9→d≤1):d % 128 * 128 ^ k + 128 ^ k≤18446744073709551616:=by
 rcases Nat.lt_or_ge k 9 with h | h
 ·have h1:=rK (k:=k) (by omega)
  have h2:d % 128 * 128 ^ k≤127 * 128 ^ k:=Nat.mul_le_mul_right _ (by omega);omega
 ·have h1:=p7 hk
  have h2:d % 128 * 128 ^ k≤1 * 128 ^ k:=Nat.mul_le_mul_right _ (by have:=h9 (by omega);omega);omega
section
variable {l:List UInt8} {k acc:Nat}
theorem oR (h:k<l.length):hJ k acc (l.drop k) =
  if k=9∧1<(l[k]).toNat then (0,0,3)
  else if (l[k]).toNat<128 then (if (l[k]).toNat=0∧0<k then (0,0,3) else (acc + (l[k]).toNat * 128 ^ k,k + 1,0))
  else hJ (k + 1) (acc + ((l[k]).toNat - 128) * 128 ^ k) (l.drop (k + 1)):=by
 rw [List.drop_eq_getElem_cons h,hJ]
theorem BQ (h:l.length≤k):hJ k acc (l.drop k)=(0,0,2):=by
 rw [List.drop_eq_nil_of_le h,hJ]
theorem zH {d:Nat} (h:k<l.length) (hd:(l[k]).toNat=d) (h1:128≤d) (h2:k<9):hJ k acc (l.drop k)=hJ (k + 1) (acc + d % 128 * 128 ^ k) (l.drop (k + 1)):=by
 have:=BP l[k];rw [oR h,if_neg (by omega),if_neg (by omega),hd,show d % 128=d - 128 by omega]
theorem oS {d:Nat} (h:k<l.length) (hd:(l[k]).toNat=d) (h1:(k=9∧1<d)∨(d=0∧0<k)):hJ k acc (l.drop k)=(0,0,3):=by
 rw [oR h,hd];split
 ·rfl
 ·rw [if_pos (by omega),if_pos (by omega)]
theorem oT {d:Nat} (h:k<l.length) (hd:(l[k]).toNat=d) (h1:¬(k=9∧1<d)) (h2:d<128) (h3:¬(d=0∧0<k)):hJ k acc (l.drop k)=(acc + d % 128 * 128 ^ k,k + 1,0):=by
 rw [oR h,hd,if_neg h1,if_pos h2,if_neg h3,Nat.mod_eq_of_lt h2]
theorem DX {d:Nat} (ha:acc<128 ^ k):acc + d % 128 * 128 ^ k<128 ^ (k + 1):=by
 rw [Nat.pow_succ];have:d % 128 * 128 ^ k≤127 * 128 ^ k:=Nat.mul_le_mul_right _ (by omega);omega
end
def aI (n:Nat):List UInt8:=if n<128 then [UInt8.ofNat n] else UInt8.ofNat (n % 128 + 128) :: aI (n / 128)
termination_by n
decreasing_by omega
theorem hM {n:Nat} (h:n<128):aI n=[UInt8.ofNat n]:=by rw [aI,if_pos h]
theorem kS {n:Nat} (h:128≤n):aI n=UInt8.ofNat (n % 128 + 128) :: aI (n / 128):=by rw [aI,if_neg (by omega)]
theorem iP (n:Nat):0<(aI n).length:=by
 rcases Nat.lt_or_ge n 128 with h | h
 ·rw [hM h];simp
 ·rw [kS h];simp
theorem hU {n:Nat} (h:n<256):(UInt8.ofNat n).toNat=n:=by
 rw [UInt8.toNat_ofNat'];exact Nat.mod_eq_of_lt (by omega)
theorem zI:∀ n:Nat,n<18446744073709551616→(aI n).length=max 1 ((Lib.bitLen n + 6) / 7):=by
 intro n;induction n using Nat.strongRecOn with
 | ind n ih =>
  intro hn;rcases Nat.lt_or_ge n 128 with h | h
  ·have hb:Lib.bitLen n≤7:=by
    have:∀ n:Fin 128,Lib.bitLen n.val≤7:=by decide +kernel
    exact this ⟨n,h⟩
   rw [hM h];simp only [List.length_singleton];omega
  ·have hs:=Lib.bitLen_shift 7 n h hn
   rw [show (2:Nat) ^ 7=128 from rfl] at hs;have hq:0<Lib.bitLen (n / 128):=by rw [Lib.bitLen_half (n / 128) (by omega) (by omega)];omega
   rw [kS h,List.length_cons,ih (n / 128) (by omega) (by omega),hs];omega
theorem a7 {n:Nat} (h:n<18446744073709551616):(aI n).length≤10:=by
 have:∀ k n:Nat,n<128 ^ (k + 1)→(aI n).length≤k + 1:=by
  intro k;induction k with
  | zero=>intro n hn;rw [hM (by simpa using hn)];simp
  | succ k ih =>
   intro n hn;rcases Nat.lt_or_ge n 128 with h | h
   ·rw [hM h];simp
   ·have:=ih (n / 128) (by rw [Nat.pow_succ] at hn;omega)
    rw [kS h,List.length_cons];omega
 exact this 9 n (Nat.lt_trans h (by decide))
theorem Fj (m:Nat):bits .or .u8 (IntKind.u8.wrap (m:Int)) 128=(((UInt8.ofNat (m % 128 + 128)).toNat:Nat):Int):=by
 have h:IntKind.u8.wrap (m:Int)=((m % 256:Nat):Int):=by rw [IntKind.wrap_u8];omega
 rw [h,FY _ (by omega),hU (by omega)];omega
theorem DY (m:Nat) (h:m<128):(m:Int)=(((UInt8.ofNat m).toNat:Nat):Int):=by
 rw [hU (by omega)]
end Go.Proofs.YtaafkokfdgfabaaGreat
namespace Go.Proofs.YtaafkokfdgfabaaGreat
theorem zJ:∀ (m i acc:Nat) (rest:List UInt8),m * 128 ^ i<18446744073709551616→i≤9→(i=0∨0<m) →
  hJ i acc (aI m ++ rest)=(acc + m * 128 ^ i,i + (aI m).length,0):=by
 intro m;induction m using Nat.strongRecOn with
 | ind m ih =>
  intro i acc rest hm hi h0;have h9:i=9→m≤1:=fun h=>by
   subst h;rcases Nat.lt_or_ge 1 m with h | h
   ·have:2 * 128 ^ 9≤m * 128 ^ 9:=Nat.mul_le_mul_right _ h
    simp only [Nat.reducePow] at this hm;omega
   ·exact h
  rcases Nat.lt_or_ge m 128 with h | h
  ·rw [hM h,List.cons_append,hJ,hU (by omega),if_neg (by omega),if_pos h,if_neg (by omega)]
   rfl
  ·have hs:m / 128 * 128 ^ (i + 1)≤m * 128 ^ i:=by
    rw [Nat.pow_succ,Nat.mul_comm (128 ^ i),←Nat.mul_assoc];exact Nat.mul_le_mul_right _ (Nat.div_mul_le_self m 128)
   rw [kS h,List.cons_append,hJ,hU (by omega),if_neg (by omega),if_neg (by omega),ih (m / 128) (by omega) (i + 1) _ rest (by omega) (by omega) (by omega)];have e:acc + (m % 128 + 128 - 128) * 128 ^ i + m / 128 * 128 ^ (i + 1)=acc + m * 128 ^ i:=by
    rw [Nat.add_sub_cancel,Nat.pow_succ,Nat.mul_comm (128 ^ i) 128,←Nat.mul_assoc,Nat.add_assoc,←Nat.add_mul];congr 2
    omega
   rw [e,List.length_cons,Nat.add_assoc,Nat.add_comm 1]
theorem mh (m:Nat) (hm:m<18446744073709551616) (rest:List UInt8):bX (aI m ++ rest)=(m,(aI m).length,0):=by
 unfold bX;rw [zJ m 0 0 rest (by simpa using hm) (by omega) (.inl rfl)];simp
theorem BR:∀ (m i acc j:Nat),m * 128 ^ i<18446744073709551616→i≤9→j<(aI m).length→hJ i acc ((aI m).take j)=(0,0,2):=by
 intro m;induction m using Nat.strongRecOn with
 | ind m ih =>
  intro i acc j hm hi hj;rcases Nat.lt_or_ge m 128 with h | h
  ·rw [hM h] at hj ⊢
   simp only [List.length_singleton] at hj;obtain rfl:j=0:=by omega
   rfl
  ·have h9:i≠9:=fun e=>by
    subst e;have:128 * 128 ^ 9≤m * 128 ^ 9:=Nat.mul_le_mul_right _ h;simp only [Nat.reducePow] at this hm;omega
   have hs:m / 128 * 128 ^ (i + 1)≤m * 128 ^ i:=by
    rw [Nat.pow_succ,Nat.mul_comm (128 ^ i),←Nat.mul_assoc];exact Nat.mul_le_mul_right _ (Nat.div_mul_le_self m 128)
   rw [kS h] at hj ⊢;rcases j with _ | j
   ·rfl
   ·rw [List.length_cons] at hj
    rw [List.take_succ_cons,hJ,hU (by omega),if_neg (by omega),if_neg (by omega)];exact ih (m / 128) (by omega) (i + 1) _ j (by omega) (by omega) (by omega)
theorem ub:∀ (l:List UInt8) (i acc:Nat),(hJ i acc l).2.2≠0→(hJ i acc l).1=0∧(hJ i acc l).2.1=0∧((hJ i acc l).2.2=2∨(hJ i acc l).2.2=3)
 | [],i,acc,_=>⟨rfl,rfl,.inl rfl⟩
 | c :: l,i,acc,h=>by
  rw [hJ] at h ⊢;split
  ·exact ⟨rfl,rfl,.inr rfl⟩
  ·rename_i h1
   rw [if_neg h1] at h;split
   ·rename_i h2
    rw [if_pos h2] at h;split
    ·exact ⟨rfl,rfl,.inr rfl⟩
    ·rename_i h3
     rw [if_neg h3] at h;exact absurd rfl h
   ·rename_i h2
    rw [if_neg h2] at h;exact ub l _ _ h
theorem p8:∀ (l:List UInt8) (i acc:Nat),acc<128 ^ i→i≤9→(hJ i acc l).2.2=0 →
  ∃ m,(hJ i acc l).1=acc + m * 128 ^ i∧(hJ i acc l).2.1=i + (aI m).length∧(aI m).length≤l.length∧aI m=l.take (aI m).length∧(i=0∨0<m)∧acc + m * 128 ^ i<18446744073709551616
 | [],i,acc,_,_,h=>by simp [hJ] at h
 | c :: l,i,acc,ha,hi,h=>by
  have hc:=BP c;rw [hJ] at h ⊢;split
  ·rename_i h1
   rw [if_pos h1] at h;simp at h
  ·rename_i h1
   rw [if_neg h1] at h;split
   ·rename_i h2
    rw [if_pos h2] at h;split
    ·rename_i h3
     rw [if_pos h3] at h;simp at h
    ·rename_i h3
     have hu:UInt8.ofNat c.toNat=c:=by simp
     have ht:=Fi (k:=i) hc hi (by omega);rw [Nat.mod_eq_of_lt h2] at ht;refine ⟨c.toNat,rfl,?_,?_,?_,by omega,by omega⟩
     ·rw [hM h2];rfl
     ·rw [hM h2];simp
     ·rw [hM h2,hu];simp
   ·rename_i h2
    rw [if_neg h2] at h;have h9:i≠9:=by omega
    have hlt:acc + (c.toNat - 128) * 128 ^ i<128 ^ (i + 1):=by
     rw [Nat.pow_succ];have:(c.toNat - 128) * 128 ^ i≤127 * 128 ^ i:=Nat.mul_le_mul_right _ (by omega);omega
    obtain ⟨m,e1,e2,e3,e4,e5,e6⟩:=p8 l (i + 1) _ hlt (by omega) h;have hm:128≤c.toNat - 128 + m * 128:=by omega
    have hd:(c.toNat - 128 + m * 128) / 128=m:=by omega
    have hr:(c.toNat - 128 + m * 128) % 128=c.toNat - 128:=by omega
    have hv:aI (c.toNat - 128 + m * 128)=c :: aI m:=by
     rw [kS hm,hd,hr,Nat.sub_add_cancel (by omega)];simp
    have he:acc + (c.toNat - 128) * 128 ^ i + m * 128 ^ (i + 1)=acc + (c.toNat - 128 + m * 128) * 128 ^ i:=by
     rw [Nat.pow_succ,Nat.mul_comm (128 ^ i) 128,←Nat.mul_assoc,Nat.add_assoc,←Nat.add_mul]
    refine ⟨c.toNat - 128 + m * 128,by rw [e1,he],?_,?_,?_,.inr (by omega),by omega⟩
    ·rw [e2,hv,List.length_cons];omega
    ·rw [hv,List.length_cons,List.length_cons];omega
    ·rw [hv,List.length_cons,List.take_succ_cons,←e4]
theorem jj {l:List UInt8} {n k:Nat} (h:bX l=(n,k,0)):n<18446744073709551616∧1≤k∧k≤l.length∧k=(aI n).length∧aI n=l.take k:=by
 have h0:(hJ 0 0 l).2.2=0:=by
  have:=congrArg (fun x=>x.2.2) h;simpa [bX] using this
 obtain ⟨m,e1,e2,e3,e4,_,e6⟩:=p8 l 0 0 (by simp) (by omega) h0;have hn:n=m:=by
  have:=congrArg (fun x=>x.1) h;simp only [bX] at this;rw [e1] at this;simp at this;omega
 have hk:k=(aI m).length:=by
  have:=congrArg (fun x=>x.2.1) h;simp only [bX] at this;rw [e2] at this;simp at this;omega
 subst hn hk;exact ⟨by simpa using e6,iP n,e3,rfl,e4⟩
theorem p9 {l:List UInt8} {n k e:Nat} (h:bX l=(n,k,e)) (he:e≠0):n=0∧k=0∧(e=2∨e=3):=by
 unfold bX at h;have:=ub l 0 0 (by rw [h];exact he);rw [h] at this;exact this
end Go.Proofs.YtaafkokfdgfabaaGreat
namespace Go.Proofs.YtaafkokfdgfabaaGreat
open Go.RowKit
set_option linter.unusedVariables false
theorem bV {w:World} {base base':Nat} {e:TypeId} {size n:Nat} {v:Value} {xs:List Value} (h:w.ownsRow base e size v n xs) (hb:base'≤base):w.ownsRow base' e size v n xs:=by
 refine ⟨h.1,?_⟩;rcases h.2 with h2 | ⟨g,cap,cur,h1,h2,h3⟩
 ·exact .inl h2
 ·exact .inr ⟨g,cap,cur,h1,Nat.le_trans hb h2,h3⟩
theorem sI (w:World) (base:Nat) (e:TypeId) (x:UInt8) (z:Int) (hz:z=(x.toNat:Int)) (hb:base≤w.heap.size):(w.alloc (.cells #[.int .u8 z] e)).ownsRow base e 1 (.slice (some ⟨w.heap.size,0,none⟩) 1 1) 1 (ab [x]):=by
 subst hz;exact World.ownsRow_lit w #[.int .u8 (x.toNat:Int)] 1 hb (by unfold maxLen;omega) (by simp)
end Go.Proofs.YtaafkokfdgfabaaGreat
namespace Go.Proofs.YtaafkokfdgfabaaGreat
open Go.RowKit
set_option linter.unusedVariables false
def jP:Nat→Nat→List UInt8
 | 0,_=>[]
 | k + 1,m=>UInt8.ofNat (m % 256) :: jP k (m / 256)
theorem dV:∀ (k m:Nat),(jP k m).length=k
 | 0,_=>rfl
 | k + 1,m=>by rw [jP,List.length_cons,dV k]
theorem yC:∀ (k m i:Nat),i<k→(jP k m)[i]?=some (UInt8.ofNat (m / 256 ^ i % 256))
 | k + 1,m,0,_=>by simp [jP]
 | k + 1,m,i + 1,h=>by
  rw [jP,List.getElem?_cons_succ,yC k (m / 256) i (by omega),Nat.div_div_eq_div_mul,Nat.pow_succ,Nat.mul_comm 256]
theorem jd:∀ (k m:Nat),m<256 ^ k→oO (jP k m)=m
 | 0,m,h=>by simp at h;subst h;rfl
 | k + 1,m,h=>by
  rw [Nat.pow_succ] at h;have ht:(UInt8.ofNat (m % 256)).toNat=m % 256:=by
   rw [UInt8.toNat_ofNat'];exact Nat.mod_eq_of_lt (by omega)
  rw [jP,oO,jd k (m / 256) (by omega),ht];omega
theorem pL:∀ (a b:List UInt8),a.length=b.length→oO a=oO b→a=b
 | [],[],_,_=>rfl
 | x :: a,y :: b,hl,hv=>by
  have hx:=x.toNat_lt;have hy:=y.toNat_lt;simp only [oO] at hv;have h1:x.toNat=y.toNat:=by omega
  have h2:oO a=oO b:=by omega
  rw [UInt8.toNat.inj h1,pL a b (by simpa using hl) h2]
 | [],_ :: _,h,_=>by simp at h
 | _ :: _,[],h,_=>by simp at h
theorem qa {l:List UInt8}:jP l.length (oO l)=l :=
 pL _ _ (dV _ _) (jd _ _ (by
  have:∀ l:List UInt8,oO l<256 ^ l.length:=by
   intro l;induction l with
   | nil=>simp [oO]
   | cons c l ih =>
    have:=c.toNat_lt;rw [oO,List.length_cons,Nat.pow_succ];omega
  exact this l))
def uc (k m i:Nat):List UInt8:=(List.range k).map fun j=>if j<i then UInt8.ofNat (m / 256 ^ j % 256) else 0
theorem jr (k m i:Nat):(uc k m i).length=k:=by simp [uc]
theorem jQ {k m i j:Nat} (h:j<k):(uc k m i)[j]?=some (if j<i then UInt8.ofNat (m / 256 ^ j % 256) else 0):=by
 simp [uc,h]
theorem sJ {k m i:Nat} (h:i<k):(uc k m i).set i (UInt8.ofNat (m / 256 ^ i % 256))=uc k m (i + 1):=by
 apply List.ext_getElem?
 intro j;rw [List.getElem?_set,jr];by_cases hij:i=j
 ·subst hij
  rw [if_pos rfl,if_pos h,jQ h,if_pos (by omega)]
 ·rw [if_neg hij]
  by_cases hj:j<k
  ·rw [jQ hj,jQ hj]
   congr 2
   exact propext (by omega)
  ·rw [List.getElem?_eq_none (by rw [jr];omega),List.getElem?_eq_none (by rw [jr];omega)]
theorem sK (k m:Nat):uc k m k=jP k m:=by
 apply List.ext_getElem?
 intro j;by_cases hj:j<k
 ·rw [jQ hj,yC k m j hj,if_pos hj]
 ·rw [List.getElem?_eq_none (by rw [jr];omega),List.getElem?_eq_none (by rw [dV];omega)]
theorem qb (k m:Nat):ab (uc k m 0)=List.replicate k (.int .u8 0):=by
 apply List.ext_getElem?
 intro j;rw [ab,List.getElem?_map,List.getElem?_replicate];by_cases hj:j<k
 ·rw [jQ hj,if_pos hj]
  rfl
 ·rw [List.getElem?_eq_none (by rw [jr];omega),if_neg hj]
  rfl
theorem iQ (l:List UInt8) (j:Nat) (c:UInt8):ab (l.set j c)=(ab l).set j (.int .u8 (c.toNat:Int)):=by
 rw [ab,List.map_set];rfl
theorem qc {m i:Nat}:(m:Int) / 2 ^ (8 * i) % 256=((UInt8.ofNat (m / 256 ^ i % 256)).toNat:Int):=by
 have hp:(2:Nat) ^ (8 * i)=256 ^ i:=by rw [Nat.pow_mul]
 have ht:(UInt8.ofNat (m / 256 ^ i % 256)).toNat=m / 256 ^ i % 256:=by
  rw [UInt8.toNat_ofNat'];exact Nat.mod_eq_of_lt (by omega)
 rw [ht,←hp];simp
theorem cC:(Tryz.prog.info? 5).map (fun i=>(i.zero,i.size,i.bytes))=some (some (.int .u8 0),1,1):=by kernel_rfl
end Go.Proofs.YtaafkokfdgfabaaGreat
namespace Go.Proofs.YtaafkokfdgfabaaGreat
open Go.RowKit
set_option linter.unusedVariables false
set_option maxRecDepth 100000 in
theorem sL (n s:Int) (w:World) (m k:Nat) (hn:n=(m:Int)) (hs:s=(k:Int)) (hm:m<18446744073709551616) (hk:k≤8) :
  Calls Tryz.prog 118 #[.int .u64 n,.int .i64 s,.bool false] w fun e w'=>∃ v,e=.returned v∧w'.ownsRow w.heap.size 5 1 v k (ab (jP k m))∧Below w.heap.size w w':=by
 subst hn hs;obtain ⟨i0,hi0,hz0,hz1,hz2⟩:=info_parts cC;have hk0:(0:Int)≤(k:Int):=by omega
 have hk8:(k:Int)≤8:=by omega
 go_enter Tryz.func118,Tryz.ntmps118
 go_wp2_with (at_make;refine wpList_make_full _ rfl _ _ 43 rfl w.heap.size 5 i0 (.int .u8 0) 1 Tryz.underlying43 hi0 hz0 hz1 .i64 .i64 _ _ k rfl rfl (by omega) (by omega) (by rw [hz2];omega) (by unfold maxLen;omega) (Nat.le_refl _) ?_;intro w1 hown1 hgrow1)
 have hb0:Below w.heap.size w w1:=(Below.refl _ _).grown hgrow1 (Nat.le_refl _) (by simp);have hown0:w1.ownsRow w.heap.size 5 1 (.slice (some ⟨w.heap.size,0,none⟩) k k) k (ab (uc k m 0)):=by
  rw [qb];have e:(madeCells (Value.int .u8 0).cells (k * 1)).toList=List.replicate k (.int .u8 0):=by
   rw [Nat.mul_one];exact toList_madeCells_one _ _
  rw [←e];exact hown1
 have Hown0:=Lib.hid hown0;clear hown1 hown0 hgrow1;go_loopw [15] (fun i wr=>∃ j:Nat,j≤k∧i=.int .i64 (j:Int)∧Below w.heap.size w wr∧Hid (wr.ownsRow w.heap.size 5 1 (.slice (some ⟨w.heap.size,0,none⟩) k k) k (ab (uc k m j)))) (fun i _=>k - (intOf i).toNat)
 case atStart=>exact ⟨0,by omega,rfl,hb0,Hown0⟩
 case round =>
  obtain ⟨j,hj,rfl,hbel,hown⟩:=hrel;by_cases hlt:j<k
  ·have hltI:decide ((j:Int)<(k:Int))=true:=decide_eq_true (by omega)
   have hc:=hown.out.cellAt j (by omega);have hc2:(ab (uc k m j))[j]?=some (.int .u8 0):=by
    rw [ab,List.getElem?_map,jQ hlt,if_neg (by omega)];rfl
   rw [hc2] at hc;have hf:=hown.out.frozenAt j;have hst:=hown.out.stored j (.int .u8 ((UInt8.ofNat (m / 256 ^ j % 256)).toNat:Int));rw [←iQ,sJ hlt,←qc] at hst;have Hst:=Lib.hid hst;clear hst hc2
   go_wp2
   go_roundw
   case rel=>exact ⟨j + 1,by omega,by go_num,hbel.setCell (Nat.le_refl _) _,Hst.out.1⟩
   case measure=>simp [intOf];omega
  ·obtain rfl:j=k:=by omega
   go_wp2
   go_ret
   exact ⟨_,rfl,by rw [←sK];exact hown.out,hbel⟩
end Go.Proofs.YtaafkokfdgfabaaGreat
namespace Go.Proofs.YtaafkokfdgfabaaGreat
def iC (body:List UInt8):List UInt8:=aI body.length ++ body
def dE (body:List UInt8):List UInt8:=iC body ++ jP 4 (yB (iC body))
theorem lX (body:List UInt8):(iC body).length=(aI body.length).length + body.length:=by simp [iC]
theorem cP (body:List UInt8):(dE body).length=(aI body.length).length + body.length + 4:=by
 rw [dE,List.length_append,dV,lX]
def aH (b:List UInt8):List UInt8 × Nat × Nat :=
 if (bX b).2.2≠0 then ([],0,(bX b).2.2)
 else if 1048576<(bX b).1 then ([],0,4)
 else if b.length<(bX b).2.1 + (bX b).1 + 4 then ([],0,2)
 else if oO ((b.drop ((bX b).2.1 + (bX b).1)).take 4)≠yB (b.take ((bX b).2.1 + (bX b).1)) then ([],0,8)
 else ((b.drop (bX b).2.1).take (bX b).1,(bX b).2.1 + (bX b).1 + 4,0)
end Go.Proofs.YtaafkokfdgfabaaGreat
namespace Go.Proofs.YtaafkokfdgfabaaGreat
theorem uP {b body:List UInt8} {k:Nat} (h:aH b=(body,k,0)) :
  ∃ n j,bX b=(n,j,0)∧n≤1048576∧j + n + 4=k∧k≤b.length∧body=(b.drop j).take n∧body.length=n∧b.take k=dE body∧1≤j:=by
 rcases hv:bX b with ⟨n,j,e⟩
 unfold aH at h;rw [hv] at h;by_cases he:e=0
 ·subst he
  rw [if_neg (by simp)] at h;by_cases hn:1048576<n
  ·rw [if_pos hn] at h
   simp at h
  ·rw [if_neg hn] at h
   by_cases hl:b.length<j + n + 4
   ·rw [if_pos hl] at h
    simp at h
   ·rw [if_neg hl] at h
    by_cases hs:oO ((b.drop (j + n)).take 4)≠yB (b.take (j + n))
    ·rw [if_pos hs] at h
     simp at h
    ·rw [if_neg hs] at h
     simp only [Prod.mk.injEq,and_true] at h;obtain ⟨h1,h2⟩:=h;obtain ⟨g1,g2,g3,g4,g5⟩:=jj hv;have hs':oO ((b.drop (j + n)).take 4)=yB (b.take (j + n)):=by
      rcases Nat.decEq (oO ((b.drop (j + n)).take 4)) (yB (b.take (j + n))) with hh | hh
      ·exact absurd hh hs
      ·exact hh
     have hbl:body.length=n:=by rw [←h1,List.length_take,List.length_drop];omega
     refine ⟨n,j,rfl,by omega,h2,by omega,h1.symm,hbl,?_,g2⟩;have hH:iC body=b.take (j + n):=by
      rw [iC,hbl,g5,←h1,List.take_add]
     have h4:jP 4 (yB (iC body))=(b.drop (j + n)).take 4:=by
      apply pL
      ·rw [dV,List.length_take,List.length_drop];omega
      ·rw [jd 4 _ (p6 _),hs',hH]
     rw [dE,h4,hH,←h2,List.take_add (i:=j + n)]
 ·rw [if_pos he] at h
  simp only [Prod.mk.injEq] at h;exact absurd h.2.2 he
theorem Ek {b:List UInt8} {n j:Nat} (hv:bX b=(n,j,0)) (hl:j + n + 4≤b.length) :
  (dE ((b.drop j).take n)=b.take (j + n + 4))↔oO ((b.drop (j + n)).take 4)=yB (b.take (j + n)):=by
 obtain ⟨g1,g2,g3,g4,g5⟩:=jj hv;have hbl:((b.drop j).take n).length=n:=by rw [List.length_take,List.length_drop];omega
 have hH:iC ((b.drop j).take n)=b.take (j + n):=by rw [iC,hbl,g5,List.take_add]
 have hs4:b.take (j + n + 4)=b.take (j + n) ++ (b.drop (j + n)).take 4:=List.take_add;rw [dE,hH,hs4,List.append_cancel_left_eq];constructor
 ·intro h
  rw [←h,jd 4 _ (p6 _)]
 ·intro h
  apply pL
  ·rw [dV,List.length_take,List.length_drop];omega
  ·rw [jd 4 _ (p6 _),h]
end Go.Proofs.YtaafkokfdgfabaaGreat
