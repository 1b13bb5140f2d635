import Derived.Test.YtaafkokfdgfabaaGreatProg
import Derived.Below
import Derived.Laws.OwnMore
import Derived.Deep.AppendLies
import Derived.Deep.Draws
import Derived.Maps.AppendAt
import Derived.RegionTactic
import Derived.OwnWalk
import Derived.Laws.MakeOwn
import Derived.Laws.Bits64b
import Derived.Laws.BitsLemmas
import Derived.Lib.Hide
import Derived.Laws.BytesArg
import Derived.Laws.Rows
import Derived.Laws.Tables
import Derived.Laws.BitsAllLaws
import Derived.Lib.BitFns
import Derived.WalkKit
import Derived.Outline
set_option maxHeartbeats 8000000
namespace Go.Proofs.YtaafkokfdgfabaaGreat
open Go.RowKit
def p8 (c:UInt8):Value:=.int .u8 (c.toNat:Int)
def ab (l:List UInt8):List Value:=l.map p8
theorem am (l:List UInt8):(ab l).length=l.length:=by simp [ab]
theorem de (l m:List UInt8):ab (l ++ m)=ab l ++ ab m:=by simp [ab]
theorem dQ (l:List UInt8):∀ u ∈ ab l,u.oneCell'=true:=by
 intro u hu;simp only [ab,List.mem_map] at hu;obtain ⟨c,_,rfl⟩:=hu;rfl
theorem fA (a:Addr) (n:Nat):(a.add n).block=a.block:=by unfold Addr.add;split <;> rfl
theorem uq (a:Addr) (i j:Nat):(a.add i).add j=a.add (i + j):=by
 unfold Addr.add;by_cases hi:i=0 <;> by_cases hj:j=0 <;> simp [hi,hj,Nat.add_assoc]
def BS (w:World) (B:Nat) (A:Option Addr) (l:List UInt8):Prop :=
 0<l.length→∃ ad,A=some ad∧ad.block<B∧∀ j c,l[j]?=some c→w.cell? (ad.add j)=some (p8 c)
section
variable {w w':World} {B B':Nat} {A:Option Addr} {l:List UInt8}
theorem BS.nil (w:World) (B:Nat) (A:Option Addr):BS w B A []:=fun h=>absurd h (by simp)
theorem BS.at_ {k:Nat} (h:BS w B A l) (hk:k<l.length):∃ ad,A=some ad∧ad.block<B∧w.cell? (ad.add k)=some (.int .u8 ((l[k]).toNat:Int)):=by
 obtain ⟨ad,e,hb,hc⟩:=h (by omega);exact ⟨ad,e,hb,hc k _ (List.getElem?_eq_getElem hk)⟩
theorem BS.keep (h:BS w B A l) (hk:∀ p:Addr,p.block<B→w'.cell? p=w.cell? p):BS w' B A l:=fun hn=>by
 obtain ⟨ad,e,hb,hc⟩:=h hn;exact ⟨ad,e,hb,fun j u hu=>(hk _ (by rw [fA];exact hb)).trans (hc j u hu)⟩
theorem BS.more (h:BS w B A l) (hB:B≤B'):BS w B' A l:=fun hn=>by
 obtain ⟨ad,e,hb,hc⟩:=h hn;exact ⟨ad,e,by omega,hc⟩
theorem BS.below (h:BS w B A l) (hb:Below B w w'):BS w' B A l:=h.keep fun _ hp=>hb.cell hp
theorem BS.drew (h:BS w B A l):BS w.drew B A l:=h
theorem BS.drewN (h:BS w B A l) (k:Nat):BS (w.drewN k) B A l:=h
theorem BS.alloc (h:BS w B A l) (hB:B≤w.heap.size) (o:Obj):BS (w.alloc o) B A l:=h.keep fun p hp=>World.cell?_alloc_lt w o p (by omega)
theorem BS.setCell (h:BS w B A l) {p:Addr} (hB:B≤p.block) (u:Value):BS (w.setCell p u) B A l :=
 h.keep fun q hq=>World.cell?_setCell_other w p q u (fun e=>by subst e;omega)
theorem BS.grown (h:BS w B A l) {row:Option Nat} (hg:w.grownBy w' row) (hB:B≤w.heap.size) (hr:∀ g,row=some g→B≤g):BS w' B A l :=
 h.keep fun p hp=>World.cell?_of_block (hg.block p.block (by omega) (fun e=>by have:=hr _ e.symm;omega))
theorem BS.drop (h:BS w B A l) {k cap:Nat} (hc:l.length≤cap) :
  BS w B (if cap=k then A else A.map (·.add k)) (l.drop k):=fun hn=>by
 rw [List.length_drop] at hn;obtain ⟨ad,rfl,hb,hcell⟩:=h (by omega);rw [if_neg (by omega)];refine ⟨ad.add k,rfl,by rw [fA];exact hb,fun j u hu=>?_⟩;rw [uq];exact hcell _ u (by rw [←hu,List.getElem?_drop])
theorem BS.take (h:BS w B A l) (k:Nat):BS w B A (l.take k):=fun hn=>by
 rw [List.length_take] at hn;obtain ⟨ad,rfl,hb,hcell⟩:=h (by omega);refine ⟨ad,rfl,hb,fun j u hu=>?_⟩;rw [List.getElem?_take] at hu;split at hu
 ·exact hcell j u hu
 ·cases hu
theorem BS.of_own {base:Nat} {e:TypeId} {c n:Nat} (h:w.ownsRow base e 1 (.slice A n c) n (ab l)):BS w w.heap.size A l∧n=l.length:=by
 have hn:n=l.length:=by have:=h.1;rw [am] at this;omega
 refine ⟨fun hp=>?_,hn⟩;obtain ⟨g,cap,hv,_,hlt⟩:=h.form (by omega);have hA:A=some ⟨g,0,none⟩:=by injection hv
 subst hA;exact ⟨_,rfl,hlt,fun j c hj=>h.cells (g:=g) rfl j (p8 c) (by rw [ab,List.getElem?_map,hj];rfl)⟩
end
theorem Dk {a w w':World} (h:Below a.heap.size a w) (k:Below w.heap.size w w'):Below a.heap.size a w':=h.trans (k.mono h.size)
theorem cC {w:World} {base:Nat} {e:TypeId} {size n:Nat} {v:Value} {xs:List Value} (h:w.ownsRow base e size v n xs):∃ A c,v=.slice A n c∧n≤c∧c≤maxLen:=by
 rcases h.2 with ⟨rfl,rfl⟩ | ⟨g,cap,_,rfl,_,_,hc,hm,_⟩
 ·exact ⟨none,0,rfl,Nat.le_refl _,by unfold maxLen;omega⟩
 ·exact ⟨_,cap,rfl,hc,hm⟩
section
variable {P:Program} (w:World)
theorem mo (base:Nat) (t ty e:TypeId) (i:TypeInfo) (size:Nat) (ht:P.underlying t=some (.slice e)) (hi:P.info? e=some i)
  (v:Value) (n:Nat) (xs:List Value) (hown:w.ownsRow base e size v n xs) (c:Nat):(Builtin.append_ #[t,t] ty #[v,.slice none 0 c]).run P w=.ok v w:=by
 rcases hown.2 with ⟨rfl,rfl⟩ | ⟨g,cap,cur,rfl,_,_,hnc,_⟩
 ·simp [Builtin.append_,run_underlying ht,sizeOf,typeInfo,hi,Builtin.lenOf,Builtin.firstCells]
 ·simp [Builtin.append_,run_underlying ht,sizeOf,typeInfo,hi,Builtin.lenOf,Builtin.firstCells,hnc,storeCells]
theorem nD (base:Nat) (t ty e:TypeId) (i:TypeInfo) (z:Value) (bytes:Nat) (ht:P.underlying t=some (.slice e)) (hi:P.info? e=some i) (hz:i.zero=some z)
  (hsize:i.size=1) (hby:i.bytes=bytes) (hzs:z.cells.size=1)
  (v:Value) (l:List UInt8) (hown:w.ownsRow base e 1 v l.length (ab l))
  (B:Nat) (A:Option Addr) (c:Nat) (m:List UInt8) (hr:BS w B A m)
  (h63:l.length + m.length≤maxLen) (hbytes:(l.length + m.length) * bytes≤140737488355328) (hbase:base≤w.heap.size) :
  ∃ v' w',(Builtin.append_ #[t,t] ty #[v,.slice A m.length c]).run P w=.ok v' w'∧w'.ownsRow base e 1 v' (l ++ m).length (ab (l ++ m))∧w.grownBy w' v.ownBlock ∧
   (v'.ownBlock=v.ownBlock∨v'.ownBlock=some w.heap.size):=by
 have hlen:(l ++ m).length=l.length + m.length:=List.length_append;have hcs:ab (l ++ m)=ab l ++ ab m:=de l m;rw [hlen,hcs];rcases A with _ | ad
 ·have hm:m=[]:=by
   rcases m with _ | ⟨a,m⟩
   ·rfl
   ·obtain ⟨ad,h,_⟩:=hr (by simp)
    cases h
  subst hm;exact ⟨v,w,mo w base t ty e i 1 ht hi v _ _ hown c,by simpa [ab] using hown,World.grownBy.refl w _,.inl rfl⟩
 ·have hcells:∀ j u,(ab m)[j]?=some u→w.cell? (ad.add j)=some u:=by
   intro j u hu;rcases Nat.eq_zero_or_pos m.length with h0 | h0
   ·have hn:m=[]:=List.eq_nil_of_length_eq_zero h0
    subst hn;simp [ab] at hu
   ·obtain ⟨ad',h,_,hc⟩:=hr h0
    injection h with h
    subst h;rw [ab,List.getElem?_map] at hu;rcases hm:m[j]? with _ | x
    ·rw [hm] at hu;cases hu
    ·rw [hm] at hu
     simp only [Option.map_some,Option.some.injEq] at hu;rw [←hu];exact hc j x hm
  obtain ⟨v',w',hrun,h2,h3,_,h5⟩:=run_append_own_at (P:=P) w base t ty e i z 1 bytes ht hi hz hsize hby hzs (by omega) v _ _ hown ad m.length c (ab m) (by rw [am];omega) hcells (dQ m) h63 hbytes hbase;exact ⟨v',w',hrun,h2,h3,h5⟩
theorem kA {o:Oper} {a:Act} {K:Act→World→Prop} {Q:Exit→Act→World→Prop} (s x:Operand) (t:TypeId)
  (ho:o.op=.call { callee:=.builtin .append,args:=#[s,x],argTypes:=#[t,t] })
  (base:Nat) (e:TypeId) (i:TypeInfo) (z:Value) (bytes:Nat) (ht:P.underlying t=some (.slice e)) (hi:P.info? e=some i) (hz:i.zero=some z)
  (hsize:i.size=1) (hby:i.bytes=bytes) (hzs:z.cells.size=1)
  (v:Value) (l:List UInt8) (hs:a.eval s=v) (hown:w.ownsRow base e 1 v l.length (ab l))
  (B:Nat) (A:Option Addr) (n c:Nat) (m:List UInt8) (hx:a.eval x=.slice A n c) (hn:n=m.length) (hr:BS w B A m)
  (h63:l.length + m.length≤maxLen) (hbytes:(l.length + m.length) * bytes≤140737488355328) (hbase:base≤w.heap.size)
  (h:∀ A' c' w',w'.ownsRow base e 1 (.slice A' (l ++ m).length c') (l ++ m).length (ab (l ++ m))→w.grownBy w' v.ownBlock→((Value.slice A' (l ++ m).length c').ownBlock=v.ownBlock∨(Value.slice A' (l ++ m).length c').ownBlock=some w.heap.size)→K (a.put o.dst (.slice A' (l ++ m).length c')) w'):o.wp P a w K Q:=by
 subst hn;obtain ⟨v',w',hrun,h2,h3,h4⟩:=nD (P:=P) w base t o.type e i z bytes ht hi hz hsize hby hzs v l hown B A c m hr h63 hbytes hbase;unfold Oper.wp execOp;simp only [ho,resolve,invoke,builtin,Sem.run_bind,Sem.run_pure,Result.andThen_ok,List.map_toArray,List.map_cons,List.map_nil,hs,hx,hrun];obtain ⟨A',c',rfl,_⟩:=cC h2;exact h A' c' w' h2 h3 h4
theorem au {ops:Array Oper} {rest:List Oper} {o:Oper} {a:Act} {Q:Exit→Act→World→Prop} (hgd:o.guard=none) (s x:Operand) (t:TypeId)
  (ho:o.op=.call { callee:=.builtin .append,args:=#[s,x],argTypes:=#[t,t] })
  (base:Nat) (e:TypeId) (i:TypeInfo) (z:Value) (bytes:Nat) (ht:P.underlying t=some (.slice e)) (hi:P.info? e=some i) (hz:i.zero=some z)
  (hsize:i.size=1) (hby:i.bytes=bytes) (hzs:z.cells.size=1)
  (v:Value) (l:List UInt8) (hs:a.eval s=v) (hown:w.ownsRow base e 1 v l.length (ab l))
  (B:Nat) (A:Option Addr) (n c:Nat) (m:List UInt8) (hx:a.eval x=.slice A n c) (hn:n=m.length) (hr:BS w B A m)
  (h63:l.length + m.length≤maxLen) (hbytes:(l.length + m.length) * bytes≤140737488355328) (hbase:base≤w.heap.size)
  (h:∀ A' c' w',w'.ownsRow base e 1 (.slice A' (l ++ m).length c') (l ++ m).length (ab (l ++ m))→w.grownBy w' v.ownBlock→((Value.slice A' (l ++ m).length c').ownBlock=v.ownBlock∨(Value.slice A' (l ++ m).length c').ownBlock=some w.heap.size)→wpList P ops Q rest (a.put o.dst (.slice A' (l ++ m).length c')) w'):wpList P ops Q (o :: rest) a w :=
 wpList_plain hgd fun _ hK=>kA w s x t ho base e i z bytes ht hi hz hsize hby hzs v l hs hown B A n c m hx hn hr h63 hbytes hbase fun A' c' w' h2 h3 h4=>hK _ _ (h A' c' w' h2 h3 h4)
end
theorem si (w:World) (base:Nat) (e:TypeId) (hb:base≤w.heap.size) (a:Nat) (ha:w.heap.size=a):(w.alloc (.cells #[] e)).ownsRow base e 1 (.slice (some ⟨a,0,none⟩) 0 0) ([]:List UInt8).length (ab []):=by
 subst ha;exact World.ownsRow_lit w #[] 0 hb (by unfold maxLen;omega) (by simp)
theorem BS.one (w:World) (x:UInt8) (t:TypeId):BS (w.alloc (.cells #[.int .u8 (x.toNat:Int)] t)) (w.heap.size + 1) (some ⟨w.heap.size,0,none⟩) [x]:=fun _=>by
 refine ⟨_,rfl,Nat.lt_succ_self _,fun j c hj=>cell_one_new w (p8 x) t j (p8 c) ?_⟩;show ([x].map p8)[j]?=some (p8 c)
 rw [List.getElem?_map,hj];rfl
theorem BS.one' (w:World) (x:UInt8) (z:Int) (hz:z=(x.toNat:Int)) (t:TypeId):BS (w.alloc (.cells #[.int .u8 z] t)) (w.heap.size + 1) (some ⟨w.heap.size,0,none⟩) [x]:=by
 subst hz;exact BS.one w x t
theorem BS.lit (w:World) (l:List UInt8) (cs:Array Value) (h:cs=(ab l).toArray) (t:TypeId) (m:Nat × Nat):BS (w.alloc (.cells cs t m)) (w.heap.size + 1) (some ⟨w.heap.size,0,none⟩) l:=fun _=>by
 subst h;refine ⟨_,rfl,Nat.lt_succ_self _,fun j c hj=>?_⟩;have hp:(⟨w.heap.size,0,none⟩:Addr).add j=⟨w.heap.size,j,none⟩:=by unfold Addr.add;split <;> simp_all
 rw [hp,cell_of_row _ _ j _ t m (heap_alloc_new w _)];simp [ab,hj]
theorem bh {P:Program} (src dst e:TypeId) (hs:P.underlying src=some (.slice e)) (he:P.underlying e=some (.int .u8)) (hd:P.underlying dst=some .string)
  (w:World) (B:Nat) (A:Option Addr) (l:List UInt8) (hb:BS w B A l) (n c:Nat) (hn:n=l.length) :
  (convert src dst (.slice A n c)).run P w=.ok (.string ⟨l.toArray⟩) w:=by
 subst hn;rcases A with _ | ad
 ·have hl:l=[]:=by
   rcases l with _ | ⟨a,l⟩
   ·rfl
   ·obtain ⟨ad,h,_⟩:=hb (by simp)
    cases h
  subst hl;exact run_convert_bytes_nil w src e hs he _ _ dst hd
 ·have hcells:∀ j v,(ab l)[j]?=some v→w.cell? (ad.add j)=some v:=by
   intro j v hj;rw [ab,List.getElem?_map] at hj;rcases hm:l[j]? with _ | x
   ·rw [hm] at hj;cases hj
   ·rw [hm] at hj
    simp only [Option.map_some,Option.some.injEq] at hj;rw [←hj];obtain ⟨ad',h,_,hc⟩:=hb (by have:=(List.getElem?_eq_some_iff.1 hm).1;omega);injection h with h
    subst h;exact hc j x hm
  have hl:=run_loadCells_list (P:=P) w ad (ab l) hcells;rw [am] at hl;have hm:ab l=(l.map fun c=>(c.toNat:Int)).map (Value.int .u8):=by simp [ab,p8]
  rw [hm] at hl;rw [run_convert_bytes_string w src dst e _ _ c hs he hd,run_bytesToString w ad _ c _ hl,foldl_push_bytes];have hmm:(l.map fun c=>(c.toNat:Int)).map (fun n=>UInt8.ofNat n.toNat)=l:=by
   rw [List.map_map];conv=>rhs;rw [←List.map_id l]
   apply List.map_congr_left
   intro x _;simp
  rw [hmm];simp [ByteArray.empty,ByteArray.emptyWithCapacity];rfl
end Go.Proofs.YtaafkokfdgfabaaGreat
namespace Go.Proofs.YtaafkokfdgfabaaGreat
open Go.RowKit
def ah (w:World) (g:Nat) (t:TypeId) (cs:Array Value):Prop:=w.heap[g]?=some (.cells cs t (0,0))
section
variable {w w':World} {g:Nat} {t:TypeId} {cs:Array Value}
theorem ah.lt (h:ah w g t cs):g<w.heap.size:=by
 rcases Nat.lt_or_ge g w.heap.size with hlt | hge
 ·exact hlt
 ·unfold ah at h;rw [Array.getElem?_eq_none hge] at h;cases h
theorem ah.cell (h:ah w g t cs) (i:Nat):w.cell? ⟨g,i,none⟩=cs[i]?:=cell_of_row w g i cs t (0,0) h
theorem ah.frozen (h:ah w g t cs) (i:Nat):w.frozen? ⟨g,i,none⟩=false:=frozen_of_row w g i cs t h
theorem ah.new (w:World) (t:TypeId) (cs:Array Value) (a:Nat) (ha:w.heap.size=a):ah (w.alloc (.cells cs t)) a t cs:=by
 subst ha;exact heap_alloc_new w _
theorem ah.drew (h:ah w g t cs):ah w.drew g t cs:=h
theorem ah.drewN (h:ah w g t cs) (n:Nat):ah (w.drewN n) g t cs:=h
theorem ah.alloc (h:ah w g t cs) (o:Obj):ah (w.alloc o) g t cs:=(Below.heap_alloc w o g h.lt).trans h
theorem ah.set_ (h:ah w g t cs) (i:Nat) (u:Value):ah (w.setCell ⟨g,i,none⟩ u) g t (cs.setIfInBounds i u):=heap_setCell_same w g i cs t u h
theorem ah.far (h:ah w g t cs) {p:Addr} (hp:g≠p.block) (u:Value):ah (w.setCell p u) g t cs:=(Below.heap_setCell w p u g hp).trans h
theorem ah.row (h:ah w g t cs) (c':Array Value):ah (w.setRow g c') g t c':=setRow_heap w g cs c' t _ h
theorem ah.rowFar (h:ah w g t cs) {k:Nat} (hk:g≠k) (c':Array Value):ah (w.setRow k c') g t cs:=(setRow_other w k g c' hk).trans h
theorem ah.below {B:Nat} (h:ah w g t cs) (hb:Below B w w') (hg:g<B):ah w' g t cs:=(hb.block g hg).trans h
end
theorem mp {B:Nat} {a w:World} (h:Below B a w) {g:Nat} (hg:B≤g) (cs:Array Value):Below B a (w.setRow g cs) :=
 h.trans ⟨rfl,rfl,rfl,by simp,fun k hk=>setRow_other w g k cs (by omega)⟩
theorem ax {w w':World} {base:Nat} {e:TypeId} {size n:Nat} {v:Value} {xs:List Value} (h:w.ownsRow base e size v n xs) (hb:Below w.heap.size w w'):w'.ownsRow base e size v n xs :=
 h.kept (row:=none) ⟨hb.os,hb.tape,hb.output,hb.size,fun i hi _=>hb.block i hi⟩ (by cases hv:v.ownBlock <;> simp)
theorem mq (n:Nat) (h:n<4294967296):IntKind.u32.wrap (n:Int)=(n:Int):=by
 simp [IntKind.wrap,IntKind.bits,IntKind.signed];omega
theorem oB (a:Nat) (ha:a<4294967296):(BitVec.ofInt 32 (a:Int)).toNat=a:=by
 rw [BitVec.ofInt_natCast,BitVec.toNat_ofNat];exact Nat.mod_eq_of_lt (by omega)
theorem kZ (a b:Nat) (ha:a<4294967296) (hb:b<4294967296):bits .xor .u32 (a:Int) (b:Int)=((a ^^^ b:Nat):Int):=by
 have hx:a ^^^ b<2 ^ 32:=Nat.xor_lt_two_pow (by omega) (by omega);show IntKind.u32.wrap ((BitVec.ofInt 32 (a:Int) ^^^ BitVec.ofInt 32 (b:Int)).toNat:Int)=_
 rw [BitVec.toNat_xor,oB a ha,oB b hb,mq _ (by omega)]
theorem vW (a b:Nat) (ha:a<4294967296) (hb:b<4294967296):bits .and .u32 (a:Int) (b:Int)=((a &&& b:Nat):Int):=by
 have hx:a &&& b<2 ^ 32:=Nat.and_lt_two_pow _ (by omega);show IntKind.u32.wrap ((BitVec.ofInt 32 (a:Int) &&& BitVec.ofInt 32 (b:Int)).toNat:Int)=_
 rw [BitVec.toNat_and,oB a ha,oB b hb,mq _ (by omega)]
theorem zH (a:Nat) (ha:a<4294967296):bits .and .u32 (a:Int) 1=((a % 2:Nat):Int):=by
 have h:=vW a 1 ha (by omega);rw [Nat.and_one_is_mod] at h;exact h
theorem qm (a:Nat) (ha:a<4294967296):bits .and .u32 (a:Int) 15=((a % 16:Nat):Int):=by
 have h:=vW a 15 ha (by omega);rw [show a &&& 15=a % 16 from Nat.and_two_pow_sub_one_eq_mod a 4] at h;exact h
end Go.Proofs.YtaafkokfdgfabaaGreat
namespace Go.Proofs.YtaafkokfdgfabaaGreat
open Go.RowKit
def LS (w:World) (B:Nat) (A:Option Addr) (ls:List (List UInt8)):Prop :=
 0<ls.length→∃ ad,A=some ad∧ad.block<B∧∀ j l,ls[j]?=some l→∃ A' c',w.cell? (ad.add j)=some (.slice A' l.length c')∧l.length≤c'∧BS w B A' l
section
variable {w w':World} {B B':Nat} {A:Option Addr} {ls:List (List UInt8)}
theorem LS.nil (w:World) (B:Nat) (A:Option Addr):LS w B A []:=fun h=>absurd h (by simp)
theorem LS.at_ {k:Nat} (h:LS w B A ls) (hk:k<ls.length):∃ ad A' c',A=some ad∧ad.block<B∧w.cell? (ad.add k)=some (.slice A' (ls[k]).length c')∧(ls[k]).length≤c'∧BS w B A' ls[k]:=by
 obtain ⟨ad,e,hb,hc⟩:=h (by omega);obtain ⟨A',c',h1,h2,h3⟩:=hc k _ (List.getElem?_eq_getElem hk);exact ⟨ad,A',c',e,hb,h1,h2,h3⟩
theorem LS.keep (h:LS w B A ls) (hk:∀ p:Addr,p.block<B→w'.cell? p=w.cell? p):LS w' B A ls:=fun hn=>by
 obtain ⟨ad,e,hb,hc⟩:=h hn;refine ⟨ad,e,hb,fun j l hj=>?_⟩;obtain ⟨A',c',h1,h2,h3⟩:=hc j l hj;exact ⟨A',c',(hk _ (by rw [fA];exact hb)).trans h1,h2,h3.keep hk⟩
theorem LS.more (h:LS w B A ls) (hB:B≤B'):LS w B' A ls:=fun hn=>by
 obtain ⟨ad,e,hb,hc⟩:=h hn;refine ⟨ad,e,by omega,fun j l hj=>?_⟩;obtain ⟨A',c',h1,h2,h3⟩:=hc j l hj;exact ⟨A',c',h1,h2,h3.more hB⟩
theorem LS.below (h:LS w B A ls) (hb:Below B w w'):LS w' B A ls:=h.keep fun _ hp=>hb.cell hp
theorem LS.take (h:LS w B A ls) (k:Nat):LS w B A (ls.take k):=fun hn=>by
 rw [List.length_take] at hn;obtain ⟨ad,rfl,hb,hc⟩:=h (by omega);refine ⟨ad,rfl,hb,fun j u hu=>?_⟩;rw [List.getElem?_take] at hu;split at hu
 ·exact hc j u hu
 ·cases hu
end
end Go.Proofs.YtaafkokfdgfabaaGreat
namespace Go.Proofs.YtaafkokfdgfabaaGreat
def sj:Nat:=2197175160
def sh (x:Nat):Nat:=if x % 2=1 then x / 2 ^^^ sj else x / 2
def kB:Nat→Nat→Nat
 | 0,x=>x
 | k + 1,x=>kB k (sh x)
def g0:Nat:=4294967295
theorem p9 (a b c:Nat):a ^^^ (b ^^^ c)=b ^^^ (a ^^^ c):=by rw [←Nat.xor_assoc,Nat.xor_comm a b,Nat.xor_assoc]
theorem sm (a b:Nat):(a ^^^ b) % 2=(a + b) % 2:=by
 have h:(a ^^^ b) % 2 ^ 1=(a % 2 ^ 1) ^^^ (b % 2 ^ 1):=Nat.xor_mod_two_pow;rw [Nat.pow_one] at h;rw [h];rcases Nat.mod_two_eq_zero_or_one a with ha | ha <;> rcases Nat.mod_two_eq_zero_or_one b with hb | hb <;> rw [ha,hb]
 ·have:(a + b) % 2=0:=by omega
  rw [this];rfl
 ·have:(a + b) % 2=1:=by omega
  rw [this];rfl
 ·have:(a + b) % 2=1:=by omega
  rw [this];rfl
 ·have:(a + b) % 2=0:=by omega
  rw [this];rfl
theorem sn (a b:Nat):(a ^^^ b) / 2=a / 2 ^^^ b / 2:=by
 have h:(a ^^^ b) / 2 ^ 1=(a / 2 ^ 1) ^^^ (b / 2 ^ 1):=Nat.xor_div_two_pow;rwa [Nat.pow_one] at h
theorem Dy (a b:Nat):sh (a ^^^ b)=sh a ^^^ sh b:=by
 unfold sh;rw [sm,sn];rcases Nat.mod_two_eq_zero_or_one a with ha | ha <;> rcases Nat.mod_two_eq_zero_or_one b with hb | hb
 ·rw [if_neg (by omega),if_neg (by omega),if_neg (by omega)]
 ·rw [if_pos (by omega),if_neg (by omega),if_pos (by omega),Nat.xor_assoc]
 ·rw [if_pos (by omega),if_pos (by omega),if_neg (by omega),Nat.xor_assoc,Nat.xor_assoc,Nat.xor_comm sj]
 ·rw [if_neg (by omega),if_pos (by omega),if_pos (by omega),Nat.xor_assoc,p9 sj,Nat.xor_self,Nat.xor_zero]
theorem vX:∀ (k a b:Nat),kB k (a ^^^ b)=kB k a ^^^ kB k b
 | 0,_,_=>rfl
 | k + 1,a,b=>by rw [kB,Dy,vX k,kB,kB]
theorem vY:∀ (j k x:Nat),kB (j + k) x=kB k (kB j x)
 | 0,k,x=>by rw [Nat.zero_add];rfl
 | j + 1,k,x=>by rw [Nat.add_right_comm,kB,vY j k,kB]
theorem Dl {x:Nat} (h:x<4294967296):sh x<4294967296:=by
 unfold sh;split
 ·have:x / 2 ^^^ sj<2 ^ 32:=Nat.xor_lt_two_pow (by omega) (by unfold sj;omega)
  omega
 ·omega
theorem qW:∀ (k:Nat) {x:Nat},x<4294967296→kB k x<4294967296
 | 0,_,h=>h
 | k + 1,_,h=>qW k (Dl h)
theorem xE (x:Nat):sh (2 * x)=x:=by
 unfold sh;rw [if_neg (by omega)];omega
theorem vZ:∀ (k x:Nat),kB k (2 ^ k * x)=x
 | 0,x=>by simp [kB]
 | k + 1,x=>by rw [kB,Nat.pow_succ,Nat.mul_comm (2 ^ k) 2,Nat.mul_assoc,xE,vZ k]
theorem wh:∀ (k a q:Nat),a<2 ^ k→a ^^^ (2 ^ k * q)=a + 2 ^ k * q
 | 0,a,q,h=>by
  obtain rfl:a=0:=by simpa using h
  simp
 | k + 1,a,q,h=>by
  have e:2 ^ (k + 1) * q=2 * (2 ^ k * q):=by rw [Nat.pow_succ,Nat.mul_comm (2 ^ k) 2,Nat.mul_assoc]
  rw [Nat.pow_succ] at h;have ih:=wh k (a / 2) q (by omega);have h1:=sn a (2 * (2 ^ k * q));have h2:=sm a (2 * (2 ^ k * q));rw [show 2 * (2 ^ k * q) / 2=2 ^ k * q by omega,ih] at h1;rw [e];omega
theorem xF (k x:Nat):x=x % 2 ^ k ^^^ (2 ^ k * (x / 2 ^ k)):=by
 rw [wh k _ _ (Nat.mod_lt _ (Nat.two_pow_pos k))];exact (Nat.mod_add_div x (2 ^ k)).symm
theorem zI (x:Nat):kB 4 x=kB 4 (x % 16) ^^^ x / 16:=by
 conv=>lhs;rw [xF 4 x]
 rw [vX,vZ]
theorem Cm (x:Nat):kB 8 x=kB 4 (kB 4 (x % 16) ^^^ x / 16):=by rw [←zI,←vY]
def qn (w:Nat) (l:List UInt8):Nat:=l.foldl (fun w c=>kB 8 (w ^^^ c.toNat)) w
def wo (s:Nat) (l:List UInt8):Nat:=qn (s ^^^ g0) l ^^^ g0
def wv (l:List UInt8):Nat:=wo 0 l
def nB:List UInt8→Nat
 | []=>0
 | c :: l=>c.toNat + 256 * nB l
theorem so:∀ (l:List UInt8) {w:Nat},w<4294967296→qn w l<4294967296
 | [],_,h=>h
 | c :: l,w,h=>so l (qW 8 (by
   have hc:c.toNat<256:=c.toNat_lt;have:w ^^^ c.toNat<2 ^ 32:=Nat.xor_lt_two_pow (by omega) (by omega);omega))
theorem iS:g0<4294967296:=by unfold g0;omega
theorem jG {a b:Nat} (ha:a<4294967296) (hb:b<4294967296):a ^^^ b<4294967296:=by
 have:a ^^^ b<2 ^ 32:=Nat.xor_lt_two_pow (by omega) (by omega);omega
theorem zJ {s:Nat} (h:s<4294967296) (l:List UInt8):wo s l<4294967296:=jG (so l (jG h iS)) iS
theorem oR (l:List UInt8):wv l<4294967296:=zJ (by omega) l
end Go.Proofs.YtaafkokfdgfabaaGreat
namespace Go.Proofs.YtaafkokfdgfabaaGreat
open Go.RowKit
def gz (i acc:Nat):List UInt8→Nat × Nat × Nat
 | []=>(0,0,2)
 | c :: l =>
  if i=9∧1<c.toNat then (0,0,3)
  else if c.toNat<128 then (if c.toNat=0∧0<i then (0,0,3) else (acc + c.toNat * 128 ^ i,i + 1,0))
  else gz (i + 1) (acc + (c.toNat - 128) * 128 ^ i) l
def bM (l:List UInt8):Nat × Nat × Nat:=gz 0 0 l
theorem zK (c:UInt8):c.toNat<256:=c.toNat_lt
theorem iE (n:Nat) (h:n<18446744073709551616):IntKind.u64.wrap (n:Int)=(n:Int):=by
 simp [IntKind.wrap,IntKind.bits,IntKind.signed];omega
theorem xG (d:Nat) (hd:d<256):bits .andNot .u8 (d:Int) 128=((d % 128:Nat):Int):=by
 have h:∀ d:Fin 256,bits .andNot .u8 ((d.val:Nat):Int) 128=((d.val % 128:Nat):Int):=by decide +kernel
 exact h ⟨d,hd⟩
theorem Ec (d:Nat) (hd:d<256):bits .or .u8 (d:Int) 128=((d % 128 + 128:Nat):Int):=by
 have h:∀ d:Fin 256,bits .or .u8 ((d.val:Nat):Int) 128=((d.val % 128 + 128:Nat):Int):=by decide +kernel
 exact h ⟨d,hd⟩
theorem ur (k:Nat):(2:Nat) ^ (7 * k)=128 ^ k:=by rw [Nat.pow_mul]
theorem qo {k:Nat} (hk:k≤8):128 ^ k≤72057594037927936:=by
 have:=Nat.pow_le_pow_right (n:=128) (by omega) hk;simpa using this
theorem oS {k:Nat} (hk:k≤9):128 ^ k≤9223372036854775808:=by
 have:=Nat.pow_le_pow_right (n:=128) (by omega) hk;simpa using this
theorem EE {acc k d:Nat} (hacc:acc<128 ^ k) (hd:d<256) (hk:k≤9) (h9:k=9→d≤1) :
  bits .or .u64 (acc:Int) (IntKind.u64.wrap (IntKind.u64.wrap (bits .andNot .u8 (d:Int) 128) * 2 ^ (7 * k)))=((acc + d % 128 * 128 ^ k:Nat):Int):=by
 have hp:((2:Int) ^ (7 * k))=((128 ^ k:Nat):Int):=by rw [←ur];simp
 have hm:d % 128 * 128 ^ k + 128 ^ k≤18446744073709551616:=by
  rcases Nat.lt_or_ge k 9 with h | h
  ·have h1:=qo (k:=k) (by omega)
   have h2:d % 128 * 128 ^ k≤127 * 128 ^ k:=Nat.mul_le_mul_right _ (by omega);omega
  ·have h1:=oS hk
   have h2:d % 128 * 128 ^ k≤1 * 128 ^ k:=Nat.mul_le_mul_right _ (by have:=h9 (by omega);omega);omega
 rw [xG d hd,hp,iE _ (by omega),←Int.natCast_mul,iE _ (by omega),bits_or_u64_nat _ _ (by omega) (by omega)];congr 1
 rw [Nat.or_comm,←ur,Nat.mul_comm,←Nat.two_pow_add_eq_or_of_lt (by rw [ur];exact hacc),Nat.add_comm]
theorem Dz {k d:Nat} (hd:d<256) (hk:k≤9) (h9:k=9→d≤1):d % 128 * 128 ^ k + 128 ^ k≤18446744073709551616:=by
 rcases Nat.lt_or_ge k 9 with h | h
 ·have h1:=qo (k:=k) (by omega)
  have h2:d % 128 * 128 ^ k≤127 * 128 ^ k:=Nat.mul_le_mul_right _ (by omega);omega
 ·have h1:=oS hk
  have h2:d % 128 * 128 ^ k≤1 * 128 ^ k:=Nat.mul_le_mul_right _ (by have:=h9 (by omega);omega);omega
section
variable {l:List UInt8} {k acc:Nat}
theorem nE (h:k<l.length):gz k acc (l.drop k) =
  if k=9∧1<(l[k]).toNat then (0,0,3)
  else if (l[k]).toNat<128 then (if (l[k]).toNat=0∧0<k then (0,0,3) else (acc + (l[k]).toNat * 128 ^ k,k + 1,0))
  else gz (k + 1) (acc + ((l[k]).toNat - 128) * 128 ^ k) (l.drop (k + 1)):=by
 rw [List.drop_eq_getElem_cons h,gz]
theorem zL (h:l.length≤k):gz k acc (l.drop k)=(0,0,2):=by
 rw [List.drop_eq_nil_of_le h,gz]
theorem xH {d:Nat} (h:k<l.length) (hd:(l[k]).toNat=d) (h1:128≤d) (h2:k<9):gz k acc (l.drop k)=gz (k + 1) (acc + d % 128 * 128 ^ k) (l.drop (k + 1)):=by
 have:=zK l[k];rw [nE h,if_neg (by omega),if_neg (by omega),hd,show d % 128=d - 128 by omega]
theorem nF {d:Nat} (h:k<l.length) (hd:(l[k]).toNat=d) (h1:(k=9∧1<d)∨(d=0∧0<k)):gz k acc (l.drop k)=(0,0,3):=by
 rw [nE h,hd];split
 ·rfl
 ·rw [if_pos (by omega),if_pos (by omega)]
theorem nG {d:Nat} (h:k<l.length) (hd:(l[k]).toNat=d) (h1:¬(k=9∧1<d)) (h2:d<128) (h3:¬(d=0∧0<k)):gz k acc (l.drop k)=(acc + d % 128 * 128 ^ k,k + 1,0):=by
 rw [nE h,hd,if_neg h1,if_pos h2,if_neg h3,Nat.mod_eq_of_lt h2]
theorem Cn {d:Nat} (ha:acc<128 ^ k):acc + d % 128 * 128 ^ k<128 ^ (k + 1):=by
 rw [Nat.pow_succ];have:d % 128 * 128 ^ k≤127 * 128 ^ k:=Nat.mul_le_mul_right _ (by omega);omega
end
def aE (n:Nat):List UInt8:=if n<128 then [UInt8.ofNat n] else UInt8.ofNat (n % 128 + 128) :: aE (n / 128)
termination_by n
decreasing_by omega
theorem gA {n:Nat} (h:n<128):aE n=[UInt8.ofNat n]:=by rw [aE,if_pos h]
theorem j6 {n:Nat} (h:128≤n):aE n=UInt8.ofNat (n % 128 + 128) :: aE (n / 128):=by rw [aE,if_neg (by omega)]
theorem ii (n:Nat):0<(aE n).length:=by
 rcases Nat.lt_or_ge n 128 with h | h
 ·rw [gA h];simp
 ·rw [j6 h];simp
theorem gB {n:Nat} (h:n<256):(UInt8.ofNat n).toNat=n:=by
 rw [UInt8.toNat_ofNat'];exact Nat.mod_eq_of_lt (by omega)
theorem xI:∀ n:Nat,n<18446744073709551616→(aE n).length=max 1 ((Lib.bitLen n + 6) / 7):=by
 intro n;induction n using Nat.strongRecOn with
 | ind n ih =>
  intro hn;rcases Nat.lt_or_ge n 128 with h | h
  ·have hb:Lib.bitLen n≤7:=by
    have:∀ n:Fin 128,Lib.bitLen n.val≤7:=by decide +kernel
    exact this ⟨n,h⟩
   rw [gA h];simp only [List.length_singleton];omega
  ·have hs:=Lib.bitLen_shift 7 n h hn
   rw [show (2:Nat) ^ 7=128 from rfl] at hs;have hq:0<Lib.bitLen (n / 128):=by rw [Lib.bitLen_half (n / 128) (by omega) (by omega)];omega
   rw [j6 h,List.length_cons,ih (n / 128) (by omega) (by omega),hs];omega
theorem aW {n:Nat} (h:n<18446744073709551616):(aE n).length≤10:=by
 have:∀ k n:Nat,n<128 ^ (k + 1)→(aE n).length≤k + 1:=by
  intro k;induction k with
  | zero=>intro n hn;rw [gA (by simpa using hn)];simp
  | succ k ih =>
   intro n hn;rcases Nat.lt_or_ge n 128 with h | h
   ·rw [gA h];simp
   ·have:=ih (n / 128) (by rw [Nat.pow_succ] at hn;omega)
    rw [j6 h,List.length_cons];omega
 exact this 9 n (Nat.lt_trans h (by decide))
theorem DA (m:Nat):bits .or .u8 (IntKind.u8.wrap (m:Int)) 128=(((UInt8.ofNat (m % 128 + 128)).toNat:Nat):Int):=by
 have h:IntKind.u8.wrap (m:Int)=((m % 256:Nat):Int):=by rw [IntKind.wrap_u8];omega
 rw [h,Ec _ (by omega),gB (by omega)];omega
theorem Co (m:Nat) (h:m<128):(m:Int)=(((UInt8.ofNat m).toNat:Nat):Int):=by
 rw [gB (by omega)]
end Go.Proofs.YtaafkokfdgfabaaGreat
namespace Go.Proofs.YtaafkokfdgfabaaGreat
theorem xJ:∀ (m i acc:Nat) (rest:List UInt8),m * 128 ^ i<18446744073709551616→i≤9→(i=0∨0<m) →
  gz i acc (aE m ++ rest)=(acc + m * 128 ^ i,i + (aE m).length,0):=by
 intro m;induction m using Nat.strongRecOn with
 | ind m ih =>
  intro i acc rest hm hi h0;have h9:i=9→m≤1:=fun h=>by
   subst h;rcases Nat.lt_or_ge 1 m with h | h
   ·have:2 * 128 ^ 9≤m * 128 ^ 9:=Nat.mul_le_mul_right _ h
    simp only [Nat.reducePow] at this hm;omega
   ·exact h
  rcases Nat.lt_or_ge m 128 with h | h
  ·rw [gA h,List.cons_append,gz,gB (by omega),if_neg (by omega),if_pos h,if_neg (by omega)]
   rfl
  ·have hs:m / 128 * 128 ^ (i + 1)≤m * 128 ^ i:=by
    rw [Nat.pow_succ,Nat.mul_comm (128 ^ i),←Nat.mul_assoc];exact Nat.mul_le_mul_right _ (Nat.div_mul_le_self m 128)
   rw [j6 h,List.cons_append,gz,gB (by omega),if_neg (by omega),if_neg (by omega),ih (m / 128) (by omega) (i + 1) _ rest (by omega) (by omega) (by omega)];have e:acc + (m % 128 + 128 - 128) * 128 ^ i + m / 128 * 128 ^ (i + 1)=acc + m * 128 ^ i:=by
    rw [Nat.add_sub_cancel,Nat.pow_succ,Nat.mul_comm (128 ^ i) 128,←Nat.mul_assoc,Nat.add_assoc,←Nat.add_mul];congr 2
    omega
   rw [e,List.length_cons,Nat.add_assoc,Nat.add_comm 1]
theorem k7 (m:Nat) (hm:m<18446744073709551616) (rest:List UInt8):bM (aE m ++ rest)=(m,(aE m).length,0):=by
 unfold bM;rw [xJ m 0 0 rest (by simpa using hm) (by omega) (.inl rfl)];simp
theorem zM:∀ (m i acc j:Nat),m * 128 ^ i<18446744073709551616→i≤9→j<(aE m).length→gz i acc ((aE m).take j)=(0,0,2):=by
 intro m;induction m using Nat.strongRecOn with
 | ind m ih =>
  intro i acc j hm hi hj;rcases Nat.lt_or_ge m 128 with h | h
  ·rw [gA h] at hj ⊢
   simp only [List.length_singleton] at hj;obtain rfl:j=0:=by omega
   rfl
  ·have h9:i≠9:=fun e=>by
    subst e;have:128 * 128 ^ 9≤m * 128 ^ 9:=Nat.mul_le_mul_right _ h;simp only [Nat.reducePow] at this hm;omega
   have hs:m / 128 * 128 ^ (i + 1)≤m * 128 ^ i:=by
    rw [Nat.pow_succ,Nat.mul_comm (128 ^ i),←Nat.mul_assoc];exact Nat.mul_le_mul_right _ (Nat.div_mul_le_self m 128)
   rw [j6 h] at hj ⊢;rcases j with _ | j
   ·rfl
   ·rw [List.length_cons] at hj
    rw [List.take_succ_cons,gz,gB (by omega),if_neg (by omega),if_neg (by omega)];exact ih (m / 128) (by omega) (i + 1) _ j (by omega) (by omega) (by omega)
theorem sq:∀ (l:List UInt8) (i acc:Nat),(gz i acc l).2.2≠0→(gz i acc l).1=0∧(gz i acc l).2.1=0∧((gz i acc l).2.2=2∨(gz i acc l).2.2=3)
 | [],i,acc,_=>⟨rfl,rfl,.inl rfl⟩
 | c :: l,i,acc,h=>by
  rw [gz] at h ⊢;split
  ·exact ⟨rfl,rfl,.inr rfl⟩
  ·rename_i h1
   rw [if_neg h1] at h;split
   ·rename_i h2
    rw [if_pos h2] at h;split
    ·exact ⟨rfl,rfl,.inr rfl⟩
    ·rename_i h3
     rw [if_neg h3] at h;exact absurd rfl h
   ·rename_i h2
    rw [if_neg h2] at h;exact sq l _ _ h
theorem oT:∀ (l:List UInt8) (i acc:Nat),acc<128 ^ i→i≤9→(gz i acc l).2.2=0 →
  ∃ m,(gz i acc l).1=acc + m * 128 ^ i∧(gz i acc l).2.1=i + (aE m).length∧(aE m).length≤l.length∧aE m=l.take (aE m).length∧(i=0∨0<m)∧acc + m * 128 ^ i<18446744073709551616
 | [],i,acc,_,_,h=>by simp [gz] at h
 | c :: l,i,acc,ha,hi,h=>by
  have hc:=zK c;rw [gz] at h ⊢;split
  ·rename_i h1
   rw [if_pos h1] at h;simp at h
  ·rename_i h1
   rw [if_neg h1] at h;split
   ·rename_i h2
    rw [if_pos h2] at h;split
    ·rename_i h3
     rw [if_pos h3] at h;simp at h
    ·rename_i h3
     have hu:UInt8.ofNat c.toNat=c:=by simp
     have ht:=Dz (k:=i) hc hi (by omega);rw [Nat.mod_eq_of_lt h2] at ht;refine ⟨c.toNat,rfl,?_,?_,?_,by omega,by omega⟩
     ·rw [gA h2];rfl
     ·rw [gA h2];simp
     ·rw [gA h2,hu];simp
   ·rename_i h2
    rw [if_neg h2] at h;have h9:i≠9:=by omega
    have hlt:acc + (c.toNat - 128) * 128 ^ i<128 ^ (i + 1):=by
     rw [Nat.pow_succ];have:(c.toNat - 128) * 128 ^ i≤127 * 128 ^ i:=Nat.mul_le_mul_right _ (by omega);omega
    obtain ⟨m,e1,e2,e3,e4,e5,e6⟩:=oT l (i + 1) _ hlt (by omega) h;have hm:128≤c.toNat - 128 + m * 128:=by omega
    have hd:(c.toNat - 128 + m * 128) / 128=m:=by omega
    have hr:(c.toNat - 128 + m * 128) % 128=c.toNat - 128:=by omega
    have hv:aE (c.toNat - 128 + m * 128)=c :: aE m:=by
     rw [j6 hm,hd,hr,Nat.sub_add_cancel (by omega)];simp
    have he:acc + (c.toNat - 128) * 128 ^ i + m * 128 ^ (i + 1)=acc + (c.toNat - 128 + m * 128) * 128 ^ i:=by
     rw [Nat.pow_succ,Nat.mul_comm (128 ^ i) 128,←Nat.mul_assoc,Nat.add_assoc,←Nat.add_mul]
    refine ⟨c.toNat - 128 + m * 128,by rw [e1,he],?_,?_,?_,.inr (by omega),by omega⟩
    ·rw [e2,hv,List.length_cons];omega
    ·rw [hv,List.length_cons,List.length_cons];omega
    ·rw [hv,List.length_cons,List.take_succ_cons,←e4]
theorem iL {l:List UInt8} {n k:Nat} (h:bM l=(n,k,0)):n<18446744073709551616∧1≤k∧k≤l.length∧k=(aE n).length∧aE n=l.take k:=by
 have h0:(gz 0 0 l).2.2=0:=by
  have:=congrArg (fun x=>x.2.2) h;simpa [bM] using this
 obtain ⟨m,e1,e2,e3,e4,_,e6⟩:=oT l 0 0 (by simp) (by omega) h0;have hn:n=m:=by
  have:=congrArg (fun x=>x.1) h;simp only [bM] at this;rw [e1] at this;simp at this;omega
 have hk:k=(aE m).length:=by
  have:=congrArg (fun x=>x.2.1) h;simp only [bM] at this;rw [e2] at this;simp at this;omega
 subst hn hk;exact ⟨by simpa using e6,ii n,e3,rfl,e4⟩
theorem oU {l:List UInt8} {n k e:Nat} (h:bM l=(n,k,e)) (he:e≠0):n=0∧k=0∧(e=2∨e=3):=by
 unfold bM at h;have:=sq l 0 0 (by rw [h];exact he);rw [h] at this;exact this
end Go.Proofs.YtaafkokfdgfabaaGreat
namespace Go.Proofs.YtaafkokfdgfabaaGreat
open Go.RowKit
set_option linter.unusedVariables false
theorem bJ {w:World} {base base':Nat} {e:TypeId} {size n:Nat} {v:Value} {xs:List Value} (h:w.ownsRow base e size v n xs) (hb:base'≤base):w.ownsRow base' e size v n xs:=by
 refine ⟨h.1,?_⟩;rcases h.2 with h2 | ⟨g,cap,cur,h1,h2,h3⟩
 ·exact .inl h2
 ·exact .inr ⟨g,cap,cur,h1,Nat.le_trans hb h2,h3⟩
theorem qX (w:World) (base:Nat) (e:TypeId) (x:UInt8) (z:Int) (hz:z=(x.toNat:Int)) (hb:base≤w.heap.size):(w.alloc (.cells #[.int .u8 z] e)).ownsRow base e 1 (.slice (some ⟨w.heap.size,0,none⟩) 1 1) 1 (ab [x]):=by
 subst hz;exact World.ownsRow_lit w #[.int .u8 (x.toNat:Int)] 1 hb (by unfold maxLen;omega) (by simp)
end Go.Proofs.YtaafkokfdgfabaaGreat
namespace Go.Proofs.YtaafkokfdgfabaaGreat
open Go.RowKit
set_option linter.unusedVariables false
def jd:Nat→Nat→List UInt8
 | 0,_=>[]
 | k + 1,m=>UInt8.ofNat (m % 256) :: jd k (m / 256)
theorem dE:∀ (k m:Nat),(jd k m).length=k
 | 0,_=>rfl
 | k + 1,m=>by rw [jd,List.length_cons,dE k]
theorem ww:∀ (k m i:Nat),i<k→(jd k m)[i]?=some (UInt8.ofNat (m / 256 ^ i % 256))
 | k + 1,m,0,_=>by simp [jd]
 | k + 1,m,i + 1,h=>by
  rw [jd,List.getElem?_cons_succ,ww k (m / 256) i (by omega),Nat.div_div_eq_div_mul,Nat.pow_succ,Nat.mul_comm 256]
theorem iF:∀ (k m:Nat),m<256 ^ k→nB (jd k m)=m
 | 0,m,h=>by simp at h;subst h;rfl
 | k + 1,m,h=>by
  rw [Nat.pow_succ] at h;have ht:(UInt8.ofNat (m % 256)).toNat=m % 256:=by
   rw [UInt8.toNat_ofNat'];exact Nat.mod_eq_of_lt (by omega)
  rw [jd,nB,iF k (m / 256) (by omega),ht];omega
theorem oC:∀ (a b:List UInt8),a.length=b.length→nB a=nB b→a=b
 | [],[],_,_=>rfl
 | x :: a,y :: b,hl,hv=>by
  have hx:=x.toNat_lt;have hy:=y.toNat_lt;simp only [nB] at hv;have h1:x.toNat=y.toNat:=by omega
  have h2:nB a=nB b:=by omega
  rw [UInt8.toNat.inj h1,oC a b (by simpa using hl) h2]
 | [],_ :: _,h,_=>by simp at h
 | _ :: _,[],h,_=>by simp at h
theorem oV {l:List UInt8}:jd l.length (nB l)=l :=
 oC _ _ (dE _ _) (iF _ _ (by
  have:∀ l:List UInt8,nB l<256 ^ l.length:=by
   intro l;induction l with
   | nil=>simp [nB]
   | cons c l ih =>
    have:=c.toNat_lt;rw [nB,List.length_cons,Nat.pow_succ];omega
  exact this l))
def sr (k m i:Nat):List UInt8:=(List.range k).map fun j=>if j<i then UInt8.ofNat (m / 256 ^ j % 256) else 0
theorem iT (k m i:Nat):(sr k m i).length=k:=by simp [sr]
theorem je {k m i j:Nat} (h:j<k):(sr k m i)[j]?=some (if j<i then UInt8.ofNat (m / 256 ^ j % 256) else 0):=by
 simp [sr,h]
theorem qY {k m i:Nat} (h:i<k):(sr k m i).set i (UInt8.ofNat (m / 256 ^ i % 256))=sr k m (i + 1):=by
 apply List.ext_getElem?
 intro j;rw [List.getElem?_set,iT];by_cases hij:i=j
 ·subst hij
  rw [if_pos rfl,if_pos h,je h,if_pos (by omega)]
 ·rw [if_neg hij]
  by_cases hj:j<k
  ·rw [je hj,je hj]
   congr 2
   exact propext (by omega)
  ·rw [List.getElem?_eq_none (by rw [iT];omega),List.getElem?_eq_none (by rw [iT];omega)]
theorem qZ (k m:Nat):sr k m k=jd k m:=by
 apply List.ext_getElem?
 intro j;by_cases hj:j<k
 ·rw [je hj,ww k m j hj,if_pos hj]
 ·rw [List.getElem?_eq_none (by rw [iT];omega),List.getElem?_eq_none (by rw [dE];omega)]
theorem oW (k m:Nat):ab (sr k m 0)=List.replicate k (.int .u8 0):=by
 apply List.ext_getElem?
 intro j;rw [ab,List.getElem?_map,List.getElem?_replicate];by_cases hj:j<k
 ·rw [je hj,if_pos hj]
  rfl
 ·rw [List.getElem?_eq_none (by rw [iT];omega),if_neg hj]
  rfl
theorem ij (l:List UInt8) (j:Nat) (c:UInt8):ab (l.set j c)=(ab l).set j (.int .u8 (c.toNat:Int)):=by
 rw [ab,List.map_set];rfl
theorem oX {m i:Nat}:(m:Int) / 2 ^ (8 * i) % 256=((UInt8.ofNat (m / 256 ^ i % 256)).toNat:Int):=by
 have hp:(2:Nat) ^ (8 * i)=256 ^ i:=by rw [Nat.pow_mul]
 have ht:(UInt8.ofNat (m / 256 ^ i % 256)).toNat=m / 256 ^ i % 256:=by
  rw [UInt8.toNat_ofNat'];exact Nat.mod_eq_of_lt (by omega)
 rw [ht,←hp];simp
theorem cy:(Tryz.prog.info? 5).map (fun i=>(i.zero,i.size,i.bytes))=some (some (.int .u8 0),1,1):=by kernel_rfl
end Go.Proofs.YtaafkokfdgfabaaGreat
namespace Go.Proofs.YtaafkokfdgfabaaGreat
open Go.RowKit
set_option linter.unusedVariables false
set_option maxRecDepth 100000 in
theorem re (n s:Int) (w:World) (m k:Nat) (hn:n=(m:Int)) (hs:s=(k:Int)) (hm:m<18446744073709551616) (hk:k≤8) :
  Calls Tryz.prog 118 #[.int .u64 n,.int .i64 s,.bool false] w fun e w'=>∃ v,e=.returned v∧w'.ownsRow w.heap.size 5 1 v k (ab (jd k m))∧Below w.heap.size w w':=by
 subst hn hs;obtain ⟨i0,hi0,hz0,hz1,hz2⟩:=info_parts cy;have hk0:(0:Int)≤(k:Int):=by omega
 have hk8:(k:Int)≤8:=by omega
 go_enter Tryz.func118,Tryz.ntmps118
 go_wp2_with (at_make;refine wpList_make_full _ rfl _ _ 43 rfl w.heap.size 5 i0 (.int .u8 0) 1 Tryz.underlying43 hi0 hz0 hz1 .i64 .i64 _ _ k rfl rfl (by omega) (by omega) (by rw [hz2];omega) (by unfold maxLen;omega) (Nat.le_refl _) ?_;intro w1 hown1 hgrow1)
 have hb0:Below w.heap.size w w1:=(Below.refl _ _).grown hgrow1 (Nat.le_refl _) (by simp);have hown0:w1.ownsRow w.heap.size 5 1 (.slice (some ⟨w.heap.size,0,none⟩) k k) k (ab (sr k m 0)):=by
  rw [oW];have e:(madeCells (Value.int .u8 0).cells (k * 1)).toList=List.replicate k (.int .u8 0):=by
   rw [Nat.mul_one];exact toList_madeCells_one _ _
  rw [←e];exact hown1
 have Hown0:=Lib.hid hown0;clear hown1 hown0 hgrow1;go_loopw [15] (fun i wr=>∃ j:Nat,j≤k∧i=.int .i64 (j:Int)∧Below w.heap.size w wr∧Hid (wr.ownsRow w.heap.size 5 1 (.slice (some ⟨w.heap.size,0,none⟩) k k) k (ab (sr k m j)))) (fun i _=>k - (intOf i).toNat)
 case atStart=>exact ⟨0,by omega,rfl,hb0,Hown0⟩
 case round =>
  obtain ⟨j,hj,rfl,hbel,hown⟩:=hrel;by_cases hlt:j<k
  ·have hltI:decide ((j:Int)<(k:Int))=true:=decide_eq_true (by omega)
   have hc:=hown.out.cellAt j (by omega);have hc2:(ab (sr k m j))[j]?=some (.int .u8 0):=by
    rw [ab,List.getElem?_map,je hlt,if_neg (by omega)];rfl
   rw [hc2] at hc;have hf:=hown.out.frozenAt j;have hst:=hown.out.stored j (.int .u8 ((UInt8.ofNat (m / 256 ^ j % 256)).toNat:Int));rw [←ij,qY hlt,←oX] at hst;have Hst:=Lib.hid hst;clear hst hc2
   go_wp2
   go_roundw
   case rel=>exact ⟨j + 1,by omega,by go_num,hbel.setCell (Nat.le_refl _) _,Hst.out.1⟩
   case measure=>simp [intOf];omega
  ·obtain rfl:j=k:=by omega
   go_wp2
   go_ret
   exact ⟨_,rfl,by rw [←qZ];exact hown.out,hbel⟩
end Go.Proofs.YtaafkokfdgfabaaGreat
namespace Go.Proofs.YtaafkokfdgfabaaGreat
def gU (body:List UInt8):List UInt8:=aE body.length ++ body
def dG (body:List UInt8):List UInt8:=gU body ++ jd 4 (wv (gU body))
theorem kU (body:List UInt8):(gU body).length=(aE body.length).length + body.length:=by simp [gU]
theorem cL (body:List UInt8):(dG body).length=(aE body.length).length + body.length + 4:=by
 rw [dG,List.length_append,dE,kU]
def aP (b:List UInt8):List UInt8 × Nat × Nat :=
 if (bM b).2.2≠0 then ([],0,(bM b).2.2)
 else if 1048576<(bM b).1 then ([],0,4)
 else if b.length<(bM b).2.1 + (bM b).1 + 4 then ([],0,2)
 else if nB ((b.drop ((bM b).2.1 + (bM b).1)).take 4)≠wv (b.take ((bM b).2.1 + (bM b).1)) then ([],0,8)
 else ((b.drop (bM b).2.1).take (bM b).1,(bM b).2.1 + (bM b).1 + 4,0)
end Go.Proofs.YtaafkokfdgfabaaGreat
namespace Go.Proofs.YtaafkokfdgfabaaGreat
theorem tj {b body:List UInt8} {k:Nat} (h:aP b=(body,k,0)) :
  ∃ n j,bM b=(n,j,0)∧n≤1048576∧j + n + 4=k∧k≤b.length∧body=(b.drop j).take n∧body.length=n∧b.take k=dG body∧1≤j:=by
 rcases hv:bM b with ⟨n,j,e⟩
 unfold aP at h;rw [hv] at h;by_cases he:e=0
 ·subst he
  rw [if_neg (by simp)] at h;by_cases hn:1048576<n
  ·rw [if_pos hn] at h
   simp at h
  ·rw [if_neg hn] at h
   by_cases hl:b.length<j + n + 4
   ·rw [if_pos hl] at h
    simp at h
   ·rw [if_neg hl] at h
    by_cases hs:nB ((b.drop (j + n)).take 4)≠wv (b.take (j + n))
    ·rw [if_pos hs] at h
     simp at h
    ·rw [if_neg hs] at h
     simp only [Prod.mk.injEq,and_true] at h;obtain ⟨h1,h2⟩:=h;obtain ⟨g1,g2,g3,g4,g5⟩:=iL hv;have hs':nB ((b.drop (j + n)).take 4)=wv (b.take (j + n)):=by
      rcases Nat.decEq (nB ((b.drop (j + n)).take 4)) (wv (b.take (j + n))) with hh | hh
      ·exact absurd hh hs
      ·exact hh
     have hbl:body.length=n:=by rw [←h1,List.length_take,List.length_drop];omega
     refine ⟨n,j,rfl,by omega,h2,by omega,h1.symm,hbl,?_,g2⟩;have hH:gU body=b.take (j + n):=by
      rw [gU,hbl,g5,←h1,List.take_add]
     have h4:jd 4 (wv (gU body))=(b.drop (j + n)).take 4:=by
      apply oC
      ·rw [dE,List.length_take,List.length_drop];omega
      ·rw [iF 4 _ (oR _),hs',hH]
     rw [dG,h4,hH,←h2,List.take_add (i:=j + n)]
 ·rw [if_pos he] at h
  simp only [Prod.mk.injEq] at h;exact absurd h.2.2 he
theorem CM {b:List UInt8} {n j:Nat} (hv:bM b=(n,j,0)) (hl:j + n + 4≤b.length) :
  (dG ((b.drop j).take n)=b.take (j + n + 4))↔nB ((b.drop (j + n)).take 4)=wv (b.take (j + n)):=by
 obtain ⟨g1,g2,g3,g4,g5⟩:=iL hv;have hbl:((b.drop j).take n).length=n:=by rw [List.length_take,List.length_drop];omega
 have hH:gU ((b.drop j).take n)=b.take (j + n):=by rw [gU,hbl,g5,List.take_add]
 have hs4:b.take (j + n + 4)=b.take (j + n) ++ (b.drop (j + n)).take 4:=List.take_add;rw [dG,hH,hs4,List.append_cancel_left_eq];constructor
 ·intro h
  rw [←h,iF 4 _ (oR _)]
 ·intro h
  apply oC
  ·rw [dE,List.length_take,List.length_drop];omega
  ·rw [iF 4 _ (oR _),h]
end Go.Proofs.YtaafkokfdgfabaaGreat
