import Derived.Test.YtaafkokfdgfabaaGreatProg
import Derived.Below
import Derived.Laws.OwnMore
import Derived.Deep.AppendLies
import Derived.Deep.Draws
import Derived.Maps.AppendAt
import Derived.RegionTactic
import Derived.OwnWalk
import Derived.Laws.MakeOwn
import Derived.Laws.Bits64b
import Derived.Laws.BitsLemmas
import Derived.Lib.Hide
import Derived.Laws.BytesArg
import Derived.Laws.Rows
import Derived.Laws.Tables
import Derived.Laws.BitsAllLaws
import Derived.Lib.BitFns
import Derived.WalkKit
import Derived.Outline
set_option maxHeartbeats 8000000
set_option maxRecDepth 100000
set_option linter.unusedVariables false
set_option linter.unusedSimpArgs false
open List renaming length_cons→Iz,getElem?_eq_none→IC,getElem?_map→ID,length_take→IF,length_drop→II,ext_getElem?→IQ,getElem?_eq_getElem→IS,length_singleton→IT,take_succ_cons→IW,getElem?_take→IY,length_append→IZ,cons_append→I2,replicate→I4
open Nat renaming mul_le_mul_right→qq,pow_succ→IA,mod_two_eq_zero_or_one→IB,lt_or_ge→IE,mod_eq_of_lt→IG,mul_comm→IH,xor_assoc→IJ,mul_assoc→IK,xor_lt_two_pow→IL,add_assoc→IR,le_refl→IU,pow_le_pow_right→IV
open Option renaming map_some→I3,some→I5
open UInt8 renaming ofNat→Iy,toNat_ofNat'→IP
namespace Go.Proofs.YtaafkokfdgfabaaGreat
open Go.RowKit
open Lib (hid)
open Builtin renaming append_→IN
open Lib renaming bitLen→I0
open Region renaming wanted→IX
open Tryz renaming prog→I7
open Value renaming slice→IM,int→I6
open World renaming ownsRow_lit→I1
def mD(c:UInt8):Value:=.int .u8 (c.toNat:Int)
def ab(l:List UInt8):List Value:=l.map mD
theorem ap(l:List UInt8):(ab l).length=l.length:=by simp[ab]
theorem dL(l m:List UInt8):ab (l++m)=ab l++ab m:=by simp[ab]
theorem eP(l:List UInt8):∀u∈ab l,u.oneCell'=true:=by
 intro u hu;simp only[ab,List.mem_map] at hu;obtain⟨c,_,rfl⟩:=hu;rfl
theorem gS(a:Addr)(n:Nat):(a.add n).block=a.block:=by unfold Addr.add;split<;>rfl
theorem qZ(a:Addr)(i j:Nat):(a.add i).add j=a.add (i+j):=by
 unfold Addr.add;by_cases hi:i=0<;>by_cases hj:j=0<;>simp[hi,hj,IR]
def BS(w:World)(B:Nat)(A:Option Addr)(l:List UInt8):Prop :=
 0<l.length→∃ad,A=some ad∧ad.block<B∧∀j c,l[j]?=some c→w.cell? (ad.add j)=some (mD c)
section
variable {w w':World} {B B':Nat} {A:Option Addr} {l:List UInt8}
theorem BS.nil(w:World)(B:Nat)(A:Option Addr):BS w B A []:=fun h=>absurd h (by simp)
theorem BS.at_{k:Nat}(h:BS w B A l)(hk:k<l.length):∃ad,A=some ad∧ad.block<B∧w.cell? (ad.add k)=some (.int .u8 ((l[k]).toNat:Int)):=by
 obtain⟨ad,e,hb,hc⟩:=h (by omega);exact⟨ad,e,hb,hc k _ (IS hk)⟩
theorem BS.keep(h:BS w B A l)(hk:∀p:Addr,p.block<B→w'.cell? p=w.cell? p):BS w' B A l:=fun hn=>by
 obtain⟨ad,e,hb,hc⟩:=h hn;exact⟨ad,e,hb,fun j u hu=>(hk _ (by rw[gS];exact hb)).trans (hc j u hu)⟩
theorem BS.more(h:BS w B A l)(hB:B≤B'):BS w B' A l:=fun hn=>by
 obtain⟨ad,e,hb,hc⟩:=h hn;exact⟨ad,e,by omega,hc⟩
theorem BS.below(h:BS w B A l)(hb:Below B w w'):BS w' B A l:=h.keep fun _ hp=>hb.cell hp
theorem BS.drew(h:BS w B A l):BS w.drew B A l:=h
theorem BS.drewN(h:BS w B A l)(k:Nat):BS (w.drewN k) B A l:=h
theorem BS.alloc(h:BS w B A l)(hB:B≤w.heap.size)(o:Obj):BS (w.alloc o) B A l:=h.keep fun p hp=>World.cell?_alloc_lt w o p (by omega)
theorem BS.setCell(h:BS w B A l){p:Addr}(hB:B≤p.block)(u:Value):BS (w.setCell p u) B A l :=
 h.keep fun q hq=>World.cell?_setCell_other w p q u (fun e=>by subst e;omega)
theorem BS.grown(h:BS w B A l){row:Option Nat}(hg:w.grownBy w' row)(hB:B≤w.heap.size)(hr:∀g,row=some g→B≤g):BS w' B A l :=
 h.keep fun p hp=>World.cell?_of_block (hg.block p.block (by omega) (fun e=>by have:=hr _ e.symm;omega))
theorem BS.drop(h:BS w B A l){k cap:Nat}(hc:l.length≤cap) :
  BS w B (if cap=k then A else A.map (·.add k)) (l.drop k):=fun hn=>by
 rw[II] at hn;obtain⟨ad,rfl,hb,hcell⟩:=h (by omega);rw[if_neg (by omega)];refine⟨ad.add k,rfl,by rw[gS];exact hb,fun j u hu=>?_⟩;rw[qZ];exact hcell _ u (by rw[←hu,List.getElem?_drop])
theorem BS.take(h:BS w B A l)(k:Nat):BS w B A (l.take k):=fun hn=>by
 rw[IF] at hn;obtain⟨ad,rfl,hb,hcell⟩:=h (by omega);refine⟨ad,rfl,hb,fun j u hu=>?_⟩;rw[IY] at hu;split at hu
 ·exact hcell j u hu
 ·cases hu
theorem BS.of_own{base:Nat}{e:TypeId}{c n:Nat}(h:w.ownsRow base e 1 (.slice A n c) n (ab l)):BS w w.heap.size A l∧n=l.length:=by
 have hn:n=l.length:=by have:=h.1;rw[ap] at this;omega
 refine⟨fun hp=>?_,hn⟩;obtain⟨g,cap,hv,_,hlt⟩:=h.form (by omega);have hA:A=some ⟨g,0,none⟩:=by injection hv
 subst hA;exact⟨_,rfl,hlt,fun j c hj=>h.cells (g:=g) rfl j (mD c) (by rw[ab,ID,hj];rfl)⟩
end
theorem CG{a w w':World}(h:Below a.heap.size a w)(k:Below w.heap.size w w'):Below a.heap.size a w':=h.trans (k.mono h.size)
theorem cw{w:World}{base:Nat}{e:TypeId}{size n:Nat}{v:Value}{xs:List Value}(h:w.ownsRow base e size v n xs):∃A c,v=.slice A n c∧n≤c∧c≤maxLen:=by
 rcases h.2 with ⟨rfl,rfl⟩|⟨g,cap,_,rfl,_,_,hc,hm,_⟩
 ·exact⟨none,0,rfl,IU _,by unfold maxLen;omega⟩
 ·exact⟨_,cap,rfl,hc,hm⟩
section
variable {P:Program} (w:World)
theorem oI(base:Nat)(t ty e:TypeId)(i:TypeInfo)(size:Nat)(ht:P.underlying t=some (.slice e))(hi:P.info? e=some i)
  (v:Value) (n:Nat) (xs:List Value) (hown:w.ownsRow base e size v n xs) (c:Nat):(IN #[t,t] ty #[v,.slice none 0 c]).run P w=.ok v w:=by
 rcases hown.2 with ⟨rfl,rfl⟩|⟨g,cap,cur,rfl,_,_,hnc,_⟩
 ·simp[IN,run_underlying ht,sizeOf,typeInfo,hi,Builtin.lenOf,Builtin.firstCells]
 ·simp[IN,run_underlying ht,sizeOf,typeInfo,hi,Builtin.lenOf,Builtin.firstCells,hnc,storeCells]
theorem pH(base:Nat)(t ty e:TypeId)(i:TypeInfo)(z:Value)(bytes:Nat)(ht:P.underlying t=some (.slice e))(hi:P.info? e=some i)(hz:i.zero=some z)
  (hsize:i.size=1) (hby:i.bytes=bytes) (hzs:z.cells.size=1)
  (v:Value) (l:List UInt8) (hown:w.ownsRow base e 1 v l.length (ab l))
  (B:Nat) (A:Option Addr) (c:Nat) (m:List UInt8) (hr:BS w B A m)
  (h63:l.length+m.length≤maxLen) (hbytes:(l.length+m.length)*bytes≤140737488355328) (hbase:base≤w.heap.size) :
  ∃v' w',(IN #[t,t] ty #[v,.slice A m.length c]).run P w=.ok v' w'∧w'.ownsRow base e 1 v' (l++m).length (ab (l++m))∧w.grownBy w' v.ownBlock ∧
   (v'.ownBlock=v.ownBlock∨v'.ownBlock=some w.heap.size):=by
 have hlen:(l++m).length=l.length+m.length:=IZ;have hcs:ab (l++m)=ab l++ab m:=dL l m;rw[hlen,hcs];rcases A with _|ad
 ·have hm:m=[]:=by
   rcases m with _|⟨a,m⟩
   ·rfl
   ·obtain⟨ad,h,_⟩:=hr (by simp)
    cases h
  subst hm;exact⟨v,w,oI w base t ty e i 1 ht hi v _ _ hown c,by simpa[ab] using hown,World.grownBy.refl w _,.inl rfl⟩
 ·have hcells:∀j u,(ab m)[j]?=some u→w.cell? (ad.add j)=some u:=by
   intro j u hu;rcases Nat.eq_zero_or_pos m.length with h0|h0
   ·have hn:m=[]:=List.eq_nil_of_length_eq_zero h0
    subst hn;simp[ab] at hu
   ·obtain⟨ad',h,_,hc⟩:=hr h0
    injection h with h
    subst h;rw[ab,ID] at hu;rcases hm:m[j]? with _|x
    ·rw[hm] at hu;cases hu
    ·rw[hm] at hu
     simp only[I3,I5.injEq] at hu;rw[←hu];exact hc j x hm
  obtain⟨v',w',hrun,h2,h3,_,h5⟩:=run_append_own_at (P:=P) w base t ty e i z 1 bytes ht hi hz hsize hby hzs (by omega) v _ _ hown ad m.length c (ab m) (by rw[ap];omega) hcells (eP m) h63 hbytes hbase;exact⟨v',w',hrun,h2,h3,h5⟩
theorem im{o:Oper}{a:Act}{K:Act→World→Prop}{Q:Exit→Act→World→Prop}(s x:Operand)(t:TypeId)
  (ho:o.op=.call { callee:=.builtin .append,args:=#[s,x],argTypes:=#[t,t] })
  (base:Nat) (e:TypeId) (i:TypeInfo) (z:Value) (bytes:Nat) (ht:P.underlying t=some (.slice e)) (hi:P.info? e=some i) (hz:i.zero=some z)
  (hsize:i.size=1) (hby:i.bytes=bytes) (hzs:z.cells.size=1)
  (v:Value) (l:List UInt8) (hs:a.eval s=v) (hown:w.ownsRow base e 1 v l.length (ab l))
  (B:Nat) (A:Option Addr) (n c:Nat) (m:List UInt8) (hx:a.eval x=.slice A n c) (hn:n=m.length) (hr:BS w B A m)
  (h63:l.length+m.length≤maxLen) (hbytes:(l.length+m.length)*bytes≤140737488355328) (hbase:base≤w.heap.size)
  (h:∀A' c' w',w'.ownsRow base e 1 (.slice A' (l++m).length c') (l++m).length (ab (l++m))→w.grownBy w' v.ownBlock→((IM A' (l++m).length c').ownBlock=v.ownBlock∨(IM A' (l++m).length c').ownBlock=some w.heap.size)→K (a.put o.dst (.slice A' (l++m).length c')) w'):o.wp P a w K Q:=by
 subst hn;obtain⟨v',w',hrun,h2,h3,h4⟩:=pH (P:=P) w base t o.type e i z bytes ht hi hz hsize hby hzs v l hown B A c m hr h63 hbytes hbase;unfold Oper.wp execOp;simp only[ho,resolve,invoke,builtin,Sem.run_bind,Sem.run_pure,Result.andThen_ok,List.map_toArray,List.map_cons,List.map_nil,hs,hx,hrun];obtain⟨A',c',rfl,_⟩:=cw h2;exact h A' c' w' h2 h3 h4
theorem ae{ops:Array Oper}{rest:List Oper}{o:Oper}{a:Act}{Q:Exit→Act→World→Prop}(hgd:o.guard=none)(s x:Operand)(t:TypeId)
  (ho:o.op=.call { callee:=.builtin .append,args:=#[s,x],argTypes:=#[t,t] })
  (base:Nat) (e:TypeId) (i:TypeInfo) (z:Value) (bytes:Nat) (ht:P.underlying t=some (.slice e)) (hi:P.info? e=some i) (hz:i.zero=some z)
  (hsize:i.size=1) (hby:i.bytes=bytes) (hzs:z.cells.size=1)
  (v:Value) (l:List UInt8) (hs:a.eval s=v) (hown:w.ownsRow base e 1 v l.length (ab l))
  (B:Nat) (A:Option Addr) (n c:Nat) (m:List UInt8) (hx:a.eval x=.slice A n c) (hn:n=m.length) (hr:BS w B A m)
  (h63:l.length+m.length≤maxLen) (hbytes:(l.length+m.length)*bytes≤140737488355328) (hbase:base≤w.heap.size)
  (h:∀A' c' w',w'.ownsRow base e 1 (.slice A' (l++m).length c') (l++m).length (ab (l++m))→w.grownBy w' v.ownBlock→((IM A' (l++m).length c').ownBlock=v.ownBlock∨(IM A' (l++m).length c').ownBlock=some w.heap.size)→wpList P ops Q rest (a.put o.dst (.slice A' (l++m).length c')) w'):wpList P ops Q (o::rest) a w :=
 wpList_plain hgd fun _ hK=>im w s x t ho base e i z bytes ht hi hz hsize hby hzs v l hs hown B A n c m hx hn hr h63 hbytes hbase fun A' c' w' h2 h3 h4=>hK _ _ (h A' c' w' h2 h3 h4)
end
section
variable {P:Program} (w:World)
theorem oJ{ops:Array Oper}{o:Oper}{a:Act}{K:Act→World→Prop}{Q:Exit→Act→World→Prop}{E:Prop}(hgd:o.guard=none)(s x:Operand)(t:TypeId)
  (ho:o.op=.call { callee:=.builtin .append,args:=#[s,x],argTypes:=#[t,t] })
  (base:Nat) (e:TypeId) (i:TypeInfo) (z:Value) (bytes:Nat) (ht:P.underlying t=some (.slice e)) (hi:P.info? e=some i) (hz:i.zero=some z)
  (hsize:i.size=1) (hby:i.bytes=bytes) (hzs:z.cells.size=1)
  (v:Value) (l:List UInt8) (hs:a.eval s=v) (hown:w.ownsRow base e 1 v l.length (ab l))
  (B:Nat) (A:Option Addr) (n c:Nat) (m:List UInt8) (hx:a.eval x=.slice A n c) (hn:n=m.length) (hr:BS w B A m)
  (h63:l.length+m.length≤maxLen) (hbytes:(l.length+m.length)*bytes≤140737488355328) (hbase:base≤w.heap.size)
  (h:∀A' c' w',w'.ownsRow base e 1 (.slice A' (l++m).length c') (l++m).length (ab (l++m))→w.grownBy w' v.ownBlock→((IM A' (l++m).length c').ownBlock=v.ownBlock∨(IM A' (l++m).length c').ownBlock=some w.heap.size)→K (a.put o.dst (.slice A' (l++m).length c')) w') :
  if IX o (yielded ops a.tmps)=true then Oper.wp P o a w K Q else E:=by
 have hw:IX o (yielded ops a.tmps)=true:=by simp[IX,hgd]
 rw[if_pos hw];exact im w s x t ho base e i z bytes ht hi hz hsize hby hzs v l hs hown B A n c m hx hn hr h63 hbytes hbase h
end
theorem rf(w:World)(base:Nat)(e:TypeId)(hb:base≤w.heap.size)(a:Nat)(ha:w.heap.size=a):(w.alloc (.cells #[] e)).ownsRow base e 1 (.slice (some ⟨a,0,none⟩) 0 0) ([]:List UInt8).length (ab []):=by
 subst ha;exact I1 w #[] 0 hb (by unfold maxLen;omega) (by simp)
theorem BS.one(w:World)(x:UInt8)(t:TypeId):BS (w.alloc (.cells #[.int .u8 (x.toNat:Int)] t)) (w.heap.size+1) (some ⟨w.heap.size,0,none⟩) [x]:=fun _=>by
 refine⟨_,rfl,Nat.lt_succ_self _,fun j c hj=>cell_one_new w (mD x) t j (mD c) ?_⟩;show ([x].map mD)[j]?=some (mD c)
 rw[ID,hj];rfl
theorem BS.one'(w:World)(x:UInt8)(z:Int)(hz:z=(x.toNat:Int))(t:TypeId):BS (w.alloc (.cells #[.int .u8 z] t)) (w.heap.size+1) (some ⟨w.heap.size,0,none⟩) [x]:=by
 subst hz;exact BS.one w x t
theorem BS.lit(w:World)(l:List UInt8)(cs:Array Value)(h:cs=(ab l).toArray)(t:TypeId)(m:Nat×Nat):BS (w.alloc (.cells cs t m)) (w.heap.size+1) (some ⟨w.heap.size,0,none⟩) l:=fun _=>by
 subst h;refine⟨_,rfl,Nat.lt_succ_self _,fun j c hj=>?_⟩;have hp:(⟨w.heap.size,0,none⟩:Addr).add j=⟨w.heap.size,j,none⟩:=by unfold Addr.add;split<;>simp_all
 rw[hp,cell_of_row _ _ j _ t m (heap_alloc_new w _)];simp[ab,hj]
theorem BS.lit'(w:World)(l:List UInt8)(cs:Array Value)(h:cs=(ab l).toArray)(t:TypeId)(m:Nat×Nat)(a:Nat)(ha:w.heap.size=a):BS (w.alloc (.cells cs t m)) (a+1) (some ⟨a,0,none⟩) l:=by
 subst ha;exact BS.lit w l cs h t m
theorem bJ{P:Program}(src dst e:TypeId)(hs:P.underlying src=some (.slice e))(he:P.underlying e=some (.int .u8))(hd:P.underlying dst=some .string)
  (w:World) (B:Nat) (A:Option Addr) (l:List UInt8) (hb:BS w B A l) (n c:Nat) (hn:n=l.length) :
  (convert src dst (.slice A n c)).run P w=.ok (.string ⟨l.toArray⟩) w:=by
 subst hn;rcases A with _|ad
 ·have hl:l=[]:=by
   rcases l with _|⟨a,l⟩
   ·rfl
   ·obtain⟨ad,h,_⟩:=hb (by simp)
    cases h
  subst hl;exact run_convert_bytes_nil w src e hs he _ _ dst hd
 ·have hcells:∀j v,(ab l)[j]?=some v→w.cell? (ad.add j)=some v:=by
   intro j v hj;rw[ab,ID] at hj;rcases hm:l[j]? with _|x
   ·rw[hm] at hj;cases hj
   ·rw[hm] at hj
    simp only[I3,I5.injEq] at hj;rw[←hj];obtain⟨ad',h,_,hc⟩:=hb (by have:=(List.getElem?_eq_some_iff.1 hm).1;omega);injection h with h
    subst h;exact hc j x hm
  have hl:=run_loadCells_list (P:=P) w ad (ab l) hcells;rw[ap] at hl;have hm:ab l=(l.map fun c=>(c.toNat:Int)).map (I6 .u8):=by simp[ab,mD]
  rw[hm] at hl;rw[run_convert_bytes_string w src dst e _ _ c hs he hd,run_bytesToString w ad _ c _ hl,foldl_push_bytes];have hmm:(l.map fun c=>(c.toNat:Int)).map (fun n=>Iy n.toNat)=l:=by
   rw[List.map_map];conv=>rhs;rw[←List.map_id l]
   apply List.map_congr_left
   intro x _;simp
  rw[hmm];simp[ByteArray.empty,ByteArray.emptyWithCapacity];rfl
def aj(w:World)(g:Nat)(t:TypeId)(cs:Array Value):Prop:=w.heap[g]?=some (.cells cs t (0,0))
section
variable {w w':World} {g:Nat} {t:TypeId} {cs:Array Value}
theorem aj.lt(h:aj w g t cs):g<w.heap.size:=by
 rcases IE g w.heap.size with hlt|hge
 ·exact hlt
 ·unfold aj at h;rw[Array.getElem?_eq_none hge] at h;cases h
theorem aj.cell(h:aj w g t cs)(i:Nat):w.cell? ⟨g,i,none⟩=cs[i]?:=cell_of_row w g i cs t (0,0) h
theorem aj.frozen(h:aj w g t cs)(i:Nat):w.frozen? ⟨g,i,none⟩=false:=frozen_of_row w g i cs t h
theorem aj.new(w:World)(t:TypeId)(cs:Array Value)(a:Nat)(ha:w.heap.size=a):aj (w.alloc (.cells cs t)) a t cs:=by
 subst ha;exact heap_alloc_new w _
theorem aj.drew(h:aj w g t cs):aj w.drew g t cs:=h
theorem aj.drewN(h:aj w g t cs)(n:Nat):aj (w.drewN n) g t cs:=h
theorem aj.alloc(h:aj w g t cs)(o:Obj):aj (w.alloc o) g t cs:=(Below.heap_alloc w o g h.lt).trans h
theorem aj.set_(h:aj w g t cs)(i:Nat)(u:Value):aj (w.setCell ⟨g,i,none⟩ u) g t (cs.setIfInBounds i u):=heap_setCell_same w g i cs t u h
theorem aj.far(h:aj w g t cs){p:Addr}(hp:g≠p.block)(u:Value):aj (w.setCell p u) g t cs:=(Below.heap_setCell w p u g hp).trans h
theorem aj.row(h:aj w g t cs)(c':Array Value):aj (w.setRow g c') g t c':=setRow_heap w g cs c' t _ h
theorem aj.rowFar(h:aj w g t cs){k:Nat}(hk:g≠k)(c':Array Value):aj (w.setRow k c') g t cs:=(setRow_other w k g c' hk).trans h
theorem aj.below{B:Nat}(h:aj w g t cs)(hb:Below B w w')(hg:g<B):aj w' g t cs:=(hb.block g hg).trans h
end
theorem oK{B:Nat}{a w:World}(h:Below B a w){g:Nat}(hg:B≤g)(cs:Array Value):Below B a (w.setRow g cs) :=
 h.trans ⟨rfl,rfl,rfl,by simp,fun k hk=>setRow_other w g k cs (by omega)⟩
theorem an{w w':World}{base:Nat}{e:TypeId}{size n:Nat}{v:Value}{xs:List Value}(h:w.ownsRow base e size v n xs)(hb:Below w.heap.size w w'):w'.ownsRow base e size v n xs :=
 h.kept (row:=none) ⟨hb.os,hb.tape,hb.output,hb.size,fun i hi _=>hb.block i hi⟩ (by cases hv:v.ownBlock<;>simp)
theorem oL(n:Nat)(h:n<4294967296):IntKind.u32.wrap (n:Int)=(n:Int):=by
 simp[IntKind.wrap,IntKind.bits,IntKind.signed];omega
theorem qE(a:Nat)(ha:a<4294967296):(BitVec.ofInt 32 (a:Int)).toNat=a:=by
 rw[BitVec.ofInt_natCast,BitVec.toNat_ofNat];exact IG (by omega)
theorem jt(a b:Nat)(ha:a<4294967296)(hb:b<4294967296):bits .xor .u32 (a:Int) (b:Int)=((a ^^^ b:Nat):Int):=by
 have hx:a ^^^ b<2^32:=IL (by omega) (by omega);show IntKind.u32.wrap ((BitVec.ofInt 32 (a:Int) ^^^ BitVec.ofInt 32 (b:Int)).toNat:Int)=_
 rw[BitVec.toNat_xor,qE a ha,qE b hb,oL _ (by omega)]
theorem zy(a b:Nat)(ha:a<4294967296)(hb:b<4294967296):bits .and .u32 (a:Int) (b:Int)=((a &&& b:Nat):Int):=by
 have hx:a &&& b<2^32:=Nat.and_lt_two_pow _ (by omega);show IntKind.u32.wrap ((BitVec.ofInt 32 (a:Int) &&& BitVec.ofInt 32 (b:Int)).toNat:Int)=_
 rw[BitVec.toNat_and,qE a ha,qE b hb,oL _ (by omega)]
theorem CH(a:Nat)(ha:a<4294967296):bits .and .u32 (a:Int) 1=((a%2:Nat):Int):=by
 have h:=zy a 1 ha (by omega);rw[Nat.and_one_is_mod] at h;exact h
theorem sY(a:Nat)(ha:a<4294967296):bits .and .u32 (a:Int) 15=((a%16:Nat):Int):=by
 have h:=zy a 15 ha (by omega);rw[show a &&& 15=a%16 from Nat.and_two_pow_sub_one_eq_mod a 4] at h;exact h
def LS(w:World)(B:Nat)(A:Option Addr)(ls:List (List UInt8)):Prop :=
 0<ls.length→∃ad,A=some ad∧ad.block<B∧∀j l,ls[j]?=some l→∃A' c',w.cell? (ad.add j)=some (.slice A' l.length c')∧l.length≤c'∧BS w B A' l
section
variable {w w':World} {B B':Nat} {A:Option Addr} {ls:List (List UInt8)}
theorem LS.nil(w:World)(B:Nat)(A:Option Addr):LS w B A []:=fun h=>absurd h (by simp)
theorem LS.at_{k:Nat}(h:LS w B A ls)(hk:k<ls.length):∃ad A' c',A=some ad∧ad.block<B∧w.cell? (ad.add k)=some (.slice A' (ls[k]).length c')∧(ls[k]).length≤c'∧BS w B A' ls[k]:=by
 obtain⟨ad,e,hb,hc⟩:=h (by omega);obtain⟨A',c',h1,h2,h3⟩:=hc k _ (IS hk);exact⟨ad,A',c',e,hb,h1,h2,h3⟩
theorem LS.keep(h:LS w B A ls)(hk:∀p:Addr,p.block<B→w'.cell? p=w.cell? p):LS w' B A ls:=fun hn=>by
 obtain⟨ad,e,hb,hc⟩:=h hn;refine⟨ad,e,hb,fun j l hj=>?_⟩;obtain⟨A',c',h1,h2,h3⟩:=hc j l hj;exact⟨A',c',(hk _ (by rw[gS];exact hb)).trans h1,h2,h3.keep hk⟩
theorem LS.more(h:LS w B A ls)(hB:B≤B'):LS w B' A ls:=fun hn=>by
 obtain⟨ad,e,hb,hc⟩:=h hn;refine⟨ad,e,by omega,fun j l hj=>?_⟩;obtain⟨A',c',h1,h2,h3⟩:=hc j l hj;exact⟨A',c',h1,h2,h3.more hB⟩
theorem LS.below(h:LS w B A ls)(hb:Below B w w'):LS w' B A ls:=h.keep fun _ hp=>hb.cell hp
theorem LS.take(h:LS w B A ls)(k:Nat):LS w B A (ls.take k):=fun hn=>by
 rw[IF] at hn;obtain⟨ad,rfl,hb,hc⟩:=h (by omega);refine⟨ad,rfl,hb,fun j u hu=>?_⟩;rw[IY] at hu;split at hu
 ·exact hc j u hu
 ·cases hu
end
def rg:Nat:=2197175160
def sh(x:Nat):Nat:=if x%2=1 then x/2 ^^^ rg else x/2
def kB:Nat→Nat→Nat
 |0,x=>x
 |k+1,x=>kB k (sh x)
def fF:Nat:=4294967295
theorem sF(a b c:Nat):a ^^^ (b ^^^ c)=b ^^^ (a ^^^ c):=by rw[←IJ,Nat.xor_comm a b,IJ]
theorem u7(a b:Nat):(a ^^^ b)%2=(a+b)%2:=by
 have h:(a ^^^ b)%2^1=(a%2^1) ^^^ (b%2^1):=Nat.xor_mod_two_pow;rw[Nat.pow_one] at h;rw[h];rcases IB a with ha|ha<;>rcases IB b with hb|hb<;>rw[ha,hb]
 ·have:(a+b)%2=0:=by omega
  rw[this];rfl
 ·have:(a+b)%2=1:=by omega
  rw[this];rfl
 ·have:(a+b)%2=1:=by omega
  rw[this];rfl
 ·have:(a+b)%2=0:=by omega
  rw[this];rfl
theorem vb(a b:Nat):(a ^^^ b)/2=a/2 ^^^ b/2:=by
 have h:(a ^^^ b)/2^1=(a/2^1) ^^^ (b/2^1):=Nat.xor_div_two_pow;rwa [Nat.pow_one] at h
theorem Gh(a b:Nat):sh (a ^^^ b)=sh a ^^^ sh b:=by
 unfold sh;rw[u7,vb];rcases IB a with ha|ha<;>rcases IB b with hb|hb
 ·rw[if_neg (by omega),if_neg (by omega),if_neg (by omega)]
 ·rw[if_pos (by omega),if_neg (by omega),if_pos (by omega),IJ]
 ·rw[if_pos (by omega),if_pos (by omega),if_neg (by omega),IJ,IJ,Nat.xor_comm rg]
 ·rw[if_neg (by omega),if_pos (by omega),if_pos (by omega),IJ,sF rg,Nat.xor_self,Nat.xor_zero]
theorem zA:∀(k a b:Nat),kB k (a ^^^ b)=kB k a ^^^ kB k b
 |0,_,_=>rfl
 |k+1,a,b=>by rw[kB,Gh,zA k,kB,kB]
theorem zB:∀(j k x:Nat),kB (j+k) x=kB k (kB j x)
 |0,k,x=>by rw[Nat.zero_add];rfl
 |j+1,k,x=>by rw[Nat.add_right_comm,kB,zB j k,kB]
theorem CI{x:Nat}(h:x<4294967296):sh x<4294967296:=by
 unfold sh;split
 ·have:x/2 ^^^ rg<2^32:=IL (by omega) (by unfold rg;omega)
  omega
 ·omega
theorem rh:∀(k:Nat) {x:Nat},x<4294967296→kB k x<4294967296
 |0,_,h=>h
 |k+1,_,h=>rh k (CI h)
theorem AF(x:Nat):sh (2*x)=x:=by
 unfold sh;rw[if_neg (by omega)];omega
theorem zC:∀(k x:Nat),kB k (2^k*x)=x
 |0,x=>by simp[kB]
 |k+1,x=>by rw[kB,IA,IH (2^k) 2,IK,AF,zC k]
theorem zD:∀(k a q:Nat),a<2^k→a ^^^ (2^k*q)=a+2^k*q
 |0,a,q,h=>by
  obtain rfl:a=0:=by simpa using h
  simp
 |k+1,a,q,h=>by
  have e:2^(k+1)*q=2*(2^k*q):=by rw[IA,IH (2^k) 2,IK]
  rw[IA] at h;have ih:=zD k (a/2) q (by omega);have h1:=vb a (2*(2^k*q));have h2:=u7 a (2*(2^k*q));rw[show 2*(2^k*q)/2=2^k*q by omega,ih] at h1;rw[e];omega
theorem AG(k x:Nat):x=x%2^k ^^^ (2^k*(x/2^k)):=by
 rw[zD k _ _ (Nat.mod_lt _ (Nat.two_pow_pos k))];exact (Nat.mod_add_div x (2^k)).symm
theorem CJ(x:Nat):kB 4 x=kB 4 (x%16) ^^^ x/16:=by
 conv=>lhs;rw[AG 4 x]
 rw[zA,zC]
theorem EP(x:Nat):kB 8 x=kB 4 (kB 4 (x%16) ^^^ x/16):=by rw[←CJ,←zB]
def nN(w:Nat)(l:List UInt8):Nat:=l.foldl (fun w c=>kB 8 (w ^^^ c.toNat)) w
def sZ(s:Nat)(l:List UInt8):Nat:=nN (s ^^^ fF) l ^^^ fF
def vc(l:List UInt8):Nat:=sZ 0 l
def pF:List UInt8→Nat
 |[]=>0
 |c::l=>c.toNat+256*pF l
theorem vd:∀(l:List UInt8) {w:Nat},w<4294967296→nN w l<4294967296
 |[],_,h=>h
 |c::l,w,h=>vd l (rh 8 (by
   have hc:c.toNat<256:=c.toNat_lt;have:w ^^^ c.toNat<2^32:=IL (by omega) (by omega);omega))
theorem gC:fF<4294967296:=by unfold fF;omega
theorem iM{a b:Nat}(ha:a<4294967296)(hb:b<4294967296):a ^^^ b<4294967296:=by
 have:a ^^^ b<2^32:=IL (by omega) (by omega);omega
theorem CK{s:Nat}(h:s<4294967296)(l:List UInt8):sZ s l<4294967296:=iM (vd l (iM h gC)) gC
theorem pI(l:List UInt8):vc l<4294967296:=CK (by omega) l
def iN(i acc:Nat):List UInt8→Nat×Nat×Nat
 |[]=>(0,0,2)
 |c::l =>
  if i=9∧1<c.toNat then (0,0,3)
  else if c.toNat<128 then (if c.toNat=0∧0<i then (0,0,3) else (acc+c.toNat*128^i,i+1,0))
  else iN (i+1) (acc+(c.toNat-128)*128^i) l
def cC(l:List UInt8):Nat×Nat×Nat:=iN 0 0 l
theorem CL(c:UInt8):c.toNat<256:=c.toNat_lt
theorem jZ(n:Nat)(h:n<18446744073709551616):IntKind.u64.wrap (n:Int)=(n:Int):=by
 simp[IntKind.wrap,IntKind.bits,IntKind.signed];omega
theorem AH(d:Nat)(hd:d<256):bits .andNot .u8 (d:Int) 128=((d%128:Nat):Int):=by
 have h:∀d:Fin 256,bits .andNot .u8 ((d.val:Nat):Int) 128=((d.val%128:Nat):Int):=by decide +kernel
 exact h ⟨d,hd⟩
theorem GY(d:Nat)(hd:d<256):bits .or .u8 (d:Int) 128=((d%128+128:Nat):Int):=by
 have h:∀d:Fin 256,bits .or .u8 ((d.val:Nat):Int) 128=((d.val%128+128:Nat):Int):=by decide +kernel
 exact h ⟨d,hd⟩
theorem xK(k:Nat):(2:Nat)^(7*k)=128^k:=by rw[Nat.pow_mul]
theorem s8{k:Nat}(hk:k≤8):128^k≤72057594037927936:=by
 have:=IV (n:=128) (by omega) hk;simpa using this
theorem ri{k:Nat}(hk:k≤9):128^k≤9223372036854775808:=by
 have:=IV (n:=128) (by omega) hk;simpa using this
theorem It{acc k d:Nat}(hacc:acc<128^k)(hd:d<256)(hk:k≤9)(h9:k=9→d≤1) :
  bits .or .u64 (acc:Int) (IntKind.u64.wrap (IntKind.u64.wrap (bits .andNot .u8 (d:Int) 128)*2^(7*k)))=((acc+d%128*128^k:Nat):Int):=by
 have hp:((2:Int)^(7*k))=((128^k:Nat):Int):=by rw[←xK];simp
 have hm:d%128*128^k+128^k≤18446744073709551616:=by
  rcases IE k 9 with h|h
  ·have h1:=s8 (k:=k) (by omega)
   have h2:d%128*128^k≤127*128^k:=qq _ (by omega);omega
  ·have h1:=ri hk
   have h2:d%128*128^k≤1*128^k:=qq _ (by have:=h9 (by omega);omega);omega
 rw[AH d hd,hp,jZ _ (by omega),←Int.natCast_mul,jZ _ (by omega),bits_or_u64_nat _ _ (by omega) (by omega)];congr 1
 rw[Nat.or_comm,←xK,IH,←Nat.two_pow_add_eq_or_of_lt (by rw[xK];exact hacc),Nat.add_comm]
theorem Gi{k d:Nat}(hd:d<256)(hk:k≤9)(h9:k=9→d≤1):d%128*128^k+128^k≤18446744073709551616:=by
 rcases IE k 9 with h|h
 ·have h1:=s8 (k:=k) (by omega)
  have h2:d%128*128^k≤127*128^k:=qq _ (by omega);omega
 ·have h1:=ri hk
  have h2:d%128*128^k≤1*128^k:=qq _ (by have:=h9 (by omega);omega);omega
section
variable {l:List UInt8} {k acc:Nat}
theorem pJ(h:k<l.length):iN k acc (l.drop k) =
  if k=9∧1<(l[k]).toNat then (0,0,3)
  else if (l[k]).toNat<128 then (if (l[k]).toNat=0∧0<k then (0,0,3) else (acc+(l[k]).toNat*128^k,k+1,0))
  else iN (k+1) (acc+((l[k]).toNat-128)*128^k) (l.drop (k+1)):=by
 rw[List.drop_eq_getElem_cons h,iN]
theorem CM(h:l.length≤k):iN k acc (l.drop k)=(0,0,2):=by
 rw[List.drop_eq_nil_of_le h,iN]
theorem AI{d:Nat}(h:k<l.length)(hd:(l[k]).toNat=d)(h1:128≤d)(h2:k<9):iN k acc (l.drop k)=iN (k+1) (acc+d%128*128^k) (l.drop (k+1)):=by
 have:=CL l[k];rw[pJ h,if_neg (by omega),if_neg (by omega),hd,show d%128=d-128 by omega]
theorem pK{d:Nat}(h:k<l.length)(hd:(l[k]).toNat=d)(h1:(k=9∧1<d)∨(d=0∧0<k)):iN k acc (l.drop k)=(0,0,3):=by
 rw[pJ h,hd];split
 ·rfl
 ·rw[if_pos (by omega),if_pos (by omega)]
theorem pL{d:Nat}(h:k<l.length)(hd:(l[k]).toNat=d)(h1:¬(k=9∧1<d))(h2:d<128)(h3:¬(d=0∧0<k)):iN k acc (l.drop k)=(acc+d%128*128^k,k+1,0):=by
 rw[pJ h,hd,if_neg h1,if_pos h2,if_neg h3,IG h2]
theorem EQ{d:Nat}(ha:acc<128^k):acc+d%128*128^k<128^(k+1):=by
 rw[IA];have:d%128*128^k≤127*128^k:=qq _ (by omega);omega
end
def aC(n:Nat):List UInt8:=if n<128 then [Iy n] else Iy (n%128+128)::aC (n/128)
termination_by n
decreasing_by omega
theorem io{n:Nat}(h:n<128):aC n=[Iy n]:=by rw[aC,if_pos h]
theorem kD{n:Nat}(h:128≤n):aC n=Iy (n%128+128)::aC (n/128):=by rw[aC,if_neg (by omega)]
theorem iO(n:Nat):0<(aC n).length:=by
 rcases IE n 128 with h|h
 ·rw[io h];simp
 ·rw[kD h];simp
theorem hU{n:Nat}(h:n<256):(Iy n).toNat=n:=by
 rw[IP];exact IG (by omega)
theorem AJ:∀n:Nat,n<18446744073709551616→(aC n).length=max 1 ((I0 n+6)/7):=by
 intro n;induction n using Nat.strongRecOn with
 |ind n ih =>
  intro hn;rcases IE n 128 with h|h
  ·have hb:I0 n≤7:=by
    have:∀n:Fin 128,I0 n.val≤7:=by decide +kernel
    exact this ⟨n,h⟩
   rw[io h];simp only[IT];omega
  ·have hs:=Lib.bitLen_shift 7 n h hn
   rw[show (2:Nat)^7=128 from rfl] at hs;have hq:0<I0 (n/128):=by rw[Lib.bitLen_half (n/128) (by omega) (by omega)];omega
   rw[kD h,Iz,ih (n/128) (by omega) (by omega),hs];omega
theorem aO{n:Nat}(h:n<18446744073709551616):(aC n).length≤10:=by
 have:∀k n:Nat,n<128^(k+1)→(aC n).length≤k+1:=by
  intro k;induction k with
  |zero=>intro n hn;rw[io (by simpa using hn)];simp
  |succ k ih =>
   intro n hn;rcases IE n 128 with h|h
   ·rw[io h];simp
   ·have:=ih (n/128) (by rw[IA] at hn;omega)
    rw[kD h,Iz];omega
 exact this 9 n (Nat.lt_trans h (by decide))
theorem Gj(m:Nat):bits .or .u8 (IntKind.u8.wrap (m:Int)) 128=(((Iy (m%128+128)).toNat:Nat):Int):=by
 have h:IntKind.u8.wrap (m:Int)=((m%256:Nat):Int):=by rw[IntKind.wrap_u8];omega
 rw[h,GY _ (by omega),hU (by omega)];omega
theorem zE(m:Nat)(h:m<128):(m:Int)=(((Iy m).toNat:Nat):Int):=by
 rw[hU (by omega)]
theorem AK:∀(m i acc:Nat) (rest:List UInt8),m*128^i<18446744073709551616→i≤9→(i=0∨0<m) →
  iN i acc (aC m++rest)=(acc+m*128^i,i+(aC m).length,0):=by
 intro m;induction m using Nat.strongRecOn with
 |ind m ih =>
  intro i acc rest hm hi h0;have h9:i=9→m≤1:=fun h=>by
   subst h;rcases IE 1 m with h|h
   ·have:2*128^9≤m*128^9:=qq _ h
    simp only[Nat.reducePow] at this hm;omega
   ·exact h
  rcases IE m 128 with h|h
  ·rw[io h,I2,iN,hU (by omega),if_neg (by omega),if_pos h,if_neg (by omega)]
   rfl
  ·have hs:m/128*128^(i+1)≤m*128^i:=by
    rw[IA,IH (128^i),←IK];exact qq _ (Nat.div_mul_le_self m 128)
   rw[kD h,I2,iN,hU (by omega),if_neg (by omega),if_neg (by omega),ih (m/128) (by omega) (i+1) _ rest (by omega) (by omega) (by omega)];have e:acc+(m%128+128-128)*128^i+m/128*128^(i+1)=acc+m*128^i:=by
    rw[Nat.add_sub_cancel,IA,IH (128^i) 128,←IK,IR,←Nat.add_mul];congr 2
    omega
   rw[e,Iz,IR,Nat.add_comm 1]
theorem mT(m:Nat)(hm:m<18446744073709551616)(rest:List UInt8):cC (aC m++rest)=(m,(aC m).length,0):=by
 unfold cC;rw[AK m 0 0 rest (by simpa using hm) (by omega) (.inl rfl)];simp
theorem CN:∀(m i acc j:Nat),m*128^i<18446744073709551616→i≤9→j<(aC m).length→iN i acc ((aC m).take j)=(0,0,2):=by
 intro m;induction m using Nat.strongRecOn with
 |ind m ih =>
  intro i acc j hm hi hj;rcases IE m 128 with h|h
  ·rw[io h] at hj ⊢
   simp only[IT] at hj;obtain rfl:j=0:=by omega
   rfl
  ·have h9:i≠9:=fun e=>by
    subst e;have:128*128^9≤m*128^9:=qq _ h;simp only[Nat.reducePow] at this hm;omega
   have hs:m/128*128^(i+1)≤m*128^i:=by
    rw[IA,IH (128^i),←IK];exact qq _ (Nat.div_mul_le_self m 128)
   rw[kD h] at hj ⊢;rcases j with _|j
   ·rfl
   ·rw[Iz] at hj
    rw[IW,iN,hU (by omega),if_neg (by omega),if_neg (by omega)];exact ih (m/128) (by omega) (i+1) _ j (by omega) (by omega) (by omega)
theorem vf:∀(l:List UInt8) (i acc:Nat),(iN i acc l).2.2≠0→(iN i acc l).1=0∧(iN i acc l).2.1=0∧((iN i acc l).2.2=2∨(iN i acc l).2.2=3)
 |[],i,acc,_=>⟨rfl,rfl,.inl rfl⟩
 |c::l,i,acc,h=>by
  rw[iN] at h ⊢;split
  ·exact⟨rfl,rfl,.inr rfl⟩
  ·rename_i h1
   rw[if_neg h1] at h;split
   ·rename_i h2
    rw[if_pos h2] at h;split
    ·exact⟨rfl,rfl,.inr rfl⟩
    ·rename_i h3
     rw[if_neg h3] at h;exact absurd rfl h
   ·rename_i h2
    rw[if_neg h2] at h;exact vf l _ _ h
theorem rj:∀(l:List UInt8) (i acc:Nat),acc<128^i→i≤9→(iN i acc l).2.2=0 →
  ∃m,(iN i acc l).1=acc+m*128^i∧(iN i acc l).2.1=i+(aC m).length∧(aC m).length≤l.length∧aC m=l.take (aC m).length∧(i=0∨0<m)∧acc+m*128^i<18446744073709551616
 |[],i,acc,_,_,h=>by simp[iN] at h
 |c::l,i,acc,ha,hi,h=>by
  have hc:=CL c;rw[iN] at h ⊢;split
  ·rename_i h1
   rw[if_pos h1] at h;simp at h
  ·rename_i h1
   rw[if_neg h1] at h;split
   ·rename_i h2
    rw[if_pos h2] at h;split
    ·rename_i h3
     rw[if_pos h3] at h;simp at h
    ·rename_i h3
     have hu:Iy c.toNat=c:=by simp
     have ht:=Gi (k:=i) hc hi (by omega);rw[IG h2] at ht;refine⟨c.toNat,rfl,?_,?_,?_,by omega,by omega⟩
     ·rw[io h2];rfl
     ·rw[io h2];simp
     ·rw[io h2,hu];simp
   ·rename_i h2
    rw[if_neg h2] at h;have h9:i≠9:=by omega
    have hlt:acc+(c.toNat-128)*128^i<128^(i+1):=by
     rw[IA];have:(c.toNat-128)*128^i≤127*128^i:=qq _ (by omega);omega
    obtain⟨m,e1,e2,e3,e4,e5,e6⟩:=rj l (i+1) _ hlt (by omega) h;have hm:128≤c.toNat-128+m*128:=by omega
    have hd:(c.toNat-128+m*128)/128=m:=by omega
    have hr:(c.toNat-128+m*128)%128=c.toNat-128:=by omega
    have hv:aC (c.toNat-128+m*128)=c::aC m:=by
     rw[kD hm,hd,hr,Nat.sub_add_cancel (by omega)];simp
    have he:acc+(c.toNat-128)*128^i+m*128^(i+1)=acc+(c.toNat-128+m*128)*128^i:=by
     rw[IA,IH (128^i) 128,←IK,IR,←Nat.add_mul]
    refine⟨c.toNat-128+m*128,by rw[e1,he],?_,?_,?_,.inr (by omega),by omega⟩
    ·rw[e2,hv,Iz];omega
    ·rw[hv,Iz,Iz];omega
    ·rw[hv,Iz,IW,←e4]
theorem j7{l:List UInt8}{n k:Nat}(h:cC l=(n,k,0)):n<18446744073709551616∧1≤k∧k≤l.length∧k=(aC n).length∧aC n=l.take k:=by
 have h0:(iN 0 0 l).2.2=0:=by
  have:=congrArg (fun x=>x.2.2) h;simpa[cC] using this
 obtain⟨m,e1,e2,e3,e4,_,e6⟩:=rj l 0 0 (by simp) (by omega) h0;have hn:n=m:=by
  have:=congrArg (fun x=>x.1) h;simp only[cC] at this;rw[e1] at this;simp at this;omega
 have hk:k=(aC m).length:=by
  have:=congrArg (fun x=>x.2.1) h;simp only[cC] at this;rw[e2] at this;simp at this;omega
 subst hn hk;exact⟨by simpa using e6,iO n,e3,rfl,e4⟩
theorem rk{l:List UInt8}{n k e:Nat}(h:cC l=(n,k,e))(he:e≠0):n=0∧k=0∧(e=2∨e=3):=by
 unfold cC at h;have:=vf l 0 0 (by rw[h];exact he);rw[h] at this;exact this
theorem bP{w:World}{base base':Nat}{e:TypeId}{size n:Nat}{v:Value}{xs:List Value}(h:w.ownsRow base e size v n xs)(hb:base'≤base):w.ownsRow base' e size v n xs:=by
 refine⟨h.1,?_⟩;rcases h.2 with h2|⟨g,cap,cur,h1,h2,h3⟩
 ·exact .inl h2
 ·exact .inr ⟨g,cap,cur,h1,Nat.le_trans hb h2,h3⟩
theorem oM(w:World)(base:Nat)(e:TypeId)(x:UInt8)(z:Int)(hz:z=(x.toNat:Int))(hb:base≤w.heap.size):(w.alloc (.cells #[.int .u8 z] e)).ownsRow base e 1 (.slice (some ⟨w.heap.size,0,none⟩) 1 1) 1 (ab [x]):=by
 subst hz;exact I1 w #[.int .u8 (x.toNat:Int)] 1 hb (by unfold maxLen;omega) (by simp)
def i7:Nat→Nat→List UInt8
 |0,_=>[]
 |k+1,m=>Iy (m%256)::i7 k (m/256)
theorem cJ:∀(k m:Nat),(i7 k m).length=k
 |0,_=>rfl
 |k+1,m=>by rw[i7,Iz,cJ k]
theorem tW:∀(k m i:Nat),i<k→(i7 k m)[i]?=some (Iy (m/256^i%256))
 |k+1,m,0,_=>by simp[i7]
 |k+1,m,i+1,h=>by
  rw[i7,List.getElem?_cons_succ,tW k (m/256) i (by omega),Nat.div_div_eq_div_mul,IA,IH 256]
theorem j0:∀(k m:Nat),m<256^k→pF (i7 k m)=m
 |0,m,h=>by simp at h;subst h;rfl
 |k+1,m,h=>by
  rw[IA] at h;have ht:(Iy (m%256)).toNat=m%256:=by
   rw[IP];exact IG (by omega)
  rw[i7,pF,j0 k (m/256) (by omega),ht];omega
theorem qF:∀(a b:List UInt8),a.length=b.length→pF a=pF b→a=b
 |[],[],_,_=>rfl
 |x::a,y::b,hl,hv=>by
  have hx:=x.toNat_lt;have hy:=y.toNat_lt;simp only[pF] at hv;have h1:x.toNat=y.toNat:=by omega
  have h2:pF a=pF b:=by omega
  rw[UInt8.toNat.inj h1,qF a b (by simpa using hl) h2]
 |[],_::_,h,_=>by simp at h
 |_::_,[],h,_=>by simp at h
theorem rm{l:List UInt8}:i7 l.length (pF l)=l :=
 qF _ _ (cJ _ _) (j0 _ _ (by
  have:∀l:List UInt8,pF l<256^l.length:=by
   intro l;induction l with
   |nil=>simp[pF]
   |cons c l ih =>
    have:=c.toNat_lt;rw[pF,Iz,IA];omega
  exact this l))
def vg(k m i:Nat):List UInt8:=(List.range k).map fun j=>if j<i then Iy (m/256^j%256) else 0
theorem ki(k m i:Nat):(vg k m i).length=k:=by simp[vg]
theorem kE{k m i j:Nat}(h:j<k):(vg k m i)[j]?=some (if j<i then Iy (m/256^j%256) else 0):=by
 simp[vg,h]
theorem tX{k m i:Nat}(h:i<k):(vg k m i).set i (Iy (m/256^i%256))=vg k m (i+1):=by
 apply IQ
 intro j;rw[List.getElem?_set,ki];by_cases hij:i=j
 ·subst hij
  rw[if_pos rfl,if_pos h,kE h,if_pos (by omega)]
 ·rw[if_neg hij]
  by_cases hj:j<k
  ·rw[kE hj,kE hj]
   congr 2
   exact propext (by omega)
  ·rw[IC (by rw[ki];omega),IC (by rw[ki];omega)]
theorem tY(k m:Nat):vg k m k=i7 k m:=by
 apply IQ
 intro j;by_cases hj:j<k
 ·rw[kE hj,tW k m j hj,if_pos hj]
 ·rw[IC (by rw[ki];omega),IC (by rw[cJ];omega)]
theorem ro(k m:Nat):ab (vg k m 0)=I4 k (.int .u8 0):=by
 apply IQ
 intro j;rw[ab,ID,List.getElem?_replicate];by_cases hj:j<k
 ·rw[kE hj,if_pos hj]
  rfl
 ·rw[IC (by rw[ki];omega),if_neg hj]
  rfl
theorem jC(l:List UInt8)(j:Nat)(c:UInt8):ab (l.set j c)=(ab l).set j (.int .u8 (c.toNat:Int)):=by
 rw[ab,List.map_set];rfl
theorem rp{m i:Nat}:(m:Int)/2^(8*i)%256=((Iy (m/256^i%256)).toNat:Int):=by
 have hp:(2:Nat)^(8*i)=256^i:=by rw[Nat.pow_mul]
 have ht:(Iy (m/256^i%256)).toNat=m/256^i%256:=by
  rw[IP];exact IG (by omega)
 rw[ht,←hp];simp
theorem bB:(I7.info? 5).map (fun i=>(i.zero,i.size,i.bytes))=some (some (.int .u8 0),1,1):=by kernel_rfl
theorem tZ(n s:Int)(w:World)(m k:Nat)(hn:n=(m:Int))(hs:s=(k:Int))(hm:m<18446744073709551616)(hk:k≤8) :
  Calls I7 118 #[.int .u64 n,.int .i64 s,.bool false] w fun e w'=>∃v,e=.returned v∧w'.ownsRow w.heap.size 5 1 v k (ab (i7 k m))∧Below w.heap.size w w':=by
 subst hn hs;obtain⟨i0,hi0,hz0,hz1,hz2⟩:=info_parts bB;have hk0:(0:Int)≤(k:Int):=by omega
 have hk8:(k:Int)≤8:=by omega
 go_enter Tryz.func118,Tryz.ntmps118
 go_wp2_with (at_make;refine wpList_make_full _ rfl _ _ 43 rfl w.heap.size 5 i0 (.int .u8 0) 1 Tryz.underlying43 hi0 hz0 hz1 .i64 .i64 _ _ k rfl rfl (by omega) (by omega) (by rw[hz2];omega) (by unfold maxLen;omega) (IU _) ?_;intro w1 hown1 hgrow1)
 have hb0:Below w.heap.size w w1:=(Below.refl _ _).grown hgrow1 (IU _) (by simp);have hown0:w1.ownsRow w.heap.size 5 1 (.slice (some ⟨w.heap.size,0,none⟩) k k) k (ab (vg k m 0)):=by
  rw[ro];have e:(madeCells (I6 .u8 0).cells (k*1)).toList=I4 k (.int .u8 0):=by
   rw[Nat.mul_one];exact toList_madeCells_one _ _
  rw[←e];exact hown1
 have Hown0:=hid hown0;clear hown1 hown0 hgrow1;go_loopw [15] (fun i wr=>∃j:Nat,j≤k∧i=.int .i64 (j:Int)∧Below w.heap.size w wr∧Hid (wr.ownsRow w.heap.size 5 1 (.slice (some ⟨w.heap.size,0,none⟩) k k) k (ab (vg k m j)))) (fun i _=>k-(intOf i).toNat)
 case atStart=>exact⟨0,by omega,rfl,hb0,Hown0⟩
 case round =>
  obtain⟨j,hj,rfl,hbel,hown⟩:=hrel;by_cases hlt:j<k
  ·have hltI:decide ((j:Int)<(k:Int))=true:=decide_eq_true (by omega)
   have hc:=hown.out.cellAt j (by omega);have hc2:(ab (vg k m j))[j]?=some (.int .u8 0):=by
    rw[ab,ID,kE hlt,if_neg (by omega)];rfl
   rw[hc2] at hc;have hf:=hown.out.frozenAt j;have hst:=hown.out.stored j (.int .u8 ((Iy (m/256^j%256)).toNat:Int));rw[←jC,tX hlt,←rp] at hst;have Hst:=hid hst;clear hst hc2
   go_wp2
   go_roundw
   case rel=>exact⟨j+1,by omega,by go_num,hbel.setCell (IU _) _,Hst.out.1⟩
   case measure=>simp[intOf];omega
  ·obtain rfl:j=k:=by omega
   go_wp2
   go_ret
   exact⟨_,rfl,by rw[←tY];exact hown.out,hbel⟩
def fZ(body:List UInt8):List UInt8:=aC body.length++body
def dA(body:List UInt8):List UInt8:=fZ body++i7 4 (vc (fZ body))
theorem jH(body:List UInt8):(fZ body).length=(aC body.length).length+body.length:=by simp[fZ]
theorem cT(body:List UInt8):(dA body).length=(aC body.length).length+body.length+4:=by
 rw[dA,IZ,cJ,jH]
def bc(b:List UInt8):List UInt8×Nat×Nat :=
 if (cC b).2.2≠0 then ([],0,(cC b).2.2)
 else if 1048576<(cC b).1 then ([],0,4)
 else if b.length<(cC b).2.1+(cC b).1+4 then ([],0,2)
 else if pF ((b.drop ((cC b).2.1+(cC b).1)).take 4)≠vc (b.take ((cC b).2.1+(cC b).1)) then ([],0,8)
 else ((b.drop (cC b).2.1).take (cC b).1,(cC b).2.1+(cC b).1+4,0)
theorem vV{b body:List UInt8}{k:Nat}(h:bc b=(body,k,0)) :
  ∃n j,cC b=(n,j,0)∧n≤1048576∧j+n+4=k∧k≤b.length∧body=(b.drop j).take n∧body.length=n∧b.take k=dA body∧1≤j:=by
 rcases hv:cC b with ⟨n,j,e⟩
 unfold bc at h;rw[hv] at h;by_cases he:e=0
 ·subst he
  rw[if_neg (by simp)] at h;by_cases hn:1048576<n
  ·rw[if_pos hn] at h
   simp at h
  ·rw[if_neg hn] at h
   by_cases hl:b.length<j+n+4
   ·rw[if_pos hl] at h
    simp at h
   ·rw[if_neg hl] at h
    by_cases hs:pF ((b.drop (j+n)).take 4)≠vc (b.take (j+n))
    ·rw[if_pos hs] at h
     simp at h
    ·rw[if_neg hs] at h
     simp only[Prod.mk.injEq,and_true] at h;obtain⟨h1,h2⟩:=h;obtain⟨g1,g2,g3,g4,g5⟩:=j7 hv;have hs':pF ((b.drop (j+n)).take 4)=vc (b.take (j+n)):=by
      rcases Nat.decEq (pF ((b.drop (j+n)).take 4)) (vc (b.take (j+n))) with hh|hh
      ·exact absurd hh hs
      ·exact hh
     have hbl:body.length=n:=by rw[←h1,IF,II];omega
     refine⟨n,j,rfl,by omega,h2,by omega,h1.symm,hbl,?_,g2⟩;have hH:fZ body=b.take (j+n):=by
      rw[fZ,hbl,g5,←h1,List.take_add]
     have h4:i7 4 (vc (fZ body))=(b.drop (j+n)).take 4:=by
      apply qF
      ·rw[cJ,IF,II];omega
      ·rw[j0 4 _ (pI _),hs',hH]
     rw[dA,h4,hH,←h2,List.take_add (i:=j+n)]
 ·rw[if_pos he] at h
  simp only[Prod.mk.injEq] at h;exact absurd h.2.2 he
theorem Fm{b:List UInt8}{n j:Nat}(hv:cC b=(n,j,0))(hl:j+n+4≤b.length) :
  (dA ((b.drop j).take n)=b.take (j+n+4))↔pF ((b.drop (j+n)).take 4)=vc (b.take (j+n)):=by
 obtain⟨g1,g2,g3,g4,g5⟩:=j7 hv;have hbl:((b.drop j).take n).length=n:=by rw[IF,II];omega
 have hH:fZ ((b.drop j).take n)=b.take (j+n):=by rw[fZ,hbl,g5,List.take_add]
 have hs4:b.take (j+n+4)=b.take (j+n)++(b.drop (j+n)).take 4:=List.take_add;rw[dA,hH,hs4,List.append_cancel_left_eq];constructor
 ·intro h
  rw[←h,j0 4 _ (pI _)]
 ·intro h
  apply qF
  ·rw[cJ,IF,II];omega
  ·rw[j0 4 _ (pI _),h]
