import Derived.Test.YtaafkokfdgfabaaGreatP4
import Derived.Test.YtaafkokfdgfabaaGreatP29
import Derived.Great.BuildSlice
set_option maxHeartbeats 8000000
namespace Go.Proofs.YtaafkokfdgfabaaGreat
open Go.RowKit
set_option linter.unusedVariables false
set_option linter.unusedSimpArgs false
def FO {α:Type} (T:TypeId) (sz:Nat) (cs:α→List Value) (w:World) (base g:Nat) (l:List UInt8) (r:St × List α × Bool) (e:Ending) (w':World):Prop :=
 ∃ A c,e=.returned (.tuple #[.slice A r.2.1.length c,.bool r.2.2])∧w'.ownsRow w.heap.size T sz (.slice A r.2.1.length c) r.2.1.length (cA cs r.2.1)∧ey w' base g l r.1∧bY l r.1∧w.grownBy w' (some g)
structure vT {α:Type} (T:TypeId) (sz:Nat) (cs:α→List Value) (one:St→St × α × Bool) (w wr:World) (base g:Nat) (l:List UInt8) (s0:St) (n:Nat) (A:Option Addr) (c:Nat) (xs:List α) (s:St):Prop where
 own:wr.ownsRow w.heap.size T sz (.slice A xs.length c) xs.length (cA cs xs)
 rd:ey wr base g l s
 ok:bY l s
 gr:w.grownBy wr (some g)
 eq:dJ one n s0=((dJ one (n - xs.length) s).1,(dJ one (n - xs.length) s).2.map (xs ++ ·))
theorem tG {w w1 w2:World} {g:Nat} {T:TypeId} {sz n:Nat} {v:Value} {xs:List Value} (h:w.grownBy w1 (some g)) (ho:w1.ownsRow w.heap.size T sz v n xs) (hg:w1.grownBy w2 v.ownBlock):w.grownBy w2 (some g):=by
 rcases ho.2 with ⟨rfl,_⟩ | ⟨k,cap,cur,rfl,hb,hh,_⟩
 ·exact am h ⟨hg.os,hg.tape,hg.output,hg.size,fun j hj _=>hg.block j hj (by simp [Value.ownBlock])⟩
 ·exact bZ (k:=k) h hb hg
theorem Dp {w1 w2:World} {b base g:Nat} {l:List UInt8} {s:St} {T:TypeId} {sz n:Nat} {v:Value} {xs:List Value} (hr:ey w1 base g l s) (ho:w1.ownsRow b T sz v n xs) (hg:w1.grownBy w2 v.ownBlock) (h1:T≠195) (h2:T≠5):ey w2 base g l s:=by
 rcases ho.2 with ⟨rfl,_⟩ | ⟨k,cap,cur,rfl,hb,hh,_⟩
 ·exact hr.below ⟨hg.os,hg.tape,hg.output,hg.size,fun j hj=>hg.block j hj (by simp [Value.ownBlock])⟩
 ·exact hr.off hg hh h1 h2
section
variable {α:Type} {T:TypeId} {sz:Nat} {cs:α→List Value} {one:St→St × α × Bool} {w wr w2:World} {base g:Nat} {l:List UInt8} {s0 s:St} {n:Nat} {A:Option Addr} {c:Nat} {xs:List α}
theorem vT.bad (h:vT T sz cs one w wr base g l s0 n A c xs s) (hlt:xs.length<n) (hb:((one s).2.2 && lj (one s).1)=false):dJ one n s0=((one s).1,none):=by
 rw [h.eq,show n - xs.length=(n - xs.length - 1) + 1 by omega,dJ,hb];simp
theorem vT.next (h:vT T sz cs one w wr base g l s0 n A c xs s) (hlt:xs.length<n) (hb:((one s).2.2 && lj (one s).1)=true) {A':Option Addr} {c':Nat} (hown:w2.ownsRow w.heap.size T sz (.slice A' (xs.length + 1) c') (xs.length + 1) (cA cs xs ++ cs (one s).2.1)) (hr:ey w2 base g l (one s).1) (hok:bY l (one s).1) (hg:w.grownBy w2 (some g)) :
  vT T sz cs one w w2 base g l s0 n A' c' (xs ++ [(one s).2.1]) (one s).1:=by
 refine ⟨by rw [List.length_append,show cA cs (xs ++ [(one s).2.1])=cA cs xs ++ cs (one s).2.1 by simp [cA]];exact hown,hr,hok,hg,?_⟩;have e:=h.eq;rw [show n - xs.length=(n - (xs.length + 1)) + 1 by omega,dJ,hb] at e;rw [e,List.length_append];simp only [if_true,List.length_singleton,Option.map_map];congr 2
 funext ys
 simp
theorem vT.done (h:vT T sz cs one w wr base g l s0 n A c xs s) (hge:n≤xs.length):dJ one n s0=(s,some xs):=by
 rw [h.eq,show n - xs.length=0 by omega];simp [dJ]
end
theorem si (n:Nat) {ty:TypeId} {ps:Array (Nat × Operand)} {d:Option Tmp} {t:TypeId} {p:String} {af:Array Edge} {gd:Option (Nat × Bool)} {P:Program} {ops:Array Oper} {rest:List Oper} {a:Act} {w:World} {Q:Exit→Act→World→Prop} (k:wpList P ops Q (⟨d,.buildSlice ty n ps,t,p,af,gd⟩ :: rest) a w):wpList P ops Q (⟨d,.buildSlice ty n ps,t,p,af,gd⟩ :: rest) a w:=k
theorem fF {P:Program} {ops:Array Oper} {rest:List Oper} {o:Oper} {a:Act} {w:World} {Q:Exit→Act→World→Prop} (hg:o.guard=none) (t e:TypeId) (x:Operand) (ho:o.op=.buildSlice t 1 #[(0,x)]) (cs:List Value) (hx:a.eval x=.agg cs.toArray)
  (hu:P.underlying t=some (.slice e)) (hsz:(P.info? e).map (·.size)=some cs.length) (hz:((P.info? e).bind (·.zero)).isSome=true) (hp:0<cs.length) (hs:cs.length≤1000)
  (h:wpList P ops Q rest (a.put o.dst (.slice (some ⟨w.heap.size,0,none⟩) 1 1)) (w.alloc (.cells cs.toArray e))):wpList P ops Q (o :: rest) a w:=by
 cases hie:P.info? e with
 | none=>simp [hie] at hsz
 | some ie =>
  simp only [hie,Option.map_some,Option.some.injEq,Option.bind_some] at hsz hz;obtain ⟨z,hzz⟩:=Option.isSome_iff_exists.1 hz;refine wpList_buildSlice hg t e 1 _ ho _ ie z hu hie hzz (by rw [hsz];omega) (by rw [hsz];omega) ?_ h;simp only [List.map_toArray,List.map_cons,List.map_nil,hx];rw [ot _ _ _ 0 _ _ (by simp [hsz]) (by simp [hsz])];obtain ⟨L,hL,hLs⟩:∃ L:List Value,(Array.range (1 * ie.size)).map (fun i=>z.cells[i % z.cells.size]!)=L.toArray∧cs.length=L.length:=⟨_,(Array.toArray_toList).symm,by simp [hsz]⟩
  rw [hL,aW hLs];rfl
end Go.Proofs.YtaafkokfdgfabaaGreat
namespace Go.Proofs.YtaafkokfdgfabaaGreat
open Go.RowKit
set_option linter.unusedVariables false
set_option linter.unusedSimpArgs false
def Dq (n k:Nat):UInt8:=UInt8.ofNat (48 + n / 10 ^ k % 10)
def gm (n:Nat):Nat→List UInt8
 | 0=>[]
 | k + 1=>Dq n k :: gm n k
theorem jJ (n:Nat):∀ k,(gm n k).length=k
 | 0=>rfl
 | k + 1=>by simp [gm,jJ n k]
def fB (k:Nat):List UInt8:=if k=1 then [46,108,111,103] else [46,99,97,112]
def eN (n kind:Int):List UInt8 × Bool:=if 0≤n∧n≤999999∧(kind=1∨kind=2) then (gm n.toNat 6 ++ fB kind.toNat,true) else ([],false)
theorem zr (w:World):(Instr.index 176 (.agg #[.string ⟨#[]⟩,.string ⟨#[46,108,111,103]⟩,.string ⟨#[46,99,97,112]⟩]) (.int .i64 1)).run Tryz.prog w=.ok (.string ⟨#[46,108,111,103]⟩) w ∧
  (Instr.index 176 (.agg #[.string ⟨#[]⟩,.string ⟨#[46,108,111,103]⟩,.string ⟨#[46,99,97,112]⟩]) (.int .i64 2)).run Tryz.prog w=.ok (.string ⟨#[46,99,97,112]⟩) w:=⟨by kernel_rfl,by kernel_rfl⟩
set_option maxRecDepth 100000 in
theorem vo (k:Nat) (hk:k=1∨k=2) (w:World):Calls Tryz.prog 52 #[.int .i64 (k:Int)] w fun e w'=>e=.returned (.string ⟨(fB k).toArray⟩)∧w=w':=by
 have h1:=(zr w).1;have h2:=(zr w).2;rcases hk with rfl | rfl
 ·show Calls Tryz.prog _ #[.int .i64 1] w fun e w'=>e=.returned (.string ⟨#[46,108,111,103]⟩)∧w=w'
  go_enter Tryz.func52,Tryz.ntmps52
  go_wp2
  go_ret
  exact ⟨rfl,rfl⟩
 ·show Calls Tryz.prog _ #[.int .i64 2] w fun e w'=>e=.returned (.string ⟨#[46,99,97,112]⟩)∧w=w'
  go_enter Tryz.func52,Tryz.ntmps52
  go_wp2
  go_ret
  exact ⟨rfl,rfl⟩
theorem pb {P:Program} {ops:Array Oper} {Q:Exit→Act→World→Prop} {W:World} {a:Act} {o:Oper} {v:Value} {k:Nat} {d:Tmp} (h:Sd P ops Q W (k + 1) { a with tmps:=a.tmps.setIfInBounds d v }) (hy:∀ w,Below W.heap.size W w→(execOp a.eval o).run P w=.ok (.value v) w) (hi:ops[k]?=some o:=by rfl) (hd:o.dst=some d:=by rfl) (hw:Region.wanted o (yielded ops a.tmps)=true:=by rfl):Sd P ops Q W k a :=
 Sd.step (.inl ⟨hw,fun w hS=>by rw [hy w hS];exact ⟨rfl,hS⟩⟩) (by rw [hd];exact h) hi
theorem jK (a b:List UInt8):((⟨a.toArray⟩:ByteArray) ++ (⟨b.toArray⟩:ByteArray))=⟨(a ++ b).toArray⟩:=by
 apply ByteArray.ext
 simp [ByteArray.data_append]
theorem vp (n k:Nat):n / 10 ^ k / 10=n / 10 ^ (k + 1):=by rw [Nat.div_div_eq_div_mul,Nat.pow_succ]
set_option maxRecDepth 100000 in
theorem me (n kind:Int) (w:World):Calls Tryz.prog 21 #[.int .i64 n,.int .i64 kind] w fun e w'=>e=.returned (.tuple #[.string ⟨(eN n kind).1.toArray⟩,.bool (eN n kind).2])∧Below w.heap.size w w':=by
 by_cases h0:0≤n
 rotate_left
 ·have hr:Hid (eN n kind=([],false)):=by show _=_;unfold eN;rw [if_neg (by omega)]
  have h1:n<0:=by omega
  go_enter Tryz.func21,Tryz.ntmps21
  go_wp2
  go_ret2
  exact ⟨by rw [hr.out];rfl,Below.refl _ _⟩
 by_cases h9:n≤999999
 rotate_left
 ·have hr:Hid (eN n kind=([],false)):=by show _=_;unfold eN;rw [if_neg (by omega)]
  have h1:¬ n<0:=by omega
  have h2:999999<n:=by omega
  go_enter Tryz.func21,Tryz.ntmps21
  go_wp2
  go_ret2
  exact ⟨by rw [hr.out];rfl,Below.refl _ _⟩
 have q1:¬ n<0:=by omega
 have q2:¬ 999999<n:=by omega
 by_cases hk1:1≤kind
 rotate_left
 ·have hr:Hid (eN n kind=([],false)):=by show _=_;unfold eN;rw [if_neg (by omega)]
  have h1:kind<1:=by omega
  go_enter Tryz.func21,Tryz.ntmps21
  go_wp2
  go_ret2
  exact ⟨by rw [hr.out];rfl,Below.refl _ _⟩
 by_cases hk2:kind≤2
 rotate_left
 ·have hr:Hid (eN n kind=([],false)):=by show _=_;unfold eN;rw [if_neg (by omega)]
  have h1:¬ kind<1:=by omega
  have h2:2<kind:=by omega
  go_enter Tryz.func21,Tryz.ntmps21
  go_wp2
  go_ret2
  exact ⟨by rw [hr.out];rfl,Below.refl _ _⟩
 obtain ⟨m,hm⟩:∃ m:Nat,n=(m:Int):=⟨n.toNat,by omega⟩
 obtain ⟨kd,hkd⟩:∃ k:Nat,kind=(k:Int):=⟨kind.toNat,by omega⟩
 subst hm hkd;have hkk:kd=1∨kd=2:=by omega
 have hr:Hid (eN (m:Int) (kd:Int)=(gm m 6 ++ fB kd,true)):=by show _=_;unfold eN;rw [if_pos (by omega)];simp
 have hm6:m≤999999:=by omega
 have q3:¬ (kd:Int)<1:=by omega
 have q4:¬ (2:Int)<(kd:Int):=by omega
 clear h0 h9 hk1 hk2;go_enter Tryz.func21,Tryz.ntmps21
 go_upto_region 4 with fail
 obtain ⟨W,hW⟩:∃ W,W=w.alloc (.cells #[.int .u8 0,.int .u8 0,.int .u8 0,.int .u8 0,.int .u8 0,.int .u8 0] 24):=⟨_,rfl⟩
 rw [←hW];have HW:Hid (ah W w.heap.size 24 (ab (List.replicate (6 - 0) 0 ++ gm m 0)).toArray):=by rw [hW];exact ah.new w _ _ _ rfl
 have HB:Hid (Below w.heap.size w W):=by rw [hW];exact (Below.refl _ _).alloc (Nat.le_refl _) _
 clear hW
 go_wp2
 go_loopw [0,22] (fun v i wr=>∃ k:Nat,k≤6∧i=.int .i64 (k:Int)∧v=.int .i64 ((m / 10 ^ k:Nat):Int)∧Hid (ah wr w.heap.size 24 (ab (List.replicate (6 - k) 0 ++ gm m k)).toArray)∧Hid (Below w.heap.size w wr)) (fun _ i _=>6 - (intOf i).toNat)
 case atStart=>exact ⟨0,by omega,rfl,by simp,HW,HB⟩
 case round =>
  obtain ⟨k,hk,rfl,rfl,HK,HBk⟩:=hrel;rename World=>wr
  by_cases hlt:k<6
  ·have hltI:(k:Int)<6:=by omega
   have hk0:(0:Int)≤(k:Int):=by omega
   obtain ⟨q,hq⟩:∃ q,q=m / 10 ^ k:=⟨_,rfl⟩
   have hqm:q≤999999:=by rw [hq];exact Nat.le_trans (Nat.div_le_self _ _) hm6
   have Hq:=Lib.hid hq;rw [←hq];clear hq;have hcs:ab (List.replicate (6 - k) 0 ++ gm m k)=ab (List.replicate (5 - k) 0) ++ .int .u8 0 :: ab (gm m k):=by
    rw [show 6 - k=(5 - k) + 1 by omega,List.replicate_succ',dK,dK,List.append_assoc];rfl
   obtain ⟨c1,f1,kk⟩:=kK (n:=5 - k) HK.out hcs (by rw [ao,List.length_replicate]);obtain ⟨wf,hwf⟩:∃ v,v=wr.setCell ⟨w.heap.size,5 - k,none⟩ (.int .u8 (48 + (q:Int) % 10)):=⟨_,rfl⟩
   have hd:(.int .u8 (48 + (q:Int) % 10):Value)=rm (Dq m k):=by
    unfold rm Dq;rw [←Hq.out,hU (by omega)];congr 1
   have HF:Hid (ah wf w.heap.size 24 (ab (List.replicate (6 - (k + 1)) 0 ++ gm m (k + 1))).toArray):=by
    rw [hwf,hd,show 6 - (k + 1)=5 - k by omega,dK];exact kk _
   have HBf:Hid (Below w.heap.size w wf):=by rw [hwf];exact HBk.out.setCell (Nat.le_refl _) _
   have hq2:Hid (q / 10=m / 10 ^ (k + 1)):=by show _=_;rw [Hq.out,vp]
   clear hcs kk hd
   go_wp2
   rw [←hwf];go_roundw
   case rel=>exact ⟨k + 1,by omega,by go_num,by rw [←hq2.out];go_num,HF,HBf⟩
   case measure=>first | (simp [intOf];done) | (simp [intOf];omega)
  ·have hltI:¬ (k:Int)<6:=by omega
   obtain rfl:k=6:=by omega
   have hbs:BS wr wr.heap.size (some ⟨w.heap.size,0,none⟩) (gm m 6):=fun _=>by
    refine ⟨_,rfl,HK.out.lt,fun j c hc=>?_⟩;rw [show (⟨w.heap.size,0,none⟩:Addr).add j=⟨w.heap.size,j,none⟩ by unfold Addr.add;split <;> simp_all,HK.out.cell,List.getElem?_toArray];rw [show (6 - 6:Nat)=0 from rfl,List.replicate_zero,List.nil_append,ab,List.getElem?_map,hc];rfl
   have hlen:(gm m 6).length=6:=jJ m 6;go_upto_region 10 with fail
   refine Sd.start ?_;refine pt ?_;simp only [ld,lg,lf,Nat.reduceAdd];refine pb (v:=.string ⟨(gm m 6).toArray⟩) ?_ ?_;rotate_left
   ·intro u hu
    have hcv:=bu (P:=Tryz.prog) 43 9 5 Tryz.underlying43 Tryz.underlying5 Tryz.underlying9 u _ (some ⟨w.heap.size,0,none⟩) (gm m 6) ((hbs.below hu).more hu.size) _ 6 rfl;rw [hlen] at hcv;go_simp
    try exact rfl
   simp only [ld,lg,lf,Nat.reduceAdd]
   repeat ((first | refine cq (fun u _=>vo kd hkk u) ?_ | refine pt ?_);simp only [ld,lg,lf,Nat.reduceAdd])
   refine pb (v:=.string ⟨(gm m 6 ++ fB kd).toArray⟩) ?_ ?_;rotate_left
   ·intro u hu
    have hel:(fB kd).length=4:=by unfold fB;split <;> rfl
    rw [←jK];go_simp
   simp only [ld,lg,lf,Nat.reduceAdd]
   repeat ((first | refine pt ?_);simp only [ld,lg,lf,Nat.reduceAdd])
   refine Sd.done fun w2 hb2=>?_
   have HF:Hid (Below w.heap.size w w2):=HBk.out.trans (hb2.mono HBk.out.size);clear hb2 hbs
   go_wp2
   go_ret2
   exact ⟨by rw [hr.out];rfl,HF.out⟩
end Go.Proofs.YtaafkokfdgfabaaGreat
namespace Go.Proofs.YtaafkokfdgfabaaGreat
open Go.RowKit
set_option linter.unusedVariables false
set_option linter.unusedSimpArgs false
set_option maxRecDepth 100000 in
theorem pG (n kind:Int) (w:World):Calls Tryz.prog 22 #[.int .i64 n,.int .i64 kind] w fun e w'=>e=.returned (.tuple #[.string ⟨(eN n kind).1.toArray⟩,.bool (eN n kind).2])∧Below w.heap.size w w':=by
 by_cases h0:0≤n
 rotate_left
 ·have hr:Hid (eN n kind=([],false)):=by show _=_;unfold eN;rw [if_neg (by omega)]
  have h1:n<0:=by omega
  go_enter Tryz.func22,Tryz.ntmps22
  go_wp2
  go_ret2
  exact ⟨by rw [hr.out];rfl,Below.refl _ _⟩
 by_cases h9:n≤999999
 rotate_left
 ·have hr:Hid (eN n kind=([],false)):=by show _=_;unfold eN;rw [if_neg (by omega)]
  have h1:¬ n<0:=by omega
  have h2:999999<n:=by omega
  go_enter Tryz.func22,Tryz.ntmps22
  go_wp2
  go_ret2
  exact ⟨by rw [hr.out];rfl,Below.refl _ _⟩
 have q1:¬ n<0:=by omega
 have q2:¬ 999999<n:=by omega
 by_cases hkk:kind=1∨kind=2
 rotate_left
 ·have hr:Hid (eN n kind=([],false)):=by show _=_;unfold eN;rw [if_neg (by omega)]
  have h1:(kind == 1)=false:=by simp;omega
  have h2:(kind == 2)=false:=by simp;omega
  have h3:(kind != 1)=true:=by simp;omega
  have h4:(kind != 2)=true:=by simp;omega
  clear hkk;go_enter Tryz.func22,Tryz.ntmps22
  go_wp2
  go_ret2
  exact ⟨by rw [hr.out];rfl,Below.refl _ _⟩
 obtain ⟨m,hm⟩:∃ m:Nat,n=(m:Int):=⟨n.toNat,by omega⟩
 subst hm;have hr:Hid (eN (m:Int) kind=(gm m 6 ++ fB kind.toNat,true)):=by show _=_;unfold eN;rw [if_pos (by omega)];simp
 have hm6:m≤999999:=by omega
 clear h0 h9;rcases hkk with rfl | rfl
 all_goals
  go_enter Tryz.func22,Tryz.ntmps22
  go_wp2
  go_loopw [0,6,7] (fun v s i wr=>∃ k:Nat,k≤6∧i=.int .i64 (k:Int)∧v=.int .i64 ((m / 10 ^ k:Nat):Int)∧s=.string ⟨(gm m k).toArray⟩∧Hid (Below w.heap.size w wr)) (fun _ _ i _=>6 - (intOf i).toNat)
  case atStart=>exact ⟨0,by omega,rfl,by simp,rfl,Below.refl _ _⟩
  case round =>
   obtain ⟨k,hk,rfl,rfl,rfl,HBk⟩:=hrel;rename World=>wr
   by_cases hlt:k<6
   ·have hltI:(k:Int)<6:=by omega
    have hk0:(0:Int)≤(k:Int):=by omega
    obtain ⟨q,hq⟩:∃ q,q=m / 10 ^ k:=⟨_,rfl⟩
    have hqm:q≤999999:=by rw [hq];exact Nat.le_trans (Nat.div_le_self _ _) hm6
    have Hq:=Lib.hid hq;rw [←hq];clear hq;have hd:(48 + (q:Int) % 10)=((Dq m k).toNat:Int):=by
     unfold Dq;rw [←Hq.out,hU (by omega)];omega
    have hcv:=bu (P:=Tryz.prog) 43 9 5 Tryz.underlying43 Tryz.underlying5 Tryz.underlying9 (wr.alloc (.cells #[.int .u8 (48 + (q:Int) % 10)] 5)) _ (some ⟨wr.heap.size,0,none⟩) [Dq m k] (BS.one' wr (Dq m k) _ hd _) 1 1 rfl;have hq2:Hid (q / 10=m / 10 ^ (k + 1)):=by show _=_;rw [Hq.out,vp]
    have HBf:∀ o,Hid (Below w.heap.size w (wr.alloc o)):=fun o=>HBk.out.alloc HBk.out.size _
    have hsl:(gm m k).length=k:=jJ m k;clear hd
    go_wp2
    go_roundw
    case rel=>exact ⟨k + 1,by omega,by go_num,by rw [←hq2.out];go_num,by rw [show gm m (k + 1)=[Dq m k] ++ gm m k from rfl,←jK],HBf _⟩
    case measure=>first | (simp [intOf];done) | (simp [intOf];omega)
   ·have hltI:¬ (k:Int)<6:=by omega
    obtain rfl:k=6:=by omega
    have hsl:(gm m 6).length=6:=jJ m 6
    go_wp2
    go_ret2
    exact ⟨by rw [hr.out,←jK];rfl,HBk.out⟩
end Go.Proofs.YtaafkokfdgfabaaGreat
namespace Go.Proofs.YtaafkokfdgfabaaGreat
open Go.RowKit
set_option linter.unusedVariables false
set_option linter.unusedSimpArgs false
set_option maxRecDepth 100000 in
theorem Ez {base g:Nat} {l:List UInt8} {s:St} {w:World} (one:St→St × cN × Bool) (F:FuncId) (hF:o8 Tryz.prog F=true) (most:Nat) (hm:most≤100000) (h:ey w base g l s) (hs:bY l s) (hl:l.length≤1000000000)
  (hone:∀ s w,ey w base g l s→bY l s→Calls Tryz.prog F #[.pointer (some ⟨g,0,none⟩)] w (vk w base g l (.tuple #[.agg (aC (one s).2.1).toArray,.bool (one s).2.2]) (one s).1)) (hsh:∀ s,(aC (one s).2.1).length=3) :
  Calls Tryz.prog 97 #[.pointer (some ⟨g,0,none⟩),.int .i64 (most:Int),.func (.func F) #[] #[]] w (FO 115 3 aC w base g l (dS l one most s)):=by
 obtain ⟨z0,hz0⟩:∃ z,(Tryz.prog.info? 115)=some z:=⟨_,rfl⟩
 obtain ⟨zz,hzz,hzs,hzb,hzc⟩:∃ z,z0.zero=some z∧z0.size=3∧z0.bytes≤1000∧z.cells.size=3:=by
  have e:(Tryz.prog.info? 115).bind (fun i=>i.zero.map (fun z=>(i.size,decide (i.bytes≤1000),z.cells.size)))=some (3,true,3):=by kernel_rfl
  rw [hz0] at e;obtain ⟨z,h1,h2⟩:=Option.map_eq_some_iff.1 (show z0.zero.map _=some _ from e);simp only [Prod.mk.injEq,decide_eq_true_eq] at h2;exact ⟨z,h1,h2.1,h2.2.1,h2.2.2⟩
 obtain ⟨s1,n,h1⟩:∃ u n,dB l s=(u,n):=⟨_,_,rfl⟩
 have ok1:=dF hs;rw [h1] at ok1;have hn:n≤1152921504606846977:=by have:=congrArg Prod.snd h1;simp only [dB] at this;omega
 have hQ:dS l one most s=if n≤most then ((dJ one n s1).1,(dJ one n s1).2.getD [],(dJ one n s1).2.isSome) else (s1,[],false):=by unfold dS;rw [h1]
 obtain ⟨r,hr⟩:∃ r,r=dS l one most s:=⟨_,rfl⟩
 rw [←hr];rw [hQ] at hr;have Hr:=Lib.hid hr;have H:=Lib.hid h;have Hs:=Lib.hid hs;have H1:=Lib.hid h1;have Ok1:=Lib.hid ok1;have Hone:=Lib.hid hone;have Hsh:=Lib.hid hsh;have hgw:=h.lt;clear hQ hr h hs h1 ok1 hone hsh;go_enter Tryz.func97,Tryz.ntmps97
 go_wp2_with fail
 refine (fR H.out Hs.out hl).mono ?_;rw [H1.out];rintro e w2 ⟨rfl,hR,_,hg⟩;have HR:=Lib.hid hR;have Hg:=Lib.hid hg;clear hR hg H Hs;by_cases hnm:n≤most
 ·have hnmI:(n:Int)≤(most:Int):=by omega
  have H0:Hid (vT 115 3 aC one w w2 base g l s1 n none 0 [] s1):=⟨World.ownsRow_nil _ _ _ _,HR.out,Ok1.out,Hg.out,by simp⟩
  clear HR Hg Ok1 H1
  go_wp2
  go_loopw [9] (fun v wr=>∃ (A:Option Addr) (c:Nat) (xs:List cN) (s:St),xs.length≤n∧v=.slice A xs.length c∧Hid (vT 115 3 aC one w wr base g l s1 n A c xs s)) (fun v _=>n - (match v with | .slice _ k _=>k | _=>0))
  case atStart=>exact ⟨none,0,[],s1,by simp,rfl,H0⟩
  case round =>
   obtain ⟨A,c,xs,s2,hk,rfl,HL⟩:=hrel;rename World=>wr
   by_cases hlt:xs.length<n
   ·have hltI:(xs.length:Int)<(n:Int):=by omega
    obtain ⟨s3,x,ok,h3⟩:∃ u x b,one s2=(u,x,b):=⟨_,_,_,rfl⟩
    have hone:=Hone.out s2 wr HL.out.rd HL.out.ok;have hsh:=Hsh.out s2;rw [h3] at hone hsh;have H3:=Lib.hid h3;have Hxl:=Lib.hid hsh;clear h3 hsh
    go_wp2_with fail
    rw [sZ hF];simp only [Oper.upon];refine hone.mono ?_;rintro e w3 ⟨rfl,hR,hok3,hg⟩;obtain ⟨k0,hk0⟩:∃ cs,ah wr g 195 cs:=HL.out.rd.blkE;have hown:=HL.out.own.kept hg (aK HL.out.own hk0 (by decide));obtain ⟨x4,w4,X4,Y4,T4,B4,L4⟩:=eQ w3 115 (aC lu) (aC x) (by rw [Hxl.out];rfl);rw [j0] at X4;have HO4:=Lib.hid (ay hown L4.out);have HR4:=Lib.hid (hR.below L4.out);have Hg4:=Lib.hid (am (am HL.out.gr hg) (bj L4.out));have Hok3:=Lib.hid hok3;have Hz:Hid ((Tryz.prog.info? 115).map (·.size)=some (aC x).length):=by show _=_;rw [Hxl.out];kernel_rfl
    clear hone hR hok3 hg hk0 hown;go_upto_region 5 with (first
     | (rw [←X4.out];(with_reducible refine aM 115 ?_);refine wpList_store_mid rfl 115 (.tmp 10) (.tmp 27) rfl w3.heap.size 0 (aC x).toArray rfl rfl T4.out (by rw [List.size_toArray];exact Hz.out) (iD _) ?_))
    rw [←Y4.out];clear X4 Y4 T4;have hb1:(one s2).1=s3:=by rw [H3.out]
    rcases hd:(ok && lj s3) with _ | _
    ·have hR3:Hid (r=(s3,[],false)):=by
      show _=_
      rw [Hr.out,if_pos hnm,HL.out.bad hlt (by rw [H3.out];exact hd),hb1];rfl
     rcases ok with _ | _
     ·go_wp2
      go_ret2
      exact ⟨none,0,by rw [hR3.out];rfl,by rw [hR3.out];exact World.ownsRow_nil _ _ _ _,by rw [hR3.out];exact HR4.out,by rw [hR3.out];exact Hok3.out,Hg4.out⟩
     ·obtain ⟨q0,fa,fe⟩:=s3
      have hd':¬ (fa=0∧fe=0):=fun e=>by simp [lj,e.1,e.2] at hd
      have hn:Hid (Calls Tryz.prog 93 #[.pointer (some ⟨g,0,none⟩)] w4 fun e w'=>e=.returned (.agg #[.int .i64 (fa:Int),.int .i64 (fe:Int)])∧Below w4.heap.size w4 w'):=by
       obtain ⟨A,c,hr,_⟩:=HR4.out;exact ec g A l.length c q0 fa fe w4 hr
      clear hd
      go_wp2_with fail
      refine hn.out.mono ?_;rintro e w5 ⟨rfl,hb5⟩;have HR5:=Lib.hid (HR4.out.below hb5);have Hg5:=Lib.hid (am Hg4.out (bj hb5));clear hb5 hn;by_cases e1:fa=0
      ·have e2:¬ (fe:Int)=0:=by omega
       subst e1;clear hd'
       go_wp2
       go_ret2
       exact ⟨none,0,by rw [hR3.out];rfl,by rw [hR3.out];exact World.ownsRow_nil _ _ _ _,by rw [hR3.out];exact HR5.out,by rw [hR3.out];exact Hok3.out,Hg5.out⟩
      ·have e2:¬ (fa:Int)=0:=by omega
       clear hd'
       go_wp2
       go_ret2
       exact ⟨none,0,by rw [hR3.out];rfl,by rw [hR3.out];exact World.ownsRow_nil _ _ _ _,by rw [hR3.out];exact HR5.out,by rw [hR3.out];exact Hok3.out,Hg5.out⟩
    ·obtain ⟨q0,fa,fe⟩:=s3
     have hd':ok=true∧fa=0∧fe=0:=by simp [lj] at hd;exact hd
     obtain ⟨rfl,rfl,rfl⟩:=hd';have hn:Hid (Calls Tryz.prog 93 #[.pointer (some ⟨g,0,none⟩)] w4 fun e w'=>e=.returned (.agg #[.int .i64 (0:Int),.int .i64 (0:Int)])∧Below w4.heap.size w4 w'):=by
      obtain ⟨A,c,hr,_⟩:=HR4.out;exact ec g A l.length c q0 0 0 w4 hr
     clear hd
     go_wp2_with fail
     refine hn.out.mono ?_;rintro e w5 ⟨rfl,hb5⟩;have HO5:=Lib.hid (ay HO4.out hb5);have HR5:=Lib.hid (HR4.out.below hb5);have Hg5:=Lib.hid (am Hg4.out (bj hb5));have B5:=Lib.hid (B4.out.below hb5 B4.out.lt);have RF:=Lib.hid (ae B5.out);obtain ⟨w6,hw6⟩:∃ v,v=w5.alloc (.cells (aC x).toArray 115):=⟨_,rfl⟩
     have B6:=Lib.hid (ae (show ah w6 w5.heap.size 115 (aC x).toArray by rw [hw6];exact ah.new w5 _ _ _ rfl));have hb6:Below w5.heap.size w5 w6:=by rw [hw6];exact (Below.refl _ _).alloc (Nat.le_refl _) _
     have HO6:=Lib.hid (ay HO5.out hb6);have HR6:=Lib.hid (HR5.out.below hb6);have Hg6:=Lib.hid (am Hg5.out (bj hb6));have hwb:w.heap.size≤w6.heap.size:=Hg6.out.size;have hx63:xs.length + 1≤100001:=by omega
     clear hb5 hb6 hn B4 B5 HR4 HO4 Hg4 HO5 HR5 Hg5
     go_wp2_with (first
      | ((with_reducible refine aE 115 ?_);refine aa (by rfl) 115 (.tmp 10) rfl w3.heap.size 0 rfl (aC x) _ RF.out d8 rfl Hz.out ?_)
      | ((with_reducible refine si 1 ?_);refine fF rfl 33 115 (.tmp 38) rfl (aC x) rfl Tryz.underlying33 Hz.out (by kernel_rfl) (by rw [Hxl.out];decide) (by rw [Hxl.out];decide) ?_;rw [←hw6])
      | (at_builtin;refine wpList_append_own_at (P:=Tryz.prog) w6 rfl _ _ 33 rfl w.heap.size 115 z0 zz 3 z0.bytes Tryz.underlying33 hz0 hzz hzs rfl hzc (by decide) _ xs.length (cA aC xs) rfl HO6.out ⟨w5.heap.size,0,none⟩ 1 1 (aC x) rfl (by rw [Hxl.out]) (fun j u hj=>by rw [show (⟨w5.heap.size,0,none⟩:Addr).add j=⟨w5.heap.size,0 + j,none⟩ by unfold Addr.add;split <;> simp_all];exact B6.out j u hj) (fun u hu=>Array.all_eq_true_iff_forall_mem.1 (iD x) u (by simpa using hu)) (by unfold maxLen;omega) (Nat.le_trans (Nat.mul_le_mul hx63 hzb) (by decide)) hwb ?_;intro v7 w7 hown7 hg7 _ _))
     obtain ⟨A7,c7,hv7,_⟩:=cE hown7;subst hv7;have HL7:Hid (vT 115 3 aC one w w7 base g l s1 n A7 c7 (xs ++ [x]) (q0,0,0)):=by
      have:=HL.out.next (w2:=w7) (A':=A7) (c':=c7) hlt (by rw [H3.out];rfl) (by rw [H3.out];exact hown7) (by rw [H3.out];exact Dp HR6.out HO6.out hg7 (by decide) (by decide)) (by rw [H3.out];exact Hok3.out) (tG Hg6.out HO6.out hg7);rw [H3.out] at this;exact this
     have hx1:(xs ++ [x]).length=xs.length + 1:=by simp
     go_roundw
     case rel=>exact ⟨A7,c7,xs ++ [x],(q0,0,0),by rw [hx1];omega,by rw [hx1],HL7⟩
     case measure=>simp only;omega
   ·have hltI:¬ (xs.length:Int)<(n:Int):=by omega
    have hR3:Hid (r=(s2,xs,true)):=by
     show _=_
     rw [Hr.out,if_pos hnm,HL.out.done (by omega)];rfl
    go_wp2
    go_ret2
    exact ⟨A,c,by rw [hR3.out];rfl,by rw [hR3.out];exact HL.out.own,by rw [hR3.out];exact HL.out.rd,by rw [hR3.out];exact HL.out.ok,HL.out.gr⟩
 ·have hnmI:¬ (n:Int)≤(most:Int):=by omega
  have hR3:Hid (r=(s1,[],false)):=by
   show _=_
   rw [Hr.out,if_neg hnm]
  go_wp2
  go_loopw [9] (fun v wr=>v=.slice none 0 0∧wr=w2) (fun _ _=>0)
  case atStart=>exact ⟨rfl,rfl⟩
  case round =>
   obtain ⟨rfl,rfl⟩:=hrel
   go_wp2
   go_ret2
   exact ⟨none,0,by rw [hR3.out];rfl,by rw [hR3.out];exact World.ownsRow_nil _ _ _ _,by rw [hR3.out];exact HR.out,by rw [hR3.out];exact Ok1.out,Hg.out⟩
set_option maxRecDepth 100000 in
theorem EA {base g:Nat} {l:List UInt8} {s:St} {w:World} (one:St→St × aU × Bool) (F:FuncId) (hF:o8 Tryz.prog F=true) (most:Nat) (hm:most≤100000) (h:ey w base g l s) (hs:bY l s) (hl:l.length≤1000000000)
  (hone:∀ s w,ey w base g l s→bY l s→Calls Tryz.prog F #[.pointer (some ⟨g,0,none⟩)] w (vk w base g l (.tuple #[.agg (ag (one s).2.1).toArray,.bool (one s).2.2]) (one s).1)) (hsh:∀ s,(ag (one s).2.1).length=27) :
  Calls Tryz.prog 95 #[.pointer (some ⟨g,0,none⟩),.int .i64 (most:Int),.func (.func F) #[] #[]] w (FO 56 27 ag w base g l (dS l one most s)):=by
 obtain ⟨z0,hz0⟩:∃ z,(Tryz.prog.info? 56)=some z:=⟨_,rfl⟩
 obtain ⟨zz,hzz,hzs,hzb,hzc⟩:∃ z,z0.zero=some z∧z0.size=27∧z0.bytes≤1000∧z.cells.size=27:=by
  have e:(Tryz.prog.info? 56).bind (fun i=>i.zero.map (fun z=>(i.size,decide (i.bytes≤1000),z.cells.size)))=some (27,true,27):=by kernel_rfl
  rw [hz0] at e;obtain ⟨z,h1,h2⟩:=Option.map_eq_some_iff.1 (show z0.zero.map _=some _ from e);simp only [Prod.mk.injEq,decide_eq_true_eq] at h2;exact ⟨z,h1,h2.1,h2.2.1,h2.2.2⟩
 obtain ⟨s1,n,h1⟩:∃ u n,dB l s=(u,n):=⟨_,_,rfl⟩
 have ok1:=dF hs;rw [h1] at ok1;have hn:n≤1152921504606846977:=by have:=congrArg Prod.snd h1;simp only [dB] at this;omega
 have hQ:dS l one most s=if n≤most then ((dJ one n s1).1,(dJ one n s1).2.getD [],(dJ one n s1).2.isSome) else (s1,[],false):=by unfold dS;rw [h1]
 obtain ⟨r,hr⟩:∃ r,r=dS l one most s:=⟨_,rfl⟩
 rw [←hr];rw [hQ] at hr;have Hr:=Lib.hid hr;have H:=Lib.hid h;have Hs:=Lib.hid hs;have H1:=Lib.hid h1;have Ok1:=Lib.hid ok1;have Hone:=Lib.hid hone;have Hsh:=Lib.hid hsh;have hgw:=h.lt;clear hQ hr h hs h1 ok1 hone hsh;go_enter Tryz.func95,Tryz.ntmps95
 go_wp2_with fail
 refine (fR H.out Hs.out hl).mono ?_;rw [H1.out];rintro e w2 ⟨rfl,hR,_,hg⟩;have HR:=Lib.hid hR;have Hg:=Lib.hid hg;clear hR hg H Hs;by_cases hnm:n≤most
 ·have hnmI:(n:Int)≤(most:Int):=by omega
  have H0:Hid (vT 56 27 ag one w w2 base g l s1 n none 0 [] s1):=⟨World.ownsRow_nil _ _ _ _,HR.out,Ok1.out,Hg.out,by simp⟩
  clear HR Hg Ok1 H1
  go_wp2
  go_loopw [9] (fun v wr=>∃ (A:Option Addr) (c:Nat) (xs:List aU) (s:St),xs.length≤n∧v=.slice A xs.length c∧Hid (vT 56 27 ag one w wr base g l s1 n A c xs s)) (fun v _=>n - (match v with | .slice _ k _=>k | _=>0))
  case atStart=>exact ⟨none,0,[],s1,by simp,rfl,H0⟩
  case round =>
   obtain ⟨A,c,xs,s2,hk,rfl,HL⟩:=hrel;rename World=>wr
   by_cases hlt:xs.length<n
   ·have hltI:(xs.length:Int)<(n:Int):=by omega
    obtain ⟨s3,x,ok,h3⟩:∃ u x b,one s2=(u,x,b):=⟨_,_,_,rfl⟩
    have hone:=Hone.out s2 wr HL.out.rd HL.out.ok;have hsh:=Hsh.out s2;rw [h3] at hone hsh;have H3:=Lib.hid h3;have Hxl:=Lib.hid hsh;clear h3 hsh
    go_wp2_with fail
    rw [sZ hF];simp only [Oper.upon];refine hone.mono ?_;rintro e w3 ⟨rfl,hR,hok3,hg⟩;obtain ⟨k0,hk0⟩:∃ cs,ah wr g 195 cs:=HL.out.rd.blkE;have hown:=HL.out.own.kept hg (aK HL.out.own hk0 (by decide));obtain ⟨x4,w4,X4,Y4,T4,B4,L4⟩:=eQ w3 56 (ag dN) (ag x) (by rw [Hxl.out];rfl);rw [gT] at X4;have HO4:=Lib.hid (ay hown L4.out);have HR4:=Lib.hid (hR.below L4.out);have Hg4:=Lib.hid (am (am HL.out.gr hg) (bj L4.out));have Hok3:=Lib.hid hok3;have Hz:Hid ((Tryz.prog.info? 56).map (·.size)=some (ag x).length):=by show _=_;rw [Hxl.out];kernel_rfl
    clear hone hR hok3 hg hk0 hown;go_upto_region 5 with (first
     | (rw [←X4.out];(with_reducible refine aM 56 ?_);refine wpList_store_mid rfl 56 (.tmp 10) (.tmp 27) rfl w3.heap.size 0 (ag x).toArray rfl rfl T4.out (by rw [List.size_toArray];exact Hz.out) (eZ _) ?_))
    rw [←Y4.out];clear X4 Y4 T4;have hb1:(one s2).1=s3:=by rw [H3.out]
    rcases hd:(ok && lj s3) with _ | _
    ·have hR3:Hid (r=(s3,[],false)):=by
      show _=_
      rw [Hr.out,if_pos hnm,HL.out.bad hlt (by rw [H3.out];exact hd),hb1];rfl
     rcases ok with _ | _
     ·go_wp2
      go_ret2
      exact ⟨none,0,by rw [hR3.out];rfl,by rw [hR3.out];exact World.ownsRow_nil _ _ _ _,by rw [hR3.out];exact HR4.out,by rw [hR3.out];exact Hok3.out,Hg4.out⟩
     ·obtain ⟨q0,fa,fe⟩:=s3
      have hd':¬ (fa=0∧fe=0):=fun e=>by simp [lj,e.1,e.2] at hd
      have hn:Hid (Calls Tryz.prog 93 #[.pointer (some ⟨g,0,none⟩)] w4 fun e w'=>e=.returned (.agg #[.int .i64 (fa:Int),.int .i64 (fe:Int)])∧Below w4.heap.size w4 w'):=by
       obtain ⟨A,c,hr,_⟩:=HR4.out;exact ec g A l.length c q0 fa fe w4 hr
      clear hd
      go_wp2_with fail
      refine hn.out.mono ?_;rintro e w5 ⟨rfl,hb5⟩;have HR5:=Lib.hid (HR4.out.below hb5);have Hg5:=Lib.hid (am Hg4.out (bj hb5));clear hb5 hn;by_cases e1:fa=0
      ·have e2:¬ (fe:Int)=0:=by omega
       subst e1;clear hd'
       go_wp2
       go_ret2
       exact ⟨none,0,by rw [hR3.out];rfl,by rw [hR3.out];exact World.ownsRow_nil _ _ _ _,by rw [hR3.out];exact HR5.out,by rw [hR3.out];exact Hok3.out,Hg5.out⟩
      ·have e2:¬ (fa:Int)=0:=by omega
       clear hd'
       go_wp2
       go_ret2
       exact ⟨none,0,by rw [hR3.out];rfl,by rw [hR3.out];exact World.ownsRow_nil _ _ _ _,by rw [hR3.out];exact HR5.out,by rw [hR3.out];exact Hok3.out,Hg5.out⟩
    ·obtain ⟨q0,fa,fe⟩:=s3
     have hd':ok=true∧fa=0∧fe=0:=by simp [lj] at hd;exact hd
     obtain ⟨rfl,rfl,rfl⟩:=hd';have hn:Hid (Calls Tryz.prog 93 #[.pointer (some ⟨g,0,none⟩)] w4 fun e w'=>e=.returned (.agg #[.int .i64 (0:Int),.int .i64 (0:Int)])∧Below w4.heap.size w4 w'):=by
      obtain ⟨A,c,hr,_⟩:=HR4.out;exact ec g A l.length c q0 0 0 w4 hr
     clear hd
     go_wp2_with fail
     refine hn.out.mono ?_;rintro e w5 ⟨rfl,hb5⟩;have HO5:=Lib.hid (ay HO4.out hb5);have HR5:=Lib.hid (HR4.out.below hb5);have Hg5:=Lib.hid (am Hg4.out (bj hb5));have B5:=Lib.hid (B4.out.below hb5 B4.out.lt);have RF:=Lib.hid (ae B5.out);obtain ⟨w6,hw6⟩:∃ v,v=w5.alloc (.cells (ag x).toArray 56):=⟨_,rfl⟩
     have B6:=Lib.hid (ae (show ah w6 w5.heap.size 56 (ag x).toArray by rw [hw6];exact ah.new w5 _ _ _ rfl));have hb6:Below w5.heap.size w5 w6:=by rw [hw6];exact (Below.refl _ _).alloc (Nat.le_refl _) _
     have HO6:=Lib.hid (ay HO5.out hb6);have HR6:=Lib.hid (HR5.out.below hb6);have Hg6:=Lib.hid (am Hg5.out (bj hb6));have hwb:w.heap.size≤w6.heap.size:=Hg6.out.size;have hx63:xs.length + 1≤100001:=by omega
     clear hb5 hb6 hn B4 B5 HR4 HO4 Hg4 HO5 HR5 Hg5
     go_wp2_with (first
      | ((with_reducible refine aE 56 ?_);refine aa (by rfl) 56 (.tmp 10) rfl w3.heap.size 0 rfl (ag x) _ RF.out bW rfl Hz.out ?_)
      | ((with_reducible refine si 1 ?_);refine fF rfl 30 56 (.tmp 38) rfl (ag x) rfl Tryz.underlying30 Hz.out (by kernel_rfl) (by rw [Hxl.out];decide) (by rw [Hxl.out];decide) ?_;rw [←hw6])
      | (at_builtin;refine wpList_append_own_at (P:=Tryz.prog) w6 rfl _ _ 30 rfl w.heap.size 56 z0 zz 27 z0.bytes Tryz.underlying30 hz0 hzz hzs rfl hzc (by decide) _ xs.length (cA ag xs) rfl HO6.out ⟨w5.heap.size,0,none⟩ 1 1 (ag x) rfl (by rw [Hxl.out]) (fun j u hj=>by rw [show (⟨w5.heap.size,0,none⟩:Addr).add j=⟨w5.heap.size,0 + j,none⟩ by unfold Addr.add;split <;> simp_all];exact B6.out j u hj) (fun u hu=>Array.all_eq_true_iff_forall_mem.1 (eZ x) u (by simpa using hu)) (by unfold maxLen;omega) (Nat.le_trans (Nat.mul_le_mul hx63 hzb) (by decide)) hwb ?_;intro v7 w7 hown7 hg7 _ _))
     obtain ⟨A7,c7,hv7,_⟩:=cE hown7;subst hv7;have HL7:Hid (vT 56 27 ag one w w7 base g l s1 n A7 c7 (xs ++ [x]) (q0,0,0)):=by
      have:=HL.out.next (w2:=w7) (A':=A7) (c':=c7) hlt (by rw [H3.out];rfl) (by rw [H3.out];exact hown7) (by rw [H3.out];exact Dp HR6.out HO6.out hg7 (by decide) (by decide)) (by rw [H3.out];exact Hok3.out) (tG Hg6.out HO6.out hg7);rw [H3.out] at this;exact this
     have hx1:(xs ++ [x]).length=xs.length + 1:=by simp
     go_roundw
     case rel=>exact ⟨A7,c7,xs ++ [x],(q0,0,0),by rw [hx1];omega,by rw [hx1],HL7⟩
     case measure=>simp only;omega
   ·have hltI:¬ (xs.length:Int)<(n:Int):=by omega
    have hR3:Hid (r=(s2,xs,true)):=by
     show _=_
     rw [Hr.out,if_pos hnm,HL.out.done (by omega)];rfl
    go_wp2
    go_ret2
    exact ⟨A,c,by rw [hR3.out];rfl,by rw [hR3.out];exact HL.out.own,by rw [hR3.out];exact HL.out.rd,by rw [hR3.out];exact HL.out.ok,HL.out.gr⟩
 ·have hnmI:¬ (n:Int)≤(most:Int):=by omega
  have hR3:Hid (r=(s1,[],false)):=by
   show _=_
   rw [Hr.out,if_neg hnm]
  go_wp2
  go_loopw [9] (fun v wr=>v=.slice none 0 0∧wr=w2) (fun _ _=>0)
  case atStart=>exact ⟨rfl,rfl⟩
  case round =>
   obtain ⟨rfl,rfl⟩:=hrel
   go_wp2
   go_ret2
   exact ⟨none,0,by rw [hR3.out];rfl,by rw [hR3.out];exact World.ownsRow_nil _ _ _ _,by rw [hR3.out];exact HR.out,by rw [hR3.out];exact Ok1.out,Hg.out⟩
set_option maxRecDepth 100000 in
theorem EB {base g:Nat} {l:List UInt8} {s:St} {w:World} (one:St→St × dD × Bool) (F:FuncId) (hF:o8 Tryz.prog F=true) (most:Nat) (hm:most≤100000) (h:ey w base g l s) (hs:bY l s) (hl:l.length≤1000000000)
  (hone:∀ s w,ey w base g l s→bY l s→Calls Tryz.prog F #[.pointer (some ⟨g,0,none⟩)] w (vk w base g l (.tuple #[.agg (ax (one s).2.1).toArray,.bool (one s).2.2]) (one s).1)) (hsh:∀ s,(ax (one s).2.1).length=41) :
  Calls Tryz.prog 99 #[.pointer (some ⟨g,0,none⟩),.int .i64 (most:Int),.func (.func F) #[] #[]] w (FO 120 41 ax w base g l (dS l one most s)):=by
 obtain ⟨z0,hz0⟩:∃ z,(Tryz.prog.info? 120)=some z:=⟨_,rfl⟩
 obtain ⟨zz,hzz,hzs,hzb,hzc⟩:∃ z,z0.zero=some z∧z0.size=41∧z0.bytes≤1000∧z.cells.size=41:=by
  have e:(Tryz.prog.info? 120).bind (fun i=>i.zero.map (fun z=>(i.size,decide (i.bytes≤1000),z.cells.size)))=some (41,true,41):=by kernel_rfl
  rw [hz0] at e;obtain ⟨z,h1,h2⟩:=Option.map_eq_some_iff.1 (show z0.zero.map _=some _ from e);simp only [Prod.mk.injEq,decide_eq_true_eq] at h2;exact ⟨z,h1,h2.1,h2.2.1,h2.2.2⟩
 obtain ⟨s1,n,h1⟩:∃ u n,dB l s=(u,n):=⟨_,_,rfl⟩
 have ok1:=dF hs;rw [h1] at ok1;have hn:n≤1152921504606846977:=by have:=congrArg Prod.snd h1;simp only [dB] at this;omega
 have hQ:dS l one most s=if n≤most then ((dJ one n s1).1,(dJ one n s1).2.getD [],(dJ one n s1).2.isSome) else (s1,[],false):=by unfold dS;rw [h1]
 obtain ⟨r,hr⟩:∃ r,r=dS l one most s:=⟨_,rfl⟩
 rw [←hr];rw [hQ] at hr;have Hr:=Lib.hid hr;have H:=Lib.hid h;have Hs:=Lib.hid hs;have H1:=Lib.hid h1;have Ok1:=Lib.hid ok1;have Hone:=Lib.hid hone;have Hsh:=Lib.hid hsh;have hgw:=h.lt;clear hQ hr h hs h1 ok1 hone hsh;go_enter Tryz.func99,Tryz.ntmps99
 go_wp2_with fail
 refine (fR H.out Hs.out hl).mono ?_;rw [H1.out];rintro e w2 ⟨rfl,hR,_,hg⟩;have HR:=Lib.hid hR;have Hg:=Lib.hid hg;clear hR hg H Hs;by_cases hnm:n≤most
 ·have hnmI:(n:Int)≤(most:Int):=by omega
  have H0:Hid (vT 120 41 ax one w w2 base g l s1 n none 0 [] s1):=⟨World.ownsRow_nil _ _ _ _,HR.out,Ok1.out,Hg.out,by simp⟩
  clear HR Hg Ok1 H1
  go_wp2
  go_loopw [9] (fun v wr=>∃ (A:Option Addr) (c:Nat) (xs:List dD) (s:St),xs.length≤n∧v=.slice A xs.length c∧Hid (vT 120 41 ax one w wr base g l s1 n A c xs s)) (fun v _=>n - (match v with | .slice _ k _=>k | _=>0))
  case atStart=>exact ⟨none,0,[],s1,by simp,rfl,H0⟩
  case round =>
   obtain ⟨A,c,xs,s2,hk,rfl,HL⟩:=hrel;rename World=>wr
   by_cases hlt:xs.length<n
   ·have hltI:(xs.length:Int)<(n:Int):=by omega
    obtain ⟨s3,x,ok,h3⟩:∃ u x b,one s2=(u,x,b):=⟨_,_,_,rfl⟩
    have hone:=Hone.out s2 wr HL.out.rd HL.out.ok;have hsh:=Hsh.out s2;rw [h3] at hone hsh;have H3:=Lib.hid h3;have Hxl:=Lib.hid hsh;clear h3 hsh
    go_wp2_with fail
    rw [sZ hF];simp only [Oper.upon];refine hone.mono ?_;rintro e w3 ⟨rfl,hR,hok3,hg⟩;obtain ⟨k0,hk0⟩:∃ cs,ah wr g 195 cs:=HL.out.rd.blkE;have hown:=HL.out.own.kept hg (aK HL.out.own hk0 (by decide));obtain ⟨x4,w4,X4,Y4,T4,B4,L4⟩:=eQ w3 120 (ax j3) (ax x) (by rw [Hxl.out];rfl);rw [kJ] at X4;have HO4:=Lib.hid (ay hown L4.out);have HR4:=Lib.hid (hR.below L4.out);have Hg4:=Lib.hid (am (am HL.out.gr hg) (bj L4.out));have Hok3:=Lib.hid hok3;have Hz:Hid ((Tryz.prog.info? 120).map (·.size)=some (ax x).length):=by show _=_;rw [Hxl.out];kernel_rfl
    clear hone hR hok3 hg hk0 hown;go_upto_region 5 with (first
     | (rw [←X4.out];(with_reducible refine aM 120 ?_);refine wpList_store_mid rfl 120 (.tmp 10) (.tmp 27) rfl w3.heap.size 0 (ax x).toArray rfl rfl T4.out (by rw [List.size_toArray];exact Hz.out) (iX _) ?_))
    rw [←Y4.out];clear X4 Y4 T4;have hb1:(one s2).1=s3:=by rw [H3.out]
    rcases hd:(ok && lj s3) with _ | _
    ·have hR3:Hid (r=(s3,[],false)):=by
      show _=_
      rw [Hr.out,if_pos hnm,HL.out.bad hlt (by rw [H3.out];exact hd),hb1];rfl
     rcases ok with _ | _
     ·go_wp2
      go_ret2
      exact ⟨none,0,by rw [hR3.out];rfl,by rw [hR3.out];exact World.ownsRow_nil _ _ _ _,by rw [hR3.out];exact HR4.out,by rw [hR3.out];exact Hok3.out,Hg4.out⟩
     ·obtain ⟨q0,fa,fe⟩:=s3
      have hd':¬ (fa=0∧fe=0):=fun e=>by simp [lj,e.1,e.2] at hd
      have hn:Hid (Calls Tryz.prog 93 #[.pointer (some ⟨g,0,none⟩)] w4 fun e w'=>e=.returned (.agg #[.int .i64 (fa:Int),.int .i64 (fe:Int)])∧Below w4.heap.size w4 w'):=by
       obtain ⟨A,c,hr,_⟩:=HR4.out;exact ec g A l.length c q0 fa fe w4 hr
      clear hd
      go_wp2_with fail
      refine hn.out.mono ?_;rintro e w5 ⟨rfl,hb5⟩;have HR5:=Lib.hid (HR4.out.below hb5);have Hg5:=Lib.hid (am Hg4.out (bj hb5));clear hb5 hn;by_cases e1:fa=0
      ·have e2:¬ (fe:Int)=0:=by omega
       subst e1;clear hd'
       go_wp2
       go_ret2
       exact ⟨none,0,by rw [hR3.out];rfl,by rw [hR3.out];exact World.ownsRow_nil _ _ _ _,by rw [hR3.out];exact HR5.out,by rw [hR3.out];exact Hok3.out,Hg5.out⟩
      ·have e2:¬ (fa:Int)=0:=by omega
       clear hd'
       go_wp2
       go_ret2
       exact ⟨none,0,by rw [hR3.out];rfl,by rw [hR3.out];exact World.ownsRow_nil _ _ _ _,by rw [hR3.out];exact HR5.out,by rw [hR3.out];exact Hok3.out,Hg5.out⟩
    ·obtain ⟨q0,fa,fe⟩:=s3
     have hd':ok=true∧fa=0∧fe=0:=by simp [lj] at hd;exact hd
     obtain ⟨rfl,rfl,rfl⟩:=hd';have hn:Hid (Calls Tryz.prog 93 #[.pointer (some ⟨g,0,none⟩)] w4 fun e w'=>e=.returned (.agg #[.int .i64 (0:Int),.int .i64 (0:Int)])∧Below w4.heap.size w4 w'):=by
      obtain ⟨A,c,hr,_⟩:=HR4.out;exact ec g A l.length c q0 0 0 w4 hr
     clear hd
     go_wp2_with fail
     refine hn.out.mono ?_;rintro e w5 ⟨rfl,hb5⟩;have HO5:=Lib.hid (ay HO4.out hb5);have HR5:=Lib.hid (HR4.out.below hb5);have Hg5:=Lib.hid (am Hg4.out (bj hb5));have B5:=Lib.hid (B4.out.below hb5 B4.out.lt);have RF:=Lib.hid (ae B5.out);obtain ⟨w6,hw6⟩:∃ v,v=w5.alloc (.cells (ax x).toArray 120):=⟨_,rfl⟩
     have B6:=Lib.hid (ae (show ah w6 w5.heap.size 120 (ax x).toArray by rw [hw6];exact ah.new w5 _ _ _ rfl));have hb6:Below w5.heap.size w5 w6:=by rw [hw6];exact (Below.refl _ _).alloc (Nat.le_refl _) _
     have HO6:=Lib.hid (ay HO5.out hb6);have HR6:=Lib.hid (HR5.out.below hb6);have Hg6:=Lib.hid (am Hg5.out (bj hb6));have hwb:w.heap.size≤w6.heap.size:=Hg6.out.size;have hx63:xs.length + 1≤100001:=by omega
     clear hb5 hb6 hn B4 B5 HR4 HO4 Hg4 HO5 HR5 Hg5
     go_wp2_with (first
      | ((with_reducible refine aE 120 ?_);refine aa (by rfl) 120 (.tmp 10) rfl w3.heap.size 0 rfl (ax x) _ RF.out cD rfl Hz.out ?_)
      | ((with_reducible refine si 1 ?_);refine fF rfl 34 120 (.tmp 38) rfl (ax x) rfl Tryz.underlying34 Hz.out (by kernel_rfl) (by rw [Hxl.out];decide) (by rw [Hxl.out];decide) ?_;rw [←hw6])
      | (at_builtin;refine wpList_append_own_at (P:=Tryz.prog) w6 rfl _ _ 34 rfl w.heap.size 120 z0 zz 41 z0.bytes Tryz.underlying34 hz0 hzz hzs rfl hzc (by decide) _ xs.length (cA ax xs) rfl HO6.out ⟨w5.heap.size,0,none⟩ 1 1 (ax x) rfl (by rw [Hxl.out]) (fun j u hj=>by rw [show (⟨w5.heap.size,0,none⟩:Addr).add j=⟨w5.heap.size,0 + j,none⟩ by unfold Addr.add;split <;> simp_all];exact B6.out j u hj) (fun u hu=>Array.all_eq_true_iff_forall_mem.1 (iX x) u (by simpa using hu)) (by unfold maxLen;omega) (Nat.le_trans (Nat.mul_le_mul hx63 hzb) (by decide)) hwb ?_;intro v7 w7 hown7 hg7 _ _))
     obtain ⟨A7,c7,hv7,_⟩:=cE hown7;subst hv7;have HL7:Hid (vT 120 41 ax one w w7 base g l s1 n A7 c7 (xs ++ [x]) (q0,0,0)):=by
      have:=HL.out.next (w2:=w7) (A':=A7) (c':=c7) hlt (by rw [H3.out];rfl) (by rw [H3.out];exact hown7) (by rw [H3.out];exact Dp HR6.out HO6.out hg7 (by decide) (by decide)) (by rw [H3.out];exact Hok3.out) (tG Hg6.out HO6.out hg7);rw [H3.out] at this;exact this
     have hx1:(xs ++ [x]).length=xs.length + 1:=by simp
     go_roundw
     case rel=>exact ⟨A7,c7,xs ++ [x],(q0,0,0),by rw [hx1];omega,by rw [hx1],HL7⟩
     case measure=>simp only;omega
   ·have hltI:¬ (xs.length:Int)<(n:Int):=by omega
    have hR3:Hid (r=(s2,xs,true)):=by
     show _=_
     rw [Hr.out,if_pos hnm,HL.out.done (by omega)];rfl
    go_wp2
    go_ret2
    exact ⟨A,c,by rw [hR3.out];rfl,by rw [hR3.out];exact HL.out.own,by rw [hR3.out];exact HL.out.rd,by rw [hR3.out];exact HL.out.ok,HL.out.gr⟩
 ·have hnmI:¬ (n:Int)≤(most:Int):=by omega
  have hR3:Hid (r=(s1,[],false)):=by
   show _=_
   rw [Hr.out,if_neg hnm]
  go_wp2
  go_loopw [9] (fun v wr=>v=.slice none 0 0∧wr=w2) (fun _ _=>0)
  case atStart=>exact ⟨rfl,rfl⟩
  case round =>
   obtain ⟨rfl,rfl⟩:=hrel
   go_wp2
   go_ret2
   exact ⟨none,0,by rw [hR3.out];rfl,by rw [hR3.out];exact World.ownsRow_nil _ _ _ _,by rw [hR3.out];exact HR.out,by rw [hR3.out];exact Ok1.out,Hg.out⟩
end Go.Proofs.YtaafkokfdgfabaaGreat
namespace Go.Proofs.YtaafkokfdgfabaaGreat
open Go.RowKit
set_option linter.unusedVariables false
set_option linter.unusedSimpArgs false
theorem tH (l:List UInt8) (s:St):(bO l s 255).2.length≤255:=by
 unfold bO;split
 ·simp
 ·rename_i h
  have:=iI l (dq l s).1 (dq l s).2.2 (dq l s).2.1;omega
theorem vq {α:Type} {one:St→St × α × Bool} {P:α→Prop} (h:∀ s,P (one s).2.1):∀ (k:Nat) (s:St) (xs:List α),(dJ one k s).2=some xs→xs.length=k∧∀ x ∈ xs,P x
 | 0,s,xs,e=>by simp only [dJ,Option.some.injEq] at e;subst e;simp
 | k + 1,s,xs,e=>by
  unfold dJ at e;split at e
  ·obtain ⟨ys,h1,rfl⟩:=Option.map_eq_some_iff.1 e
   obtain ⟨h2,h3⟩:=vq h k _ ys h1;refine ⟨by simp [h2],fun x hx=>?_⟩;rcases List.mem_cons.1 hx with rfl | hx
   ·exact h s
   ·exact h3 x hx
  ·cases e
theorem qP {α:Type} {l:List UInt8} {one:St→St × α × Bool} {most:Nat} {s:St} {P:α→Prop} (h:∀ s,P (one s).2.1):(dS l one most s).2.1.length≤most∧∀ x ∈ (dS l one most s).2.1,P x:=by
 unfold dS;split
 ·rename_i hm
  rcases he:(dJ one (dB l s).2 (dB l s).1).2 with _ | xs
  ·simp
  ·obtain ⟨h1,h2⟩:=vq h _ _ xs he
   simp only [Option.getD_some];exact ⟨by omega,h2⟩
 ·simp
theorem nB (l:List UInt8):∀ (k:Nat) (s:St),(fH l (k + 1) s).1=(dB l (fH l k s).1).1∧(fH l (k + 1) s).2=(fH l k s).2 ++ [(dB l (fH l k s).1).2]
 | 0,s=>⟨rfl,rfl⟩
 | k + 1,s=>by
  have h:=nB l k (dB l s).1;exact ⟨h.1,by rw [fH];show (dB l s).2 :: _=_;rw [h.2];rfl⟩
theorem qQ {α:Type} {cs:α→List Value} {sz:Nat} {w:World} {base:Nat} {T:TypeId} {A:Option Addr} {c:Nat} {xs:List α} (h:w.ownsRow base T sz (.slice A xs.length c) xs.length (cA cs xs)) (hs:∀ x ∈ xs,(cs x).length=sz):RW cs sz w w.heap.size A xs:=fun hn=>by
 obtain ⟨g,cap,hv,_,hlt⟩:=h.form (by omega);have hA:A=some ⟨g,0,none⟩:=by injection hv
 subst hA;refine ⟨g,0,rfl,hlt,fun j v hj i u hu=>?_⟩;have:=h.cells (g:=g) rfl (j * sz + i) u (Cv (P:=fun x=>(cs x).length=sz) (fun _ h=>h) hs hj hu);rw [Nat.zero_add];rw [show (⟨g,0,none⟩:Addr).add (j * sz + i)=⟨g,j * sz + i,none⟩ by unfold Addr.add;split <;> simp_all] at this;exact this
structure io (w:World) (base:Nat) (x:nG) (s:bh):Prop where
 b:w.ownsRow base 56 27 (.slice x.b s.pool.backs.length x.cb) s.pool.backs.length (cA ag s.pool.backs)
 h:w.ownsRow base 115 3 (.slice x.h s.healths.length x.ch) s.healths.length (cA aC s.healths)
 f:w.ownsRow base 120 41 (.slice x.f s.flows.length x.cf) s.flows.length (cA ax s.flows)
 ok:gG s
 nb:s.pool.backs.length≤1024∧∀ b ∈ s.pool.backs,b.name.length≤255
 nh:s.healths.length≤1024∧∀ h ∈ s.healths,h.name.length≤255
 nf:s.flows.length≤4096∧∀ f ∈ s.flows,f.name.length≤255
theorem io.held {w:World} {base:Nat} {x:nG} {s:bh} (h:io w base x s):mJ w w.heap.size x s :=
 ⟨⟨qQ h.b fun b hb=>bq (h.ok.backs b hb),qQ h.h fun _ _=>rfl,qQ h.f fun f hf=>iT (h.ok.flows f hf)⟩,h.ok,⟨gI h.b,by have:=h.nb.1;omega⟩,⟨gI h.h,by have:=h.nh.1;omega⟩,⟨gI h.f,by have:=h.nf.1;omega⟩,
  fun b hb=>by have:=h.nb.2 b hb;omega,fun b hb=>by have:=h.nh.2 b hb;omega,fun b hb=>by have:=h.nf.2 b hb;omega⟩
theorem io.below {w w':World} {base:Nat} {x:nG} {s:bh} (h:io w base x s) (hb:Below w.heap.size w w'):io w' base x s:=⟨ay h.b hb,ay h.h hb,ay h.f hb,h.ok,h.nb,h.nh,h.nf⟩
theorem io.more {w:World} {base base':Nat} {x:nG} {s:bh} (h:io w base x s) (hb:base'≤base):io w base' x s:=⟨bV h.b hb,bV h.h hb,bV h.f hb,h.ok,h.nb,h.nh,h.nf⟩
def fS:nG:=⟨none,0,none,0,none,0⟩
theorem io.zero (w:World) (base:Nat):io w base fS cI:=⟨World.ownsRow_nil _ _ _ _,World.ownsRow_nil _ _ _ _,World.ownsRow_nil _ _ _ _,gX,by simp [cI],by simp [cI],by simp [cI]⟩
theorem qR (l:List UInt8) (s:St):au (cH l s).2.1∧(cH l s).2.1.name.length≤255:=by
 unfold cH eG;simp only;split
 ·exact ⟨jD l s false,by simp only [dI];exact tH l s⟩
 ·exact ⟨aF,by decide⟩
theorem xO (l:List UInt8) (s:St):(cO l s).2.1.name.length≤255:=by simp only [cO];exact tH l s
theorem vr (l:List UInt8) (s:St):cg (eB l s).2.1.key∧(eB l s).2.1.name.length≤255:=⟨by simp only [eB];exact pf l s,by have h:=tH l (kj l s).1;simpa only [eB] using h⟩
theorem vt {base g:Nat} {l:List UInt8} (hl:l.length≤1000000000) (s:St) (w:World) (h:ey w base g l s) (hs:bY l s) :
  Calls Tryz.prog 96 #[.pointer (some ⟨g,0,none⟩)] w (vk w base g l (.tuple #[.agg (ag (cH l s).2.1).toArray,.bool (cH l s).2.2]) (cH l s).1):=by
 simp only [cH];have hc:=Al base g l s w h hs hl;unfold pS at hc;generalize (eG l s)=tb at hc ⊢
 generalize (dI l s false).1=q at hc ⊢
 refine Calls.mono hc fun e w' h=>?_
 obtain ⟨h0,h1,h2,h3⟩:=h;exact ⟨h0,h1,h2,h3.1,h3.2.1,h3.2.2.1,h3.2.2.2.1,fun k hk hne=>h3.2.2.2.2 k hk (fun e=>hne (by rw [e])) (by simp)⟩
def tI (w:World) (l:List UInt8) (e:Ending) (w':World):Prop :=
 Below w.heap.size w w'∧(gN l=none→e=.returned (.tuple #[.agg (dh fS cI).toArray,.int .i64 3]))∧∀ s,gN l=some s→∃ x,e=.returned (.tuple #[.agg (dh x s).toArray,.int .i64 0])∧io w' w.heap.size x s
end Go.Proofs.YtaafkokfdgfabaaGreat
namespace Go.Proofs.YtaafkokfdgfabaaGreat
open Go.RowKit
set_option linter.unusedVariables false
set_option linter.unusedSimpArgs false
def nv (n:Nat):Value:=.int .i64 (n:Int)
def vu (ver b h f:Value) (ns:List Nat) (k:Nat):List Value:=ver :: b :: h :: f :: (ns.map nv ++ List.replicate k (zv 0))
theorem mE (ver b h f:Value) (ns:List Nat) (k:Nat):vu ver b h f ns (k + 1)=(ver :: b :: h :: f :: ns.map nv) ++ zv 0 :: List.replicate k (zv 0):=by simp [vu,List.replicate_succ]
theorem tJ (ver b h f:Value) (ns:List Nat) (n k:Nat):(ver :: b :: h :: f :: ns.map nv) ++ nv n :: List.replicate k (zv 0)=vu ver b h f (ns ++ [n]) k:=by simp [vu]
structure vU (w wr:World) (g bx:Nat) (l:List UInt8) (s:St) (cs:List Value):Prop where
 rd:ey wr (w.heap.size + 2) g l s
 ok:bY l s
 res:ah wr w.heap.size 37 (dh fS cI).toArray
 box:ah wr bx 37 cs.toArray
 bel:Below w.heap.size w wr
 gn:w.heap.size≠g∧bx≠g∧w.heap.size≠bx∧w.heap.size≤g∧w.heap.size≤bx
section
variable {w wr w':World} {g bx:Nat} {l:List UInt8} {s s':St} {cs cs':List Value}
theorem vU.after (h:vU w wr g bx l s cs) (hr:ey w' (w.heap.size + 2) g l s') (ok:bY l s') (hg:wr.grownBy w' (some g)):vU w w' g bx l s' cs :=
 ⟨hr,ok,h.res.grown hg (by simpa using h.gn.1),h.box.grown hg (by simpa using h.gn.2.1),h.bel.grown hg h.bel.size (fun k hk=>by injection hk with hk;have:=h.gn.2.2.2.1;omega),h.gn⟩
theorem vU.below (h:vU w wr g bx l s cs) (hb:Below wr.heap.size wr w'):vU w w' g bx l s cs :=
 ⟨h.rd.below hb,h.ok,h.res.below hb h.res.lt,h.box.below hb h.box.lt,h.bel.trans (hb.mono h.bel.size),h.gn⟩
theorem vU.set_ (h:vU w wr g bx l s cs) {pre post:List Value} {u v:Value} {n:Nat} (hcs:cs=pre ++ u :: post) (hn:pre.length=n) (hd:pre ++ v :: post=cs'):vU w (wr.setCell ⟨bx,n,none⟩ v) g bx l s cs':=by
 have h1:=(kK h.box hcs hn).2.2 v;have hg:=aV wr ⟨bx,n,none⟩ v;rw [hd] at h1;exact ⟨h.rd.off hg h.box (by decide) (by decide),h.ok,h.res.grown hg (by simpa using h.gn.2.2.1),h1,h.bel.grown hg h.bel.size (fun k hk=>by injection hk with hk;have e:bx=k:=hk;have:=h.gn.2.2.2.2;omega),h.gn⟩
theorem vU.cell (h:vU w wr g bx l s cs) {pre post:List Value} {u:Value} {n:Nat} (hcs:cs=pre ++ u :: post) (hn:pre.length=n):wr.cell? ⟨bx,n,none⟩=some u∧wr.frozen? ⟨bx,n,none⟩=false:=⟨(kK h.box hcs hn).1,(kK h.box hcs hn).2.1⟩
end
theorem tK (x:nG) (s:bh):(dh x s).toArray.all (·.oneCell')=true:=all_oneCell_toArray (by
 intro u hu;simp only [dh,List.mem_cons,List.mem_map] at hu;rcases hu with rfl | rfl | rfl | rfl | rfl | rfl | ⟨z,_,rfl⟩ <;> rfl)
theorem zu:(dh fS cI).toArray=(#[.int .i64 0,.slice none 0 0,.slice none 0 0,.slice none 0 0,.int .i64 0,.int .i64 0,.int .i64 0,.int .i64 0,.int .i64 0,.int .i64 0,.int .i64 0,.int .i64 0,.int .i64 0,.int .i64 0,.int .i64 0,.int .i64 0,.int .i64 0]:Array Value):=rfl
theorem FP {ns:List Nat} (h:ns.length=13) (v:Nat) (x:nG) (bs:List aU) (hs:List cN) (fs:List dD):vu (nv v) (.slice x.b bs.length x.cb) (.slice x.h hs.length x.ch) (.slice x.f fs.length x.cf) ns 0=dh x (tn (ns ++ [v]) bs hs fs):=by
 match ns,h with
 | [a,b,c,d,e,f,g,i,j,k,m,n,o],_=>rfl
structure AX (w wr:World) (g bx:Nat) (l:List UInt8) (s:St) (cs:List Value) (x:nG) (bs:List aU) (hs:List cN) (fs:List dD):Prop where
 r:vU w wr g bx l s cs
 b:wr.ownsRow w.heap.size 56 27 (.slice x.b bs.length x.cb) bs.length (cA ag bs)
 h:wr.ownsRow w.heap.size 115 3 (.slice x.h hs.length x.ch) hs.length (cA aC hs)
 f:wr.ownsRow w.heap.size 120 41 (.slice x.f fs.length x.cf) fs.length (cA ax fs)
section
variable {w wr w':World} {g bx:Nat} {l:List UInt8} {s s':St} {cs cs':List Value} {x:nG} {bs:List aU} {hs:List cN} {fs:List dD}
theorem AX.after (h:AX w wr g bx l s cs x bs hs fs) (hr:ey w' (w.heap.size + 2) g l s') (ok:bY l s') (hg:wr.grownBy w' (some g)):AX w w' g bx l s' cs x bs hs fs:=by
 obtain ⟨k,hb⟩:=h.r.rd.blkE;exact ⟨h.r.after hr ok hg,h.b.kept hg (aK h.b hb (by decide)),h.h.kept hg (aK h.h hb (by decide)),h.f.kept hg (aK h.f hb (by decide))⟩
theorem AX.below (h:AX w wr g bx l s cs x bs hs fs) (hb:Below wr.heap.size wr w'):AX w w' g bx l s cs x bs hs fs:=⟨h.r.below hb,ay h.b hb,ay h.h hb,ay h.f hb⟩
theorem AX.set_ (h:AX w wr g bx l s cs x bs hs fs) {pre post:List Value} {u v:Value} {n:Nat} (hcs:cs=pre ++ u :: post) (hn:pre.length=n) (hd:pre ++ v :: post=cs'):AX w (wr.setCell ⟨bx,n,none⟩ v) g bx l s cs' x bs hs fs:=by
 have hg:=aV wr ⟨bx,n,none⟩ v;exact ⟨h.r.set_ hcs hn hd,h.b.kept hg (aK h.b h.r.box (by decide)),h.h.kept hg (aK h.h h.r.box (by decide)),h.f.kept hg (aK h.f h.r.box (by decide))⟩
end
set_option maxRecDepth 100000 in
theorem vv (A:Option Addr) (n c:Nat) (l:List UInt8) (w:World) (hn:n=l.length) (hb:BS w w.heap.size A l) (hl:n≤1000000000) :
  Calls Tryz.prog 45 #[.slice A n c] w (tI w l):=by
 subst hn;obtain ⟨W1,hW1⟩:∃ W,W=w.alloc (.cells (dh fS cI).toArray 37):=⟨_,rfl⟩
 obtain ⟨W,hW⟩:∃ W,W=W1.alloc (.cells (dh fS cI).toArray 37):=⟨_,rfl⟩
 have hs1:W1.heap.size=w.heap.size + 1:=by rw [hW1];simp
 have hs2:W.heap.size=w.heap.size + 2:=by rw [hW];simp [hs1]
 have hX1:ah W1 w.heap.size 37 (dh fS cI).toArray:=by rw [hW1];exact ah.new w _ _ _ rfl
 have hY:ah W w.heap.size 37 (dh fS cI).toArray:=by rw [hW];exact hX1.alloc _
 have hX:ah W (w.heap.size + 1) 37 (dh fS cI).toArray:=by rw [hW];exact ah.new W1 _ _ _ hs1
 have HB:Hid (Below w.heap.size w W):=by rw [hW,hW1];exact ((Below.refl _ _).alloc (Nat.le_refl _) _).alloc (by simp) _
 obtain ⟨bx,hbx⟩:∃ b,b=w.heap.size + 1:=⟨_,rfl⟩
 rw [←hbx] at hX;have HA:=Lib.hid ((hb.below HB.out).more HB.out.size);rw [zu] at hW1 hW;have HW1:=Lib.hid hW1;have HW:=Lib.hid hW;have HX:=Lib.hid hX;have HY:=Lib.hid hY;have Hbx:=Lib.hid hbx;have Hs2:=Lib.hid hs2;clear hW1 hW hX hY hbx hs1 hs2 hX1 hb;go_enter Tryz.func45,Tryz.ntmps45
 go_upto_region 2 with fail
 rw [←HW1.out,←HW.out,←Hbx.out];clear HW HW1
 go_wp2_with fail
 refine (mm A l.length c l W rfl HA.out hl).mono ?_;rintro e w2 ⟨g,rfl,hg1,hg2,hr,hbel⟩;have H2:Hid (vU w w2 g bx l (0,0,0) (vu (zv 0) (.slice none 0 0) (.slice none 0 0) (.slice none 0 0) [] 13)):=by
  have e:=Hbx.out;have e2:=Hs2.out;refine ⟨by rw [e2] at hr;exact hr,⟨Nat.zero_le _,Nat.zero_le _,Nat.zero_le _⟩,HY.out.below hbel HY.out.lt,HX.out.below hbel HX.out.lt,HB.out.trans (hbel.mono HB.out.size),?_⟩;omega
 clear hg1 hg2 hr hbel HA HX HY HB;obtain ⟨S,hS⟩:∃ S:Nat→St,∀ k,S k=(fH l k (0,0,0)).1:=⟨_,fun _=>rfl⟩
 obtain ⟨N,hN⟩:∃ N:Nat→Nat,∀ k,N k=(dB l (S k)).2:=⟨_,fun _=>rfl⟩
 obtain ⟨NS,hNS⟩:∃ NS:Nat→List Nat,∀ k,NS k=(fH l k (0,0,0)).2:=⟨_,fun _=>rfl⟩
 have HSs:Hid (∀ k,(dB l (S k)).1=S (k + 1)):=fun k=>by rw [hS,hS];exact (nB l k _).1.symm
 have HNs:Hid (∀ k,NS k ++ [N k]=NS (k + 1)):=fun k=>by rw [hNS,hNS,hN,hS];exact (nB l k _).2.symm
 have HNl:Hid (∀ k,(NS k).length=k):=fun k=>by rw [hNS];exact pd k _
 have HN:=Lib.hid hN;have HNS:=Lib.hid hNS;have HS:=Lib.hid hS;have H20:Hid (vU w w2 g bx l (S 0) (vu (zv 0) (.slice none 0 0) (.slice none 0 0) (.slice none 0 0) (NS 0) 13)):=by rw [hS,hNS];exact H2
 clear hS hN hNS H2
 go_wp2_with fail
 refine (fR H20.out.rd H20.out.ok hl).mono ?_;rw [HSs.out,←HN.out];rintro e w3 ⟨rfl,hr,ok,hg⟩;have H3:=Lib.hid (H20.out.after hr ok hg);clear hr ok hg H20
 go_wp2_with fail
 refine (fR H3.out.rd H3.out.ok hl).mono ?_;rw [HSs.out,←HN.out];rintro e w4 ⟨rfl,hr,ok,hg⟩;have h4:=H3.out.after hr ok hg;have e0:NS 0=[]:=List.eq_nil_of_length_eq_zero (HNl.out 0);rw [e0] at h4;have q4:=h4.cell (mE _ _ _ _ [] 12) (n:=4) rfl;have h5:=h4.set_ (v:=nv (N 0)) (mE _ _ _ _ [] 12) (n:=4) rfl (tJ _ _ _ _ _ _ _);have q5:=h5.cell (mE _ _ _ _ _ 11) (n:=5) rfl;have h6:=h5.set_ (v:=nv (N 1)) (mE _ _ _ _ _ 11) (n:=5) rfl (tJ _ _ _ _ _ _ _);obtain ⟨w5,hw5⟩:∃ v,v=(w4.setCell ⟨bx,4,none⟩ (nv (N 0))).setCell ⟨bx,5,none⟩ (nv (N 1)):=⟨_,rfl⟩
 rw [←hw5] at h6;have c4:=q4.1;have f4:=q4.2;have c5:=(h4.cell (pre:=[zv 0,.slice none 0 0,.slice none 0 0,.slice none 0 0,zv 0]) (u:=zv 0) (post:=List.replicate 11 (zv 0)) (n:=5) rfl rfl).1;have f5:=q5.2;unfold nv at hw5 f5;have e2:(([]:List Nat) ++ [N 0]) ++ [N 1]=NS 2 :=by have h1:=HNs.out 0;have h2:=HNs.out 1;rw [e0] at h1;rw [h1];exact h2
 rw [e2] at h6;have H5:=Lib.hid h6;clear h4 h5 h6 q4 q5 e0 e2 H3;go_upto_region 4 with fail
 rw [←hw5];clear hw5 c4 c5 f4 f5
 go_wp2
 go_loopw [18] (fun i wr=>∃ k:Nat,k≤11∧i=.int .i64 (k:Int)∧Hid (vU w wr g bx l (S (k + 2)) (vu (zv 0) (.slice none 0 0) (.slice none 0 0) (.slice none 0 0) (NS (k + 2)) (11 - k)))) (fun i _=>11 - (intOf i).toNat)
 case atStart=>exact ⟨0,by omega,rfl,H5⟩
 case round =>
  obtain ⟨k,hk,rfl,HK⟩:=hrel;rename World=>wr
  by_cases hlt:k<11
  ·have hltI:(k:Int)<11:=by omega
   have hk0:(0:Int)≤(k:Int):=by omega
   go_wp2_with fail
   refine (fR HK.out.rd HK.out.ok hl).mono ?_;rw [HSs.out,←HN.out];rintro e w6 ⟨rfl,hr,ok,hg⟩;have h6:=HK.out.after hr ok hg;rw [show 11 - k=(10 - k) + 1 by omega] at h6;have hpl:(zv 0 :: Value.slice none 0 0 :: Value.slice none 0 0 :: Value.slice none 0 0 :: (NS (k + 2)).map nv).length=6 + k:=by simp [HNl.out];omega
   have q6:=h6.cell (mE _ _ _ _ _ _) hpl;have h7:=h6.set_ (v:=nv (N (k + 2))) (mE _ _ _ _ _ _) hpl (tJ _ _ _ _ _ _ _);rw [HNs.out] at h7;obtain ⟨w7,hw7⟩:∃ v,v=w6.setCell ⟨bx,6 + k,none⟩ (nv (N (k + 2))):=⟨_,rfl⟩
   rw [←hw7] at h7;have H7:Hid (vU w w7 g bx l (S (k + 1 + 2)) (vu (zv 0) (.slice none 0 0) (.slice none 0 0) (.slice none 0 0) (NS (k + 1 + 2)) (11 - (k + 1)))):=by
    rw [show 11 - (k + 1)=10 - k by omega];exact h7
   have c6:=q6.1;have f6:=q6.2;unfold nv at hw7;clear hr ok hg h6 h7 hpl q6
   go_wp2
   rw [←hw7];go_roundw
   case rel=>exact ⟨k + 1,by omega,rfl,H7⟩
   case measure=>simp [intOf];omega
  ·have hltI:¬ (k:Int)<11:=by omega
   obtain rfl:k=11:=by omega
   have HO:Hid (AX w wr g bx l (S 13) (vu (zv 0) (.slice none 0 0) (.slice none 0 0) (.slice none 0 0) (NS 13) 0) fS [] [] []):=⟨HK.out,World.ownsRow_nil _ _ _ _,World.ownsRow_nil _ _ _ _,World.ownsRow_nil _ _ _ _⟩
   clear HK H5
   go_wp2_with fail
   refine (fR HO.out.r.rd HO.out.r.ok hl).mono ?_;rw [HSs.out,←HN.out];rintro e w6 ⟨rfl,hr,ok,hg⟩;have h6:=HO.out.after hr ok hg;have q6:=h6.r.cell (pre:=[]) rfl (n:=0) rfl;have h7:=h6.set_ (v:=nv (N 13)) (pre:=[]) rfl (n:=0) rfl (cs':=vu (nv (N 13)) (.slice none 0 0) (.slice none 0 0) (.slice none 0 0) (NS 13) 0) rfl;obtain ⟨w7,hw7⟩:∃ v,v=w6.setCell ⟨bx,0,none⟩ (nv (N 13)):=⟨_,rfl⟩
   rw [←hw7] at h7;have H7:=Lib.hid h7;have c6:=q6.1;have f6:=q6.2;unfold nv at hw7;clear hr ok hg h6 h7 q6 HO;go_upto_region 10 with fail
   rw [←hw7];clear hw7 c6 f6;obtain ⟨sA,bs,ra,hsA⟩:∃ u v b,dS l (cH l) 1024 (S 14)=(u,v,b):=⟨_,_,_,rfl⟩
   have PmsA:=Lib.hid (qP (l:=l) (one:=cH l) (most:=1024) (s:=S 14) (P:=fun b=>au b∧b.name.length≤255) (qR l));rw [hsA] at PmsA;have HsA:=Lib.hid hsA
   go_wp2_with fail
   refine (EA (cH l) 96 (by kernel_rfl) 1024 (by decide) H7.out.r.rd H7.out.r.ok hl (fun s w h hs=>vt hl s w h hs) (fun s=>bq (qR l s).1)).mono ?_;rw [HsA.out];rintro e w8 ⟨AsA,csA,rfl,hown,hr,ok,hg⟩;have hx:=H7.out.after hr ok hg;have hown:=bV hown H7.out.r.bel.size;have q6:=hx.r.cell (pre:=[nv (N 13)]) rfl (n:=1) rfl;have hz:AX w w8 g bx l sA (vu (nv (N 13)) (.slice none 0 0) (.slice none 0 0) (.slice none 0 0) (NS 13) 0) ⟨AsA,csA,none,0,none,0⟩ bs [] []:=⟨hx.r,hown,hx.h,hx.f⟩
   have h7:=hz.set_ (v:=.slice AsA bs.length csA) (pre:=[nv (N 13)]) rfl (n:=1) rfl (cs':=vu (nv (N 13)) (.slice AsA bs.length csA) (.slice none 0 0) (.slice none 0 0) (NS 13) 0) rfl;obtain ⟨w8b,hw7⟩:∃ v,v=w8.setCell ⟨bx,1,none⟩ (.slice AsA bs.length csA):=⟨_,rfl⟩
   rw [←hw7] at h7;have Hw8:=Lib.hid h7;have c6:=q6.1;have f6:=q6.2;clear hown hr ok hg hx hz h7 q6 hsA H7;go_upto_region 12 with fail
   rw [←hw7];clear hw7 c6 f6;obtain ⟨sB,hs,rc,hsB⟩:∃ u v b,dS l (cO l) 1024 (sA)=(u,v,b):=⟨_,_,_,rfl⟩
   have PmsB:=Lib.hid (qP (l:=l) (one:=cO l) (most:=1024) (s:=sA) (P:=fun h=>h.name.length≤255) (xO l));rw [hsB] at PmsB;have HsB:=Lib.hid hsB
   go_wp2_with fail
   refine (Ez (cO l) 98 (by kernel_rfl) 1024 (by decide) Hw8.out.r.rd Hw8.out.r.ok hl (fun s w h hs=>xM h hs hl) (fun s=>rfl)).mono ?_;rw [HsB.out];rintro e w9 ⟨AsB,csB,rfl,hown,hr,ok,hg⟩;have hx:=Hw8.out.after hr ok hg;have hown:=bV hown Hw8.out.r.bel.size;have q6:=hx.r.cell (pre:=[nv (N 13),.slice AsA bs.length csA]) rfl (n:=2) rfl;have hz:AX w w9 g bx l sB (vu (nv (N 13)) (.slice AsA bs.length csA) (.slice none 0 0) (.slice none 0 0) (NS 13) 0) ⟨AsA,csA,AsB,csB,none,0⟩ bs hs []:=⟨hx.r,hx.b,hown,hx.f⟩
   have h7:=hz.set_ (v:=.slice AsB hs.length csB) (pre:=[nv (N 13),.slice AsA bs.length csA]) rfl (n:=2) rfl (cs':=vu (nv (N 13)) (.slice AsA bs.length csA) (.slice AsB hs.length csB) (.slice none 0 0) (NS 13) 0) rfl;obtain ⟨w9b,hw7⟩:∃ v,v=w9.setCell ⟨bx,2,none⟩ (.slice AsB hs.length csB):=⟨_,rfl⟩
   rw [←hw7] at h7;have Hw9:=Lib.hid h7;have c6:=q6.1;have f6:=q6.2;clear hown hr ok hg hx hz h7 q6 hsB Hw8;go_upto_region 13 with fail
   rw [←hw7];clear hw7 c6 f6;obtain ⟨sC,fs,rd,hsC⟩:∃ u v b,dS l (eB l) 4096 (sB)=(u,v,b):=⟨_,_,_,rfl⟩
   have PmsC:=Lib.hid (qP (l:=l) (one:=eB l) (most:=4096) (s:=sB) (P:=fun f=>cg f.key∧f.name.length≤255) (vr l));rw [hsC] at PmsC;have HsC:=Lib.hid hsC
   go_wp2_with fail
   refine (EB (eB l) 100 (by kernel_rfl) 4096 (by decide) Hw9.out.r.rd Hw9.out.r.ok hl (fun s w h hs=>Ey h hs hl) (fun s=>iT (vr l s).1)).mono ?_;rw [HsC.out];rintro e wa ⟨AsC,csC,rfl,hown,hr,ok,hg⟩;have hx:=Hw9.out.after hr ok hg;have hown:=bV hown Hw9.out.r.bel.size;have q6:=hx.r.cell (pre:=[nv (N 13),.slice AsA bs.length csA,.slice AsB hs.length csB]) rfl (n:=3) rfl;have hz:AX w wa g bx l sC (vu (nv (N 13)) (.slice AsA bs.length csA) (.slice AsB hs.length csB) (.slice none 0 0) (NS 13) 0) ⟨AsA,csA,AsB,csB,AsC,csC⟩ bs hs fs:=⟨hx.r,hx.b,hx.h,hown⟩
   have h7:=hz.set_ (v:=.slice AsC fs.length csC) (pre:=[nv (N 13),.slice AsA bs.length csA,.slice AsB hs.length csB]) rfl (n:=3) rfl (cs':=vu (nv (N 13)) (.slice AsA bs.length csA) (.slice AsB hs.length csB) (.slice AsC fs.length csC) (NS 13) 0) rfl;obtain ⟨wab,hw7⟩:∃ v,v=wa.setCell ⟨bx,3,none⟩ (.slice AsC fs.length csC):=⟨_,rfl⟩
   rw [←hw7] at h7;have Hwa:=Lib.hid h7;have c6:=q6.1;have f6:=q6.2;clear hown hr ok hg hx hz h7 q6 hsC Hw9;go_upto_region 14 with fail
   rw [←hw7];clear hw7 c6 f6
   go_wp2_with fail
   refine (oX _ g l sC wab Hwa.out.r.rd Hwa.out.r.ok hl).mono ?_;rintro e wd ⟨rfl,hr,hg⟩;obtain ⟨q0,fa,fe,hq⟩:∃ a b c,iZ l sC=(a,b,c):=⟨_,_,_,rfl⟩
   have hD:=Hwa.out.after hr (ww Hwa.out.r.ok) hg;rw [hq,FP (HNl.out 13) (N 13) ⟨AsA,csA,AsB,csB,AsC,csC⟩ bs hs fs,HNs.out] at hD;obtain ⟨st,hst⟩:∃ st,st=tn (NS (13 + 1)) bs hs fs:=⟨_,rfl⟩
   obtain ⟨xx,hxx⟩:∃ x:nG,x=⟨AsA,csA,AsB,csB,AsC,csC⟩:=⟨_,rfl⟩
   rw [←hst,←hxx] at hD;have hcnt:(NS (13 + 1)).length=14:=HNl.out 14;have hok:gG st:=by rw [hst];exact ⟨fun b hb=>(PmsA.out.2 b hb).1,fun f hf=>(PmsC.out.2 f hf).1,(zi hcnt bs hs fs).2⟩
   have HSO:Hid (io wd w.heap.size xx st):=by
    rw [hst,hxx];refine ⟨by have:=hD.b;rw [hxx] at this;exact this,by have:=hD.h;rw [hxx] at this;exact this,by have:=hD.f;rw [hxx] at this;exact this,by rw [←hst];exact hok,⟨PmsA.out.1,fun b hb=>(PmsA.out.2 b hb).2⟩,PmsB.out,⟨PmsC.out.1,fun f hf=>(PmsC.out.2 f hf).2⟩⟩
   have HD:=Lib.hid hD;have Hst:=Lib.hid hst;have Hq:=Lib.hid hq;have Hres:Hid (gN l=if ra && (rc && (rd && (lj (q0,fa,fe) && fk st))) then some st else none):=by
    show _=_
    have e1:fH l 14 (0,0,0)=(S 14,NS 14):=by rw [HS.out,HNS.out]
    unfold gN;simp only [e1];rw [show S 14=S (13 + 1) from rfl,HsA.out];simp only [HsB.out,HsC.out,Hq.out,←show tn (NS 14) bs hs fs=st from Hst.out.symm]
   have hin:=HSO.out.held;have Hsz:=Lib.hid (ma (x:=xx) hok);have l1:bx<wd.heap.size:=HD.out.r.box.lt;have hrd:∃ A c,Rd wd g A l.length c q0 fa fe:=by obtain ⟨A,c,h,_⟩:=HD.out.r.rd;exact ⟨A,c,h⟩
   obtain ⟨Ar,cr,hrd⟩:=hrd;have Hrd:Hid (∀ u,Below wd.heap.size wd u→Rd u g Ar l.length cr q0 fa fe):=fun u hu=>(show ah _ _ _ _ from hrd).below hu (show ah _ _ _ _ from hrd).lt
   have Hin:=Lib.hid hin;have Hok:=Lib.hid hok;have RF:=Lib.hid (ae HD.out.r.box);clear hr hg hq hD hst hxx hcnt hok hin hrd Hwa PmsA PmsB PmsC;go_upto_region 15 with fail
   refine Sd.plain ?_
   repeat ((first | refine po ?_ | refine gs RF.out l1 fh Hsz.out ?_ | refine gc (fun u hu=>ec g Ar l.length cr q0 fa fe u (Hrd.out u hu)) ?_ | refine gc (fun u hu=>iO xx st u (Hin.out.on hu)) ?_ | refine gp ?_ | refine pt ?_);simp only [ld,lg,lf,Nat.reduceAdd])
   refine gp (v:=.bool (!lj (q0,fa,fe))) ?_ (hv:=fun hb u hc=>by
    simp only [lU hb];by_cases e1:fa=0
    ·by_cases e2:fe=0
     ·subst e1 e2
      go_simp
      rfl
     ·have e3:¬ (fe:Int)=0:=by omega
      subst e1;go_simp
      simp [lj,e2]
    ·have e3:¬ (fa:Int)=0:=by omega
     go_simp
     simp [lj,e1])
   simp only [ld,lg,lf,Nat.reduceAdd];obtain ⟨T,hT⟩:∃ T,T=(!ra || !rc || !rd || !lj (q0,fa,fe) || !fk st):=⟨_,rfl⟩
   repeat ((first | refine po ?_ | refine gs RF.out l1 fh Hsz.out ?_ | refine gc (fun u hu=>iO xx st u (Hin.out.on hu)) ?_ | refine gp ?_ | refine pt ?_);simp only [ld,lg,lf,Nat.reduceAdd])
   rw [←hT];refine Sd.done fun we hbe=>?_
   have He:=Lib.hid (HD.out.below hbe);have HSe:=Lib.hid (HSO.out.below hbe);have HT:=Lib.hid hT;clear hT hbe HD HSO Hrd Hin;rcases T with _ | _
   ·have hT:(ra && (rc && (rd && (lj (q0,fa,fe) && fk st))))=true:=by have:=HT.out;revert this;cases ra <;> cases rc <;> cases rd <;> cases lj (q0,fa,fe) <;> cases fk st <;> simp
    have hR:gN l=some st:=by rw [Hres.out,hT];rfl
    have HR:=Lib.hid hR;obtain ⟨W7,hW7,T7,B7,G7⟩:=fx (cs:=dh xx st) He.out.r.res (by rw [kb Hok.out];rfl);have RG:=Lib.hid (ae He.out.r.box);have HSf:Hid (io W7 w.heap.size xx st):=⟨HSe.out.b.kept G7.out (aK HSe.out.b He.out.r.res (by decide)),HSe.out.h.kept G7.out (aK HSe.out.h He.out.r.res (by decide)),HSe.out.f.kept G7.out (aK HSe.out.f He.out.r.res (by decide)),HSe.out.ok,HSe.out.nb,HSe.out.nh,HSe.out.nf⟩
    have Hbl:Hid (Below w.heap.size w W7):=He.out.r.bel.grown G7.out He.out.r.bel.size (fun k hk=>by injection hk with hk;omega);clear hT hR HT RF
    go_wp2_with (first
     | ((with_reducible refine aE 37 ?_);refine aa (by rfl) 37 (.tmp 4) rfl bx 0 rfl (dh xx st) _ RG.out fh rfl Hsz.out ?_)
     | ((with_reducible refine aM 37 ?_);refine wpList_store_mid rfl 37 (.tmp 2) (.tmp 74) rfl w.heap.size 0 (dh xx st).toArray rfl rfl T7.out Hsz.out (tK _ _) ?_))
    rw [←hW7.out];refine bodyPost_ret (v:=.tuple #[.agg (dh xx st).toArray,.int .i64 0]) (aG (P:=Tryz.prog) (p:=2) (u:=3) rfl _ _ w.heap.size _ _ _ _ rfl B7.out fh rfl Hsz.out) rfl ?_;unfold tI;rw [HR.out];refine ⟨Hbl.out,fun h=>(by cases h),fun s hs=>?_⟩;injection hs with hs
    rw [←hs];exact ⟨xx,rfl,HSf.out⟩
   ·have hT:(ra && (rc && (rd && (lj (q0,fa,fe) && fk st))))=false:=by have:=HT.out;revert this;cases ra <;> cases rc <;> cases rd <;> cases lj (q0,fa,fe) <;> cases fk st <;> simp
    have hR:gN l=none:=by rw [Hres.out,hT];rfl
    have HR:=Lib.hid hR;obtain ⟨W7,hW7,T7,B7,G7⟩:=fx (cs:=dh fS cI) He.out.r.res rfl;have Hs0:=Lib.hid (ma (x:=fS) gX);have Hbl:Hid (Below w.heap.size w W7):=He.out.r.bel.grown G7.out He.out.r.bel.size (fun k hk=>by injection hk with hk;omega);clear hT hR HT RF
    go_wp2_with ((with_reducible refine aM 37 ?_);rw [←zu];refine wpList_store_mid rfl 37 (.tmp 2) (.tmp 73) rfl w.heap.size 0 (dh fS cI).toArray rfl rfl T7.out Hs0.out (tK _ _) ?_)
    rw [←hW7.out];refine bodyPost_ret (v:=.tuple #[.agg (dh fS cI).toArray,.int .i64 3]) (aG (P:=Tryz.prog) (p:=2) (u:=3) rfl _ _ w.heap.size _ _ _ _ rfl B7.out fh rfl Hs0.out) rfl ?_;unfold tI;rw [HR.out];exact ⟨Hbl.out,fun _=>rfl,fun s hs=>(by cases hs)⟩
end Go.Proofs.YtaafkokfdgfabaaGreat
