import Derived.Test.YtaafkokfdgfabaaGreatP1
import Derived.Test.YtaafkokfdgfabaaGreatP3
import Derived.Test.YtaafkokfdgfabaaGreatP5
import Derived.Test.YtaafkokfdgfabaaGreatP8
import Derived.Test.YtaafkokfdgfabaaGreatP9
import Derived.Deep.LoopGhost
import Derived.Deep.Cut
import Derived.Deep.CutRange
import Derived.Deep.MidRow
import Derived.Stop.BytesEq
import Derived.ChangeKeysEq
import Derived.Laws.ResultCell
import Derived.Laws.CopyOwn
import Derived.Deep.RegionHeld3
set_option maxHeartbeats 8000000
namespace Go.Proofs.YtaafkokfdgfabaaGreat
open Go.RowKit
set_option linter.unusedVariables false
set_option linter.unusedSimpArgs false
abbrev cS:Type:=Bool × List UInt8
def ai (a:cS):List Value:=.bool a.1 :: ab a.2
def lN (a:cS):Value:=.agg (ai a).toArray
def aS (a:cS):Prop:=a.2.length=16
theorem ap {a:cS} (h:aS a):(ai a).length=17:=by
 have:a.2.length=16:=h;simp [ai,ao,this]
def lF (b:List UInt8):Bool:=(b.drop 4).all (·== 0)
def dZ (a:cS):Bool:=a.1 || lF a.2
theorem ae {w:World} {g:Nat} {t:TypeId} {cs:List Value} (h:ah w g t cs.toArray):w.rangeAt g 0 cs:=fun j v hj=>by
 rw [h.cell,Nat.zero_add,List.getElem?_toArray];exact hj
theorem fC:(Tryz.prog.info? 27).map (·.size)=some 17:=by kernel_rfl
section
variable {P:Program}
theorem aa {ops:Array Oper} {rest:List Oper} {op:Oper} {a:Act} {w:World} {Q:Exit→Act→World→Prop} (hw:Region.wanted op (yielded ops a.tmps)=true) (ty:TypeId) (x:Operand) (ho:op.op=.load ty x)
  (b o:Nat) (hx:a.eval x=.pointer (some ⟨b,o,none⟩)) (cs:List Value) (d:TypeDesc) (hc:w.rangeAt b o cs)
  (hu:P.underlying ty=some d) (hd:d.isRow=true) (hi:(P.info? ty).map (·.size)=some cs.length)
  (h:wpList P ops Q rest (a.put op.dst (.agg cs.toArray)) w):wpList P ops Q (op :: rest) a w :=
 wpList_step fun K hK=>by
  rw [if_pos hw];exact wp_load_mid ty x ho b o hx cs d hc hu hd hi (hK _ _ h)
end
theorem fX {a:cS} (ha:aS a):(Tryz.prog.info? 27).map (·.size)=some (ai a).length:=by rw [ap ha];exact fC
theorem nO {w:World} {g:Nat} {t:TypeId} {a:cS} (h:ah w g t (ai a).toArray):w.cell? ⟨g,0,none⟩=some (.bool a.1):=h.cell 0
theorem sO {w:World} {g:Nat} {t:TypeId} {a:cS} (h:ah w g t (ai a).toArray) (k:Nat) (B:Nat) (hB:g<B):BS w B (some ⟨g,1 + k,none⟩) (a.2.drop k):=fun hp=>by
 refine ⟨_,rfl,hB,fun j c hj=>?_⟩;rw [List.getElem?_drop] at hj;have e:((⟨g,1 + k,none⟩:Addr).add j)=⟨g,1 + k + j,none⟩:=by unfold Addr.add;split <;> simp_all
 rw [e,h.cell];simp only [ai,List.getElem?_toArray];rw [show 1 + k + j=(k + j) + 1 by omega,List.getElem?_cons_succ,ab,List.getElem?_map,hj];rfl
theorem BZ {w:World} {g:Nat} {t:TypeId} {a:cS} (h:ah w g t (ai a).toArray) (B:Nat) (hB:g<B):BS w B (some ⟨g,1,none⟩) a.2:=by
 have:=sO h 0 B hB;simpa using this
theorem wB (a:cS) (ha:aS a):(ai a).toArray.extract 1 17=(ab a.2).toArray:=by
 have h:a.2.length=16:=ha;apply Array.ext'
 simp only [Array.toList_extract,ai,List.extract_eq_take_drop,List.drop_succ_cons,List.drop_zero];exact List.take_of_length_le (by simp [ab,h])
theorem du:Tryz.prog.underlying 27=some (.struct (Tryz.prog.fieldsOf 27)):=by kernel_rfl
theorem zO:Tryz.prog.stoodInHeld 27=false:=by kernel_rfl
theorem wD (w:World):(sizeOf 25).run Tryz.prog w=.ok 16 w:=by
 obtain ⟨i,hi⟩:=info_of_underlying Tryz.underlying25;rw [run_sizeOf w hi,show Tryz.prog.cellsOf 25=16 by kernel_rfl]
theorem nP (w:World):(sizeOf 5).run Tryz.prog w=.ok 1 w:=by
 obtain ⟨i,hi⟩:=info_of_underlying Tryz.underlying5;rw [run_sizeOf w hi,show Tryz.prog.cellsOf 5=1 by kernel_rfl]
theorem D7 (x:cS) (w:World):(part 4 (ai x).toArray 0).run Tryz.prog w=.ok (.bool x.1) w:=by
 simp [part,isAgg,run_underlying Tryz.underlying4,ai]
theorem yF (x:cS) (hx:aS x) (w:World):(part 25 (ai x).toArray 1).run Tryz.prog w=.ok (.agg (x.2.map Extern.Stop.cell).toArray) w:=by
 have h:ab x.2=x.2.map Extern.Stop.cell:=rfl;simp only [part,isAgg,Sem.run_bind,run_underlying Tryz.underlying25,Result.andThen_ok,Sem.run_pure,wD,if_true,Nat.reduceAdd,wB x hx,h]
theorem gR (d:Nat) (a b:cS) (ha:aS a) (hb:aS b) (w:World) :
  (Op.equalIn (d + 3) 27 (.agg (ai a).toArray) (.agg (ai b).toArray)).run Tryz.prog w=.ok (a == b) w:=by
 have hab:(a == b)=(a.1 == b.1 && a.2 == b.2):=rfl;rw [run_equalIn_struct w (d + 2) _ _ _ du zO,hab];simp only [Program.fieldsOf,Tryz.underlying27,Op.eqFields];have h0:=run_equalIn_bool w (d + 1) 4 a.1 b.1 Tryz.underlying4;have h1:=run_equalIn_bytes w d 25 5 16 Tryz.underlying25 Tryz.underlying5 nP a.2 b.2 ha hb;rw [if_pos (by decide)];simp only [Sem.run_bind,D7,Result.andThen_ok,h0];cases hc:(a.1 == b.1)
 ·simp
 ·simp only [Bool.not_true,Bool.false_eq_true,if_false]
  rw [if_pos (by decide)];simp only [Sem.run_bind,yF a ha,yF b hb,Result.andThen_ok,h1];cases hd:(a.2 == b.2) <;> simp
theorem gJ:Tryz.prog.eqGuardType Tryz.prog.depth 27=false:=by kernel_rfl
section
variable {P:Program}
theorem ia {ops:Array Oper} {rest:List Oper} {op:Oper} {a:Act} {w:World} {Q:Exit→Act→World→Prop} (hw:Region.wanted op (yielded ops a.tmps)=true) (ty tz:TypeId) (x y:Operand) (ho:op.op=.binOp .eql ty x y tz)
  (xs ys:Array Value) (hx:a.eval x=.agg xs) (hy:a.eval y=.agg ys) (hm:P.eqGuardType P.depth ty=false) (r:Bool) (he:(Op.equalIn 10000 ty (.agg xs) (.agg ys)).run P w=.ok r w)
  (h:wpList P ops Q rest (a.put op.dst (.bool r)) w):wpList P ops Q (op :: rest) a w :=
 wpList_step fun K hK=>by
  rw [if_pos hw];unfold Oper.wp execOp;simp only [ho,hx,hy,Sem.run_bind,run_eqGuard_agg w _ _ _ _ _ _ hm,Result.andThen_ok,run_eql_struct,he,Sem.run_pure];exact hK _ _ h
end
theorem eX {P:Program} {fn:Func} {p u:Tmp} {ty:TypeId} (h:fn.results=#[.cell p ty,.tmp u]) (tmps:Array Value) (w:World) (g:Nat) (t:TypeId) (cs:Array Value) (fr:Nat × Nat) (d:TypeDesc)
  (hp:tmps.getD p undef=.pointer (some ⟨g,0,none⟩)) (hg:w.heap[g]?=some (.cells cs t fr))
  (hu:P.underlying ty=some d) (hd:(match d with | .struct _ | .array _ _=>true | _=>false)=true) (hi:(P.info? ty).map (·.size)=some cs.size) :
  (results fn tmps).run P w=.ok (.tuple #[.agg cs,tmps.getD u undef]) w:=by
 rw [results_cell_tmp h,hp];simp [asAddr,run_loadVar_row w g t ty cs fr d hg hu hd hi]
def cT:cS:=(false,List.replicate 16 0)
theorem uh:aS cT:=rfl
theorem F9 {l:List UInt8} (h:l.length=16):∃ y0 y1 y2 y3 y4 y5 y6 y7 y8 y9 ya yb yc yd ye yf,l=[y0,y1,y2,y3,y4,y5,y6,y7,y8,y9,ya,yb,yc,yd,ye,yf]:=by
 match l,h with
 | [y0,y1,y2,y3,y4,y5,y6,y7,y8,y9,ya,yb,yc,yd,ye,yf],_=>exact ⟨_,_,_,_,_,_,_,_,_,_,_,_,_,_,_,_,rfl⟩
theorem mL (w W1 W2:World) (t:TypeId) (z cs:List Value) (hl:cs.length=z.length) (h1:W1=w.alloc (.cells z.toArray t)) (h2:W2=W1.setCells w.heap.size 0 cs) :
  W1.there w.heap.size 0 cs.toArray.size∧ah W2 w.heap.size t cs.toArray∧Below w.heap.size w W2:=by
 subst h1 h2;have hb:ah (w.alloc (.cells z.toArray t)) w.heap.size t z.toArray:=ah.new w _ _ _ rfl;refine ⟨hb.there (by simp [hl]),?_,ba (Nat.le_refl _) _ _ ((Below.refl _ _).alloc (Nat.le_refl _) _)⟩;have:=ah.setCells cs 0 hb;rw [aW (vs:=cs) (cs:=z) hl] at this;exact this
theorem gS:(ai cT).toArray=(#[.bool false,.int .u8 0,.int .u8 0,.int .u8 0,.int .u8 0,.int .u8 0,.int .u8 0,.int .u8 0,.int .u8 0,.int .u8 0,.int .u8 0,.int .u8 0,.int .u8 0,.int .u8 0,.int .u8 0,.int .u8 0,.int .u8 0]:Array Value):=rfl
theorem kw (a:cS):(ai a).toArray.all (·.oneCell')=true:=all_oneCell_toArray (by
 intro u hu;have:=nN a.2 a.1 [] (by simp) u (by rw [List.append_nil];exact hu);exact this)
theorem nQ (w:World) (g:Nat) (cs:Array Value):w.grownBy (w.setRow g cs) (some g) :=
 ⟨rfl,rfl,rfl,by simp [World.setRow],fun k hk hne=>setRow_other w g k cs (fun e=>hne (by rw [e]))⟩
theorem aT (w:World) (g o:Nat):∀ (vs:List Value) {w':World} (o:Nat),w.grownBy w' (some g)→w.grownBy (w'.setCells g o vs) (some g)
 | [],_,_,h=>h
 | v :: r,_,o,h=>aT w g o r (o + 1) (am h (aV _ ⟨g,o,none⟩ v))
end Go.Proofs.YtaafkokfdgfabaaGreat
namespace Go.Proofs.YtaafkokfdgfabaaGreat
open Go.RowKit
set_option linter.unusedVariables false
def Gx (F:Nat):Prop:=F=173∨F=185∨F=196
theorem wF {F:Nat} (hF:Gx F) (c:UInt8) (w:World) :
  Calls Tryz.prog F #[.int .u8 (c.toNat:Int)] w fun e w'=>e=.returned (.bool (c != 0))∧w=w':=by
 have h:((c.toNat:Int) != 0)=(c != 0):=by
  by_cases h:c=0
  ·subst h;rfl
  ·have h2:c.toNat≠0:=fun e=>h (UInt8.toNat_inj.1 (by simpa using e))
   rw [show (c != 0)=true by simpa using h];simp;omega
 rcases hF with rfl | rfl | rfl
 ·go_enter Tryz.func173,Tryz.ntmps173
  go_wp2
  go_ret
  exact ⟨by rw [←h];rfl,rfl⟩
 ·go_enter Tryz.func185,Tryz.ntmps185
  go_wp2
  go_ret
  exact ⟨by rw [←h];rfl,rfl⟩
 ·go_enter Tryz.func196,Tryz.ntmps196
  go_wp2
  go_ret
  exact ⟨by rw [←h];rfl,rfl⟩
set_option maxRecDepth 100000 in
theorem sQ {F:Nat} (hF:Gx F) (A:Option Addr) (n c:Nat) (l:List UInt8) (w:World) (B:Nat) (hn:n=l.length) (hb:BS w B A l) (hl:n≤1000000) :
  Calls Tryz.prog 191 #[.slice A n c,.func (.func F) #[] #[]] w fun e w'=>(∃ z:Int,e=.returned (.int .i64 z)∧(decide (0≤z)=!(l.all (·== 0))))∧w=w':=by
 subst hn;have HB:=Lib.hid hb;clear hb;have HF:=Lib.hid (fun c w=>wF hF c w);rcases hF with rfl | rfl | rfl
 all_goals
  go_enter Tryz.func191,Tryz.ntmps191
  go_wp2
  go_loopw [8] (fun i wr=>∃ k:Nat,k≤l.length∧i=.int .i64 (k:Int)∧w=wr∧Hid ((l.take k).all (·== 0)=true)) (fun i _=>l.length - (intOf i).toNat)
  case atStart=>exact ⟨0,by omega,rfl,rfl,rfl⟩
  case round =>
   obtain ⟨k,hk,rfl,rfl,hat⟩:=hrel;by_cases hlt:k<l.length
   ·have hltI:(k:Int)<(l.length:Int):=by omega
    have hk0:(0:Int)≤(k:Int):=by omega
    obtain ⟨ad,rfl,hadb,hcell⟩:=HB.out.at_ hlt;have Hsplit:Hid (l.take (k + 1)=l.take k ++ [l[k]]):=by
     show _=_
     rw [List.take_add_one,List.getElem?_eq_getElem hlt];rfl
    obtain ⟨x,hx⟩:∃ x,x=l[k]:=⟨_,rfl⟩
    rw [←hx] at hcell Hsplit;have Hx:=Lib.hid hx;clear hx
    go_wp2_with fail
    refine (HF.out x _).mono ?_;rintro e w1 ⟨rfl,rfl⟩;by_cases hz:x=0
    ·have hzb:(x != 0)=false:=by simp [hz]
     have Hat2:Hid ((l.take (k + 1)).all (·== 0)=true):=by
      show _=_
      rw [Hsplit.out,List.all_append,hat.out];simp [hz]
     rw [hzb];clear hz hzb Hsplit
     go_wp2
     go_roundw
     case rel=>exact ⟨k + 1,by omega,by go_num,trivial,Hat2⟩
     case measure=>simp [intOf];omega
    ·have hzb:(x != 0)=true:=by simp [hz]
     have Hno:Hid (l.all (·== 0)=false):=by
      show _=_
      rw [List.all_eq_false];exact ⟨x,by rw [Hx.out];exact List.getElem_mem hlt,by simp [hz]⟩
     rw [hzb];clear hz hzb Hsplit
     go_wp2
     go_ret
     exact ⟨⟨(k:Int),rfl,by rw [Hno.out];simp⟩,rfl⟩
   ·have hltI:¬ (k:Int)<(l.length:Int):=by omega
    have Hall:Hid (l.all (·== 0)=true):=by
     have h:=hat.out;rw [List.take_of_length_le (by omega)] at h;exact h
    go_wp2
    go_ret
    exact ⟨⟨-1,rfl,by rw [Hall.out];rfl⟩,rfl⟩
theorem ib {F:Nat} (hF:Gx F) (A:Option Addr) (n c:Nat) (l:List UInt8) (w:World) (B:Nat) (hn:n=l.length) (hb:BS w B A l) (hl:n≤1000000) :
  Calls Tryz.prog 172 #[.slice A n c,.func (.func F) #[] #[]] w fun e w'=>e=.returned (.bool (!(l.all (·== 0))))∧w=w':=by
 have H:=Lib.hid (sQ hF A n c l w B hn hb hl);clear hn hb;rcases hF with rfl | rfl | rfl
 all_goals
  go_enter Tryz.func172,Tryz.ntmps172
  go_wp2_with fail
  refine H.out.mono ?_;rintro e w1 ⟨⟨z,rfl,hz⟩,rfl⟩;have Hz:=Lib.hid hz;clear hz
  go_wp2
  go_ret
  exact ⟨by rw [←Hz.out];rfl,rfl⟩
end Go.Proofs.YtaafkokfdgfabaaGreat
namespace Go.Proofs.YtaafkokfdgfabaaGreat
open Go.RowKit
set_option linter.unusedVariables false
theorem qi (w:World) (a:cS) (t:TypeId):ah (w.alloc (.cells (ai a).toArray t)) w.heap.size t (ai a).toArray:=ah.new w _ _ _ rfl
set_option maxRecDepth 100000 in
theorem rM (a:cS) (ha:aS a) (w:World) :
  Calls Tryz.prog 129 #[lN a] w fun e w'=>e=.returned (.bool (dZ a))∧Below w.heap.size w w':=by
 have hlen:a.2.length=16:=ha;unfold lN;obtain ⟨W,hW⟩:∃ W,W=w.alloc (.cells (ai a).toArray 27):=⟨_,rfl⟩
 have hX:ah W w.heap.size 27 (ai a).toArray:=by rw [hW];exact qi _ _ _
 have hB:Below w.heap.size w W:=by rw [hW];exact (Below.refl _ _).alloc (Nat.le_refl _) _
 have c0:W.cell? ⟨w.heap.size,0,none⟩=some (.bool a.1):=nO hX;have hS:BS W W.heap.size (some ⟨w.heap.size,5,none⟩) (a.2.drop 4):=sO hX 4 _ hX.lt;have hdl:12=(a.2.drop 4).length:=by simp;omega
 have HW:=Lib.hid hW;have HX:=Lib.hid hX;have HB:=Lib.hid hB;have HS:=Lib.hid hS;have Hdl:=Lib.hid hdl;clear hW hX hB hS hdl hlen;rcases h6:a.1 with _ | _
 ·rw [h6] at c0
  have Hr:Hid (dZ a=lF a.2):=by show _=_;unfold dZ;rw [h6];rfl
  clear h6;go_enter Tryz.func129,Tryz.ntmps129
  go_upto_region 1 with fail
  rw [←HW.out]
  go_wp2_with fail
  refine (ib (Or.inl rfl) _ _ _ (a.2.drop 4) _ _ Hdl.out HS.out (by omega)).mono ?_;rintro e w1 ⟨rfl,rfl⟩
  go_wp2
  go_ret
  exact ⟨by rw [Hr.out];unfold lF;simp,HB.out⟩
 ·rw [h6] at c0
  have Hr:Hid (dZ a=true):=by show _=_;unfold dZ;rw [h6];rfl
  clear h6;go_enter Tryz.func129,Tryz.ntmps129
  go_upto_region 1 with fail
  rw [←HW.out]
  go_wp2
  go_ret
  exact ⟨by rw [Hr.out];rfl,HB.out⟩
end Go.Proofs.YtaafkokfdgfabaaGreat
namespace Go.Proofs.YtaafkokfdgfabaaGreat
open Go.RowKit
set_option linter.unusedVariables false
def qj (n lo hi:Int):Bool:=decide (lo≤n) && decide (n≤hi)
theorem fM (n lo hi:Int) (w:World) :
  Calls Tryz.prog 127 #[.int .i64 n,.int .i64 lo,.int .i64 hi] w fun e w'=>e=.returned (.bool (qj n lo hi))∧w=w':=by
 unfold qj;by_cases h1:lo≤n
 ·by_cases h2:n≤hi
  ·go_enter Tryz.func127,Tryz.ntmps127
   go_wp2
   go_ret
   exact ⟨by simp [h1,h2],rfl⟩
  ·go_enter Tryz.func127,Tryz.ntmps127
   go_wp2
   go_ret
   exact ⟨by simp [h2],rfl⟩
 ·go_enter Tryz.func127,Tryz.ntmps127
  go_wp2
  go_ret
  exact ⟨by simp;omega,rfl⟩
end Go.Proofs.YtaafkokfdgfabaaGreat
namespace Go.Proofs.YtaafkokfdgfabaaGreat
open Go.RowKit
set_option linter.unusedVariables false
def bD (a:cS):List UInt8:=if a.1 then 6 :: a.2 else 4 :: a.2.take 4
set_option maxRecDepth 100000 in
theorem um (a:cS) (ha:aS a) (w:World) :
  Calls Tryz.prog 61 #[lN a] w fun e w'=>∃ A c,e=.returned (.slice A (bD a).length c)∧w'.ownsRow w.heap.size 5 1 (.slice A (bD a).length c) (bD a).length (ab (bD a))∧Below w.heap.size w w':=by
 have hlen:a.2.length=16:=ha;unfold lN;obtain ⟨i0,hi0,hz0,hz1,hz2⟩:=info_parts cC;obtain ⟨W,hW⟩:∃ W,W=w.alloc (.cells (ai a).toArray 27):=⟨_,rfl⟩
 have hX:ah W w.heap.size 27 (ai a).toArray:=by rw [hW];exact qi _ _ _
 have hB:Below w.heap.size w W:=by rw [hW];exact (Below.refl _ _).alloc (Nat.le_refl _) _
 have c0:W.cell? ⟨w.heap.size,0,none⟩=some (.bool a.1):=nO hX;have HS:=Lib.hid (BZ hX W.heap.size hX.lt);have HW:=Lib.hid hW;have HB:=Lib.hid hB;have Hlen:=Lib.hid hlen;have Hsz:=Lib.hid hB.size;clear hW hX hB hlen;rcases h6:a.1 with _ | _
 ·rw [h6] at c0
  have Hr:Hid (bD a=[4] ++ a.2.take 4):=by show _=_;unfold bD;rw [h6];rfl
  have Hl4:Hid (4=(a.2.take 4).length):=by show _=_;rw [List.length_take,Hlen.out];rfl
  clear h6;go_enter Tryz.func61,Tryz.ntmps61
  go_upto_region 1 with fail
  rw [←HW.out]
  go_wp2_with (at_builtin;refine av _ rfl _ _ 43 rfl w.heap.size 5 i0 (.int .u8 0) 1 Tryz.underlying43 hi0 hz0 hz1 hz2 rfl (.slice (some ⟨W.heap.size,0,none⟩) 1 1) [4] rfl (sI W _ _ 4 4 rfl Hsz.out) _ _ _ _ (a.2.take 4) rfl Hl4.out ((HS.out.take 4).alloc (Nat.le_refl _) _) (by rw [←Hl4.out];simp [maxLen]) (by rw [←Hl4.out];simp) (Nat.le_trans Hsz.out (Below.size ((Below.refl W.heap.size W).alloc (Nat.le_refl _) _))) ?_;intro A5 c5 w5 hown5 hg5 _)
  have hb5:Below w.heap.size w w5:=(HB.out.alloc Hsz.out _).grown hg5 (Nat.le_trans Hsz.out (Below.size ((Below.refl W.heap.size W).alloc (Nat.le_refl _) _))) (by intro k hk;simp [Value.ownBlock] at hk;have:=Hsz.out;omega);have Hown5:=Lib.hid hown5;clear hown5 hg5;go_ret
  refine ⟨A5,c5,?_,?_,hb5⟩
  ·rw [Hr.out];simp
  ·rw [Hr.out];exact Hown5.out
 ·rw [h6] at c0
  have Hr:Hid (bD a=[6] ++ a.2):=by show _=_;unfold bD;rw [h6];rfl
  have Hl4:Hid (16=a.2.length):=Hlen.out.symm;clear h6;go_enter Tryz.func61,Tryz.ntmps61
  go_upto_region 1 with fail
  rw [←HW.out]
  go_wp2_with (at_builtin;refine av _ rfl _ _ 43 rfl w.heap.size 5 i0 (.int .u8 0) 1 Tryz.underlying43 hi0 hz0 hz1 hz2 rfl (.slice (some ⟨W.heap.size,0,none⟩) 1 1) [6] rfl (sI W _ _ 6 6 rfl Hsz.out) _ _ _ _ a.2 rfl Hl4.out (HS.out.alloc (Nat.le_refl _) _) (by rw [←Hl4.out];simp [maxLen]) (by rw [←Hl4.out];simp) (Nat.le_trans Hsz.out (Below.size ((Below.refl W.heap.size W).alloc (Nat.le_refl _) _))) ?_;intro A5 c5 w5 hown5 hg5 _)
  have hb5:Below w.heap.size w w5:=(HB.out.alloc Hsz.out _).grown hg5 (Nat.le_trans Hsz.out (Below.size ((Below.refl W.heap.size W).alloc (Nat.le_refl _) _))) (by intro k hk;simp [Value.ownBlock] at hk;have:=Hsz.out;omega);have Hown5:=Lib.hid hown5;clear hown5 hg5;go_ret
  refine ⟨A5,c5,?_,?_,hb5⟩
  ·rw [Hr.out];simp
  ·rw [Hr.out];exact Hown5.out
end Go.Proofs.YtaafkokfdgfabaaGreat
namespace Go.Proofs.YtaafkokfdgfabaaGreat
open Go.RowKit
set_option linter.unusedVariables false
end Go.Proofs.YtaafkokfdgfabaaGreat
namespace Go.Proofs.YtaafkokfdgfabaaGreat
open Go.RowKit
set_option linter.unusedVariables false
end Go.Proofs.YtaafkokfdgfabaaGreat
namespace Go.Proofs.YtaafkokfdgfabaaGreat
open Go.RowKit
set_option linter.unusedVariables false
abbrev ct:Type:=cS × Int × Int × Bool
def aQ (v:ct):List Value:=ai v.1 ++ [.int .i64 v.2.1,.int .i64 v.2.2.1,.bool v.2.2.2]
def Ci (v:ct):Value:=.agg (aQ v).toArray
theorem dw {v:ct} (h:aS v.1):(aQ v).length=20:=by rw [aQ,List.length_append,ap h];rfl
theorem ky:Tryz.prog.underlying 108=some (.struct (Tryz.prog.fieldsOf 108)):=by kernel_rfl
theorem Cj:Tryz.prog.stoodInHeld 108=false:=by kernel_rfl
theorem ju:(Tryz.prog.info? 108).map (·.size)=some 20:=by kernel_rfl
theorem kV {v:ct} (h:aS v.1):(Tryz.prog.info? 108).map (·.size)=some (aQ v).length:=by rw [dw h];exact ju
theorem un (w:World):(sizeOf 27).run Tryz.prog w=.ok 17 w:=by
 obtain ⟨i,hi⟩:=info_of_underlying Tryz.underlying27;rw [run_sizeOf w hi,show Tryz.prog.cellsOf 27=17 by kernel_rfl]
theorem sR {v:ct} (h:aS v.1) (i:Nat):(aQ v).toArray[17 + i]?=[Value.int .i64 v.2.1,.int .i64 v.2.2.1,.bool v.2.2.2][i]?:=by
 rw [List.getElem?_toArray,aQ,List.getElem?_append_right (by rw [ap h];omega),ap h,Nat.add_sub_cancel_left]
theorem Ck (v:ct) (h:aS v.1) (w:World):(part 27 (aQ v).toArray 0).run Tryz.prog w=.ok (.agg (ai v.1).toArray) w:=by
 have e:(aQ v).toArray.extract 0 17=(ai v.1).toArray:=by
  apply Array.ext'
  simp only [Array.toList_extract,List.extract_eq_take_drop,List.drop_zero,aQ,Nat.sub_zero];rw [List.take_append_of_le_length (by rw [ap h];exact Nat.le_refl _),List.take_of_length_le (by rw [ap h];exact Nat.le_refl _)]
 simp only [part,isAgg,Sem.run_bind,run_underlying Tryz.underlying27,Result.andThen_ok,Sem.run_pure,un,if_true,Nat.zero_add,e]
theorem Cl (v:ct) (h:aS v.1) (w:World):(part 3 (aQ v).toArray 17).run Tryz.prog w=.ok (.int .i64 v.2.1) w:=by
 have e:=sR h 0;simp only [Nat.add_zero,List.getElem?_cons_zero] at e;simp [part,isAgg,run_underlying Tryz.underlying3,e]
theorem Cm (v:ct) (h:aS v.1) (w:World):(part 3 (aQ v).toArray 18).run Tryz.prog w=.ok (.int .i64 v.2.2.1) w:=by
 have e:(aQ v).toArray[18]?=some (.int .i64 v.2.2.1):=sR h 1;simp [part,isAgg,run_underlying Tryz.underlying3,e]
theorem Cn (v:ct) (h:aS v.1) (w:World):(part 4 (aQ v).toArray 19).run Tryz.prog w=.ok (.bool v.2.2.2) w:=by
 have e:(aQ v).toArray[19]?=some (.bool v.2.2.2):=sR h 2;simp [part,isAgg,run_underlying Tryz.underlying4,e]
theorem Co (d:Nat) (a b:ct) (ha:aS a.1) (hb:aS b.1) (w:World) :
  (Op.equalIn (d + 4) 108 (.agg (aQ a).toArray) (.agg (aQ b).toArray)).run Tryz.prog w=.ok (a == b) w:=by
 have hab:(a == b)=(a.1 == b.1 && (a.2.1 == b.2.1 && (a.2.2.1 == b.2.2.1 && a.2.2.2 == b.2.2.2))):=rfl;have h0:=gR d a.1 b.1 ha hb w;have h1:=run_equalIn_int w (d + 2) 3 .i64 .i64 a.2.1 b.2.1 Tryz.underlying3;have h2:=run_equalIn_int w (d + 2) 3 .i64 .i64 a.2.2.1 b.2.2.1 Tryz.underlying3;have h3:=run_equalIn_bool w (d + 2) 4 a.2.2.2 b.2.2.2 Tryz.underlying4;rw [run_equalIn_struct w (d + 3) _ _ _ ky Cj,hab];simp only [Program.fieldsOf,Tryz.underlying108,Op.eqFields];rw [if_pos (by decide)];simp only [Sem.run_bind,Ck a ha,Ck b hb,Result.andThen_ok,h0];cases hc:(a.1 == b.1)
 ·simp
 ·simp only [Bool.not_true,Bool.false_eq_true,if_false]
  rw [if_pos (by decide)];simp only [Sem.run_bind,Cl a ha,Cl b hb,Result.andThen_ok,h1];cases hd:(a.2.1 == b.2.1)
  ·simp
  ·simp only [Bool.not_true,Bool.false_eq_true,if_false]
   rw [if_pos (by decide)];simp only [Sem.run_bind,Cm a ha,Cm b hb,Result.andThen_ok,h2];cases he:(a.2.2.1 == b.2.2.1)
   ·simp
   ·simp only [Bool.not_true,Bool.false_eq_true,if_false]
    rw [if_pos (by decide)];simp only [Sem.run_bind,Cn a ha,Cn b hb,Result.andThen_ok,h3];cases hf:(a.2.2.2 == b.2.2.2) <;> simp
end Go.Proofs.YtaafkokfdgfabaaGreat
namespace Go.Proofs.YtaafkokfdgfabaaGreat
open Go.RowKit
set_option linter.unusedVariables false
def ic (addr:cS) (proto port:Int) (v:ct):Bool:=v.1 == addr && v.2.1 == proto && v.2.2.1 == port
theorem iJ {w:World} {g:Nat} {t:TypeId} {v:ct} (h:ah w g t (aQ v).toArray):w.rangeAt g 0 (ai v.1):=fun j x hj=>by
 have hl:j<(ai v.1).length:=by
  rcases Nat.lt_or_ge j (ai v.1).length with h1 | h1
  ·exact h1
  ·rw [List.getElem?_eq_none h1] at hj;cases hj
 rw [h.cell,Nat.zero_add,List.getElem?_toArray,aQ,List.getElem?_append_left hl];exact hj
theorem em {w:World} {g:Nat} {t:TypeId} {v:ct} (hv:aS v.1) (h:ah w g t (aQ v).toArray) (i:Nat):w.cell? ⟨g,17 + i,none⟩=[Value.int .i64 v.2.1,.int .i64 v.2.2.1,.bool v.2.2.2][i]?:=by
 rw [h.cell,sR hv]
set_option maxRecDepth 100000 in
theorem Cp (v:ct) (hv:aS v.1) (addr:cS) (ha:aS addr) (proto port:Int) (g5 g6 g7:Nat) (w:World) (h5:ah w g5 27 (ai addr).toArray) (h6:w.cell? ⟨g6,0,none⟩=some (.int .i64 proto)) (h7:w.cell? ⟨g7,0,none⟩=some (.int .i64 port)) :
  Calls Tryz.prog 190 #[Ci v,.pointer (some ⟨g5,0,none⟩),.pointer (some ⟨g6,0,none⟩),.pointer (some ⟨g7,0,none⟩)] w fun e w'=>e=.returned (.bool (ic addr proto port v))∧Below w.heap.size w w':=by
 unfold Ci;obtain ⟨W,hW⟩:∃ W,W=w.alloc (.cells (aQ v).toArray 108):=⟨_,rfl⟩
 have hX:ah W w.heap.size 108 (aQ v).toArray:=by rw [hW];exact ah.new w _ _ _ rfl
 have hB:Below w.heap.size w W:=by rw [hW];exact (Below.refl _ _).alloc (Nat.le_refl _) _
 have c1:W.cell? ⟨w.heap.size,17,none⟩=some (.int .i64 v.2.1):=em hv hX 0;have c2:W.cell? ⟨w.heap.size,18,none⟩=some (.int .i64 v.2.2.1):=em hv hX 1;have d6:W.cell? ⟨g6,0,none⟩=some (.int .i64 proto):=(hB.cell (p:=⟨g6,0,none⟩) (World.block_lt_of_cell? w _ h6)).trans h6;have d7:W.cell? ⟨g7,0,none⟩=some (.int .i64 port):=(hB.cell (p:=⟨g7,0,none⟩) (World.block_lt_of_cell? w _ h7)).trans h7;have HR1:=Lib.hid (iJ hX);have HR2:=Lib.hid (ae (ah.below h5 hB h5.lt));have Hs1:=Lib.hid (fX hv);have Hs2:=Lib.hid (fX ha);have He:=Lib.hid (gR 9997 v.1 addr hv ha W);have HW:=Lib.hid hW;have HB:=Lib.hid hB;clear hW hX hB h5 h6 h7;rcases h1:(v.1 == addr) with _ | _
 ·rw [h1] at He
  have H1:=Lib.hid h1;clear h1;go_enter Tryz.func190,Tryz.ntmps190
  go_upto_region 1 with fail
  rw [←HW.out]
  go_wp2_with
   (first
    | (refine aa (by rfl) 27 (.tmp 6) rfl w.heap.size 0 rfl (ai v.1) _ HR1.out Tryz.underlying27 rfl Hs1.out ?_)
    | (refine aa (by rfl) 27 (.tmp 1) rfl g5 0 rfl (ai addr) _ HR2.out Tryz.underlying27 rfl Hs2.out ?_)
    | (refine ia (by rfl) 27 27 (.tmp 7) (.tmp 8) rfl (ai v.1).toArray (ai addr).toArray rfl rfl gJ false He.out ?_))
  go_ret
  exact ⟨by unfold ic;rw [H1.out];rfl,HB.out⟩
 ·rw [h1] at He
  have H1:=Lib.hid h1;clear h1;rcases h2:(v.2.1 == proto) with _ | _
  ·have H2:=Lib.hid h2
   go_enter Tryz.func190,Tryz.ntmps190
   go_upto_region 1 with fail
   rw [←HW.out]
   go_wp2_with
    (first
     | (refine aa (by rfl) 27 (.tmp 6) rfl w.heap.size 0 rfl (ai v.1) _ HR1.out Tryz.underlying27 rfl Hs1.out ?_)
     | (refine aa (by rfl) 27 (.tmp 1) rfl g5 0 rfl (ai addr) _ HR2.out Tryz.underlying27 rfl Hs2.out ?_)
     | (refine ia (by rfl) 27 27 (.tmp 7) (.tmp 8) rfl (ai v.1).toArray (ai addr).toArray rfl rfl gJ true He.out ?_))
   go_ret
   exact ⟨by unfold ic;rw [H1.out,H2.out];rfl,HB.out⟩
  ·have H2:=Lib.hid h2
   rcases h3:(v.2.2.1 == port) with _ | _
   ·have H3:=Lib.hid h3
    go_enter Tryz.func190,Tryz.ntmps190
    go_upto_region 1 with fail
    rw [←HW.out]
    go_wp2_with
     (first
      | (refine aa (by rfl) 27 (.tmp 6) rfl w.heap.size 0 rfl (ai v.1) _ HR1.out Tryz.underlying27 rfl Hs1.out ?_)
      | (refine aa (by rfl) 27 (.tmp 1) rfl g5 0 rfl (ai addr) _ HR2.out Tryz.underlying27 rfl Hs2.out ?_)
      | (refine ia (by rfl) 27 27 (.tmp 7) (.tmp 8) rfl (ai v.1).toArray (ai addr).toArray rfl rfl gJ true He.out ?_))
    go_ret
    exact ⟨by unfold ic;rw [H1.out,H2.out,H3.out];rfl,HB.out⟩
   ·have H3:=Lib.hid h3
    go_enter Tryz.func190,Tryz.ntmps190
    go_upto_region 1 with fail
    rw [←HW.out]
    go_wp2_with
     (first
      | (refine aa (by rfl) 27 (.tmp 6) rfl w.heap.size 0 rfl (ai v.1) _ HR1.out Tryz.underlying27 rfl Hs1.out ?_)
      | (refine aa (by rfl) 27 (.tmp 1) rfl g5 0 rfl (ai addr) _ HR2.out Tryz.underlying27 rfl Hs2.out ?_)
      | (refine ia (by rfl) 27 27 (.tmp 7) (.tmp 8) rfl (ai v.1).toArray (ai addr).toArray rfl rfl gJ true He.out ?_))
    go_ret
    exact ⟨by unfold ic;rw [H1.out,H2.out,H3.out];rfl,HB.out⟩
end Go.Proofs.YtaafkokfdgfabaaGreat
namespace Go.Proofs.YtaafkokfdgfabaaGreat
open Go.RowKit
set_option linter.unusedVariables false
def VS (w:World) (B:Nat) (A:Option Addr) (vs:List ct):Prop :=
 0<vs.length→∃ b o,A=some ⟨b,o,none⟩∧b<B∧∀ j v,vs[j]?=some v→w.rangeAt b (o + j * 20) (aQ v)
section
variable {w w':World} {B B':Nat} {A:Option Addr} {vs:List ct}
theorem VS.keep (h:VS w B A vs) (hk:∀ p:Addr,p.block<B→w'.cell? p=w.cell? p):VS w' B A vs:=fun hn=>by
 obtain ⟨b,o,e,hb,hc⟩:=h hn;exact ⟨b,o,e,hb,fun j v hj i c hi=>(hk ⟨b,_,none⟩ hb).trans (hc j v hj i c hi)⟩
theorem VS.more (h:VS w B A vs) (hB:B≤B'):VS w B' A vs:=fun hn=>by
 obtain ⟨b,o,e,hb,hc⟩:=h hn;exact ⟨b,o,e,by omega,hc⟩
theorem VS.below (h:VS w B A vs) (hb:Below B w w'):VS w' B A vs:=h.keep fun _ hp=>hb.cell hp
theorem VS.take (h:VS w B A vs) (k:Nat):VS w B A (vs.take k):=fun hn=>by
 obtain ⟨b,o,e,hb,hc⟩:=h (by rw [List.length_take] at hn;omega);refine ⟨b,o,e,hb,fun j v hj=>hc j v ?_⟩;rw [List.getElem?_take] at hj;split at hj
 ·exact hj
 ·cases hj
end
def kW (addr:cS) (proto port:Int) (vs:List ct):Int:=match vs.findIdx? (ic addr proto port) with | some i=>(i:Int) | none=>-1
set_option maxRecDepth 100000 in
theorem wH (A:Option Addr) (n c:Nat) (vs:List ct) (hv:∀ v ∈ vs,aS v.1) (addr:cS) (ha:aS addr) (proto port:Int) (g5 g6 g7:Nat) (w:World) (B:Nat) (hB:B≤w.heap.size) (hn:n=vs.length) (hb:VS w B A vs) (hl:n≤1000000)
  (h5:ah w g5 27 (ai addr).toArray) (h6:w.cell? ⟨g6,0,none⟩=some (.int .i64 proto)) (h7:w.cell? ⟨g7,0,none⟩=some (.int .i64 port)) :
  Calls Tryz.prog 189 #[.slice A n c,.func (.func 190) #[] #[.pointer (some ⟨g5,0,none⟩),.pointer (some ⟨g6,0,none⟩),.pointer (some ⟨g7,0,none⟩)]] w fun e w'=>e=.returned (.int .i64 (kW addr proto port vs))∧Below w.heap.size w w':=by
 subst hn;have HV:=Lib.hid hb;have Hok:=Lib.hid hv;have H5:=Lib.hid h5;have H6:=Lib.hid h6;have H7:=Lib.hid h7;clear hb hv h5 h6 h7;go_enter Tryz.func189,Tryz.ntmps189
 go_wp2
 go_loopw [8] (fun i wr=>∃ k:Nat,k≤vs.length∧i=.int .i64 (k:Int)∧Hid (Below w.heap.size w wr)∧Hid (∀ j v,j<k→vs[j]?=some v→ic addr proto port v=false)) (fun i _=>vs.length - (intOf i).toNat)
 case atStart=>exact ⟨0,by omega,rfl,Below.refl _ _,fun j v hj=>by omega⟩
 case round =>
  obtain ⟨k,hk,rfl,hbel,hat⟩:=hrel;by_cases hlt:k<vs.length
  ·have hltI:(k:Int)<(vs.length:Int):=by omega
   have hk0:(0:Int)≤(k:Int):=by omega
   obtain ⟨b,o,hA,hbB,hc⟩:=(HV.out.below (hbel.out.mono hB)) (by omega);subst hA;obtain ⟨x,hx⟩:∃ x,x=vs[k]:=⟨_,rfl⟩
   have hrg:=hc k x (by rw [List.getElem?_eq_getElem hlt,hx]);have hxo:aS x.1:=Hok.out x (by rw [hx];exact List.getElem_mem hlt);have Hrg:=Lib.hid hrg;have Hsz:=Lib.hid (kV hxo);have Hx:=Lib.hid hx;clear hc hrg hx
   go_wp2_with (first | (refine aa (by rfl) 108 (.tmp 14) rfl b (o + k * 20) rfl (aQ x) _ Hrg.out Tryz.underlying108 rfl Hsz.out ?_))
   have hbw:=hbel.out;refine (Cp x hxo addr ha proto port g5 g6 g7 wr (ah.below H5.out hbw H5.out.lt) ((hbw.cell (p:=⟨g6,0,none⟩) (World.block_lt_of_cell? w _ H6.out)).trans H6.out) ((hbw.cell (p:=⟨g7,0,none⟩) (World.block_lt_of_cell? w _ H7.out)).trans H7.out)).mono ?_;rintro e w2 ⟨rfl,hb2⟩;have Hb2:Hid (Below w.heap.size w w2):=hbw.trans (hb2.mono hbw.size);clear hbw hb2;rcases hz:ic addr proto port x with _ | _
   ·have Hat2:Hid (∀ j v,j<k + 1→vs[j]?=some v→ic addr proto port v=false):=fun j v hj hjv=>by
     rcases Nat.lt_or_ge j k with h1 | h1
     ·exact hat.out j v h1 hjv
     ·obtain rfl:j=k:=by omega
      rw [List.getElem?_eq_getElem hlt,←Hx.out] at hjv;injection hjv with hjv
      rw [←hjv];exact hz
    clear hz hat
    go_wp2
    go_roundw
    case rel=>exact ⟨k + 1,by omega,by go_num,Hb2,Hat2⟩
    case measure=>simp [intOf];omega
   ·have Hr:Hid (kW addr proto port vs=(k:Int)):=by
     show _=_
     have hf:vs.findIdx? (ic addr proto port)=some k:=by
      rw [List.findIdx?_eq_some_iff_getElem];refine ⟨hlt,by rw [←Hx.out];exact hz,fun j hj=>?_⟩;rw [hat.out j _ hj (List.getElem?_eq_getElem (Nat.lt_trans hj hlt))];simp
     unfold kW;rw [hf]
    clear hz hat
    go_wp2
    go_ret
    exact ⟨by rw [Hr.out];rfl,Hb2.out⟩
  ·have hltI:¬ (k:Int)<(vs.length:Int):=by omega
   go_wp2
   have Hr:Hid (kW addr proto port vs=-1):=by
    show _=_
    have hf:vs.findIdx? (ic addr proto port)=none:=by
     rw [List.findIdx?_eq_none_iff];intro v hv;obtain ⟨j,hj,rfl⟩:=List.getElem_of_mem hv;exact hat.out j _ (by omega) (List.getElem?_eq_getElem hj)
    unfold kW;rw [hf]
   go_ret
   exact ⟨by rw [Hr.out];rfl,hbel.out⟩
end Go.Proofs.YtaafkokfdgfabaaGreat
namespace Go.Proofs.YtaafkokfdgfabaaGreat
open Go.RowKit
set_option linter.unusedVariables false
section
variable {P:Program}
theorem aG {fn:Func} {p u:Tmp} {ty:TypeId} (h:fn.results=#[.cell p ty,.tmp u]) (tmps:Array Value) (w:World) (g:Nat) (t:TypeId) (cs:Array Value) (fr:Nat × Nat) (d:TypeDesc)
  (hp:tmps.getD p undef=.pointer (some ⟨g,0,none⟩)) (hg:w.heap[g]?=some (.cells cs t fr))
  (hu:P.underlying ty=some d) (hd:(match d with | .struct _ | .array _ _=>true | _=>false)=true) (hi:(P.info? ty).map (·.size)=some cs.size) :
  (results fn tmps).run P w=.ok (.tuple #[.agg cs,tmps.getD u undef]) w:=by
 rw [results_cell_tmp h,hp];simp [asAddr,run_loadVar_row w g t ty cs fr d hg hu hd hi]
end
def jN:ct:=(cT,0,0,false)
end Go.Proofs.YtaafkokfdgfabaaGreat
namespace Go.Proofs.YtaafkokfdgfabaaGreat
open Go.RowKit
set_option linter.unusedVariables false
theorem jv:(aQ jN).toArray=(#[.bool false,.int .u8 0,.int .u8 0,.int .u8 0,.int .u8 0,.int .u8 0,.int .u8 0,.int .u8 0,.int .u8 0,.int .u8 0,.int .u8 0,.int .u8 0,.int .u8 0,.int .u8 0,.int .u8 0,.int .u8 0,.int .u8 0,.int .i64 0,.int .i64 0,.bool false]:Array Value):=rfl
theorem iK (v:ct):(aQ v).toArray.all (·.oneCell')=true:=all_oneCell_toArray (by
 intro u hu;rw [aQ,ai,List.cons_append] at hu;refine nN _ _ _ ?_ u hu;intro x hx;simp only [List.mem_cons,List.mem_nil_iff,or_false] at hx;rcases hx with rfl | rfl | rfl <;> rfl)
def ig (addr:cS) (proto port:Int) (vs:List ct):ct × Bool:=match vs.findIdx? (ic addr proto port) with | some i=>(vs[i]?.getD jN,true) | none=>(jN,false)
set_option maxRecDepth 100000 in
theorem Ea (cs:Array Value) (A:Option Addr) (n c:Nat) (hcs:cs[0]?=some (.slice A n c)) (vs:List ct) (hv:∀ v ∈ vs,aS v.1) (addr:cS) (ha:aS addr) (proto port:Int) (w:World) (hn:n=vs.length) (hb:VS w w.heap.size A vs) (hl:n≤1000000) :
  Calls Tryz.prog 171 #[.agg cs,lN addr,.int .i64 proto,.int .i64 port] w fun e w'=>e=.returned (.tuple #[Ci (ig addr proto port vs).1,.bool (ig addr proto port vs).2])∧Below w.heap.size w w':=by
 subst hn;unfold lN;have HV:=Lib.hid hb;have Hok:=Lib.hid hv;have Hcs:=Lib.hid hcs;clear hb hv hcs;obtain ⟨W,hW⟩:∃ W,W=((((w.alloc (.cells cs 29)).alloc (.cells (ai addr).toArray 27)).alloc (.cells #[.int .i64 proto] 3)).alloc (.cells #[.int .i64 port] 3)).alloc (.cells #[.bool false,.int .u8 0,.int .u8 0,.int .u8 0,.int .u8 0,.int .u8 0,.int .u8 0,.int .u8 0,.int .u8 0,.int .u8 0,.int .u8 0,.int .u8 0,.int .u8 0,.int .u8 0,.int .u8 0,.int .u8 0,.int .u8 0,.int .i64 0,.int .i64 0,.bool false] 108):=⟨_,rfl⟩
 have hX4:ah W w.heap.size 29 cs:=by rw [hW];exact ah.alloc (ah.alloc (ah.alloc (ah.alloc (ah.new w _ _ _ rfl) _) _) _) _
 have hX5:ah W (w.heap.size + 1) 27 (ai addr).toArray:=by rw [hW];exact ah.alloc (ah.alloc (ah.alloc (ah.new _ _ _ _ (by simp)) _) _) _
 have hX6:ah W (w.heap.size + 1 + 1) 3 #[.int .i64 proto]:=by rw [hW];exact ah.alloc (ah.alloc (ah.new _ _ _ _ (by simp)) _) _
 have hX7:ah W (w.heap.size + 1 + 1 + 1) 3 #[.int .i64 port]:=by rw [hW];exact ah.alloc (ah.new _ _ _ _ (by simp)) _
 have hX8:ah W (w.heap.size + 1 + 1 + 1 + 1) 108 (aQ jN).toArray:=by rw [hW,jv];exact ah.new _ _ _ _ (by simp)
 have hB:Below w.heap.size w W:=by rw [hW];exact (((((Below.refl _ _).alloc (Nat.le_refl _) _).alloc (by simp) _).alloc (by simp;omega) _).alloc (by simp;omega) _).alloc (by simp;omega) _
 have c4:W.cell? ⟨w.heap.size,0,none⟩=some (.slice A vs.length c):=(hX4.cell 0).trans Hcs.out;have Hidx:=Lib.hid (wH A _ c vs Hok.out addr ha proto port (w.heap.size + 1) (w.heap.size + 1 + 1) (w.heap.size + 1 + 1 + 1) W w.heap.size hB.size rfl (HV.out.below hB) hl hX5 (hX6.cell 0) (hX7.cell 0));have HX4:=Lib.hid hX4;have HX8:=Lib.hid hX8;have HB:=Lib.hid hB;have HW:=Lib.hid hW;clear hW hX4 hX5 hX6 hX7 hX8 hB;rcases hf:vs.findIdx? (ic addr proto port) with _ | i
 ·have hidx:kW addr proto port vs=-1:=by unfold kW;rw [hf]
  have hfind:ig addr proto port vs=(jN,false):=by unfold ig;rw [hf]
  rw [hidx] at Hidx;rw [hfind];clear hf hidx hfind;go_enter Tryz.func171,Tryz.ntmps171
  go_upto_region 1 with fail
  rw [←HW.out]
  go_wp2_with fail
  refine Hidx.out.mono ?_;rintro e w1 ⟨rfl,hb1⟩;have hX8:=ah.below HX8.out hb1 HX8.out.lt;have Hth:Hid (w1.there (w.heap.size + 1 + 1 + 1 + 1) 0 20):=hX8.there (by rw [jv];decide);have HX8':=Lib.hid hX8;have HB1:Hid (Below w.heap.size w w1):=HB.out.trans (hb1.mono HB.out.size);clear hX8 hb1
  go_wp2_with (first | (refine wpList_store_mid rfl 108 (.tmp 8) (.tmp 17) rfl (w.heap.size + 1 + 1 + 1 + 1) 0 (aQ jN).toArray rfl rfl Hth.out ju (iK jN) ?_))
  have hX9:=ah.setCells (aQ jN) 0 HX8'.out;rw [aW rfl] at hX9;refine bodyPost_ret (v:=.tuple #[Ci jN,.bool false]) (aG (P:=Tryz.prog) (p:=8) (u:=9) rfl _ _ (w.heap.size + 1 + 1 + 1 + 1) _ _ _ _ rfl hX9 ky rfl (kV uh)) rfl ⟨rfl,ba (by omega) _ _ HB1.out⟩
 ·have hidx:kW addr proto port vs=(i:Int):=by unfold kW;rw [hf]
  have hlt:i<vs.length:=(List.findIdx?_eq_some_iff_getElem.1 hf).1;have hltI:(i:Int)<(vs.length:Int):=by omega
  have hi0:(0:Int)≤(i:Int):=by omega
  obtain ⟨x,hx⟩:∃ x,x=vs[i]:=⟨_,rfl⟩
  have hxo:aS x.1:=Hok.out x (by rw [hx];exact List.getElem_mem hlt);have hfind:ig addr proto port vs=(x,true):=by unfold ig;rw [hf];simp only [List.getElem?_eq_getElem hlt,←hx,Option.getD_some]
  obtain ⟨b,o,hA,hbB,hc⟩:=HV.out (by omega);have hrg:=hc i x (by rw [List.getElem?_eq_getElem hlt,hx]);subst hA;rw [hidx] at Hidx;rw [hfind];have Hrg:=Lib.hid hrg;have Hsz:=Lib.hid (kV hxo);have hnl:¬ (i:Int)<0:=by omega
  clear hf hidx hfind hx hc hrg;go_enter Tryz.func171,Tryz.ntmps171
  go_upto_region 1 with fail
  rw [←HW.out]
  go_wp2_with fail
  refine Hidx.out.mono ?_;rintro e w1 ⟨rfl,hb1⟩;have hX8:=ah.below HX8.out hb1 HX8.out.lt;have hX4:=ah.below HX4.out hb1 HX4.out.lt;have c5:w1.cell? ⟨w.heap.size,0,none⟩=some (.slice (some ⟨b,o,none⟩) vs.length c):=(hX4.cell 0).trans Hcs.out;have Hth:Hid (w1.there (w.heap.size + 1 + 1 + 1 + 1) 0 (aQ x).toArray.size):=hX8.there (by rw [jv,List.size_toArray,dw hxo];decide);have HX8':=Lib.hid hX8;have HB1:Hid (Below w.heap.size w w1):=HB.out.trans (hb1.mono HB.out.size);have Hrg1:Hid (w1.rangeAt b (o + i * 20) (aQ x)):=fun j u hj=>(HB1.out.cell (p:=⟨b,_,none⟩) hbB).trans (Hrg.out j u hj)
  clear hX8 hX4 hb1
  go_wp2_with (first
   | (refine aa (by rfl) 108 (.tmp 21) rfl b (o + i * 20) rfl (aQ x) _ Hrg1.out Tryz.underlying108 rfl Hsz.out ?_)
   | (refine wpList_store_mid rfl 108 (.tmp 8) (.tmp 22) rfl (w.heap.size + 1 + 1 + 1 + 1) 0 (aQ x).toArray rfl rfl Hth.out Hsz.out (iK x) ?_))
  have hX9:=ah.setCells (aQ x) 0 HX8'.out;rw [aW (by rw [dw hxo];rfl)] at hX9;refine bodyPost_ret (v:=.tuple #[Ci x,.bool true]) (aG (P:=Tryz.prog) (p:=8) (u:=9) rfl _ _ (w.heap.size + 1 + 1 + 1 + 1) _ _ _ _ rfl hX9 ky rfl (kV hxo)) rfl ⟨rfl,ba (by omega) _ _ HB1.out⟩
end Go.Proofs.YtaafkokfdgfabaaGreat
namespace Go.Proofs.YtaafkokfdgfabaaGreat
open Go.RowKit
set_option linter.unusedVariables false
def aY (l:List UInt8) (s:St):St × Nat:=((fJ l s).1,min (fJ l s).2 1048577)
set_option maxRecDepth 100000 in
theorem fu (base g:Nat) (l:List UInt8) (s:St) (w:World) (h:ey w base g l s) (hs:bY l s) (hl:l.length≤1000000000) :
  Calls Tryz.prog 151 #[.pointer (some ⟨g,0,none⟩)] w fun x w'=>x=.returned (.int .i64 ((aY l s).2:Int))∧ey w' base g l (aY l s).1∧w.grownBy w' (some g):=by
 have H:=Lib.hid (jk base g l s w h hs hl);unfold aY;clear h hs;rcases hv:fJ l s with ⟨s2,v⟩
 rw [hv] at H;by_cases hle:v≤1048577
 ·have hm:min v 1048577=v:=Nat.min_eq_left hle
  have hmI:min (v:Int) 1048577=(v:Int):=by omega
  have hw:IntKind.i64.wrap (v:Int)=(v:Int):=IntWalk.i64_in _ (by omega);rw [hm];clear hm hv;go_enter Tryz.func151,Tryz.ntmps151
  go_wp2_with fail
  refine H.out.mono ?_;rintro e w1 ⟨rfl,hR,hg⟩;have HR:=Lib.hid hR;have Hg:=Lib.hid hg;clear hR hg
  go_wp2
  go_ret
  exact ⟨rfl,HR.out,Hg.out⟩
 ·have hm:min v 1048577=1048577:=Nat.min_eq_right (by omega)
  have hmI:min (v:Int) 1048577=1048577:=by omega
  rw [hm];clear hm hv;go_enter Tryz.func151,Tryz.ntmps151
  go_wp2_with fail
  refine H.out.mono ?_;rintro e w1 ⟨rfl,hR,hg⟩;have HR:=Lib.hid hR;have Hg:=Lib.hid hg;clear hR hg
  go_wp2
  go_ret
  exact ⟨rfl,HR.out,Hg.out⟩
def aN:List Nat→List UInt8
 | []=>[]
 | n :: ns=>aI n ++ aN ns
theorem je (a b:List Nat):aN (a ++ b)=aN a ++ aN b:=by
 induction a with
 | nil=>rfl
 | cons x xs ih=>simp [aN,ih]
theorem ii {ns:List Nat} (h:∀ n ∈ ns,n<18446744073709551616):(aN ns).length≤10 * ns.length:=by
 induction ns with
 | nil=>simp [aN]
 | cons x xs ih =>
  have h1:=a7 (h x (by simp));have h2:=ih (fun n hn=>h n (by simp [hn]));simp [aN];omega
def NS (w:World) (ad:Addr) (ns:List Nat):Prop:=∀ (j n:Nat),ns[j]?=some n→w.cell? (ad.add j)=some (.int .i64 (n:Int))
theorem Cq (n:Nat) (w:World) (hn:n<18446744073709551616) :
  Calls Tryz.prog 31 #[.int .u64 (n:Int)] w fun e w'=>∃ A c,e=.returned (.slice A (aI n).length c)∧w'.ownsRow w.heap.size 5 1 (.slice A (aI n).length c) (aI n).length (ab (aI n))∧Below w.heap.size w w' :=
 (sN n w n rfl hn).mono fun e w' ⟨v,h1,h2,h3⟩=>by
  obtain ⟨A,c,rfl,_⟩:=cE h2;exact ⟨A,c,h1,h2,h3⟩
theorem jl (A:Option Addr) (n c:Nat):(Value.slice A n c).ownBlock=(Value.slice A 0 0).ownBlock:=by cases A <;> rfl
def wI (w wr:World) (base:Nat) (row:Option Nat) (A:Option Addr) (c:Nat) (m:List UInt8) (ns:List Nat) (k:Nat):Prop :=
 wr.ownsRow base 5 1 (.slice A (m ++ aN (ns.take k)).length c) (m ++ aN (ns.take k)).length (ab (m ++ aN (ns.take k)))∧Below base w wr ∧
  w.grownBy wr row∧((Value.slice A 0 0).ownBlock=row∨∃ g,(Value.slice A 0 0).ownBlock=some g∧w.heap.size≤g)
set_option maxRecDepth 100000 in
theorem iS (base:Nat) (A:Option Addr) (c:Nat) (m:List UInt8) (ad:Addr) (k cap:Nat) (ns:List Nat) (w:World) (hk:k=ns.length) (hown:w.ownsRow base 5 1 (.slice A m.length c) m.length (ab m)) (hns:NS w ad ns) (hlt:ad.block<w.heap.size)
  (hne:(Value.slice A 0 0).ownBlock≠some ad.block) (hn64:∀ n ∈ ns,n<9223372036854775808) (hml:m.length≤1000000) (hnl:ns.length≤1000) (hbase:base≤w.heap.size) :
  Calls Tryz.prog 60 #[.slice A m.length c,.slice (some ad) k cap] w fun e w'=>∃ A' c',e=.returned (.slice A' (m ++ aN ns).length c')∧w'.ownsRow base 5 1 (.slice A' (m ++ aN ns).length c') (m ++ aN ns).length (ab (m ++ aN ns))∧Below base w w' ∧
   w.grownBy w' (Value.slice A 0 0).ownBlock:=by
 subst hk;obtain ⟨i0,hi0,hz0,hz1,hz2⟩:=info_parts cC;have Hns:=Lib.hid hns;have H64:=Lib.hid hn64;have Hne:=Lib.hid hne;have Hat0:Hid (wI w w base (Value.slice A 0 0).ownBlock A c m ns 0):=⟨by simpa [aN] using hown,Below.refl _ _,World.grownBy.refl _ _,.inl rfl⟩
 clear hns hn64 hne hown;go_enter Tryz.func60,Tryz.ntmps60
 go_wp2_with fail
 go_loopw [0,9] (fun v i wr=>∃ (j:Nat) (A':Option Addr) (c':Nat),j≤ns.length∧i=.int .i64 (j:Int)∧v=.slice A' (m ++ aN (ns.take j)).length c'∧Hid (wI w wr base (Value.slice A 0 0).ownBlock A' c' m ns j)) (fun _ i _=>ns.length - (intOf i).toNat)
 case atStart=>exact ⟨0,A,c,by omega,rfl,by simp [aN],Hat0⟩
 case round =>
  obtain ⟨j,A',c',hj,rfl,rfl,hat⟩:=hrel;by_cases hlt2:j<ns.length
  ·have hltI:(j:Int)<(ns.length:Int):=by omega
   have hj0:(0:Int)≤(j:Int):=by omega
   obtain ⟨hown,hbel,hcell,hob⟩:=hat.out;have hx64:=H64.out _ (List.getElem_mem hlt2);obtain ⟨x,hx⟩:∃ x,x=ns[j]:=⟨_,rfl⟩
   rw [←hx] at hx64;have hc:wr.cell? (ad.add j)=some (.int .i64 (x:Int)):=by
    rw [World.cell?_of_block (hcell.block (ad.add j).block (by rw [fW];exact hlt) (by rw [fW];exact fun e=>Hne.out e.symm))];exact Hns.out j x (by rw [List.getElem?_eq_getElem hlt2,hx])
   have hwx:IntKind.u64.wrap (x:Int)=(x:Int):=by simp [IntKind.wrap,IntKind.bits,IntKind.signed];omega
   obtain ⟨m2,hm2⟩:∃ m2,m2=m ++ aN (ns.take j):=⟨_,rfl⟩
   have hm3:m ++ aN (ns.take (j + 1))=m2 ++ aI x:=by
    rw [List.take_add_one,List.getElem?_eq_getElem hlt2,←hx,je,hm2,List.append_assoc];simp [aN]
   have hm2l:m2.length≤1010000:=by
    rw [hm2,List.length_append];have:=ii (ns:=ns.take j) (fun n hn=>by have:=H64.out n (List.mem_of_mem_take hn);omega);rw [List.length_take] at this;omega
   have hvl:=a7 (n:=x) (by omega);rw [←hm2] at hown ⊢;have Hown:=Lib.hid hown;have Hm3:=Lib.hid hm3;have hsz:w.heap.size≤wr.heap.size:=hbel.size;have Hbel:=Lib.hid hbel;have Hcell:=Lib.hid hcell;have Hob:=Lib.hid hob;clear hown hbel hcell hob hx hm2 hm3 hat
   go_wp2_with fail
   refine (Cq x wr (by omega)).mono ?_;rintro e w2 ⟨A2,c2,rfl,hown2,hb2⟩;have Hown2:=Lib.hid (ay Hown.out hb2);have HB2:=Lib.hid (BS.of_own hown2).1;have Hb2:=Lib.hid hb2;clear hown2 hb2
   go_wp2_with (at_builtin;refine av _ rfl _ _ 43 rfl base 5 i0 (.int .u8 0) 1 Tryz.underlying43 hi0 hz0 hz1 hz2 rfl (.slice A' m2.length c') m2 rfl Hown2.out _ A2 _ c2 (aI x) rfl rfl HB2.out (by unfold maxLen;omega) (by omega) (Nat.le_trans hbase (Nat.le_trans hsz Hb2.out.size)) ?_;intro A5 c5 w5 hown5 hg5 hob5)
   have Hat2:Hid (wI w w5 base (Value.slice A 0 0).ownBlock A5 c5 m ns (j + 1)):=by
    refine ⟨by rw [Hm3.out];exact hown5,(Hbel.out.trans (Hb2.out.mono (Nat.le_trans hbase hsz))).grown hg5 (Nat.le_trans hbase (Nat.le_trans hsz Hb2.out.size)) (fun k hk=>(Hown2.out.lt k hk).1),?_,?_⟩
    ·have h12:=am Hcell.out (bj (row:=(Value.slice A 0 0).ownBlock) Hb2.out)
     refine ⟨hg5.os.trans h12.os,hg5.tape.trans h12.tape,hg5.output.trans h12.output,Nat.le_trans h12.size hg5.size,fun k hk hne=>?_⟩;refine (hg5.block k (Nat.lt_of_lt_of_le hk h12.size) ?_).trans (h12.block k hk hne);rw [jl];rcases Hob.out with h | ⟨g,h,hg⟩
     ·rw [h];exact hne
     ·rw [h];intro e;injection e with e;omega
    ·rw [←jl A5 (m2 ++ aI x).length c5]
     rcases hob5 with h | h
     ·rw [h,jl];exact Hob.out
     ·exact .inr ⟨_,h,Nat.le_trans hsz Hb2.out.size⟩
   have Hlen:Hid ((m ++ aN (ns.take (j + 1))).length=m2.length + (aI x).length):=by show _=_;rw [Hm3.out,List.length_append]
   clear hown5 hg5 hob5 Hown2 HB2 Hb2 Hob Hcell Hbel Hown;go_roundw
   case rel=>exact ⟨j + 1,A5,c5,by omega,by go_num,by rw [Hlen.out],Hat2⟩
   case measure=>simp [intOf];omega
  ·have hltI:¬ (j:Int)<(ns.length:Int):=by omega
   have hjn:ns.take j=ns:=List.take_of_length_le (by omega);obtain ⟨h1,h2,h3,_⟩:=hat.out;rw [hjn,List.length_append] at h1;rw [hjn];have H1:=Lib.hid h1;have H2:=Lib.hid h2;have H3:=Lib.hid h3;clear hjn h1 h2 h3 hat
   go_wp2
   go_ret
   exact ⟨A',c',rfl,H1.out,H2.out,H3.out⟩
end Go.Proofs.YtaafkokfdgfabaaGreat
namespace Go.Proofs.YtaafkokfdgfabaaGreat
open Go.RowKit
set_option linter.unusedVariables false
structure bc where
 vips:List ct
 size:Int
 room:Int
 idle:List Int
 rise:Int
 fall:Int
 mac:List UInt8
 four:cS
 six:cS
 most:Int
 keep:Int
 batch:Int
def iv (n:Int):Value:=.int .i64 n
def dY (f:bc):List Value :=
 iv f.size :: iv f.room :: (f.idle.map iv ++ (iv f.rise :: iv f.fall :: (ab f.mac ++ (ai f.four ++ (ai f.six ++ [iv f.most,iv f.keep,iv f.batch])))))
def aj (A:Option Addr) (n c:Nat) (f:bc):List Value:=.slice A n c :: dY f
def jx (A:Option Addr) (n c:Nat) (f:bc):Value:=.agg (aj A n c f).toArray
structure ak (f:bc):Prop where
 vips:∀ v ∈ f.vips,aS v.1
 idle:f.idle.length=6
 mac:f.mac.length=6
 four:aS f.four
 six:aS f.six
section
variable {A:Option Addr} {n c:Nat} {f:bc}
theorem dH (h:ak f):(aj A n c f).length=54:=by
 simp [aj,dY,h.idle,ao,h.mac,ap h.four,ap h.six]
theorem zT (h:ak f) {k:Nat} (hk:k<6):(aj A n c f)[3 + k]?=(f.idle[k]?).map iv:=by
 have hi:=h.idle;rw [show 3 + k=(k + 2) + 1 by omega,aj,List.getElem?_cons_succ,dY,List.getElem?_cons_succ,List.getElem?_cons_succ,List.getElem?_append_left (by simp;omega),List.getElem?_map]
theorem jm (h:ak f) (k:Nat):(aj A n c f)[9 + k]?=(iv f.rise :: iv f.fall :: (ab f.mac ++ (ai f.four ++ (ai f.six ++ [iv f.most,iv f.keep,iv f.batch]))))[k]?:=by
 have hi:=h.idle;rw [show 9 + k=(6 + k + 2) + 1 by omega,aj,List.getElem?_cons_succ,dY,List.getElem?_cons_succ,List.getElem?_cons_succ,List.getElem?_append_right (by simp;omega)];simp [hi]
theorem Cs (h:ak f) {k:Nat} (hk:k<6):(aj A n c f)[11 + k]?=(ab f.mac)[k]?:=by
 have:=jm (A:=A) (n:=n) (c:=c) h (k + 2);rw [show 11 + k=9 + (k + 2) by omega,this,List.getElem?_cons_succ,List.getElem?_cons_succ,List.getElem?_append_left (by rw [ao,h.mac];exact hk)]
theorem mZ (h:ak f) (k:Nat):(aj A n c f)[17 + k]?=(ai f.four ++ (ai f.six ++ [iv f.most,iv f.keep,iv f.batch]))[k]?:=by
 have:=jm (A:=A) (n:=n) (c:=c) h (k + 8);rw [show 17 + k=9 + (k + 8) by omega,this,show k + 8=(k + 6 + 1) + 1 by omega,List.getElem?_cons_succ,List.getElem?_cons_succ,List.getElem?_append_right (by rw [ao,h.mac];omega),ao,h.mac];simp
theorem zU (h:ak f) {k:Nat} (hk:k<17):(aj A n c f)[17 + k]?=(ai f.four)[k]?:=by
 rw [mZ h,List.getElem?_append_left (by rw [ap h.four];exact hk)]
theorem Ct (h:ak f) {k:Nat} (hk:k<17):(aj A n c f)[34 + k]?=(ai f.six)[k]?:=by
 have:=mZ (A:=A) (n:=n) (c:=c) h (17 + k);rw [show 34 + k=17 + (17 + k) by omega,this,List.getElem?_append_right (by rw [ap h.four];omega),ap h.four,List.getElem?_append_left (by rw [ap h.six];omega)];simp
theorem o0 (h:ak f) (k:Nat):(aj A n c f)[51 + k]?=[iv f.most,iv f.keep,iv f.batch][k]?:=by
 have:=mZ (A:=A) (n:=n) (c:=c) h (34 + k);rw [show 51 + k=17 + (34 + k) by omega,this,List.getElem?_append_right (by rw [ap h.four];omega),ap h.four,List.getElem?_append_right (by rw [ap h.six];omega),ap h.six];simp [show 34 + k - 17 - 17=k by omega]
end
section
variable {w:World} {g:Nat} {t:TypeId} {A:Option Addr} {n c:Nat} {f:bc}
theorem lH (hb:ah w g t (aj A n c f).toArray):w.cell? ⟨g,0,none⟩=some (.slice A n c):=hb.cell 0
theorem nT (hb:ah w g t (aj A n c f).toArray):w.cell? ⟨g,1,none⟩=some (.int .i64 f.size):=hb.cell 1
theorem nU (hb:ah w g t (aj A n c f).toArray):w.cell? ⟨g,2,none⟩=some (.int .i64 f.room):=hb.cell 2
theorem sS (hb:ah w g t (aj A n c f).toArray) (h:ak f) {k:Nat} (hk:k<6):w.cell? ⟨g,3 + k,none⟩=(f.idle[k]?).map iv:=by
 rw [hb.cell,List.getElem?_toArray,zT h hk]
theorem ql (hb:ah w g t (aj A n c f).toArray) (h:ak f):w.rangeAt g 3 (f.idle.map iv):=fun j v hj=>by
 have hi:=h.idle;have hk:j<6:=by have:=(List.getElem?_eq_some_iff.1 hj).1;simp at this;omega
 rw [sS hb h hk,←hj,List.getElem?_map]
theorem nV (hb:ah w g t (aj A n c f).toArray) (h:ak f):w.cell? ⟨g,9,none⟩=some (.int .i64 f.rise):=by
 rw [hb.cell,List.getElem?_toArray,show 9=9 + 0 from rfl,jm h];rfl
theorem nW (hb:ah w g t (aj A n c f).toArray) (h:ak f):w.cell? ⟨g,10,none⟩=some (.int .i64 f.fall):=by
 rw [hb.cell,List.getElem?_toArray,show 10=9 + 1 from rfl,jm h];rfl
theorem sU (hb:ah w g t (aj A n c f).toArray) (h:ak f):w.rangeAt g 11 (ab f.mac):=fun j v hj=>by
 have hk:j<6:=by have:=(List.getElem?_eq_some_iff.1 hj).1;rw [ao,h.mac] at this;omega
 rw [hb.cell,List.getElem?_toArray,Cs h hk,hj]
theorem nX (hb:ah w g t (aj A n c f).toArray) (h:ak f):w.rangeAt g 17 (ai f.four):=fun j v hj=>by
 have hk:j<17:=by have:=(List.getElem?_eq_some_iff.1 hj).1;rw [ap h.four] at this;omega
 rw [hb.cell,List.getElem?_toArray,zU h hk,hj]
theorem sV (hb:ah w g t (aj A n c f).toArray) (h:ak f):w.rangeAt g 34 (ai f.six):=fun j v hj=>by
 have hk:j<17:=by have:=(List.getElem?_eq_some_iff.1 hj).1;rw [ap h.six] at this;omega
 rw [hb.cell,List.getElem?_toArray,Ct h hk,hj]
theorem Cu (hb:ah w g t (aj A n c f).toArray) (h:ak f):w.cell? ⟨g,17,none⟩=some (.bool f.four.1):=nX hb h 0 _ rfl
theorem yH (hb:ah w g t (aj A n c f).toArray) (h:ak f):w.cell? ⟨g,34,none⟩=some (.bool f.six.1):=sV hb h 0 _ rfl
theorem nY (hb:ah w g t (aj A n c f).toArray) (h:ak f):w.cell? ⟨g,51,none⟩=some (.int .i64 f.most):=by
 rw [hb.cell,List.getElem?_toArray,show 51=51 + 0 from rfl,o0 h];rfl
theorem nZ (hb:ah w g t (aj A n c f).toArray) (h:ak f):w.cell? ⟨g,52,none⟩=some (.int .i64 f.keep):=by
 rw [hb.cell,List.getElem?_toArray,show 52=51 + 1 from rfl,o0 h];rfl
theorem lR (hb:ah w g t (aj A n c f).toArray) (h:ak f):w.cell? ⟨g,53,none⟩=some (.int .i64 f.batch):=by
 rw [hb.cell,List.getElem?_toArray,show 53=51 + 2 from rfl,o0 h];rfl
end
def n0 (v:ct):Bool:=dZ v.1 && (v.2.1 == 6 || v.2.1 == 17) && qj v.2.2.1 1 65535
def mM (vs:List ct) (i:Nat):Bool:=match vs[i]? with | some v=>n0 v && !((vs.take i).any (ic v.1 v.2.1 v.2.2.1)) | none=>true
def lI (vs:List ct):Bool:=decide (vs.length≤64) && (List.range vs.length).all (mM vs)
def n8 (l:List Int):Bool:=(l.head? == some 0) && l.all (fun n=>qj n 0 1000000)
def bH (f:bc):Bool :=
 n8 f.idle && (lI f.vips && (qj f.size 2 65537 && (ka f.size.toNat && (qj f.room 1 4096 && (qj f.rise 1 100 && (qj f.fall 1 100 && (!f.four.1 && (dZ f.four && (f.six.1 && (qj f.most 1000 1048576 && (qj f.keep 1 100 && qj f.batch 1 1000)))))))))))
def mN (a b:bc):Bool :=
 a.vips == b.vips && (a.size == b.size && (a.room == b.room && (a.idle == b.idle && (a.rise == b.rise && (a.fall == b.fall && (a.mac == b.mac && (a.four == b.four && (a.six == b.six && (a.most == b.most && (a.keep == b.keep && a.batch == b.batch))))))))))
theorem n9 {n lo hi:Int}:qj n lo hi=true↔lo≤n∧n≤hi:=by simp [qj]
theorem jn {l:List Int} (h:n8 l=true):l.head?=some 0∧∀ n ∈ l,0≤n∧n≤1000000:=by
 unfold n8 at h;simp only [Bool.and_eq_true,beq_iff_eq,List.all_eq_true] at h;exact ⟨h.1,fun n hn=>n9.1 (h.2 n hn)⟩
theorem mp {vs:List ct}:lI vs=true↔vs.length≤64∧∀ i,i<vs.length→mM vs i=true:=by
 simp [lI]
def bU (v:ct):List UInt8:=bD v.1 ++ [UInt8.ofNat v.2.1.toNat,UInt8.ofNat (v.2.2.1.toNat / 256),UInt8.ofNat v.2.2.1.toNat,if v.2.2.2 then 1 else 0]
def dy (f:bc):List Nat:=f.size.toNat :: f.room.toNat :: ((f.idle.drop 1).map Int.toNat ++ [f.rise.toNat,f.fall.toNat])
def dP (f:bc):List Nat:=[f.most.toNat,f.keep.toNat,f.batch.toNat]
def bK (f:bc):List UInt8 :=
 aI f.vips.length ++ (f.vips.flatMap bU ++ (aN (dy f) ++ (f.mac ++ (f.four.2.take 4 ++ (f.six.2 ++ aN (dP f))))))
end Go.Proofs.YtaafkokfdgfabaaGreat
namespace Go.Proofs.YtaafkokfdgfabaaGreat
open Go.RowKit
set_option linter.unusedVariables false
def dR (b:List UInt8) (k:Nat):List UInt8:=b ++ List.replicate (k - b.length) 0
theorem ew {b:List UInt8} {k:Nat} (h:b.length≤k):(dR b k).length=k:=by simp [dR];omega
theorem iV {b:List UInt8} {k:Nat} (h:b.length=k):dR b k=b:=by simp [dR,h]
def bg (l:List UInt8) (s:St):St × Option cS :=
 if (aJ l s 1 true).2=6 then ((a8 l (aJ l s 1 true).1 16).1,if (a8 l (aJ l s 1 true).1 16).2.length=16 then some (true,(a8 l (aJ l s 1 true).1 16).2) else none)
 else if (aJ l s 1 true).2=4 then ((a8 l (aJ l s 1 true).1 4).1,if (a8 l (aJ l s 1 true).1 4).2.length=4 then some (false,dR (a8 l (aJ l s 1 true).1 4).2 16) else none)
 else ((aJ l s 1 true).1,none)
def mS (l:List UInt8) (s:St):St:=(bg l s).1
def qB (l:List UInt8) (s:St):St:=(aJ l (mS l s) 1 true).1
def ox (l:List UInt8) (s:St):St:=(aJ l (qB l s) 2 true).1
def kG (l:List UInt8) (s:St):St:=(aJ l (ox l s) 1 true).1
def yZ (l:List UInt8) (s:St) (a:cS):ct:=(a,((aJ l (mS l s) 1 true).2:Int),((aJ l (qB l s) 2 true).2:Int),(aJ l (ox l s) 1 true).2 == 1)
def oy (l:List UInt8) (s:St):Option ct:=match (bg l s).2 with | some a=>if (aJ l (ox l s) 1 true).2≤1 then some (yZ l s a) else none | none=>none
def eK (l:List UInt8):Nat→St→Option (St × List ct)
 | 0,s=>some (s,[])
 | k + 1,s=>match oy l s with | none=>none | some v=>(eK l k (kG l s)).map fun p=>(p.1,v :: p.2)
def cU (l:List UInt8):Nat→St→St × List Nat
 | 0,s=>(s,[])
 | k + 1,s=>((cU l k (aY l s).1).1,(aY l s).2 :: (cU l k (aY l s).1).2)
theorem my (l:List UInt8):∀ (k:Nat) (s:St),(cU l k s).2.length=k
 | 0,_=>rfl
 | k + 1,s=>by simp [cU,my l k]
def ki (vs:List ct) (ns:List Nat) (mac four six:List UInt8) (ms:List Nat):bc :=
 { vips:=vs,size:=(ns.getD 0 0:Nat),room:=(ns.getD 1 0:Nat),idle:=0 :: ((ns.drop 2).take 5).map Int.ofNat,rise:=(ns.getD 7 0:Nat),fall:=(ns.getD 8 0:Nat),mac:=mac,four:=(false,four),six:=(true,six),most:=(ms.getD 0 0:Nat),keep:=(ms.getD 1 0:Nat),batch:=(ms.getD 2 0:Nat) }
def pB (l:List UInt8) (m:St × Nat):Option (St × List ct):=if m.2≤64 then eK l m.2 m.1 else some (m.1,[])
def dA (l:List UInt8) (s:St) (vs:List ct):St × bc :=
 let n:=cU l 9 s
 let a:=a8 l n.1 6
 let b:=a8 l a.1 4
 let c:=a8 l b.1 16
 let z:=cU l 3 c.1
 (z.1,ki vs n.2 (dR a.2 6) (dR b.2 16) (dR c.2 16) z.2)
def jE (l:List UInt8):Option (St × bc × Nat) :=
 match pB l (aY l (0,0,0)) with
 | none=>none
 | some p=>some ((dA l p.1 p.2).1,(dA l p.1 p.2).2,(aY l (0,0,0)).2)
def bL (l:List UInt8):Option bc :=
 match jE l with
 | none=>none
 | some p=>if (iZ l p.1).2.1=0∧(iZ l p.1).2.2=0∧p.2.1.vips.length=p.2.2∧bH p.2.1=true then some p.2.1 else none
section
variable {l:List UInt8} {s:St}
theorem uK {a:cS} (ha:aS a) (h:lF a.2=true):dR (a.2.take 4) 16=a.2:=by
 have hl:a.2.length=16:=ha;have h4:(a.2.take 4).length=4:=by simp [hl]
 have hd:a.2.drop 4=List.replicate 12 0:=by
  rw [List.eq_replicate_iff];refine ⟨by simp [hl],fun b hb=>?_⟩;unfold lF at h;rw [List.all_eq_true] at h;simpa using h b hb
 rw [dR,h4,show 16 - 4=12 from rfl,←hd,List.take_append_drop]
theorem qC {b:List UInt8} (h:b.length=4):lF (dR b 16)=true∧(dR b 16).take 4=b:=by
 constructor
 ·unfold lF dR
  rw [←h,List.drop_left];simp
 ·unfold dR
  rw [←h,List.take_left]
theorem xo (h0:s.2.2=0) (hl:s.1≤l.length) {a:cS} (ha:aS a) (hs:dZ a=true) {r:List UInt8} (e:l.drop s.1=bD a ++ r):bg l s=(ep s (bD a).length,some a):=by
 have hla:a.2.length=16:=ha;rcases a with ⟨six,b⟩
 simp only at hla;cases six
 ·have hb:dZ (false,b)=lF b:=rfl
  rw [hb] at hs;have hp:bD (false,b)=[4] ++ b.take 4:=rfl;rw [hp,List.append_assoc] at e;have h1:=jU (n:=1) h0 hl rfl (by simp) (by simp) true e;have E1:=br.of h0 hl e;have e2:=E1.rest e;have hb4:(b.take 4).length=4:=by simp [hla]
  have h2:=i5 (n:=4) E1.ok' E1.le' (by rw [hb4];rfl) e2;have hg:ix [(4:UInt8)] true=4:=cL 4;unfold bg;rw [h1,hg,if_neg (show ¬ ((4:Nat)=6) by decide),if_pos rfl];simp only;rw [h2,hb4,if_pos rfl,uK (a:=(false,b)) ha hs,hp,List.length_append,hb4,ca]
 ·have hp:bD (true,b)=[6] ++ b:=rfl
  rw [hp,List.append_assoc] at e;have h1:=jU (n:=1) h0 hl rfl (by simp) (by simp) true e;have E1:=br.of h0 hl e;have e2:=E1.rest e;have h2:=i5 (n:=16) E1.ok' E1.le' (by rw [hla];rfl) e2;have hg:ix [(6:UInt8)] true=6:=cL 6;unfold bg;rw [h1,hg,if_pos rfl];simp only;rw [h2,hla,if_pos rfl,hp,List.length_append,hla,ca]
theorem xp {a:cS} (h:(bg l s).2=some a) (h0:(bg l s).1.2.2=0):br l s (bD a) (bg l s).1∧aS a∧dZ a=true:=by
 unfold bg at h h0 ⊢;split at h
 ·rename_i h6
  rw [if_pos h6] at h0 ⊢;obtain ⟨x,hx,E2,e2⟩:=iB (n:=16) (by decide) h0;obtain ⟨y,hy,E1,e1⟩:=jC (n:=1) (by decide) (by decide) true E2.ok;obtain ⟨c,rfl⟩:=lc hy;rw [e1,cL] at h6;have hc:c=6:=by rw [←UInt8.toNat_inj];exact h6
  subst hc;simp only at h;rw [e2,if_pos (show x.length=16 from hx)] at h;injection h with h
  subst h;refine ⟨?_,hx,rfl⟩;exact E1.trans E2
 ·rename_i h6
  rw [if_neg h6] at h0 ⊢;split at h
  ·rename_i h4
   rw [if_pos h4] at h0 ⊢;obtain ⟨x,hx,E2,e2⟩:=iB (n:=4) (by decide) h0;obtain ⟨y,hy,E1,e1⟩:=jC (n:=1) (by decide) (by decide) true E2.ok;obtain ⟨c,rfl⟩:=lc hy;rw [e1,cL] at h4;have hc:c=4:=by rw [←UInt8.toNat_inj];exact h4
   subst hc;simp only at h;rw [e2,if_pos (show x.length=4 from hx)] at h;injection h with h
   subst h;have hx4:x.length=4:=hx;refine ⟨?_,ew (by omega),?_⟩
   ·have:=E1.trans E2
    have hp:bD (false,dR x 16)=[4] ++ x:=by simp [bD,(qC hx4).2]
    rw [hp];exact this
   ·simp [dZ,(qC hx4).1]
  ·cases h
theorem GE (n:Nat) (h:n<256):(UInt8.ofNat n).toNat=n:=by rw [UInt8.toNat_ofNat'];exact Nat.mod_eq_of_lt (by omega)
theorem tl (c:UInt8):UInt8.ofNat c.toNat=c:=by simp
theorem Gi (h0:s.2.2=0) (hl:s.1≤l.length) {v:ct} (ha:aS v.1) (hr:n0 v=true) {r:List UInt8} (e:l.drop s.1=bU v ++ r):oy l s=some v∧kG l s=ep s (bU v).length:=by
 rcases v with ⟨a,p,q,t⟩
 simp only [n0,Bool.and_eq_true,Bool.or_eq_true,beq_iff_eq] at hr;obtain ⟨⟨hs,hp⟩,hq⟩:=hr;have hq':1≤q∧q≤65535:=by simpa [qj] using hq
 have hb:bU (a,p,q,t)=bD a ++ ([UInt8.ofNat p.toNat] ++ ([UInt8.ofNat (q.toNat / 256),UInt8.ofNat q.toNat] ++ [if t then 1 else 0])):=rfl;rw [hb] at e ⊢;simp only [List.append_assoc] at e;have h1:=xo h0 hl ha hs e;have E1:=br.of h0 hl e;have e1:=E1.rest e;have h2:=jU (n:=1) E1.ok' E1.le' rfl (by simp) (by simp) true e1;have E2:=br.of E1.ok' E1.le' e1;have e2:=E2.rest e1;have h3:=jU (n:=2) E2.ok' E2.le' rfl (by simp) (by simp) true e2;have E3:=br.of E2.ok' E2.le' e2;have e3:=E3.rest e2;have h4:=jU (n:=1) E3.ok' E3.le' rfl (by simp) (by simp) true e3;have g1:ix [UInt8.ofNat p.toNat] true=p.toNat:=by rw [cL,GE _ (by omega)]
 have g2:ix [UInt8.ofNat (q.toNat / 256),UInt8.ofNat q.toNat] true=q.toNat:=by
  rw [kB,GE _ (by omega),UInt8.toNat_ofNat'];omega
 have hv1:mS l s=ep s (bD a).length:=by unfold mS;rw [h1]
 have hv2:qB l s=ep (ep s (bD a).length) 1:=by unfold qB;rw [hv1,h2];rfl
 have hv3:ox l s=ep (ep (ep s (bD a).length) 1) 2:=by unfold ox;rw [hv2];exact congrArg Prod.fst h3
 have h3':aJ l (ep (ep s (bD a).length) 1) 2 true=_:=h3;have h4':aJ l (ep (ep (ep s (bD a).length) 1) 2) 1 true=_:=h4;have hv4:kG l s=ep (ep (ep (ep s (bD a).length) 1) 2) 1:=by unfold kG;rw [hv3];exact congrArg Prod.fst h4
 constructor
 ·have ht:(aJ l (ox l s) 1 true).2=if t then 1 else 0:=by
   rw [hv3,h4',cL];cases t <;> rfl
  unfold oy;rw [h1];simp only;rw [ht,if_pos (by split <;> omega)];unfold yZ;rw [ht,hv1,hv2,h2,h3',g1,g2];have i1:((p.toNat:Nat):Int)=p:=by omega
  have i2:((q.toNat:Nat):Int)=q:=by omega
  rw [i1,i2];cases t <;> rfl
 ·rw [hv4,ca,ca,ca]
  simp
theorem Gj {v:ct} (h:oy l s=some v) (h0:(kG l s).2.2=0):br l s (bU v) (kG l s)∧aS v.1:=by
 obtain ⟨x4,hx4,E4,e4⟩:=jC (n:=1) (by decide) (by decide) true h0;obtain ⟨x3,hx3,E3,e3⟩:=jC (n:=2) (by decide) (by decide) true E4.ok;obtain ⟨x2,hx2,E2,e2⟩:=jC (n:=1) (by decide) (by decide) true E3.ok;unfold oy at h;split at h
 ·rename_i a ha
  split at h
  ·rename_i ht
   injection h with h
   obtain ⟨E1,hok,hsh⟩:=xp ha E2.ok;obtain ⟨c4,rfl⟩:=lc hx4;obtain ⟨c3,d3,rfl⟩:=yQ hx3;obtain ⟨c2,rfl⟩:=lc hx2;have t4:(aJ l (ox l s) 1 true).2=c4.toNat:=by rw [e4,cL]
   have t3:(aJ l (qB l s) 2 true).2=c3.toNat * 256 + d3.toNat:=by rw [e3,kB]
   have t2:(aJ l (mS l s) 1 true).2=c2.toNat:=by rw [e2,cL]
   have hv:v=(a,(c2.toNat:Int),((c3.toNat * 256 + d3.toNat:Nat):Int),c4.toNat == 1):=by
    rw [←h];unfold yZ;rw [t4,t3,t2]
   subst hv;refine ⟨?_,hok⟩;have hd:=d3.toNat_lt;have hb:bU (a,(c2.toNat:Int),((c3.toNat * 256 + d3.toNat:Nat):Int),c4.toNat == 1)=bD a ++ ([c2] ++ ([c3,d3] ++ [c4])):=by
    have k1:(c3.toNat * 256 + d3.toNat) / 256=c3.toNat:=by omega
    have k2:UInt8.ofNat (c3.toNat * 256 + d3.toNat)=d3:=by
     rw [←UInt8.toNat_inj,UInt8.toNat_ofNat'];omega
    have k3:(if (c4.toNat == 1)=true then (1:UInt8) else 0)=c4:=by
     rw [t4] at ht;rw [←UInt8.toNat_inj];split
     ·rename_i h1;simp at h1;rw [h1];rfl
     ·rename_i h1;simp at h1
      have:c4.toNat=0:=by omega
      rw [this];rfl
    simp only [bU,Int.toNat_natCast,k1,k2,k3,tl];rfl
   rw [hb];exact E1.trans (E2.trans (E3.trans E4))
  ·cases h
 ·cases h
end
end Go.Proofs.YtaafkokfdgfabaaGreat
namespace Go.Proofs.YtaafkokfdgfabaaGreat
open Go.RowKit
set_option linter.unusedVariables false
section
variable {l:List UInt8} {s:St}
theorem pC (h:bY l s):bY l (bg l s).1:=by
 unfold bg;split
 ·exact dt (bQ h _ _) _
 ·split
  ·exact dt (bQ h _ _) _
  ·exact bQ h _ _
theorem za (h:bY l s):bY l (kG l s):=bQ (bQ (bQ (pC h) _ _) _ _) _ _
theorem eH (h:bY l s):bY l (aY l s).1:=kT h
theorem CZ:∀ (vs:List ct) (s:St),s.2.2=0→s.1≤l.length→(∀ v ∈ vs,aS v.1∧n0 v=true)→∀ {r:List UInt8},l.drop s.1=vs.flatMap bU ++ r→eK l vs.length s=some (ep s (vs.flatMap bU).length,vs)
 | [],s,_,_,_,_,_=>rfl
 | v :: vs,s,h0,hl,hv,r,e=>by
  rw [List.flatMap_cons,List.append_assoc] at e;obtain ⟨h1,h2⟩:=Gi h0 hl (hv v (by simp)).1 (hv v (by simp)).2 e;have E1:=br.of h0 hl e;have ih:=CZ vs _ E1.ok' E1.le' (fun u hu=>hv u (by simp [hu])) (E1.rest e);rw [List.length_cons,eK,h1];simp only;rw [h2,ih];simp [ca]
theorem C0:∀ (k:Nat) (s s':St) (vs:List ct),bY l s→eK l k s=some (s',vs)→s'.2.2=0→vs.length=k∧br l s (vs.flatMap bU) s'∧∀ v ∈ vs,aS v.1
 | 0,s,s',vs,ok,h,h0=>by
  simp only [eK,Option.some.injEq,Prod.mk.injEq] at h;obtain ⟨rfl,rfl⟩:=h;exact ⟨rfl,br.nil h0 ok.1,by simp⟩
 | k + 1,s,s',vs,ok,h,h0=>by
  unfold eK at h;split at h
  ·cases h
  ·rename_i v hv
   rcases hr:eK l k (kG l s) with _ | ⟨s2,ws⟩
   ·rw [hr] at h;cases h
   ·rw [hr] at h
    simp only [Option.map_some,Option.some.injEq,Prod.mk.injEq] at h;obtain ⟨rfl,rfl⟩:=h;obtain ⟨h1,E2,h3⟩:=C0 k _ _ _ (za ok) hr h0;obtain ⟨E1,h4⟩:=Gj hv E2.ok;refine ⟨by simp [h1],?_,?_⟩
    ·rw [List.flatMap_cons];exact E1.trans E2
    ·intro u hu
     rcases List.mem_cons.1 hu with rfl | hu
     ·exact h4
     ·exact h3 u hu
theorem uL (h0:s.2.2=0) (hl:s.1≤l.length) {m:Nat} (hm:m≤1048577) {r:List UInt8} (e:l.drop s.1=aI m ++ r):aY l s=(ep s (aI m).length,m):=by
 unfold aY;rw [rU h0 hl (by omega) e,Nat.min_eq_left hm]
theorem uM (h0:(aY l s).1.2.2=0) (hl:s.1≤l.length) (hm:(aY l s).2≤1048576):br l s (aI (aY l s).2) (aY l s).1:=by
 have h:=qy (l:=l) (s:=s) h0 hl;have e:(aY l s).2=(fJ l s).2:=by
  unfold aY at hm ⊢;simp only at hm ⊢;omega
 rw [e];exact h.2
theorem xq:∀ (ns:List Nat) (s:St),s.2.2=0→s.1≤l.length→(∀ n ∈ ns,n≤1048577)→∀ {r:List UInt8},l.drop s.1=aN ns ++ r→cU l ns.length s=(ep s (aN ns).length,ns)
 | [],s,_,_,_,_,_=>rfl
 | n :: ns,s,h0,hl,hn,r,e=>by
  rw [aN,List.append_assoc] at e;have h1:=uL h0 hl (hn n (by simp)) e;have E1:=br.of h0 hl e;have ih:=xq ns _ E1.ok' E1.le' (fun u hu=>hn u (by simp [hu])) (E1.rest e);rw [List.length_cons,cU,h1];simp only;rw [ih];simp [ca,aN]
theorem zb:∀ (k:Nat) (s:St),bY l s→bY l (cU l k s).1
 | 0,s,h=>h
 | k + 1,s,h=>zb k _ (eH h)
theorem xr:∀ (k:Nat) (s:St),bY l s→(cU l k s).1.2.2=0→(∀ n ∈ (cU l k s).2,n≤1048576)→br l s (aN (cU l k s).2) (cU l k s).1
 | 0,s,ok,h0,_=>br.nil h0 ok.1
 | k + 1,s,ok,h0,hn=>by
  have E2:=xr k (aY l s).1 (eH ok) h0 (fun n h=>hn n (by simp [cU,h]));have E1:=uM (l:=l) (s:=s) E2.ok ok.1 (hn _ (by simp [cU]));exact E1.trans E2
end
structure gM (f:bc):Prop where
 idle:n8 f.idle=true
 vips:lI f.vips=true
 size:2≤f.size∧f.size≤65537
 prime:ka f.size.toNat=true
 room:1≤f.room∧f.room≤4096
 rise:1≤f.rise∧f.rise≤100
 fall:1≤f.fall∧f.fall≤100
 four6:f.four.1=false
 fours:dZ f.four=true
 six6:f.six.1=true
 most:1000≤f.most∧f.most≤1048576
 keep:1≤f.keep∧f.keep≤100
 batch:1≤f.batch∧f.batch≤1000
theorem fQ {f:bc}:bH f=true↔gM f:=by
 unfold bH;simp only [Bool.and_eq_true,n9,Bool.not_eq_true'];constructor
 ·rintro ⟨h1,h2,h3,h4,h5,h6,h7,h8,h9,h10,h11,h12,h13⟩
  exact ⟨h1,h2,h3,h4,h5,h6,h7,h8,h9,h10,h11,h12,h13⟩
 ·rintro ⟨h1,h2,h3,h4,h5,h6,h7,h8,h9,h10,h11,h12,h13⟩
  exact ⟨h1,h2,h3,h4,h5,h6,h7,h8,h9,h10,h11,h12,h13⟩
theorem kH {vs:List ct} (h:lI vs=true):vs.length≤64∧∀ v ∈ vs,n0 v=true:=by
 rw [mp] at h;refine ⟨h.1,fun v hv=>?_⟩;obtain ⟨i,hi,rfl⟩:=List.getElem_of_mem hv;have:=h.2 i hi;unfold mM at this;rw [List.getElem?_eq_getElem hi] at this;simp only [Bool.and_eq_true] at this;exact this.1
section
variable {l:List UInt8}
theorem ry {f:bc} (hs:ak f) (hr:gM f):ki f.vips (dy f) f.mac f.four.2 f.six.2 (dP f)=f:=by
 obtain ⟨vips,size,room,idle,rise,fall,mac,⟨four1,four2⟩,⟨six1,six2⟩,most,keep,batch⟩:=f;have hi:=hs.idle;have h4:=hr.four6;have h6:=hr.six6;have hid:=jn hr.idle;have:=hr.size;have:=hr.room;have:=hr.rise;have:=hr.fall;have:=hr.most;have:=hr.keep;have:=hr.batch;simp only at *;subst h4 h6;match idle,hi with
 | [a,b,c,d,e,g],_ =>
  obtain ⟨hz,hall⟩:=hid;simp only [List.head?_cons,Option.some.injEq] at hz;subst hz;have hb:=hall b (by simp);have hc:=hall c (by simp);have hd:=hall d (by simp);have he:=hall e (by simp);have hg:=hall g (by simp);simp only [ki,dy,dP,List.drop_succ_cons,List.drop_zero,List.map_cons,List.map_nil,List.cons_append,List.nil_append,List.getD_cons_zero,List.getD_cons_succ,List.take_succ_cons,List.take_zero,bc.mk.injEq,List.cons.injEq,Int.ofNat_eq_natCast];refine ⟨trivial,by omega,by omega,⟨trivial,by omega,by omega,by omega,by omega,by omega,trivial⟩,by omega,by omega,trivial,trivial,trivial,by omega,by omega,by omega⟩
theorem tm {f:bc} (hs:ak f):(dy f).length=9:=by simp [dy,hs.idle]
theorem pD {f:bc} (hs:ak f) (hr:gM f):∀ n ∈ dy f,n≤1048577:=by
 intro n hn;have:=hr.size;have:=hr.room;have:=hr.rise;have:=hr.fall;simp only [dy,List.mem_cons,List.mem_append,List.mem_map,List.mem_nil_iff,or_false] at hn;rcases hn with rfl | rfl | ⟨z,hz,rfl⟩ | rfl | rfl
 ·omega
 ·omega
 ·have:=(jn hr.idle).2 z (List.mem_of_mem_drop hz);omega
 ·omega
 ·omega
theorem pE {f:bc} (hr:gM f):∀ n ∈ dP f,n≤1048577:=by
 intro n hn;have:=hr.most;have:=hr.keep;have:=hr.batch;simp only [dP,List.mem_cons,List.mem_nil_iff,or_false] at hn;rcases hn with rfl | rfl | rfl <;> omega
end
end Go.Proofs.YtaafkokfdgfabaaGreat
namespace Go.Proofs.YtaafkokfdgfabaaGreat
open Go.RowKit
set_option linter.unusedVariables false
set_option linter.unusedSimpArgs false
theorem Bp:Tryz.prog.eqGuardType Tryz.prog.depth 108=false:=by kernel_rfl
end Go.Proofs.YtaafkokfdgfabaaGreat
namespace Go.Proofs.YtaafkokfdgfabaaGreat
open Go.RowKit
set_option linter.unusedVariables false
set_option linter.unusedSimpArgs false
theorem qW (A:Option Addr) (n c:Nat) (f:bc) (w:World) :
  Calls Tryz.prog 27 #[jx A n c f] w fun e w'=>e=.returned (.bool (decide (n≤100)))∧Below w.heap.size w w':=by
 unfold jx;obtain ⟨W,hW⟩:∃ W,W=w.alloc (.cells (aj A n c f).toArray 29):=⟨_,rfl⟩
 have hX:ah W w.heap.size 29 (aj A n c f).toArray:=by rw [hW];exact ah.new w _ _ _ rfl
 have hB:Below w.heap.size w W:=by rw [hW];exact (Below.refl _ _).alloc (Nat.le_refl _) _
 have a0:=lH hX;have HW:=Lib.hid hW;have HB:=Lib.hid hB;clear hW hX hB;by_cases hn:n≤100
 ·have hnI:(n:Int)≤100:=by omega
  go_enter Tryz.func27,Tryz.ntmps27
  go_upto_region 1 with fail
  rw [←HW.out]
  go_wp2
  go_ret
  exact ⟨by simp [hn],HB.out⟩
 ·have hnI:¬ (n:Int)≤100:=by omega
  go_enter Tryz.func27,Tryz.ntmps27
  go_upto_region 1 with fail
  rw [←HW.out]
  go_wp2
  go_ret
  exact ⟨by simp [hn],HB.out⟩
end Go.Proofs.YtaafkokfdgfabaaGreat
