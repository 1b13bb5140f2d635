import Derived.Test.YtaafkokfdgfabaaGreatP1
import Derived.Test.YtaafkokfdgfabaaGreatP3
import Derived.Test.YtaafkokfdgfabaaGreatP5
import Derived.Test.YtaafkokfdgfabaaGreatP8
import Derived.Test.YtaafkokfdgfabaaGreatP9
import Derived.Deep.LoopGhost
import Derived.Deep.Cut
import Derived.Deep.CutRange
import Derived.Deep.MidRow
import Derived.Stop.BytesEq
import Derived.ChangeKeysEq
import Derived.Laws.ResultCell
import Derived.Laws.CopyOwn
import Derived.Deep.RegionHeld3
set_option maxHeartbeats 8000000
set_option maxRecDepth 100000
set_option linter.unusedVariables false
set_option linter.unusedSimpArgs false
open Array renaming toList_extract→I1
open Bool renaming false_eq_true→IQ,not_true→IZ
open List renaming getElem?_eq_getElem→Iy,getElem?_toArray→Iz,getElem?_cons_succ→IA,getElem?_append_right→IE,take_of_length_le→IG,getElem?_append_left→IH,length_append→IJ,getElem?_eq_some_iff→IK,take_add_one→IN,findIdx?_eq_some_iff_getElem→IR,getElem?_map→IS,getElem_mem→IU,getElem?_drop→IW,extract_eq_take_drop→IY,length_take→I0,all_eq_false→I4,all_append→I8,drop_zero→I9
open Nat renaming le_refl→IB,le_trans→ID,zero_add→I2,lt_or_ge→Jd
open UInt8 renaming ofNat→I6,toNat_inj→I7
namespace Go.Proofs.YtaafkokfdgfabaaGreat
open Go.RowKit
open Lib (hid)
open Op renaming equalIn→Ja
open Region renaming wanted→Jc
open Result renaming andThen_ok→IF
open Sem renaming run_bind→IL,run_pure→I3
open Tryz renaming prog→qq,underlying27→IC,underlying43→IP,underlying4→IT,underlying3→IV,underlying108→IX,underlying5→I5
open Value renaming slice→II,ownBlock→Jb,int→Je
open World renaming block_lt_of_cell?→IM
abbrev cO:Type:=Bool×List UInt8
def ai(a:cO):List Value:=.bool a.1::ab a.2
def iP(a:cO):Value:=.agg (ai a).toArray
def aS(a:cO):Prop:=a.2.length=16
theorem ar{a:cO}(h:aS a):(ai a).length=17:=by
 have:a.2.length=16:=h;simp[ai,ap,this]
def gD(b:List UInt8):Bool:=(b.drop 4).all (·== 0)
def de(a:cO):Bool:=a.1||gD a.2
theorem ag{w:World}{g:Nat}{t:TypeId}{cs:List Value}(h:aj w g t cs.toArray):w.rangeAt g 0 cs:=fun j v hj=>by
 rw[h.cell,I2,Iz];exact hj
theorem gh:(qq.info? 27).map (·.size)=some 17:=by kernel_rfl
section
variable {P:Program}
theorem aa{ops:Array Oper}{rest:List Oper}{op:Oper}{a:Act}{w:World}{Q:Exit→Act→World→Prop}(hw:Jc op (yielded ops a.tmps)=true)(ty:TypeId)(x:Operand)(ho:op.op=.load ty x)
  (b o:Nat) (hx:a.eval x=.pointer (some ⟨b,o,none⟩)) (cs:List Value) (d:TypeDesc) (hc:w.rangeAt b o cs)
  (hu:P.underlying ty=some d) (hd:d.isRow=true) (hi:(P.info? ty).map (·.size)=some cs.length)
  (h:wpList P ops Q rest (a.put op.dst (.agg cs.toArray)) w):wpList P ops Q (op::rest) a w :=
 wpList_step fun K hK=>by
  rw[if_pos hw];exact wp_load_mid ty x ho b o hx cs d hc hu hd hi (hK _ _ h)
end
theorem eo{a:cO}(ha:aS a):(qq.info? 27).map (·.size)=some (ai a).length:=by rw[ar ha];exact gh
theorem kG{w:World}{g:Nat}{t:TypeId}{a:cO}(h:aj w g t (ai a).toArray):w.cell? ⟨g,0,none⟩=some (.bool a.1):=h.cell 0
theorem qG{w:World}{g:Nat}{t:TypeId}{a:cO}(h:aj w g t (ai a).toArray)(k:Nat)(B:Nat)(hB:g<B):BS w B (some ⟨g,1+k,none⟩) (a.2.drop k):=fun hp=>by
 refine⟨_,rfl,hB,fun j c hj=>?_⟩;rw[IW] at hj;have e:((⟨g,1+k,none⟩:Addr).add j)=⟨g,1+k+j,none⟩:=by unfold Addr.add;split<;>simp_all
 rw[e,h.cell];simp only[ai,Iz];rw[show 1+k+j=(k+j)+1 by omega,IA,ab,IS,hj];rfl
theorem CT{w:World}{g:Nat}{t:TypeId}{a:cO}(h:aj w g t (ai a).toArray)(B:Nat)(hB:g<B):BS w B (some ⟨g,1,none⟩) a.2:=by
 have:=qG h 0 B hB;simpa using this
theorem s9{w:World}{g:Nat}{t:TypeId}{a:cO}(h:aj w g t (ai a).toArray){k:Nat}(hk:k<a.2.length):w.cell? ⟨g,1+k,none⟩=some (.int .u8 ((a.2[k]).toNat:Int)):=by
 rw[h.cell];simp only[ai,Iz];rw[show 1+k=k+1 by omega,IA,ab,IS,Iy hk];rfl
theorem xU(a:cO)(ha:aS a):(ai a).toArray.extract 1 17=(ab a.2).toArray:=by
 have h:a.2.length=16:=ha;apply Array.ext'
 simp only[I1,ai,IY,List.drop_succ_cons,I9];exact IG (by simp[ab,h])
theorem cS:qq.underlying 27=some (.struct (qq.fieldsOf 27)):=by kernel_rfl
theorem AP:qq.stoodInHeld 27=false:=by kernel_rfl
theorem xV(w:World):(sizeOf 25).run qq w=.ok 16 w:=by
 obtain⟨i,hi⟩:=info_of_underlying Tryz.underlying25;rw[run_sizeOf w hi,show qq.cellsOf 25=16 by kernel_rfl]
theorem oR(w:World):(sizeOf 5).run qq w=.ok 1 w:=by
 obtain⟨i,hi⟩:=info_of_underlying I5;rw[run_sizeOf w hi,show qq.cellsOf 5=1 by kernel_rfl]
theorem EY(x:cO)(w:World):(part 4 (ai x).toArray 0).run qq w=.ok (.bool x.1) w:=by
 simp[part,isAgg,run_underlying IT,ai]
theorem zI(x:cO)(hx:aS x)(w:World):(part 25 (ai x).toArray 1).run qq w=.ok (.agg (x.2.map Extern.Stop.cell).toArray) w:=by
 have h:ab x.2=x.2.map Extern.Stop.cell:=rfl;simp only[part,isAgg,IL,run_underlying Tryz.underlying25,IF,I3,xV,if_true,Nat.reduceAdd,xU x hx,h]
theorem gT(d:Nat)(a b:cO)(ha:aS a)(hb:aS b)(w:World) :
  (Ja (d+3) 27 (.agg (ai a).toArray) (.agg (ai b).toArray)).run qq w=.ok (a==b) w:=by
 have hab:(a==b)=(a.1==b.1&&a.2==b.2):=rfl;rw[run_equalIn_struct w (d+2) _ _ _ cS AP,hab];simp only[Program.fieldsOf,IC,Op.eqFields];have h0:=run_equalIn_bool w (d+1) 4 a.1 b.1 IT;have h1:=run_equalIn_bytes w d 25 5 16 Tryz.underlying25 I5 oR a.2 b.2 ha hb;rw[if_pos (by decide)];simp only[IL,EY,IF,h0];cases hc:(a.1==b.1)
 ·simp
 ·simp only[IZ,IQ,if_false]
  rw[if_pos (by decide)];simp only[IL,zI a ha,zI b hb,IF,h1];cases hd:(a.2==b.2)<;>simp
theorem eQ:qq.eqGuardType qq.depth 27=false:=by kernel_rfl
section
variable {P:Program}
theorem eD{ops:Array Oper}{rest:List Oper}{op:Oper}{a:Act}{w:World}{Q:Exit→Act→World→Prop}(hw:Jc op (yielded ops a.tmps)=true)(ty tz:TypeId)(x y:Operand)(ho:op.op=.binOp .eql ty x y tz)
  (xs ys:Array Value) (hx:a.eval x=.agg xs) (hy:a.eval y=.agg ys) (hm:P.eqGuardType P.depth ty=false) (r:Bool) (he:(Ja 10000 ty (.agg xs) (.agg ys)).run P w=.ok r w)
  (h:wpList P ops Q rest (a.put op.dst (.bool r)) w):wpList P ops Q (op::rest) a w :=
 wpList_step fun K hK=>by
  rw[if_pos hw];unfold Oper.wp execOp;simp only[ho,hx,hy,IL,run_eqGuard_agg w _ _ _ _ _ _ hm,IF,run_eql_struct,he,I3];exact hK _ _ h
end
theorem fI{P:Program}{fn:Func}{p u:Tmp}{ty:TypeId}(h:fn.results=#[.cell p ty,.tmp u])(tmps:Array Value)(w:World)(g:Nat)(t:TypeId)(cs:Array Value)(fr:Nat×Nat)(d:TypeDesc)
  (hp:tmps.getD p undef=.pointer (some ⟨g,0,none⟩)) (hg:w.heap[g]?=some (.cells cs t fr))
  (hu:P.underlying ty=some d) (hd:(match d with | .struct _ | .array _ _=>true|_=>false)=true) (hi:(P.info? ty).map (·.size)=some cs.size) :
  (results fn tmps).run P w=.ok (.tuple #[.agg cs,tmps.getD u undef]) w:=by
 rw[results_cell_tmp h,hp];simp[asAddr,run_loadVar_row w g t ty cs fr d hg hu hd hi]
def dy:cO:=(false,List.replicate 16 0)
theorem mF:aS dy:=rfl
theorem G0{l:List UInt8}(h:l.length=16):∃y0 y1 y2 y3 y4 y5 y6 y7 y8 y9 ya yb yc yd ye yf,l=[y0,y1,y2,y3,y4,y5,y6,y7,y8,y9,ya,yb,yc,yd,ye,yf]:=by
 match l,h with
 |[y0,y1,y2,y3,y4,y5,y6,y7,y8,y9,ya,yb,yc,yd,ye,yf],_=>exact⟨_,_,_,_,_,_,_,_,_,_,_,_,_,_,_,_,rfl⟩
theorem jE(w W1 W2:World)(t:TypeId)(z cs:List Value)(hl:cs.length=z.length)(h1:W1=w.alloc (.cells z.toArray t))(h2:W2=W1.setCells w.heap.size 0 cs) :
  W1.there w.heap.size 0 cs.toArray.size∧aj W2 w.heap.size t cs.toArray∧Below w.heap.size w W2:=by
 subst h1 h2;have hb:aj (w.alloc (.cells z.toArray t)) w.heap.size t z.toArray:=aj.new w _ _ _ rfl;refine⟨hb.there (by simp[hl]),?_,bq (IB _) _ _ ((Below.refl _ _).alloc (IB _) _)⟩;have:=aj.setCells cs 0 hb;rw[bn (vs:=cs) (cs:=z) hl] at this;exact this
theorem iD:(ai dy).toArray=(#[.bool false,.int .u8 0,.int .u8 0,.int .u8 0,.int .u8 0,.int .u8 0,.int .u8 0,.int .u8 0,.int .u8 0,.int .u8 0,.int .u8 0,.int .u8 0,.int .u8 0,.int .u8 0,.int .u8 0,.int .u8 0,.int .u8 0]:Array Value):=rfl
theorem li(a:cO):(ai a).toArray.all (·.oneCell')=true:=all_oneCell_toArray (by
 intro u hu;have:=oQ a.2 a.1 [] (by simp) u (by rw[List.append_nil];exact hu);exact this)
theorem oS(w:World)(g:Nat)(cs:Array Value):w.grownBy (w.setRow g cs) (some g) :=
 ⟨rfl,rfl,rfl,by simp[World.setRow],fun k hk hne=>setRow_other w g k cs (fun e=>hne (by rw[e]))⟩
theorem aY(w:World)(g o:Nat):∀(vs:List Value) {w':World} (o:Nat),w.grownBy w' (some g)→w.grownBy (w'.setCells g o vs) (some g)
 |[],_,_,h=>h
 |v::r,_,o,h=>aY w g o r (o+1) (aq h (a8 _ ⟨g,o,none⟩ v))
def Im(F:Nat):Prop:=F=173∨F=185∨F=196
theorem xY{F:Nat}(hF:Im F)(c:UInt8)(w:World) :
  Calls qq F #[.int .u8 (c.toNat:Int)] w fun e w'=>e=.returned (.bool (c != 0))∧w=w':=by
 have h:((c.toNat:Int) != 0)=(c != 0):=by
  by_cases h:c=0
  ·subst h;rfl
  ·have h2:c.toNat≠0:=fun e=>h (I7.1 (by simpa using e))
   rw[show (c != 0)=true by simpa using h];simp;omega
 rcases hF with rfl|rfl|rfl
 ·go_enter Tryz.func173,Tryz.ntmps173
  go_wp2
  go_ret
  exact⟨by rw[←h];rfl,rfl⟩
 ·go_enter Tryz.func185,Tryz.ntmps185
  go_wp2
  go_ret
  exact⟨by rw[←h];rfl,rfl⟩
 ·go_enter Tryz.func196,Tryz.ntmps196
  go_wp2
  go_ret
  exact⟨by rw[←h];rfl,rfl⟩
theorem uc{F:Nat}(hF:Im F)(A:Option Addr)(n c:Nat)(l:List UInt8)(w:World)(B:Nat)(hn:n=l.length)(hb:BS w B A l)(hl:n≤1000000) :
  Calls qq 191 #[.slice A n c,.func (.func F) #[] #[]] w fun e w'=>(∃z:Int,e=.returned (.int .i64 z)∧(decide (0≤z)=!(l.all (·== 0))))∧w=w':=by
 subst hn;have HB:=hid hb;clear hb;have HF:=hid (fun c w=>xY hF c w);rcases hF with rfl|rfl|rfl
 all_goals
  go_enter Tryz.func191,Tryz.ntmps191
  go_wp2
  go_loopw [8] (fun i wr=>∃k:Nat,k≤l.length∧i=.int .i64 (k:Int)∧w=wr∧Hid ((l.take k).all (·== 0)=true)) (fun i _=>l.length-(intOf i).toNat)
  case atStart=>exact⟨0,by omega,rfl,rfl,rfl⟩
  case round =>
   obtain⟨k,hk,rfl,rfl,hat⟩:=hrel;by_cases hlt:k<l.length
   ·have hltI:(k:Int)<(l.length:Int):=by omega
    have hk0:(0:Int)≤(k:Int):=by omega
    obtain⟨ad,rfl,hadb,hcell⟩:=HB.out.at_ hlt;have Hsplit:Hid (l.take (k+1)=l.take k++[l[k]]):=by
     show _=_
     rw[IN,Iy hlt];rfl
    obtain⟨x,hx⟩:∃x,x=l[k]:=⟨_,rfl⟩;rw[←hx] at hcell Hsplit;have Hx:=hid hx;clear hx
    go_wp2_with fail
    refine (HF.out x _).mono ?_;rintro e w1 ⟨rfl,rfl⟩;by_cases hz:x=0
    ·have hzb:(x != 0)=false:=by simp[hz]
     have Hat2:Hid ((l.take (k+1)).all (·== 0)=true):=by
      show _=_
      rw[Hsplit.out,I8,hat.out];simp[hz]
     rw[hzb];clear hz hzb Hsplit
     go_wp2
     go_roundw
     case rel=>exact⟨k+1,by omega,by go_num,trivial,Hat2⟩
     case measure=>simp[intOf];omega
    ·have hzb:(x != 0)=true:=by simp[hz]
     have Hno:Hid (l.all (·== 0)=false):=by
      show _=_
      rw[I4];exact⟨x,by rw[Hx.out];exact IU hlt,by simp[hz]⟩
     rw[hzb];clear hz hzb Hsplit
     go_wp2
     go_ret
     exact⟨⟨(k:Int),rfl,by rw[Hno.out];simp⟩,rfl⟩
   ·have hltI:¬(k:Int)<(l.length:Int):=by omega
    have Hall:Hid (l.all (·== 0)=true):=by
     have h:=hat.out;rw[IG (by omega)] at h;exact h
    go_wp2
    go_ret
    exact⟨⟨-1,rfl,by rw[Hall.out];rfl⟩,rfl⟩
theorem iQ{F:Nat}(hF:Im F)(A:Option Addr)(n c:Nat)(l:List UInt8)(w:World)(B:Nat)(hn:n=l.length)(hb:BS w B A l)(hl:n≤1000000) :
  Calls qq 172 #[.slice A n c,.func (.func F) #[] #[]] w fun e w'=>e=.returned (.bool (!(l.all (·== 0))))∧w=w':=by
 have H:=hid (uc hF A n c l w B hn hb hl);clear hn hb;rcases hF with rfl|rfl|rfl
 all_goals
  go_enter Tryz.func172,Tryz.ntmps172
  go_wp2_with fail
  refine H.out.mono ?_;rintro e w1 ⟨⟨z,rfl,hz⟩,rfl⟩;have Hz:=hid hz;clear hz
  go_wp2
  go_ret
  exact⟨by rw[←Hz.out];rfl,rfl⟩
theorem lr(w:World)(a:cO)(t:TypeId):aj (w.alloc (.cells (ai a).toArray t)) w.heap.size t (ai a).toArray:=aj.new w _ _ _ rfl
theorem ta(a:cO)(ha:aS a)(w:World) :
  Calls qq 129 #[iP a] w fun e w'=>e=.returned (.bool (de a))∧Below w.heap.size w w':=by
 have hlen:a.2.length=16:=ha;unfold iP;obtain⟨W,hW⟩:∃W,W=w.alloc (.cells (ai a).toArray 27):=⟨_,rfl⟩;have hX:aj W w.heap.size 27 (ai a).toArray:=by rw[hW];exact lr _ _ _
 have hB:Below w.heap.size w W:=by rw[hW];exact (Below.refl _ _).alloc (IB _) _
 have c0:W.cell? ⟨w.heap.size,0,none⟩=some (.bool a.1):=kG hX;have hS:BS W W.heap.size (some ⟨w.heap.size,5,none⟩) (a.2.drop 4):=qG hX 4 _ hX.lt;have hdl:12=(a.2.drop 4).length:=by simp;omega
 have HW:=hid hW;have HX:=hid hX;have HB:=hid hB;have HS:=hid hS;have Hdl:=hid hdl;clear hW hX hB hS hdl hlen;rcases h6:a.1 with _|_
 ·rw[h6] at c0
  have Hr:Hid (de a=gD a.2):=by show _=_;unfold de;rw[h6];rfl
  clear h6;go_enter Tryz.func129,Tryz.ntmps129
  go_upto_region 1 with fail
  rw[←HW.out]
  go_wp2_with fail
  refine (iQ (Or.inl rfl) _ _ _ (a.2.drop 4) _ _ Hdl.out HS.out (by omega)).mono ?_;rintro e w1 ⟨rfl,rfl⟩
  go_wp2
  go_ret
  exact⟨by rw[Hr.out];unfold gD;simp,HB.out⟩
 ·rw[h6] at c0
  have Hr:Hid (de a=true):=by show _=_;unfold de;rw[h6];rfl
  clear h6;go_enter Tryz.func129,Tryz.ntmps129
  go_upto_region 1 with fail
  rw[←HW.out]
  go_wp2
  go_ret
  exact⟨by rw[Hr.out];rfl,HB.out⟩
theorem lQ(a:cO)(ha:aS a)(w:World) :
  Calls qq 177 #[iP a] w fun e w'=>e=.returned (.bool (gD a.2&&!a.1))∧Below w.heap.size w w':=by
 have hlen:a.2.length=16:=ha;unfold iP;obtain⟨W,hW⟩:∃W,W=w.alloc (.cells (ai a).toArray 27):=⟨_,rfl⟩;have hX:aj W w.heap.size 27 (ai a).toArray:=by rw[hW];exact lr _ _ _
 have hB:Below w.heap.size w W:=by rw[hW];exact (Below.refl _ _).alloc (IB _) _
 have c0:W.cell? ⟨w.heap.size,0,none⟩=some (.bool a.1):=kG hX;have HW:=hid hW;have HX:=hid hX;have HB:=hid hB;have Hlen:=hid hlen;clear hW hX hB;go_enter Tryz.func177,Tryz.ntmps177
 go_upto_region 1 with fail
 rw[←HW.out]
 go_wp2
 go_loopw [3] (fun i wr=>∃k:Nat,4≤k∧k≤16∧i=.int .i64 (k:Int)∧W=wr∧Hid (((a.2.drop 4).take (k-4)).all (·== 0)=true)) (fun i _=>16-(intOf i).toNat)
 case atStart=>exact⟨4,by omega,by omega,rfl,rfl,rfl⟩
 case round =>
  obtain⟨k,hk4,hk,rfl,rfl,hat⟩:=hrel;by_cases hlt:k<16
  ·have hltI:(k:Int)<16:=by omega
   have hk0:(0:Int)≤(k:Int):=by omega
   have hkl:k<a.2.length:=by omega
   obtain⟨x,hx⟩:∃x,x=a.2[k]:=⟨_,rfl⟩;have hcell:W.cell? ⟨w.heap.size,1+k,none⟩=some (.int .u8 (x.toNat:Int)):=by
    have h:=(qG HX.out 0 W.heap.size HX.out.lt (by simp;omega));obtain⟨ad,e1,_,h1⟩:=h;injection e1 with e1
    subst e1;have h2:=h1 k x (by rw[hx];simp);have e:((⟨w.heap.size,1+0,none⟩:Addr).add k)=⟨w.heap.size,1+k,none⟩:=by unfold Addr.add;split<;>simp_all
    rw[e] at h2;exact h2
   have Hsplit:Hid ((a.2.drop 4).take (k+1-4)=(a.2.drop 4).take (k-4)++[x]):=by
    show _=_
    rw[show k+1-4=(k-4)+1 by omega,IN,IW,show 4+(k-4)=k by omega,Iy hkl,←hx];rfl
   have Hmem:Hid (x∈a.2.drop 4):=by
    show _∈_
    rw[hx,List.mem_iff_getElem?];exact⟨k-4,by rw[IW,show 4+(k-4)=k by omega,Iy hkl]⟩
   clear hx hlen;by_cases hz:x=0
   ·subst hz
    have Hat2:Hid (((a.2.drop 4).take (k+1-4)).all (·== 0)=true):=by
     show _=_
     rw[Hsplit.out,I8,hat.out];rfl
    clear Hsplit
    go_wp2
    go_roundw
    case rel=>exact⟨k+1,by omega,by omega,by go_num,trivial,Hat2⟩
    case measure=>simp[intOf];omega
   ·have hxn:¬(x.toNat:Int)=0:=fun e=>hz (I7.1 (by simp;omega))
    have hxb:((x.toNat:Int) != 0)=true:=by simp;omega
    have Hno:Hid (gD a.2=false):=by
     show _=_
     unfold gD;rw[I4];exact⟨x,Hmem.out,by simp[hz]⟩
    clear Hsplit hz
    go_wp2
    go_ret
    exact⟨by rw[Hno.out];rfl,HB.out⟩
  ·have hltI:¬(k:Int)<16:=by omega
   have Hall:Hid (gD a.2=true):=by
    have h:=hat.out;rw[IG (by simp;omega)] at h;exact h
   go_wp2
   go_ret
   exact⟨by rw[Hall.out];simp,HB.out⟩
theorem oT(a:cO)(ha:aS a)(w:World) :
  Calls qq 137 #[iP a] w fun e w'=>e=.returned (.bool (de a))∧Below w.heap.size w w':=by
 unfold iP;obtain⟨W,hW⟩:∃W,W=w.alloc (.cells (ai a).toArray 27):=⟨_,rfl⟩;have hX:aj W w.heap.size 27 (ai a).toArray:=by rw[hW];exact lr _ _ _
 have hB:Below w.heap.size w W:=by rw[hW];exact (Below.refl _ _).alloc (IB _) _
 have c0:W.cell? ⟨w.heap.size,0,none⟩=some (.bool a.1):=kG hX;have HR:=hid (ag hX);have Hsz:=hid (eo ha);have Hs:=hid (lQ a ha W);unfold iP at Hs;have HW:=hid hW;have HB:=hid hB;clear hW hX hB;rcases h6:a.1 with _|_
 ·rw[h6] at c0 Hs
  have Hr:Hid (de a=gD a.2):=by show _=_;unfold de;rw[h6];rfl
  clear h6;go_enter Tryz.func137,Tryz.ntmps137
  go_upto_region 1 with fail
  rw[←HW.out]
  go_wp2_with
   (first
    |(refine aa (by rfl) 27 (.tmp 1) rfl w.heap.size 0 rfl (ai a) _ HR.out IC rfl Hsz.out ?_)
    |(go_at_call 177
      refine Hs.out.mono ?_;rintro e w1 ⟨rfl,hb1⟩))
  go_wp2
  go_ret
  exact⟨by rw[Hr.out];simp,HB.out.trans (hb1.mono HB.out.size)⟩
 ·rw[h6] at c0
  have Hr:Hid (de a=true):=by show _=_;unfold de;rw[h6];rfl
  clear h6 Hs;go_enter Tryz.func137,Tryz.ntmps137
  go_upto_region 1 with fail
  rw[←HW.out]
  go_wp2
  go_ret
  exact⟨by rw[Hr.out];rfl,HB.out⟩
def mx(n lo hi:Int):Bool:=decide (lo≤n)&&decide (n≤hi)
theorem gE(n lo hi:Int)(w:World) :
  Calls qq 127 #[.int .i64 n,.int .i64 lo,.int .i64 hi] w fun e w'=>e=.returned (.bool (mx n lo hi))∧w=w':=by
 unfold mx;by_cases h1:lo≤n
 ·by_cases h2:n≤hi
  ·go_enter Tryz.func127,Tryz.ntmps127
   go_wp2
   go_ret
   exact⟨by simp[h1,h2],rfl⟩
  ·go_enter Tryz.func127,Tryz.ntmps127
   go_wp2
   go_ret
   exact⟨by simp[h2],rfl⟩
 ·go_enter Tryz.func127,Tryz.ntmps127
  go_wp2
  go_ret
  exact⟨by simp;omega,rfl⟩
theorem go(n lo hi:Int)(w:World) :
  Calls qq 138 #[.int .i64 n,.int .i64 lo,.int .i64 hi] w fun e w'=>e=.returned (.bool (mx n lo hi))∧w=w':=by
 unfold mx;by_cases h1:lo≤n
 ·by_cases h2:n≤hi
  ·go_enter Tryz.func138,Tryz.ntmps138
   go_wp2
   go_ret
   exact⟨by simp[h1,h2],rfl⟩
  ·go_enter Tryz.func138,Tryz.ntmps138
   go_wp2
   go_ret
   exact⟨by simp[h2],rfl⟩
 ·go_enter Tryz.func138,Tryz.ntmps138
  go_wp2
  go_ret
  exact⟨by simp;omega,rfl⟩
def aW(a:cO):List UInt8:=if a.1 then 6::a.2 else 4::a.2.take 4
theorem vv(a:cO)(ha:aS a)(w:World) :
  Calls qq 61 #[iP a] w fun e w'=>∃A c,e=.returned (.slice A (aW a).length c)∧w'.ownsRow w.heap.size 5 1 (.slice A (aW a).length c) (aW a).length (ab (aW a))∧Below w.heap.size w w':=by
 have hlen:a.2.length=16:=ha;unfold iP;obtain⟨i0,hi0,hz0,hz1,hz2⟩:=info_parts bB;obtain⟨W,hW⟩:∃W,W=w.alloc (.cells (ai a).toArray 27):=⟨_,rfl⟩;have hX:aj W w.heap.size 27 (ai a).toArray:=by rw[hW];exact lr _ _ _
 have hB:Below w.heap.size w W:=by rw[hW];exact (Below.refl _ _).alloc (IB _) _
 have c0:W.cell? ⟨w.heap.size,0,none⟩=some (.bool a.1):=kG hX;have HS:=hid (CT hX W.heap.size hX.lt);have HW:=hid hW;have HB:=hid hB;have Hlen:=hid hlen;have Hsz:=hid hB.size;clear hW hX hB hlen;rcases h6:a.1 with _|_
 ·rw[h6] at c0
  have Hr:Hid (aW a=[4]++a.2.take 4):=by show _=_;unfold aW;rw[h6];rfl
  have Hl4:Hid (4=(a.2.take 4).length):=by show _=_;rw[I0,Hlen.out];rfl
  clear h6;go_enter Tryz.func61,Tryz.ntmps61
  go_upto_region 1 with fail
  rw[←HW.out]
  go_wp2_with (at_builtin;refine ae _ rfl _ _ 43 rfl w.heap.size 5 i0 (.int .u8 0) 1 IP hi0 hz0 hz1 hz2 rfl (.slice (some ⟨W.heap.size,0,none⟩) 1 1) [4] rfl (oM W _ _ 4 4 rfl Hsz.out) _ _ _ _ (a.2.take 4) rfl Hl4.out ((HS.out.take 4).alloc (IB _) _) (by rw[←Hl4.out];simp[maxLen]) (by rw[←Hl4.out];simp) (ID Hsz.out (Below.size ((Below.refl W.heap.size W).alloc (IB _) _))) ?_;intro A5 c5 w5 hown5 hg5 _)
  have hb5:Below w.heap.size w w5:=(HB.out.alloc Hsz.out _).grown hg5 (ID Hsz.out (Below.size ((Below.refl W.heap.size W).alloc (IB _) _))) (by intro k hk;simp[Jb] at hk;have:=Hsz.out;omega);have Hown5:=hid hown5;clear hown5 hg5;go_ret
  refine⟨A5,c5,?_,?_,hb5⟩
  ·rw[Hr.out];simp
  ·rw[Hr.out];exact Hown5.out
 ·rw[h6] at c0
  have Hr:Hid (aW a=[6]++a.2):=by show _=_;unfold aW;rw[h6];rfl
  have Hl4:Hid (16=a.2.length):=Hlen.out.symm;clear h6;go_enter Tryz.func61,Tryz.ntmps61
  go_upto_region 1 with fail
  rw[←HW.out]
  go_wp2_with (at_builtin;refine ae _ rfl _ _ 43 rfl w.heap.size 5 i0 (.int .u8 0) 1 IP hi0 hz0 hz1 hz2 rfl (.slice (some ⟨W.heap.size,0,none⟩) 1 1) [6] rfl (oM W _ _ 6 6 rfl Hsz.out) _ _ _ _ a.2 rfl Hl4.out (HS.out.alloc (IB _) _) (by rw[←Hl4.out];simp[maxLen]) (by rw[←Hl4.out];simp) (ID Hsz.out (Below.size ((Below.refl W.heap.size W).alloc (IB _) _))) ?_;intro A5 c5 w5 hown5 hg5 _)
  have hb5:Below w.heap.size w w5:=(HB.out.alloc Hsz.out _).grown hg5 (ID Hsz.out (Below.size ((Below.refl W.heap.size W).alloc (IB _) _))) (by intro k hk;simp[Jb] at hk;have:=Hsz.out;omega);have Hown5:=hid hown5;clear hown5 hg5;go_ret
  refine⟨A5,c5,?_,?_,hb5⟩
  ·rw[Hr.out];simp
  ·rw[Hr.out];exact Hown5.out
def ud(w wr:World)(g:Nat)(a:cO)(h:UInt8)(A:Option Addr)(c k:Nat):Prop :=
 aj wr g 27 (ai a).toArray∧wr.ownsRow w.heap.size 5 1 (.slice A (h::a.2.take k).length c) (h::a.2.take k).length (ab (h::a.2.take k))∧Below w.heap.size w wr
theorem rx(a:cO)(ha:aS a)(w:World) :
  Calls qq 81 #[iP a] w fun e w'=>∃A c,e=.returned (.slice A (aW a).length c)∧w'.ownsRow w.heap.size 5 1 (.slice A (aW a).length c) (aW a).length (ab (aW a))∧Below w.heap.size w w':=by
 have hlen:a.2.length=16:=ha;unfold iP;obtain⟨i0,hi0,hz0,hz1,hz2⟩:=info_parts bB;obtain⟨W,hW⟩:∃W,W=w.alloc (.cells (ai a).toArray 27):=⟨_,rfl⟩;have hX:aj W w.heap.size 27 (ai a).toArray:=by rw[hW];exact lr _ _ _
 have hB:Below w.heap.size w W:=by rw[hW];exact (Below.refl _ _).alloc (IB _) _
 have c0:∀o,(W.alloc o).cell? ⟨w.heap.size,0,none⟩=some (.bool a.1):=fun o=>kG (aj.alloc hX o)
 have HX:=hid hX;have HW:=hid hW;have HB:=hid hB;have Hlen:=hid hlen;have Hsz:=hid hB.size;clear hW hX hB hlen;rcases h6:a.1 with _|_
 ·rw[h6] at c0
  have Hr:Hid (aW a=4::a.2.take 4):=by show _=_;unfold aW;rw[h6];rfl
  clear h6;go_enter Tryz.func81,Tryz.ntmps81
  go_upto_region 1 with fail
  rw[←HW.out]
  go_wp2_with fail
  go_loopw [3,5] (fun v i wr=>∃(k:Nat) (A:Option Addr) (c:Nat),k≤4∧i=.int .i64 (k:Int)∧v=.slice A (k+1) c∧Hid (ud w wr w.heap.size a 4 A c k)) (fun _ i _=>4-(intOf i).toNat)
  case atStart=>exact⟨0,_,1,by omega,rfl,rfl,⟨aj.alloc HX.out _,oM W _ _ 4 4 rfl Hsz.out,HB.out.alloc Hsz.out _⟩⟩
  case round =>
   obtain⟨k,A,c,hk,rfl,rfl,hat⟩:=hrel;by_cases hlt:k<4
   ·have hltI:(k:Int)<4:=by omega
    have hk0:(0:Int)≤(k:Int):=by omega
    have hk16:(k:Int)<16:=by omega
    have hkl:k<a.2.length:=by have:=Hlen.out;omega
    obtain⟨hXr,hown,hbel⟩:=hat.out;have hc:=s9 hXr hkl;obtain⟨x,hx⟩:∃x,x=a.2[k]:=⟨_,rfl⟩;rw[←hx] at hc;obtain⟨m,hm⟩:∃m,m=(4:UInt8)::a.2.take k:=⟨_,rfl⟩;have hml:m.length=k+1:=by rw[hm];simp;omega
    have hm2:(4:UInt8)::a.2.take (k+1)=m++[x]:=by rw[hm,IN,Iy hkl,←hx];rfl
    rw[←hm] at hown;rw[hml] at hown;have hown':wr.ownsRow w.heap.size 5 1 (.slice A (k+1) c) m.length (ab m):=by rw[hml];exact hown
    have hsz:w.heap.size≤wr.heap.size:=hbel.size;have hne:some w.heap.size≠(II A (k+1) c).ownBlock:=by
     rcases aK hown' hXr (by decide) with h|h
     ·rw[h];simp
     ·exact fun e=>h e.symm
    have Hown:=hid hown';have HXr:=hid hXr;have Hbel:=hid hbel;have Hm2:=hid hm2;have Hml:=hid hml;have Hne:=hid hne;clear hown hown' hXr hbel hm hm2 hml hne hx hat
    go_wp2_with (at_builtin;refine ae _ rfl _ _ 43 rfl w.heap.size 5 i0 (.int .u8 0) 1 IP hi0 hz0 hz1 hz2 rfl (.slice A (k+1) c) m rfl (an Hown.out ((Below.refl _ wr).alloc (IB _) _)) _ _ 1 _ [x] rfl rfl (BS.one' wr x _ rfl _) (by rw[Hml.out];simp[maxLen];omega) (by rw[Hml.out];simp;omega) (ID hsz (Below.size ((Below.refl wr.heap.size wr).alloc (IB _) _))) ?_;intro A5 c5 w5 hown5 hg5 _)
    have Hat2:Hid (ud w w5 w.heap.size a 4 A5 c5 (k+1)):=by
     refine⟨aj.grown (aj.alloc HXr.out _) hg5 Hne.out,by rw[Hm2.out];exact hown5,(Hbel.out.alloc hsz _).grown hg5 (ID hsz (Below.size ((Below.refl wr.heap.size wr).alloc (IB _) _))) (fun j hj=>(Hown.out.lt j hj).1)⟩
    have Hl5:Hid ((m++[x]).length=k+1+1):=by show _=_;rw[IJ,Hml.out];rfl
    clear hown5 hg5 Hown HXr Hbel Hne;go_roundw
    case rel=>exact⟨k+1,A5,c5,by omega,by go_num,by first|rfl|(rw[Hl5.out])|(have:=Hml.out;simp;omega),Hat2⟩
    case measure=>simp[intOf];omega
   ·have hltI:¬(k:Int)<4:=by omega
    have hkN:k=4:=by omega
    subst hkN;obtain⟨_,hown,hbel⟩:=hat.out;have hpl:(aW a).length=4+1:=by rw[Hr.out];simp;have:=Hlen.out;omega
    have hown2:wr.ownsRow w.heap.size 5 1 (.slice A (4+1) c) (4+1) (ab (aW a)):=by
     rw[Hr.out];have e:((4:UInt8)::a.2.take 4).length=4+1:=by simp;have:=Hlen.out;omega
     rw[e] at hown;exact hown
    have Hown:=hid hown2;have Hbel:=hid hbel;have Hpl:=hid hpl;clear hown hown2 hbel hpl hat
    go_wp2
    go_ret
    refine⟨A,c,?_,?_,Hbel.out⟩
    ·rw[Hpl.out];rfl
    ·rw[Hpl.out];exact Hown.out
 ·rw[h6] at c0
  have Hr:Hid (aW a=6::a.2):=by show _=_;unfold aW;rw[h6];rfl
  clear h6;go_enter Tryz.func81,Tryz.ntmps81
  go_upto_region 1 with fail
  rw[←HW.out]
  go_wp2_with fail
  go_loopw [3,5] (fun v i wr=>∃(k:Nat) (A:Option Addr) (c:Nat),k≤16∧i=.int .i64 (k:Int)∧v=.slice A (k+1) c∧Hid (ud w wr w.heap.size a 6 A c k)) (fun _ i _=>16-(intOf i).toNat)
  case atStart=>exact⟨0,_,1,by omega,rfl,rfl,⟨aj.alloc HX.out _,oM W _ _ 6 6 rfl Hsz.out,HB.out.alloc Hsz.out _⟩⟩
  case round =>
   obtain⟨k,A,c,hk,rfl,rfl,hat⟩:=hrel;by_cases hlt:k<16
   ·have hltI:(k:Int)<16:=by omega
    have hk0:(0:Int)≤(k:Int):=by omega
    have hk16:(k:Int)<16:=by omega
    have hkl:k<a.2.length:=by have:=Hlen.out;omega
    obtain⟨hXr,hown,hbel⟩:=hat.out;have hc:=s9 hXr hkl;obtain⟨x,hx⟩:∃x,x=a.2[k]:=⟨_,rfl⟩;rw[←hx] at hc;obtain⟨m,hm⟩:∃m,m=(6:UInt8)::a.2.take k:=⟨_,rfl⟩;have hml:m.length=k+1:=by rw[hm];simp;omega
    have hm2:(6:UInt8)::a.2.take (k+1)=m++[x]:=by rw[hm,IN,Iy hkl,←hx];rfl
    rw[←hm] at hown;rw[hml] at hown;have hown':wr.ownsRow w.heap.size 5 1 (.slice A (k+1) c) m.length (ab m):=by rw[hml];exact hown
    have hsz:w.heap.size≤wr.heap.size:=hbel.size;have hne:some w.heap.size≠(II A (k+1) c).ownBlock:=by
     rcases aK hown' hXr (by decide) with h|h
     ·rw[h];simp
     ·exact fun e=>h e.symm
    have Hown:=hid hown';have HXr:=hid hXr;have Hbel:=hid hbel;have Hm2:=hid hm2;have Hml:=hid hml;have Hne:=hid hne;clear hown hown' hXr hbel hm hm2 hml hne hx hat
    go_wp2_with (at_builtin;refine ae _ rfl _ _ 43 rfl w.heap.size 5 i0 (.int .u8 0) 1 IP hi0 hz0 hz1 hz2 rfl (.slice A (k+1) c) m rfl (an Hown.out ((Below.refl _ wr).alloc (IB _) _)) _ _ 1 _ [x] rfl rfl (BS.one' wr x _ rfl _) (by rw[Hml.out];simp[maxLen];omega) (by rw[Hml.out];simp;omega) (ID hsz (Below.size ((Below.refl wr.heap.size wr).alloc (IB _) _))) ?_;intro A5 c5 w5 hown5 hg5 _)
    have Hat2:Hid (ud w w5 w.heap.size a 6 A5 c5 (k+1)):=by
     refine⟨aj.grown (aj.alloc HXr.out _) hg5 Hne.out,by rw[Hm2.out];exact hown5,(Hbel.out.alloc hsz _).grown hg5 (ID hsz (Below.size ((Below.refl wr.heap.size wr).alloc (IB _) _))) (fun j hj=>(Hown.out.lt j hj).1)⟩
    have Hl5:Hid ((m++[x]).length=k+1+1):=by show _=_;rw[IJ,Hml.out];rfl
    clear hown5 hg5 Hown HXr Hbel Hne;go_roundw
    case rel=>exact⟨k+1,A5,c5,by omega,by go_num,by first|rfl|(rw[Hl5.out])|(have:=Hml.out;simp;omega),Hat2⟩
    case measure=>simp[intOf];omega
   ·have hltI:¬(k:Int)<16:=by omega
    have hkN:k=16:=by omega
    subst hkN;obtain⟨_,hown,hbel⟩:=hat.out;have hpl:(aW a).length=16+1:=by rw[Hr.out];simp;have:=Hlen.out;omega
    have hown2:wr.ownsRow w.heap.size 5 1 (.slice A (16+1) c) (16+1) (ab (aW a)):=by
     rw[Hr.out];have e2:a.2.take 16=a.2:=IG (by have:=Hlen.out;omega);have e:((6:UInt8)::a.2.take 16).length=16+1:=by simp;have:=Hlen.out;omega
     rw[e,e2] at hown;exact hown
    have Hown:=hid hown2;have Hbel:=hid hbel;have Hpl:=hid hpl;clear hown hown2 hbel hpl hat
    go_wp2
    go_ret
    refine⟨A,c,?_,?_,Hbel.out⟩
    ·rw[Hpl.out];rfl
    ·rw[Hpl.out];exact Hown.out
abbrev ct:Type:=cO×Int×Int×Bool
def aI(v:ct):List Value:=ai v.1++[.int .i64 v.2.1,.int .i64 v.2.2.1,.bool v.2.2.2]
def C6(v:ct):Value:=.agg (aI v).toArray
theorem bK{v:ct}(h:aS v.1):(aI v).length=20:=by rw[aI,IJ,ar h];rfl
theorem lu:qq.underlying 108=some (.struct (qq.fieldsOf 108)):=by kernel_rfl
theorem C7:qq.stoodInHeld 108=false:=by kernel_rfl
theorem iR:(qq.info? 108).map (·.size)=some 20:=by kernel_rfl
theorem lR{v:ct}(h:aS v.1):(qq.info? 108).map (·.size)=some (aI v).length:=by rw[bK h];exact iR
theorem vw(w:World):(sizeOf 27).run qq w=.ok 17 w:=by
 obtain⟨i,hi⟩:=info_of_underlying IC;rw[run_sizeOf w hi,show qq.cellsOf 27=17 by kernel_rfl]
theorem n8{v:ct}(h:aS v.1)(i:Nat):(aI v).toArray[17+i]?=[Je .i64 v.2.1,.int .i64 v.2.2.1,.bool v.2.2.2][i]?:=by
 rw[Iz,aI,IE (by rw[ar h];omega),ar h,Nat.add_sub_cancel_left]
theorem C8(v:ct)(h:aS v.1)(w:World):(part 27 (aI v).toArray 0).run qq w=.ok (.agg (ai v.1).toArray) w:=by
 have e:(aI v).toArray.extract 0 17=(ai v.1).toArray:=by
  apply Array.ext'
  simp only[I1,IY,I9,aI,Nat.sub_zero];rw[List.take_append_of_le_length (by rw[ar h];exact IB _),IG (by rw[ar h];exact IB _)]
 simp only[part,isAgg,IL,run_underlying IC,IF,I3,vw,if_true,I2,e]
theorem C9(v:ct)(h:aS v.1)(w:World):(part 3 (aI v).toArray 17).run qq w=.ok (.int .i64 v.2.1) w:=by
 have e:=n8 h 0;simp only[Nat.add_zero,List.getElem?_cons_zero] at e;simp[part,isAgg,run_underlying IV,e]
theorem Da(v:ct)(h:aS v.1)(w:World):(part 3 (aI v).toArray 18).run qq w=.ok (.int .i64 v.2.2.1) w:=by
 have e:(aI v).toArray[18]?=some (.int .i64 v.2.2.1):=n8 h 1;simp[part,isAgg,run_underlying IV,e]
theorem Db(v:ct)(h:aS v.1)(w:World):(part 4 (aI v).toArray 19).run qq w=.ok (.bool v.2.2.2) w:=by
 have e:(aI v).toArray[19]?=some (.bool v.2.2.2):=n8 h 2;simp[part,isAgg,run_underlying IT,e]
theorem Dc(d:Nat)(a b:ct)(ha:aS a.1)(hb:aS b.1)(w:World) :
  (Ja (d+4) 108 (.agg (aI a).toArray) (.agg (aI b).toArray)).run qq w=.ok (a==b) w:=by
 have hab:(a==b)=(a.1==b.1&&(a.2.1==b.2.1&&(a.2.2.1==b.2.2.1&&a.2.2.2==b.2.2.2))):=rfl;have h0:=gT d a.1 b.1 ha hb w;have h1:=run_equalIn_int w (d+2) 3 .i64 .i64 a.2.1 b.2.1 IV;have h2:=run_equalIn_int w (d+2) 3 .i64 .i64 a.2.2.1 b.2.2.1 IV;have h3:=run_equalIn_bool w (d+2) 4 a.2.2.2 b.2.2.2 IT;rw[run_equalIn_struct w (d+3) _ _ _ lu C7,hab];simp only[Program.fieldsOf,IX,Op.eqFields];rw[if_pos (by decide)];simp only[IL,C8 a ha,C8 b hb,IF,h0];cases hc:(a.1==b.1)
 ·simp
 ·simp only[IZ,IQ,if_false]
  rw[if_pos (by decide)];simp only[IL,C9 a ha,C9 b hb,IF,h1];cases hd:(a.2.1==b.2.1)
  ·simp
  ·simp only[IZ,IQ,if_false]
   rw[if_pos (by decide)];simp only[IL,Da a ha,Da b hb,IF,h2];cases he:(a.2.2.1==b.2.2.1)
   ·simp
   ·simp only[IZ,IQ,if_false]
    rw[if_pos (by decide)];simp only[IL,Db a ha,Db b hb,IF,h3];cases hf:(a.2.2.2==b.2.2.2)<;>simp
def eT(addr:cO)(proto port:Int)(v:ct):Bool:=v.1==addr&&v.2.1==proto&&v.2.2.1==port
theorem eL{w:World}{g:Nat}{t:TypeId}{v:ct}(h:aj w g t (aI v).toArray):w.rangeAt g 0 (ai v.1):=fun j x hj=>by
 have hl:j<(ai v.1).length:=by
  rcases Jd j (ai v.1).length with h1|h1
  ·exact h1
  ·rw[List.getElem?_eq_none h1] at hj;cases hj
 rw[h.cell,I2,Iz,aI,IH hl];exact hj
theorem eU{w:World}{g:Nat}{t:TypeId}{v:ct}(hv:aS v.1)(h:aj w g t (aI v).toArray)(i:Nat):w.cell? ⟨g,17+i,none⟩=[Je .i64 v.2.1,.int .i64 v.2.2.1,.bool v.2.2.2][i]?:=by
 rw[h.cell,n8 hv]
theorem Dd(v:ct)(hv:aS v.1)(addr:cO)(ha:aS addr)(proto port:Int)(g5 g6 g7:Nat)(w:World)(h5:aj w g5 27 (ai addr).toArray)(h6:w.cell? ⟨g6,0,none⟩=some (.int .i64 proto))(h7:w.cell? ⟨g7,0,none⟩=some (.int .i64 port)) :
  Calls qq 190 #[C6 v,.pointer (some ⟨g5,0,none⟩),.pointer (some ⟨g6,0,none⟩),.pointer (some ⟨g7,0,none⟩)] w fun e w'=>e=.returned (.bool (eT addr proto port v))∧Below w.heap.size w w':=by
 unfold C6;obtain⟨W,hW⟩:∃W,W=w.alloc (.cells (aI v).toArray 108):=⟨_,rfl⟩;have hX:aj W w.heap.size 108 (aI v).toArray:=by rw[hW];exact aj.new w _ _ _ rfl
 have hB:Below w.heap.size w W:=by rw[hW];exact (Below.refl _ _).alloc (IB _) _
 have c1:W.cell? ⟨w.heap.size,17,none⟩=some (.int .i64 v.2.1):=eU hv hX 0;have c2:W.cell? ⟨w.heap.size,18,none⟩=some (.int .i64 v.2.2.1):=eU hv hX 1;have d6:W.cell? ⟨g6,0,none⟩=some (.int .i64 proto):=(hB.cell (p:=⟨g6,0,none⟩) (IM w _ h6)).trans h6;have d7:W.cell? ⟨g7,0,none⟩=some (.int .i64 port):=(hB.cell (p:=⟨g7,0,none⟩) (IM w _ h7)).trans h7;have HR1:=hid (eL hX);have HR2:=hid (ag (aj.below h5 hB h5.lt));have Hs1:=hid (eo hv);have Hs2:=hid (eo ha);have He:=hid (gT 9997 v.1 addr hv ha W);have HW:=hid hW;have HB:=hid hB;clear hW hX hB h5 h6 h7;rcases h1:(v.1==addr) with _|_
 ·rw[h1] at He
  have H1:=hid h1;clear h1;go_enter Tryz.func190,Tryz.ntmps190
  go_upto_region 1 with fail
  rw[←HW.out]
  go_wp2_with
   (first
    |(refine aa (by rfl) 27 (.tmp 6) rfl w.heap.size 0 rfl (ai v.1) _ HR1.out IC rfl Hs1.out ?_)
    |(refine aa (by rfl) 27 (.tmp 1) rfl g5 0 rfl (ai addr) _ HR2.out IC rfl Hs2.out ?_)
    |(refine eD (by rfl) 27 27 (.tmp 7) (.tmp 8) rfl (ai v.1).toArray (ai addr).toArray rfl rfl eQ false He.out ?_))
  go_ret
  exact⟨by unfold eT;rw[H1.out];rfl,HB.out⟩
 ·rw[h1] at He
  have H1:=hid h1;clear h1;rcases h2:(v.2.1==proto) with _|_
  ·have H2:=hid h2
   go_enter Tryz.func190,Tryz.ntmps190
   go_upto_region 1 with fail
   rw[←HW.out]
   go_wp2_with
    (first
     |(refine aa (by rfl) 27 (.tmp 6) rfl w.heap.size 0 rfl (ai v.1) _ HR1.out IC rfl Hs1.out ?_)
     |(refine aa (by rfl) 27 (.tmp 1) rfl g5 0 rfl (ai addr) _ HR2.out IC rfl Hs2.out ?_)
     |(refine eD (by rfl) 27 27 (.tmp 7) (.tmp 8) rfl (ai v.1).toArray (ai addr).toArray rfl rfl eQ true He.out ?_))
   go_ret
   exact⟨by unfold eT;rw[H1.out,H2.out];rfl,HB.out⟩
  ·have H2:=hid h2
   rcases h3:(v.2.2.1==port) with _|_
   ·have H3:=hid h3
    go_enter Tryz.func190,Tryz.ntmps190
    go_upto_region 1 with fail
    rw[←HW.out]
    go_wp2_with
     (first
      |(refine aa (by rfl) 27 (.tmp 6) rfl w.heap.size 0 rfl (ai v.1) _ HR1.out IC rfl Hs1.out ?_)
      |(refine aa (by rfl) 27 (.tmp 1) rfl g5 0 rfl (ai addr) _ HR2.out IC rfl Hs2.out ?_)
      |(refine eD (by rfl) 27 27 (.tmp 7) (.tmp 8) rfl (ai v.1).toArray (ai addr).toArray rfl rfl eQ true He.out ?_))
    go_ret
    exact⟨by unfold eT;rw[H1.out,H2.out,H3.out];rfl,HB.out⟩
   ·have H3:=hid h3
    go_enter Tryz.func190,Tryz.ntmps190
    go_upto_region 1 with fail
    rw[←HW.out]
    go_wp2_with
     (first
      |(refine aa (by rfl) 27 (.tmp 6) rfl w.heap.size 0 rfl (ai v.1) _ HR1.out IC rfl Hs1.out ?_)
      |(refine aa (by rfl) 27 (.tmp 1) rfl g5 0 rfl (ai addr) _ HR2.out IC rfl Hs2.out ?_)
      |(refine eD (by rfl) 27 27 (.tmp 7) (.tmp 8) rfl (ai v.1).toArray (ai addr).toArray rfl rfl eQ true He.out ?_))
    go_ret
    exact⟨by unfold eT;rw[H1.out,H2.out,H3.out];rfl,HB.out⟩
def VS(w:World)(B:Nat)(A:Option Addr)(vs:List ct):Prop :=
 0<vs.length→∃b o,A=some ⟨b,o,none⟩∧b<B∧∀j v,vs[j]?=some v→w.rangeAt b (o+j*20) (aI v)
section
variable {w w':World} {B B':Nat} {A:Option Addr} {vs:List ct}
theorem VS.keep(h:VS w B A vs)(hk:∀p:Addr,p.block<B→w'.cell? p=w.cell? p):VS w' B A vs:=fun hn=>by
 obtain⟨b,o,e,hb,hc⟩:=h hn;exact⟨b,o,e,hb,fun j v hj i c hi=>(hk ⟨b,_,none⟩ hb).trans (hc j v hj i c hi)⟩
theorem VS.more(h:VS w B A vs)(hB:B≤B'):VS w B' A vs:=fun hn=>by
 obtain⟨b,o,e,hb,hc⟩:=h hn;exact⟨b,o,e,by omega,hc⟩
theorem VS.below(h:VS w B A vs)(hb:Below B w w'):VS w' B A vs:=h.keep fun _ hp=>hb.cell hp
theorem VS.take(h:VS w B A vs)(k:Nat):VS w B A (vs.take k):=fun hn=>by
 obtain⟨b,o,e,hb,hc⟩:=h (by rw[I0] at hn;omega);refine⟨b,o,e,hb,fun j v hj=>hc j v ?_⟩;rw[List.getElem?_take] at hj;split at hj
 ·exact hj
 ·cases hj
end
def lS(addr:cO)(proto port:Int)(vs:List ct):Int:=match vs.findIdx? (eT addr proto port) with|some i=>(i:Int)|none=>-1
theorem xZ(A:Option Addr)(n c:Nat)(vs:List ct)(hv:∀v∈vs,aS v.1)(addr:cO)(ha:aS addr)(proto port:Int)(g5 g6 g7:Nat)(w:World)(B:Nat)(hB:B≤w.heap.size)(hn:n=vs.length)(hb:VS w B A vs)(hl:n≤1000000)
  (h5:aj w g5 27 (ai addr).toArray) (h6:w.cell? ⟨g6,0,none⟩=some (.int .i64 proto)) (h7:w.cell? ⟨g7,0,none⟩=some (.int .i64 port)) :
  Calls qq 189 #[.slice A n c,.func (.func 190) #[] #[.pointer (some ⟨g5,0,none⟩),.pointer (some ⟨g6,0,none⟩),.pointer (some ⟨g7,0,none⟩)]] w fun e w'=>e=.returned (.int .i64 (lS addr proto port vs))∧Below w.heap.size w w':=by
 subst hn;have HV:=hid hb;have Hok:=hid hv;have H5:=hid h5;have H6:=hid h6;have H7:=hid h7;clear hb hv h5 h6 h7;go_enter Tryz.func189,Tryz.ntmps189
 go_wp2
 go_loopw [8] (fun i wr=>∃k:Nat,k≤vs.length∧i=.int .i64 (k:Int)∧Hid (Below w.heap.size w wr)∧Hid (∀j v,j<k→vs[j]?=some v→eT addr proto port v=false)) (fun i _=>vs.length-(intOf i).toNat)
 case atStart=>exact⟨0,by omega,rfl,Below.refl _ _,fun j v hj=>by omega⟩
 case round =>
  obtain⟨k,hk,rfl,hbel,hat⟩:=hrel;by_cases hlt:k<vs.length
  ·have hltI:(k:Int)<(vs.length:Int):=by omega
   have hk0:(0:Int)≤(k:Int):=by omega
   obtain⟨b,o,hA,hbB,hc⟩:=(HV.out.below (hbel.out.mono hB)) (by omega);subst hA;obtain⟨x,hx⟩:∃x,x=vs[k]:=⟨_,rfl⟩;have hrg:=hc k x (by rw[Iy hlt,hx]);have hxo:aS x.1:=Hok.out x (by rw[hx];exact IU hlt);have Hrg:=hid hrg;have Hsz:=hid (lR hxo);have Hx:=hid hx;clear hc hrg hx
   go_wp2_with (first|(refine aa (by rfl) 108 (.tmp 14) rfl b (o+k*20) rfl (aI x) _ Hrg.out IX rfl Hsz.out ?_))
   have hbw:=hbel.out;refine (Dd x hxo addr ha proto port g5 g6 g7 wr (aj.below H5.out hbw H5.out.lt) ((hbw.cell (p:=⟨g6,0,none⟩) (IM w _ H6.out)).trans H6.out) ((hbw.cell (p:=⟨g7,0,none⟩) (IM w _ H7.out)).trans H7.out)).mono ?_;rintro e w2 ⟨rfl,hb2⟩;have Hb2:Hid (Below w.heap.size w w2):=hbw.trans (hb2.mono hbw.size);clear hbw hb2;rcases hz:eT addr proto port x with _|_
   ·have Hat2:Hid (∀j v,j<k+1→vs[j]?=some v→eT addr proto port v=false):=fun j v hj hjv=>by
     rcases Jd j k with h1|h1
     ·exact hat.out j v h1 hjv
     ·obtain rfl:j=k:=by omega
      rw[Iy hlt,←Hx.out] at hjv;injection hjv with hjv
      rw[←hjv];exact hz
    clear hz hat
    go_wp2
    go_roundw
    case rel=>exact⟨k+1,by omega,by go_num,Hb2,Hat2⟩
    case measure=>simp[intOf];omega
   ·have Hr:Hid (lS addr proto port vs=(k:Int)):=by
     show _=_
     have hf:vs.findIdx? (eT addr proto port)=some k:=by
      rw[IR];refine⟨hlt,by rw[←Hx.out];exact hz,fun j hj=>?_⟩;rw[hat.out j _ hj (Iy (Nat.lt_trans hj hlt))];simp
     unfold lS;rw[hf]
    clear hz hat
    go_wp2
    go_ret
    exact⟨by rw[Hr.out];rfl,Hb2.out⟩
  ·have hltI:¬(k:Int)<(vs.length:Int):=by omega
   go_wp2
   have Hr:Hid (lS addr proto port vs=-1):=by
    show _=_
    have hf:vs.findIdx? (eT addr proto port)=none:=by
     rw[List.findIdx?_eq_none_iff];intro v hv;obtain⟨j,hj,rfl⟩:=List.getElem_of_mem hv;exact hat.out j _ (by omega) (Iy hj)
    unfold lS;rw[hf]
   go_ret
   exact⟨by rw[Hr.out];rfl,hbel.out⟩
section
variable {P:Program}
theorem aN{fn:Func}{p u:Tmp}{ty:TypeId}(h:fn.results=#[.cell p ty,.tmp u])(tmps:Array Value)(w:World)(g:Nat)(t:TypeId)(cs:Array Value)(fr:Nat×Nat)(d:TypeDesc)
  (hp:tmps.getD p undef=.pointer (some ⟨g,0,none⟩)) (hg:w.heap[g]?=some (.cells cs t fr))
  (hu:P.underlying ty=some d) (hd:(match d with | .struct _ | .array _ _=>true|_=>false)=true) (hi:(P.info? ty).map (·.size)=some cs.size) :
  (results fn tmps).run P w=.ok (.tuple #[.agg cs,tmps.getD u undef]) w:=by
 rw[results_cell_tmp h,hp];simp[asAddr,run_loadVar_row w g t ty cs fr d hg hu hd hi]
end
def ia:ct:=(dy,0,0,false)
theorem kn:(aI ia).toArray=(#[.bool false,.int .u8 0,.int .u8 0,.int .u8 0,.int .u8 0,.int .u8 0,.int .u8 0,.int .u8 0,.int .u8 0,.int .u8 0,.int .u8 0,.int .u8 0,.int .u8 0,.int .u8 0,.int .u8 0,.int .u8 0,.int .u8 0,.int .i64 0,.int .i64 0,.bool false]:Array Value):=rfl
theorem gV(v:ct):(aI v).toArray.all (·.oneCell')=true:=all_oneCell_toArray (by
 intro u hu;rw[aI,ai,List.cons_append] at hu;refine oQ _ _ _ ?_ u hu;intro x hx;simp only[List.mem_cons,List.mem_nil_iff,or_false] at hx;rcases hx with rfl|rfl|rfl<;>rfl)
def iS(addr:cO)(proto port:Int)(vs:List ct):ct×Bool:=match vs.findIdx? (eT addr proto port) with|some i=>(vs[i]?.getD ia,true)|none=>(ia,false)
theorem E9(cs:Array Value)(A:Option Addr)(n c:Nat)(hcs:cs[0]?=some (.slice A n c))(vs:List ct)(hv:∀v∈vs,aS v.1)(addr:cO)(ha:aS addr)(proto port:Int)(w:World)(hn:n=vs.length)(hb:VS w w.heap.size A vs)(hl:n≤1000000) :
  Calls qq 171 #[.agg cs,iP addr,.int .i64 proto,.int .i64 port] w fun e w'=>e=.returned (.tuple #[C6 (iS addr proto port vs).1,.bool (iS addr proto port vs).2])∧Below w.heap.size w w':=by
 subst hn;unfold iP;have HV:=hid hb;have Hok:=hid hv;have Hcs:=hid hcs;clear hb hv hcs;obtain⟨W,hW⟩:∃W,W=((((w.alloc (.cells cs 29)).alloc (.cells (ai addr).toArray 27)).alloc (.cells #[.int .i64 proto] 3)).alloc (.cells #[.int .i64 port] 3)).alloc (.cells #[.bool false,.int .u8 0,.int .u8 0,.int .u8 0,.int .u8 0,.int .u8 0,.int .u8 0,.int .u8 0,.int .u8 0,.int .u8 0,.int .u8 0,.int .u8 0,.int .u8 0,.int .u8 0,.int .u8 0,.int .u8 0,.int .u8 0,.int .i64 0,.int .i64 0,.bool false] 108):=⟨_,rfl⟩;have hX4:aj W w.heap.size 29 cs:=by rw[hW];exact aj.alloc (aj.alloc (aj.alloc (aj.alloc (aj.new w _ _ _ rfl) _) _) _) _
 have hX5:aj W (w.heap.size+1) 27 (ai addr).toArray:=by rw[hW];exact aj.alloc (aj.alloc (aj.alloc (aj.new _ _ _ _ (by simp)) _) _) _
 have hX6:aj W (w.heap.size+1+1) 3 #[.int .i64 proto]:=by rw[hW];exact aj.alloc (aj.alloc (aj.new _ _ _ _ (by simp)) _) _
 have hX7:aj W (w.heap.size+1+1+1) 3 #[.int .i64 port]:=by rw[hW];exact aj.alloc (aj.new _ _ _ _ (by simp)) _
 have hX8:aj W (w.heap.size+1+1+1+1) 108 (aI ia).toArray:=by rw[hW,kn];exact aj.new _ _ _ _ (by simp)
 have hB:Below w.heap.size w W:=by rw[hW];exact (((((Below.refl _ _).alloc (IB _) _).alloc (by simp) _).alloc (by simp;omega) _).alloc (by simp;omega) _).alloc (by simp;omega) _
 have c4:W.cell? ⟨w.heap.size,0,none⟩=some (.slice A vs.length c):=(hX4.cell 0).trans Hcs.out;have Hidx:=hid (xZ A _ c vs Hok.out addr ha proto port (w.heap.size+1) (w.heap.size+1+1) (w.heap.size+1+1+1) W w.heap.size hB.size rfl (HV.out.below hB) hl hX5 (hX6.cell 0) (hX7.cell 0));have HX4:=hid hX4;have HX8:=hid hX8;have HB:=hid hB;have HW:=hid hW;clear hW hX4 hX5 hX6 hX7 hX8 hB;rcases hf:vs.findIdx? (eT addr proto port) with _|i
 ·have hidx:lS addr proto port vs=-1:=by unfold lS;rw[hf]
  have hfind:iS addr proto port vs=(ia,false):=by unfold iS;rw[hf]
  rw[hidx] at Hidx;rw[hfind];clear hf hidx hfind;go_enter Tryz.func171,Tryz.ntmps171
  go_upto_region 1 with fail
  rw[←HW.out]
  go_wp2_with fail
  refine Hidx.out.mono ?_;rintro e w1 ⟨rfl,hb1⟩;have hX8:=aj.below HX8.out hb1 HX8.out.lt;have Hth:Hid (w1.there (w.heap.size+1+1+1+1) 0 20):=hX8.there (by rw[kn];decide);have HX8':=hid hX8;have HB1:Hid (Below w.heap.size w w1):=HB.out.trans (hb1.mono HB.out.size);clear hX8 hb1
  go_wp2_with (first|(refine wpList_store_mid rfl 108 (.tmp 8) (.tmp 17) rfl (w.heap.size+1+1+1+1) 0 (aI ia).toArray rfl rfl Hth.out iR (gV ia) ?_))
  have hX9:=aj.setCells (aI ia) 0 HX8'.out;rw[bn rfl] at hX9;refine bodyPost_ret (v:=.tuple #[C6 ia,.bool false]) (aN (P:=qq) (p:=8) (u:=9) rfl _ _ (w.heap.size+1+1+1+1) _ _ _ _ rfl hX9 lu rfl (lR mF)) rfl ⟨rfl,bq (by omega) _ _ HB1.out⟩
 ·have hidx:lS addr proto port vs=(i:Int):=by unfold lS;rw[hf]
  have hlt:i<vs.length:=(IR.1 hf).1;have hltI:(i:Int)<(vs.length:Int):=by omega
  have hi0:(0:Int)≤(i:Int):=by omega
  obtain⟨x,hx⟩:∃x,x=vs[i]:=⟨_,rfl⟩;have hxo:aS x.1:=Hok.out x (by rw[hx];exact IU hlt);have hfind:iS addr proto port vs=(x,true):=by unfold iS;rw[hf];simp only[Iy hlt,←hx,Option.getD_some]
  obtain⟨b,o,hA,hbB,hc⟩:=HV.out (by omega);have hrg:=hc i x (by rw[Iy hlt,hx]);subst hA;rw[hidx] at Hidx;rw[hfind];have Hrg:=hid hrg;have Hsz:=hid (lR hxo);have hnl:¬(i:Int)<0:=by omega
  clear hf hidx hfind hx hc hrg;go_enter Tryz.func171,Tryz.ntmps171
  go_upto_region 1 with fail
  rw[←HW.out]
  go_wp2_with fail
  refine Hidx.out.mono ?_;rintro e w1 ⟨rfl,hb1⟩;have hX8:=aj.below HX8.out hb1 HX8.out.lt;have hX4:=aj.below HX4.out hb1 HX4.out.lt;have c5:w1.cell? ⟨w.heap.size,0,none⟩=some (.slice (some ⟨b,o,none⟩) vs.length c):=(hX4.cell 0).trans Hcs.out;have Hth:Hid (w1.there (w.heap.size+1+1+1+1) 0 (aI x).toArray.size):=hX8.there (by rw[kn,List.size_toArray,bK hxo];decide);have HX8':=hid hX8;have HB1:Hid (Below w.heap.size w w1):=HB.out.trans (hb1.mono HB.out.size);have Hrg1:Hid (w1.rangeAt b (o+i*20) (aI x)):=fun j u hj=>(HB1.out.cell (p:=⟨b,_,none⟩) hbB).trans (Hrg.out j u hj)
  clear hX8 hX4 hb1
  go_wp2_with (first
   |(refine aa (by rfl) 108 (.tmp 21) rfl b (o+i*20) rfl (aI x) _ Hrg1.out IX rfl Hsz.out ?_)
   |(refine wpList_store_mid rfl 108 (.tmp 8) (.tmp 22) rfl (w.heap.size+1+1+1+1) 0 (aI x).toArray rfl rfl Hth.out Hsz.out (gV x) ?_))
  have hX9:=aj.setCells (aI x) 0 HX8'.out;rw[bn (by rw[bK hxo];rfl)] at hX9;refine bodyPost_ret (v:=.tuple #[C6 x,.bool true]) (aN (P:=qq) (p:=8) (u:=9) rfl _ _ (w.heap.size+1+1+1+1) _ _ _ _ rfl hX9 lu rfl (lR hxo)) rfl ⟨rfl,bq (by omega) _ _ HB1.out⟩
def bm(l:List UInt8)(s:St):St×Nat:=((g9 l s).1,min (g9 l s).2 1048577)
theorem fV(base g:Nat)(l:List UInt8)(s:St)(w:World)(h:eY w base g l s)(hs:em l s)(hl:l.length≤1000000000) :
  Calls qq 151 #[.pointer (some ⟨g,0,none⟩)] w fun x w'=>x=.returned (.int .i64 ((bm l s).2:Int))∧eY w' base g l (bm l s).1∧w.grownBy w' (some g):=by
 have H:=hid (j8 base g l s w h hs hl);unfold bm;clear h hs;rcases hv:g9 l s with ⟨s2,v⟩
 rw[hv] at H;by_cases hle:v≤1048577
 ·have hm:min v 1048577=v:=Nat.min_eq_left hle
  have hmI:min (v:Int) 1048577=(v:Int):=by omega
  have hw:IntKind.i64.wrap (v:Int)=(v:Int):=IntWalk.i64_in _ (by omega);rw[hm];clear hm hv;go_enter Tryz.func151,Tryz.ntmps151
  go_wp2_with fail
  refine H.out.mono ?_;rintro e w1 ⟨rfl,hR,hg⟩;have HR:=hid hR;have Hg:=hid hg;clear hR hg
  go_wp2
  go_ret
  exact⟨rfl,HR.out,Hg.out⟩
 ·have hm:min v 1048577=1048577:=Nat.min_eq_right (by omega)
  have hmI:min (v:Int) 1048577=1048577:=by omega
  rw[hm];clear hm hv;go_enter Tryz.func151,Tryz.ntmps151
  go_wp2_with fail
  refine H.out.mono ?_;rintro e w1 ⟨rfl,hR,hg⟩;have HR:=hid hR;have Hg:=hid hg;clear hR hg
  go_wp2
  go_ret
  exact⟨rfl,HR.out,Hg.out⟩
def aJ:List Nat→List UInt8
 |[]=>[]
 |n::ns=>aC n++aJ ns
theorem fW(a b:List Nat):aJ (a++b)=aJ a++aJ b:=by
 induction a with
 |nil=>rfl
 |cons x xs ih=>simp[aJ,ih]
theorem fK{ns:List Nat}(h:∀n∈ns,n<18446744073709551616):(aJ ns).length≤10*ns.length:=by
 induction ns with
 |nil=>simp[aJ]
 |cons x xs ih =>
  have h1:=aO (h x (by simp));have h2:=ih (fun n hn=>h n (by simp[hn]));simp[aJ];omega
def NS(w:World)(ad:Addr)(ns:List Nat):Prop:=∀(j n:Nat),ns[j]?=some n→w.cell? (ad.add j)=some (.int .i64 (n:Int))
theorem De(n:Nat)(w:World)(hn:n<18446744073709551616) :
  Calls qq 31 #[.int .u64 (n:Int)] w fun e w'=>∃A c,e=.returned (.slice A (aC n).length c)∧w'.ownsRow w.heap.size 5 1 (.slice A (aC n).length c) (aC n).length (ab (aC n))∧Below w.heap.size w w' :=
 (ua n w n rfl hn).mono fun e w' ⟨v,h1,h2,h3⟩=>by
  obtain⟨A,c,rfl,_⟩:=cw h2;exact⟨A,c,h1,h2,h3⟩
theorem j9(A:Option Addr)(n c:Nat):(II A n c).ownBlock=(II A 0 0).ownBlock:=by cases A<;>rfl
def x6(w wr:World)(base:Nat)(row:Option Nat)(A:Option Addr)(c:Nat)(m:List UInt8)(ns:List Nat)(k:Nat):Prop :=
 wr.ownsRow base 5 1 (.slice A (m++aJ (ns.take k)).length c) (m++aJ (ns.take k)).length (ab (m++aJ (ns.take k)))∧Below base w wr ∧
  w.grownBy wr row∧((II A 0 0).ownBlock=row∨∃g,(II A 0 0).ownBlock=some g∧w.heap.size≤g)
theorem jF(base:Nat)(A:Option Addr)(c:Nat)(m:List UInt8)(ad:Addr)(k cap:Nat)(ns:List Nat)(w:World)(hk:k=ns.length)(hown:w.ownsRow base 5 1 (.slice A m.length c) m.length (ab m))(hns:NS w ad ns)(hlt:ad.block<w.heap.size)
  (hne:(II A 0 0).ownBlock≠some ad.block) (hn64:∀n∈ns,n<9223372036854775808) (hml:m.length≤1000000) (hnl:ns.length≤1000) (hbase:base≤w.heap.size) :
  Calls qq 60 #[.slice A m.length c,.slice (some ad) k cap] w fun e w'=>∃A' c',e=.returned (.slice A' (m++aJ ns).length c')∧w'.ownsRow base 5 1 (.slice A' (m++aJ ns).length c') (m++aJ ns).length (ab (m++aJ ns))∧Below base w w' ∧
   w.grownBy w' (II A 0 0).ownBlock:=by
 subst hk;obtain⟨i0,hi0,hz0,hz1,hz2⟩:=info_parts bB;have Hns:=hid hns;have H64:=hid hn64;have Hne:=hid hne;have Hat0:Hid (x6 w w base (II A 0 0).ownBlock A c m ns 0):=⟨by simpa[aJ] using hown,Below.refl _ _,World.grownBy.refl _ _,.inl rfl⟩;clear hns hn64 hne hown;go_enter Tryz.func60,Tryz.ntmps60
 go_wp2_with fail
 go_loopw [0,9] (fun v i wr=>∃(j:Nat) (A':Option Addr) (c':Nat),j≤ns.length∧i=.int .i64 (j:Int)∧v=.slice A' (m++aJ (ns.take j)).length c'∧Hid (x6 w wr base (II A 0 0).ownBlock A' c' m ns j)) (fun _ i _=>ns.length-(intOf i).toNat)
 case atStart=>exact⟨0,A,c,by omega,rfl,by simp[aJ],Hat0⟩
 case round =>
  obtain⟨j,A',c',hj,rfl,rfl,hat⟩:=hrel;by_cases hlt2:j<ns.length
  ·have hltI:(j:Int)<(ns.length:Int):=by omega
   have hj0:(0:Int)≤(j:Int):=by omega
   obtain⟨hown,hbel,hcell,hob⟩:=hat.out;have hx64:=H64.out _ (IU hlt2);obtain⟨x,hx⟩:∃x,x=ns[j]:=⟨_,rfl⟩;rw[←hx] at hx64;have hc:wr.cell? (ad.add j)=some (.int .i64 (x:Int)):=by
    rw[World.cell?_of_block (hcell.block (ad.add j).block (by rw[gS];exact hlt) (by rw[gS];exact fun e=>Hne.out e.symm))];exact Hns.out j x (by rw[Iy hlt2,hx])
   have hwx:IntKind.u64.wrap (x:Int)=(x:Int):=by simp[IntKind.wrap,IntKind.bits,IntKind.signed];omega
   obtain⟨m2,hm2⟩:∃m2,m2=m++aJ (ns.take j):=⟨_,rfl⟩;have hm3:m++aJ (ns.take (j+1))=m2++aC x:=by
    rw[IN,Iy hlt2,←hx,fW,hm2,List.append_assoc];simp[aJ]
   have hm2l:m2.length≤1010000:=by
    rw[hm2,IJ];have:=fK (ns:=ns.take j) (fun n hn=>by have:=H64.out n (List.mem_of_mem_take hn);omega);rw[I0] at this;omega
   have hvl:=aO (n:=x) (by omega);rw[←hm2] at hown ⊢;have Hown:=hid hown;have Hm3:=hid hm3;have hsz:w.heap.size≤wr.heap.size:=hbel.size;have Hbel:=hid hbel;have Hcell:=hid hcell;have Hob:=hid hob;clear hown hbel hcell hob hx hm2 hm3 hat
   go_wp2_with fail
   refine (De x wr (by omega)).mono ?_;rintro e w2 ⟨A2,c2,rfl,hown2,hb2⟩;have Hown2:=hid (an Hown.out hb2);have HB2:=hid (BS.of_own hown2).1;have Hb2:=hid hb2;clear hown2 hb2
   go_wp2_with (at_builtin;refine ae _ rfl _ _ 43 rfl base 5 i0 (.int .u8 0) 1 IP hi0 hz0 hz1 hz2 rfl (.slice A' m2.length c') m2 rfl Hown2.out _ A2 _ c2 (aC x) rfl rfl HB2.out (by unfold maxLen;omega) (by omega) (ID hbase (ID hsz Hb2.out.size)) ?_;intro A5 c5 w5 hown5 hg5 hob5)
   have Hat2:Hid (x6 w w5 base (II A 0 0).ownBlock A5 c5 m ns (j+1)):=by
    refine⟨by rw[Hm3.out];exact hown5,(Hbel.out.trans (Hb2.out.mono (ID hbase hsz))).grown hg5 (ID hbase (ID hsz Hb2.out.size)) (fun k hk=>(Hown2.out.lt k hk).1),?_,?_⟩
    ·have h12:=aq Hcell.out (bE (row:=(II A 0 0).ownBlock) Hb2.out)
     refine⟨hg5.os.trans h12.os,hg5.tape.trans h12.tape,hg5.output.trans h12.output,ID h12.size hg5.size,fun k hk hne=>?_⟩;refine (hg5.block k (Nat.lt_of_lt_of_le hk h12.size) ?_).trans (h12.block k hk hne);rw[j9];rcases Hob.out with h|⟨g,h,hg⟩
     ·rw[h];exact hne
     ·rw[h];intro e;injection e with e;omega
    ·rw[←j9 A5 (m2++aC x).length c5]
     rcases hob5 with h|h
     ·rw[h,j9];exact Hob.out
     ·exact .inr ⟨_,h,ID hsz Hb2.out.size⟩
   have Hlen:Hid ((m++aJ (ns.take (j+1))).length=m2.length+(aC x).length):=by show _=_;rw[Hm3.out,IJ]
   clear hown5 hg5 hob5 Hown2 HB2 Hb2 Hob Hcell Hbel Hown;go_roundw
   case rel=>exact⟨j+1,A5,c5,by omega,by go_num,by rw[Hlen.out],Hat2⟩
   case measure=>simp[intOf];omega
  ·have hltI:¬(j:Int)<(ns.length:Int):=by omega
   have hjn:ns.take j=ns:=IG (by omega);obtain⟨h1,h2,h3,_⟩:=hat.out;rw[hjn,IJ] at h1;rw[hjn];have H1:=hid h1;have H2:=hid h2;have H3:=hid h3;clear hjn h1 h2 h3 hat
   go_wp2
   go_ret
   exact⟨A',c',rfl,H1.out,H2.out,H3.out⟩
structure bf where
 vips:List ct
 size:Int
 room:Int
 idle:List Int
 rise:Int
 fall:Int
 mac:List UInt8
 four:cO
 six:cO
 most:Int
 keep:Int
 batch:Int
def iv(n:Int):Value:=.int .i64 n
def eA(f:bf):List Value :=
 iv f.size::iv f.room::(f.idle.map iv++(iv f.rise::iv f.fall::(ab f.mac++(ai f.four++(ai f.six++[iv f.most,iv f.keep,iv f.batch])))))
def am(A:Option Addr)(n c:Nat)(f:bf):List Value:=.slice A n c::eA f
def iT(A:Option Addr)(n c:Nat)(f:bf):Value:=.agg (am A n c f).toArray
structure ao(f:bf):Prop where
 vips:∀v∈f.vips,aS v.1
 idle:f.idle.length=6
 mac:f.mac.length=6
 four:aS f.four
 six:aS f.six
section
variable {A:Option Addr} {n c:Nat} {f:bf}
theorem dD(h:ao f):(am A n c f).length=54:=by
 simp[am,eA,h.idle,ap,h.mac,ar h.four,ar h.six]
theorem AT(h:ao f){k:Nat}(hk:k<6):(am A n c f)[3+k]?=(f.idle[k]?).map iv:=by
 have hi:=h.idle;rw[show 3+k=(k+2)+1 by omega,am,IA,eA,IA,IA,IH (by simp;omega),IS]
theorem iE(h:ao f)(k:Nat):(am A n c f)[9+k]?=(iv f.rise::iv f.fall::(ab f.mac++(ai f.four++(ai f.six++[iv f.most,iv f.keep,iv f.batch]))))[k]?:=by
 have hi:=h.idle;rw[show 9+k=(6+k+2)+1 by omega,am,IA,eA,IA,IA,IE (by simp;omega)];simp[hi]
theorem Df(h:ao f){k:Nat}(hk:k<6):(am A n c f)[11+k]?=(ab f.mac)[k]?:=by
 have:=iE (A:=A) (n:=n) (c:=c) h (k+2);rw[show 11+k=9+(k+2) by omega,this,IA,IA,IH (by rw[ap,h.mac];exact hk)]
theorem n9(h:ao f)(k:Nat):(am A n c f)[17+k]?=(ai f.four++(ai f.six++[iv f.most,iv f.keep,iv f.batch]))[k]?:=by
 have:=iE (A:=A) (n:=n) (c:=c) h (k+8);rw[show 17+k=9+(k+8) by omega,this,show k+8=(k+6+1)+1 by omega,IA,IA,IE (by rw[ap,h.mac];omega),ap,h.mac];simp
theorem AU(h:ao f){k:Nat}(hk:k<17):(am A n c f)[17+k]?=(ai f.four)[k]?:=by
 rw[n9 h,IH (by rw[ar h.four];exact hk)]
theorem Dg(h:ao f){k:Nat}(hk:k<17):(am A n c f)[34+k]?=(ai f.six)[k]?:=by
 have:=n9 (A:=A) (n:=n) (c:=c) h (17+k);rw[show 34+k=17+(17+k) by omega,this,IE (by rw[ar h.four];omega),ar h.four,IH (by rw[ar h.six];omega)];simp
theorem pU(h:ao f)(k:Nat):(am A n c f)[51+k]?=[iv f.most,iv f.keep,iv f.batch][k]?:=by
 have:=n9 (A:=A) (n:=n) (c:=c) h (34+k);rw[show 51+k=17+(34+k) by omega,this,IE (by rw[ar h.four];omega),ar h.four,IE (by rw[ar h.six];omega),ar h.six];simp[show 34+k-17-17=k by omega]
end
section
variable {w:World} {g:Nat} {t:TypeId} {A:Option Addr} {n c:Nat} {f:bf}
theorem i8(hb:aj w g t (am A n c f).toArray):w.cell? ⟨g,0,none⟩=some (.slice A n c):=hb.cell 0
theorem lT(hb:aj w g t (am A n c f).toArray):w.cell? ⟨g,1,none⟩=some (.int .i64 f.size):=hb.cell 1
theorem lU(hb:aj w g t (am A n c f).toArray):w.cell? ⟨g,2,none⟩=some (.int .i64 f.room):=hb.cell 2
theorem jv(hb:aj w g t (am A n c f).toArray)(h:ao f){k:Nat}(hk:k<6):w.cell? ⟨g,3+k,none⟩=(f.idle[k]?).map iv:=by
 rw[hb.cell,Iz,AT h hk]
theorem rz(hb:aj w g t (am A n c f).toArray)(h:ao f):w.rangeAt g 3 (f.idle.map iv):=fun j v hj=>by
 have hi:=h.idle;have hk:j<6:=by have:=(IK.1 hj).1;simp at this;omega
 rw[jv hb h hk,←hj,IS]
theorem lV(hb:aj w g t (am A n c f).toArray)(h:ao f):w.cell? ⟨g,9,none⟩=some (.int .i64 f.rise):=by
 rw[hb.cell,Iz,show 9=9+0 from rfl,iE h];rfl
theorem lW(hb:aj w g t (am A n c f).toArray)(h:ao f):w.cell? ⟨g,10,none⟩=some (.int .i64 f.fall):=by
 rw[hb.cell,Iz,show 10=9+1 from rfl,iE h];rfl
theorem qJ(hb:aj w g t (am A n c f).toArray)(h:ao f):w.rangeAt g 11 (ab f.mac):=fun j v hj=>by
 have hk:j<6:=by have:=(IK.1 hj).1;rw[ap,h.mac] at this;omega
 rw[hb.cell,Iz,Df h hk,hj]
theorem lX(hb:aj w g t (am A n c f).toArray)(h:ao f):w.rangeAt g 17 (ai f.four):=fun j v hj=>by
 have hk:j<17:=by have:=(IK.1 hj).1;rw[ar h.four] at this;omega
 rw[hb.cell,Iz,AU h hk,hj]
theorem rA(hb:aj w g t (am A n c f).toArray)(h:ao f):w.rangeAt g 34 (ai f.six):=fun j v hj=>by
 have hk:j<17:=by have:=(IK.1 hj).1;rw[ar h.six] at this;omega
 rw[hb.cell,Iz,Dg h hk,hj]
theorem vy(hb:aj w g t (am A n c f).toArray)(h:ao f):w.cell? ⟨g,17,none⟩=some (.bool f.four.1):=lX hb h 0 _ rfl
theorem uf(hb:aj w g t (am A n c f).toArray)(h:ao f):w.cell? ⟨g,34,none⟩=some (.bool f.six.1):=rA hb h 0 _ rfl
theorem lY(hb:aj w g t (am A n c f).toArray)(h:ao f):w.cell? ⟨g,51,none⟩=some (.int .i64 f.most):=by
 rw[hb.cell,Iz,show 51=51+0 from rfl,pU h];rfl
theorem lZ(hb:aj w g t (am A n c f).toArray)(h:ao f):w.cell? ⟨g,52,none⟩=some (.int .i64 f.keep):=by
 rw[hb.cell,Iz,show 52=51+1 from rfl,pU h];rfl
theorem ko(hb:aj w g t (am A n c f).toArray)(h:ao f):w.cell? ⟨g,53,none⟩=some (.int .i64 f.batch):=by
 rw[hb.cell,Iz,show 53=51+2 from rfl,pU h];rfl
end
def i6(v:ct):Bool:=de v.1&&(v.2.1==6||v.2.1==17)&&mx v.2.2.1 1 65535
def kp(vs:List ct)(i:Nat):Bool:=match vs[i]? with|some v=>i6 v&&!((vs.take i).any (eT v.1 v.2.1 v.2.2.1))|none=>true
def jG(vs:List ct):Bool:=decide (vs.length≤64)&&(List.range vs.length).all (kp vs)
def mH(l:List Int):Bool:=(l.head?==some 0)&&l.all (fun n=>mx n 0 1000000)
def aQ(f:bf):Bool :=
 mH f.idle&&(jG f.vips&&(mx f.size 2 65537&&(jO f.size.toNat&&(mx f.room 1 4096&&(mx f.rise 1 100&&(mx f.fall 1 100&&(!f.four.1&&(de f.four&&(f.six.1&&(mx f.most 1000 1048576&&(mx f.keep 1 100&&mx f.batch 1 1000)))))))))))
def nO(a b:bf):Bool :=
 a.vips==b.vips&&(a.size==b.size&&(a.room==b.room&&(a.idle==b.idle&&(a.rise==b.rise&&(a.fall==b.fall&&(a.mac==b.mac&&(a.four==b.four&&(a.six==b.six&&(a.most==b.most&&(a.keep==b.keep&&a.batch==b.batch))))))))))
theorem j4{n lo hi:Int}:mx n lo hi=true↔lo≤n∧n≤hi:=by simp[mx]
theorem jc{l:List Int}(h:mH l=true):l.head?=some 0∧∀n∈l,0≤n∧n≤1000000:=by
 unfold mH at h;simp only[Bool.and_eq_true,beq_iff_eq,List.all_eq_true] at h;exact⟨h.1,fun n hn=>j4.1 (h.2 n hn)⟩
theorem jd{vs:List ct}:jG vs=true↔vs.length≤64∧∀i,i<vs.length→kp vs i=true:=by
 simp[jG]
def bC(v:ct):List UInt8:=aW v.1++[I6 v.2.1.toNat,I6 (v.2.2.1.toNat/256),I6 v.2.2.1.toNat,if v.2.2.2 then 1 else 0]
def dd(f:bf):List Nat:=f.size.toNat::f.room.toNat::((f.idle.drop 1).map Int.toNat++[f.rise.toNat,f.fall.toNat])
def dN(f:bf):List Nat:=[f.most.toNat,f.keep.toNat,f.batch.toNat]
def bM(f:bf):List UInt8 :=
 aC f.vips.length++(f.vips.flatMap bC++(aJ (dd f)++(f.mac++(f.four.2.take 4++(f.six.2++aJ (dN f))))))
theorem Cj:qq.eqGuardType qq.depth 108=false:=by kernel_rfl
theorem sd(A:Option Addr)(n c:Nat)(f:bf)(w:World) :
  Calls qq 27 #[iT A n c f] w fun e w'=>e=.returned (.bool (decide (n≤100)))∧Below w.heap.size w w':=by
 unfold iT;obtain⟨W,hW⟩:∃W,W=w.alloc (.cells (am A n c f).toArray 29):=⟨_,rfl⟩;have hX:aj W w.heap.size 29 (am A n c f).toArray:=by rw[hW];exact aj.new w _ _ _ rfl
 have hB:Below w.heap.size w W:=by rw[hW];exact (Below.refl _ _).alloc (IB _) _
 have a0:=i8 hX;have HW:=hid hW;have HB:=hid hB;clear hW hX hB;by_cases hn:n≤100
 ·have hnI:(n:Int)≤100:=by omega
  go_enter Tryz.func27,Tryz.ntmps27
  go_upto_region 1 with fail
  rw[←HW.out]
  go_wp2
  go_ret
  exact⟨by simp[hn],HB.out⟩
 ·have hnI:¬(n:Int)≤100:=by omega
  go_enter Tryz.func27,Tryz.ntmps27
  go_upto_region 1 with fail
  rw[←HW.out]
  go_wp2
  go_ret
  exact⟨by simp[hn],HB.out⟩
