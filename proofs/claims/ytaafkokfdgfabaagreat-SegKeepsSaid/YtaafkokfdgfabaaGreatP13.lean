import Derived.Test.YtaafkokfdgfabaaGreatP6
import Derived.Test.YtaafkokfdgfabaaGreatP8
import Derived.Test.YtaafkokfdgfabaaGreatP10
import Derived.Test.YtaafkokfdgfabaaGreatP12
import Derived.WalkLawsBesides
import Derived.BigQuiet
import Derived.Laws.Externs
import Derived.Deep.RegionHeld3
set_option maxHeartbeats 8000000
set_option maxRecDepth 100000
set_option linter.unusedVariables false
set_option linter.unusedSimpArgs false
open Array renaming all_eq_true_iff_forall_mem→IQ,toList_extract→Ja
open Bool renaming false_eq_true→IP,not_true→IZ,and_assoc→I3,and_eq_true→Jh
open List renaming setIfInBounds_toArray→Iy,getElem_cons_succ→Iz,getElem_cons_zero→IA,getElem_toArray→IB,set_cons_zero→IC,set_cons_succ→ID,getElem?_toArray→IE,getElem?_cons_succ→IF,getElem?_append_right→IJ,getElem?_append_left→IL,getElem?_eq_some_iff→IM,not_mem_nil→IY,take_append_of_le_length→I0,drop_succ_cons→I1,extract_eq_take_drop→I4,mem_cons→I7,take_of_length_le→I8,mem_append→I9,cons_append→Ji,length_take→Jj,drop_zero→Jn
open Nat renaming reduceAdd→IV,add_sub_cancel_left→IW,and_two_pow_sub_one_eq_mod→IX,le_refl→Jm,zero_add→Jr
open Or renaming inl→Jd
namespace Go.Proofs.YtaafkokfdgfabaaGreat
open Go.RowKit
open Lib (hid)
open Act renaming put→IS
open AllReadyH renaming cons→IN,nil→IU
open BS renaming of_own→Jq
open FloatKind renaming f64→Jp
open Ieee renaming double→I5,Datum→Jc
open NoPanic renaming normal→Jb
open Op renaming equalIn→I2
open Result renaming andThen_ok→IK
open Sd renaming plain→Jo,done→Jt
open Sem renaming run_bind→IT,run_pure→Js
open Tryz renaming prog→qq,underlying9→IG,underlying5→IH,underlying43→II,underlying24→IR,underlying56→I6,underlying27→Je,underlying62→Jf,underlying60→Jg,underlying3→Jk,underlying4→Jl
def kC(n:Nat):Bool:=n/4503599627370496%2048==2047&&n%4503599627370496 != 0
def br(n:Nat):Nat:=if kC n then 9221120237041090560 else n
theorem ub(n:Nat)(h:kC n=true):9218868437227405312<n%9223372036854775808:=by
 simp only[kC,Jh,beq_iff_eq,bne_iff_ne] at h;omega
theorem zJ(n:Nat)(h:kC n=false):n%9223372036854775808≤9218868437227405312:=by
 rcases Nat.lt_or_ge 9218868437227405312 (n%9223372036854775808) with hc|hc
 ·have:kC n=true:=by
   simp only[kC,Jh,beq_iff_eq,bne_iff_ne];omega
  rw[this] at h;cases h
 ·exact hc
theorem ru(n:Nat):Jp.format.order n n=if kC n then none else some .eq:=by
 have e1:I5.signWeight=9223372036854775808:=by decide
 have e2:I5.binade=4503599627370496:=by decide
 have e3:I5.infRung=9218868437227405312:=by decide
 show (I5.read n).order (I5.read n)=_
 unfold Ieee.Format.read;simp only[e1,e2,e3];rcases h:kC n with _|_
 ·have:=zJ n h
  simp only[IP,if_false];split
  ·simp[Jc.order]
  ·split
   ·simp[Jc.order]
   ·rw[if_pos (by omega)]
    simp[Jc.order]
 ·have:=ub n h
  rw[if_neg (by omega),if_neg (by omega),if_neg (by omega)];simp[Jc.order]
theorem CU(n:Nat):(Jp.format.order n n != some .eq)=kC n:=by
 rw[ru];cases kC n<;>rfl
theorem mG{n:Nat}(h:n<18446744073709551616):br n<18446744073709551616:=by unfold br;split<;>omega
theorem fz(n:Nat):br (br n)=br n:=by
 unfold br;rcases h:kC n with _|_
 ·simp[h]
 ·simp only[if_true]
  rw[if_pos (by decide)]
theorem kH(n:Nat)(w:World):(callFunc 145 #[.float .f64 n]).run qq w=.ok (.value (.int .u64 (n:Int))) w:=by
 rw[run_callFunc_extern Tryz.func145 (by kernel_rfl) (by kernel_rfl) (by kernel_rfl) (e:=Extern.MathFloatBits.float64bits) (by kernel_rfl)];rfl
theorem vq(n:Nat)(w:World):(callFunc 194 #[.int .u64 (n:Int)]).run qq w=.ok (.value (.float .f64 n)) w:=by
 rw[run_callFunc_extern Tryz.func194 (by kernel_rfl) (by kernel_rfl) (by kernel_rfl) (e:=Extern.MathFloatBits.float64frombits) (by kernel_rfl)];rfl
theorem AQ(n:Nat)(w:World):Calls qq 195 #[.float .f64 n] w fun e w'=>e=.returned (.bool (kC n))∧w=w':=by
 have h:=CU n;go_enter Tryz.func195,Tryz.ntmps195
 go_wp2
 go_ret
 exact⟨by rfl,rfl⟩
theorem mY(n:Nat)(w:World):Calls qq 184 #[.float .f64 n] w fun e w'=>e=.returned (.int .u64 (br n:Int))∧w=w':=by
 have h:=kH n w;go_enter Tryz.func184,Tryz.ntmps184
 go_wp2_with fail
 refine (AQ n w).mono ?_;rintro e w2 ⟨rfl,rfl⟩;rcases hn:kC n with _|_
 ·go_wp2
  go_ret
  exact⟨by unfold br;rw[hn];rfl,rfl⟩
 ·go_wp2
  go_ret
  exact⟨by unfold br;rw[hn];rfl,rfl⟩
theorem lj(a b:Nat)(w:World):Calls qq 165 #[.float .f64 a,.float .f64 b] w fun e w'=>e=.returned (.bool (br a==br b))∧w=w':=by
 go_enter Tryz.func165,Tryz.ntmps165
 go_wp2_with fail
 refine (mY a w).mono ?_;rintro e w2 ⟨rfl,rfl⟩
 go_wp2_with fail
 refine (mY b w).mono ?_;rintro e w2 ⟨rfl,rfl⟩;have h:((br a:Int)==(br b:Int))=(br a==br b):=by
  by_cases h:br a=br b
  ·rw[h];simp
  ·rw[beq_eq_false_iff_ne.2 h,beq_eq_false_iff_ne.2 (by omega)]
 go_wp2
 go_ret
 exact⟨by rfl,rfl⟩
def dK(n:Nat):List UInt8:=bY 8 (br n) true
theorem eR(n:Nat):(dK n).length=8:=az _ _ _
theorem vr(n:Nat)(w:World)(hn:n<18446744073709551616):Calls qq 161 #[.float .f64 n] w fun e w'=>∃A c,e=.returned (.slice A 8 c)∧w'.ownsRow w.heap.size 5 1 (.slice A 8 c) 8 (ab (dK n))∧Below w.heap.size w w':=by
 have hP:=lc true (br n) 8 w (mG hn);rw[show dw 8=8 from rfl,show (bY 8 (br n) true).length=8 from az _ _ _] at hP;have HP:=hid hP;clear hP;go_enter Tryz.func161,Tryz.ntmps161
 go_wp2_with fail
 refine (mY n w).mono ?_;rintro e w2 ⟨rfl,rfl⟩
 go_wp2_with fail
 refine HP.out.mono ?_;rintro e w2 ⟨A,c,rfl,hown,hb⟩
 go_wp2
 go_ret
 exact⟨A,c,rfl,hown,hb⟩
def kI(l:List UInt8):Nat×Bool:=if l.length=8∧br (pG l)=pG l then (pG l,true) else (0,false)
theorem CV(A:Option Addr)(n c:Nat)(l:List UInt8)(w:World)(hn:n=l.length)(hb:BS w w.heap.size A l)(hl:n≤8)(hc:n≤c) :
  Calls qq 183 #[.slice A n c] w fun e w'=>e=.returned (.tuple #[.float .f64 (kI l).1,.bool (kI l).2])∧Below w.heap.size w w':=by
 subst hn;have Hg:=hid (oO A _ c l w rfl hb hl hc);obtain⟨m,hm⟩:∃m,m=pG l:=⟨_,rfl⟩;have hw:kI l=if l.length=8∧br m=m then (m,true) else (0,false):=by rw[hm];rfl
 rw[←hm] at Hg;have Hw:=hid hw;clear hm hb hw;obtain⟨nl,hnl⟩:∃n,n=l.length:=⟨_,rfl⟩;rw[←hnl] at Hw Hg hl hc ⊢;clear hnl;go_enter Tryz.func183,Tryz.ntmps183
 go_wp2_with fail
 refine Hg.out.mono ?_;rintro e w2 ⟨rfl,hb2⟩;have Hb2:=hid hb2;have hf:=vq m w2;clear hb2 Hg;go_upto_region 3 with fail
 by_cases h8:nl=8
 ·subst h8
  go_wp2_with fail
  refine (mY m w2).mono ?_;rintro e w3 ⟨rfl,rfl⟩;by_cases hm:br m=m
  ·have hmI:((br m:Int) != (m:Int))=false:=by rw[hm];simp
   have Hm:=hid hm;clear hm
   go_wp2
   go_ret2
   have hfin:kI l=(m,true):=Hw.out.trans (by simp[Hm.out]);exact⟨by rw[hfin];rfl,Hb2.out⟩
  ·have hmI:((br m:Int) != (m:Int))=true:=by simp;omega
   have Hm:=hid hm;clear hm
   go_wp2
   go_ret2
   have hfin:kI l=(0,false):=Hw.out.trans (if_neg (fun h=>Hm.out h.2));exact⟨by rw[hfin];rfl,Hb2.out⟩
 ·have h8I:((nl:Int) != 8)=true:=by simp;omega
  have H8:=hid h8;clear h8
  go_wp2
  go_ret2
  have hfin:kI l=(0,false):=Hw.out.trans (if_neg (fun h=>H8.out h.1));exact⟨by rw[hfin];rfl,Hb2.out⟩
theorem CW(n:Nat)(hn:n<18446744073709551616):bits BinOp.and IntKind.u64 (n:Int) 4503599627370495=((n%4503599627370496:Nat):Int):=by
 have h:=bits_and_u64_nat n 4503599627370495 (by omega) (by omega);rw[show (4503599627370495:Nat)=2^52-1 by decide,IX] at h;exact h
theorem CZ(n:Nat)(hn:n<18446744073709551616):bits BinOp.and IntKind.u64 (n:Int) 2047=((n%2048:Nat):Int):=by
 have h:=bits_and_u64_nat n 2047 (by omega) (by omega);rw[show (2047:Nat)=2^11-1 by decide,IX] at h;exact h
theorem AR(n:Nat)(hn:n<18446744073709551616)(w:World):Calls qq 180 #[.float .f64 n] w fun e w'=>∃s:Bool,e=.returned (.tuple #[.bool s,.int .i64 ((n/4503599627370496%2048:Nat):Int),.int .u64 ((n%4503599627370496:Nat):Int)])∧w=w':=by
 have hf:=kH n w;have h1:=CW n hn;have h2:=CZ (n/4503599627370496) (by omega);rw[show ((n/4503599627370496:Nat):Int)=(n:Int)/4503599627370496 by omega] at h2;go_enter Tryz.func180,Tryz.ntmps180
 go_wp2
 go_ret3
 exact⟨_,rfl,rfl⟩
theorem rv(n:Nat)(hn:n<18446744073709551616)(w:World):Calls qq 144 #[.float .f64 n] w fun e w'=>e=.returned (.bool (kC n))∧w=w':=by
 have Hp:=hid (AR n hn w);obtain⟨a,ha⟩:∃a,a=n/4503599627370496%2048:=⟨_,rfl⟩;obtain⟨b,hb⟩:∃b,b=n%4503599627370496:=⟨_,rfl⟩;have hx:kC n=(a==2047&&b != 0):=by rw[ha,hb];rfl
 rw[←ha,←hb] at Hp;rw[hx];clear ha hb hx;go_enter Tryz.func144,Tryz.ntmps144
 go_wp2_with fail
 refine Hp.out.mono ?_;rintro e w2 ⟨s,rfl,rfl⟩;have h1:((a:Int)==2047)=(a==2047):=by
  by_cases h:a=2047
  ·subst h;rfl
  ·rw[beq_eq_false_iff_ne.2 h,beq_eq_false_iff_ne.2 (by omega)]
 have h2:((b:Int) != 0)=(b != 0):=by
  by_cases h:b=0
  ·subst h;rfl
  ·rw[bne_iff_ne.2 h,bne_iff_ne.2 (by omega)]
 rcases h3:(a==2047) with _|_
 ·rw[h3] at h1
  have h4:¬(a:Int)=2047:=by simpa using h1
  go_wp2
  go_ret
  exact⟨by rw[h3];rfl,rfl⟩
 ·rw[h3] at h1
  have h4:a=2047:=by simpa using h3
  subst h4
  go_wp2
  go_ret
  exact⟨by simp[h2],rfl⟩
theorem C0:bY 8 9221120237041090560 true=[127,248,0,0,0,0,0,0]:=by decide +kernel
theorem kJ(n:Nat)(w:World)(hn:n<18446744073709551616):Calls qq 79 #[.float .f64 n] w fun e w'=>∃A c,e=.returned (.slice A 8 c)∧w'.ownsRow w.heap.size 5 1 (.slice A 8 c) 8 (ab (dK n))∧Below w.heap.size w w':=by
 rcases hx:kC n with _|_
 ·have hP:=vo true n 8 w hn
  have hw:dK n=bY 8 n true:=by unfold dK br;rw[hx];rfl
  rw[show dw 8=8 from rfl,←hw,eR] at hP;have HP:=hid hP;have Hn:=hid (rv n hn w);rw[hx] at Hn;have hf:=kH n w;clear hP hw hx;go_enter Tryz.func79,Tryz.ntmps79
  go_wp2_with fail
  refine Hn.out.mono ?_;rintro e w2 ⟨rfl,rfl⟩
  go_wp2_with fail
  refine HP.out.mono ?_;rintro e w2 ⟨A,c,rfl,hown,hb⟩
  go_wp2
  go_ret
  exact⟨A,c,rfl,hown,hb⟩
 ·have hw:dK n=[127,248,0,0,0,0,0,0]:=by unfold dK br;rw[hx];exact C0
  have Hw:=hid hw;have Hn:=hid (rv n hn w);rw[hx] at Hn;clear hw hx;go_enter Tryz.func79,Tryz.ntmps79
  go_wp2_with fail
  refine Hn.out.mono ?_;rintro e w2 ⟨rfl,rfl⟩
  go_wp2
  go_ret
  refine⟨_,_,rfl,?_,(Below.refl _ _).alloc (Jm _) _⟩;rw[Hw.out];exact World.ownsRow_lit w _ 8 (Jm _) (by unfold maxLen;omega) (by simp)
theorem C1{a b:Nat}(ha:a<18446744073709551616)(hb:b<18446744073709551616)(h:bY 8 a true=bY 8 b true):a=b:=by
 have h2:i7 8 a=i7 8 b:=by
  have:=congrArg List.reverse h;simpa[bY] using this
 have e:=congrArg pF h2;rw[j0 8 a (by omega),j0 8 b (by omega)] at e;exact e
theorem C2{a b:Nat}(ha:a<18446744073709551616)(hb:b<18446744073709551616):(dK a==dK b)=(br a==br b):=by
 by_cases h:br a=br b
 ·rw[show dK a=dK b by unfold dK;rw[h],h];simp
 ·have hne:dK a≠dK b:=fun e=>h (C1 (mG ha) (mG hb) e)
  rw[beq_eq_false_iff_ne.2 h];exact beq_eq_false_iff_ne.2 hne
def zv(n:Int):Value:=.int .i64 n
def sv(l:List UInt8):Value:=.string ⟨l.toArray⟩
structure aU where
 name:List UInt8
 addr:cO
 port:Int
 mac:List UInt8
 wt:Nat
 drain:Bool
structure ca where
 kind:Int
 frame:List UInt8
 op:Int
 back:aU
 oname:List UInt8
 owt:Nat
 name:List UInt8
 well:Bool
structure sJ where
 err:Int
 reason:Int
 hit:Bool
 version:Int
 name:List UInt8
 out:List UInt8
structure dI where
 act:ca
 o:sJ
 len:Int
 sum:Nat
def dU:aU:={ name:=[],addr:=dy,port:=0,mac:=List.replicate 6 0,wt:=0,drain:=false }
def cL:ca:={ kind:=0,frame:=[],op:=0,back:=dU,oname:=[],owt:=0,name:=[],well:=false }
def qz:sJ:={ err:=0,reason:=0,hit:=false,version:=0,name:=[],out:=[] }
def mZ:dI:={ act:=cL,o:=qz,len:=0,sum:=0 }
structure au(b:aU):Prop where
 addr:aS b.addr
 mac:b.mac.length=6
 wt:b.wt<18446744073709551616
structure aA(a:ca):Prop where
 back:au a.back
 owt:a.owt<18446744073709551616
structure aP(e:dI):Prop where
 act:aA e.act
 sum:e.sum<4294967296
theorem aE:au dU:=⟨rfl,rfl,by decide⟩
theorem bZ:aA cL:=⟨aE,by decide⟩
theorem fJ:aP mZ:=⟨bZ,by decide⟩
def ah(b:aU):List Value:=sv b.name::(ai b.addr++(zv b.port::(ab b.mac++[.float .f64 b.wt,.bool b.drain])))
def ak(A:Option Addr)(n c:Nat)(a:ca):List Value:=zv a.kind :: .slice A n c::zv a.op::(ah a.back++[sv a.oname,.float .f64 a.owt,sv a.name,.bool a.well])
def cD(A:Option Addr)(n c:Nat)(o:sJ):List Value:=[zv o.err,zv o.reason,.bool o.hit,zv o.version,sv o.name,.slice A n c]
def bh(A:Option Addr)(n c:Nat)(A':Option Addr)(n' c':Nat)(e:dI):List Value:=ak A n c e.act++(cD A' n' c' e.o++[zv e.len,.int .u32 (e.sum:Int)])
theorem bu{b:aU}(h:au b):(ah b).length=27:=by
 have h1:=ar h.addr;have h2:=h.mac;simp[ah,h1,ap,h2]
theorem aX{A:Option Addr}{n c:Nat}{a:ca}(h:aA a):(ak A n c a).length=34:=by
 have:=bu h.back;simp[ak,this]
theorem EZ{A:Option Addr}{n c:Nat}{o:sJ}:(cD A n c o).length=6:=rfl
theorem km{A A':Option Addr}{n c n' c':Nat}{e:dI}(h:aP e):(bh A n c A' n' c' e).length=42:=by
 have:=aX (A:=A) (n:=n) (c:=c) h.act;simp[bh,this,EZ]
section
variable {b:aU}
theorem pR(h:au b){k:Nat}(hk:k<17):(ah b)[1+k]?=(ai b.addr)[k]?:=by
 rw[show 1+k=k+1 by omega,ah,IF,IL (by rw[ar h.addr];exact hk)]
theorem qH(h:au b)(k:Nat):(ah b)[18+k]?=(zv b.port::(ab b.mac++[.float .f64 b.wt,.bool b.drain]))[k]?:=by
 rw[show 18+k=(17+k)+1 by omega,ah,IF,IJ (by rw[ar h.addr];omega),ar h.addr,IW]
theorem vu(h:au b){k:Nat}(hk:k<6):(ah b)[19+k]?=(ab b.mac)[k]?:=by
 have:=qH h (k+1);rw[show 19+k=18+(k+1) by omega,this,IF,IL (by rw[ap,h.mac];exact hk)]
theorem qI(h:au b)(k:Nat):(ah b)[25+k]?=[Value.float .f64 b.wt,.bool b.drain][k]?:=by
 have:=qH h (k+7);rw[show 25+k=18+(k+7) by omega,this,show k+7=(k+6)+1 by omega,IF,IJ (by rw[ap,h.mac];omega),ap,h.mac];simp
end
section
variable {A:Option Addr} {n c:Nat} {a:ca}
theorem C3(h:aA a){k:Nat}(hk:k<27):(ak A n c a)[3+k]?=(ah a.back)[k]?:=by
 rw[show 3+k=(k+2)+1 by omega,ak,IF,IF,IF,IL (by rw[bu h.back];exact hk)]
theorem Gn(h:aA a)(k:Nat):(ak A n c a)[30+k]?=[sv a.oname,.float .f64 a.owt,sv a.name,.bool a.well][k]?:=by
 rw[show 30+k=(27+k+2)+1 by omega,ak,IF,IF,IF,IJ (by rw[bu h.back];omega),bu h.back,IW]
end
section
variable {A A':Option Addr} {n c n' c':Nat} {e:dI}
theorem Gp(h:aP e){k:Nat}(hk:k<34):(bh A n c A' n' c' e)[k]?=(ak A n c e.act)[k]?:=by
 rw[bh,IL (by rw[aX h.act];exact hk)]
theorem G2(h:aP e)(k:Nat):(bh A n c A' n' c' e)[34+k]?=[zv e.o.err,zv e.o.reason,.bool e.o.hit,zv e.o.version,sv e.o.name,.slice A' n' c',zv e.len,.int .u32 (e.sum:Int)][k]?:=by
 rw[bh,IJ (by rw[aX h.act];omega),aX h.act,IW];rfl
end
def bz(a b:aU):Bool:=a.name==b.name&&(a.addr==b.addr&&(a.port==b.port&&(a.mac==b.mac&&(br a.wt==br b.wt&&a.drain==b.drain))))
def aV(a b:ca):Bool:=a.kind==b.kind&&(a.frame==b.frame&&(a.op==b.op&&(a.oname==b.oname&&(br a.owt==br b.owt&&(bz a.back b.back&&(a.name==b.name&&a.well==b.well))))))
def ip(a b:dI):Bool:=aV a.act b.act&&(a.o.err==b.o.err&&(a.o.reason==b.o.reason&&(a.o.hit==b.o.hit&&(a.o.version==b.o.version&&(a.o.name==b.o.name&&(a.o.out==b.o.out&&(a.len==b.len&&a.sum==b.sum)))))))
def bX(a:ca):ca :=
 if a.kind=1 then { cL with kind:=a.kind,frame:=a.frame }
 else if a.kind=2 then
  (if a.op=1 then { cL with kind:=a.kind,op:=a.op,back:=a.back }
   else if a.op=3 then { cL with kind:=a.kind,op:=a.op,oname:=a.oname,owt:=a.owt }
   else { cL with kind:=a.kind,op:=a.op,oname:=a.oname })
 else if a.kind=3 then { cL with kind:=a.kind,name:=a.name,well:=a.well }
 else { cL with kind:=a.kind }
theorem xX{a:ca}(h:aA a):aA (bX a):=by
 have h0:(0:Nat)<18446744073709551616:=by decide
 unfold bX;split
 ·exact⟨aE,h0⟩
 ·split
  ·split
   ·exact⟨h.back,h0⟩
   ·split
    ·exact⟨aE,h.owt⟩
    ·exact⟨aE,h0⟩
  ·split
   ·exact⟨aE,h0⟩
   ·exact⟨aE,h0⟩
def dh(n lo hi:Int):Bool:=decide (lo≤n)&&decide (n≤hi)
theorem bF{n lo hi:Int}:dh n lo hi=true↔lo≤n∧n≤hi:=by simp[dh]
def dM(b:aU):Bool:=decide (b.name.length≤255)&&dh b.port 0 65535
def bj(a:ca):Bool:=dh a.kind 1 4&&((a.kind != 2||dh a.op 1 5)&&(aV a (bX a)&&(decide (a.frame.length≤131072)&&(decide (a.oname.length≤255)&&(decide (a.name.length≤255)&&dM a.back)))))
def aG(e:dI):Bool:=bj e.act&&(dh e.o.err 0 9&&(dh e.o.reason 0 10&&(dh e.o.version 0 1099511627776&&(decide (e.o.name.length≤255)&&(decide (e.o.out.length=0)&&dh e.len 0 262144)))))
theorem pS:(qq.info? 56).map (·.size)=some 27:=by kernel_rfl
theorem C4:(qq.info? 60).map (·.size)=some 34:=by kernel_rfl
theorem C5:(qq.info? 62).map (·.size)=some 6:=by kernel_rfl
theorem E8:(qq.info? 65).map (·.size)=some 42:=by kernel_rfl
theorem cM{b:aU}(h:au b):(qq.info? 56).map (·.size)=some (ah b).length:=by rw[bu h];exact pS
theorem bv{A:Option Addr}{n c:Nat}{a:ca}(h:aA a):(qq.info? 60).map (·.size)=some (ak A n c a).length:=by rw[aX h];exact C4
theorem jN{A:Option Addr}{n c:Nat}{o:sJ}:(qq.info? 62).map (·.size)=some (cD A n c o).length:=C5
theorem ll{A A':Option Addr}{n c n' c':Nat}{e:dI}(h:aP e):(qq.info? 65).map (·.size)=some (bh A n c A' n' c' e).length:=by rw[km h];exact E8
theorem eS(b:aU):(ah b).toArray.all (·.oneCell')=true:=all_oneCell_toArray (by
 intro u hu;simp only[ah,ai,I7,I9,Ji,IY,or_false] at hu;rcases hu with rfl|rfl|hu|rfl|hu|rfl|rfl
 all_goals first|rfl|exact eP _ u hu)
theorem eW(A:Option Addr)(n c:Nat)(a:ca):(ak A n c a).toArray.all (·.oneCell')=true:=all_oneCell_toArray (by
 intro u hu;simp only[ak,I7,I9,IY,or_false] at hu;rcases hu with rfl|rfl|rfl|hu|rfl|rfl|rfl|rfl
 all_goals first|rfl|exact IQ.1 (eS a.back) u (by simpa using hu))
theorem lP(A:Option Addr)(n c:Nat)(o:sJ):(cD A n c o).toArray.all (·.oneCell')=true:=all_oneCell_toArray (by
 intro u hu;simp only[cD,I7,IY,or_false] at hu;rcases hu with rfl|rfl|rfl|rfl|rfl|rfl
 all_goals rfl)
theorem pT(A:Option Addr)(n c:Nat)(A':Option Addr)(n' c':Nat)(e:dI):(bh A n c A' n' c' e).toArray.all (·.oneCell')=true:=all_oneCell_toArray (by
 intro u hu;simp only[bh,I7,I9,IY,or_false] at hu;rcases hu with hu|hu|rfl|rfl
 ·exact IQ.1 (eW A n c e.act) u (by simpa using hu)
 ·exact IQ.1 (lP A' n' c' e.o) u (by simpa using hu)
 ·rfl
 ·rfl)
theorem gU:(ah dU).toArray=(#[.string ⟨#[]⟩,.bool false,.int .u8 0,.int .u8 0,.int .u8 0,.int .u8 0,.int .u8 0,.int .u8 0,.int .u8 0,.int .u8 0,.int .u8 0,.int .u8 0,.int .u8 0,.int .u8 0,.int .u8 0,.int .u8 0,.int .u8 0,.int .u8 0,.int .i64 0,.int .u8 0,.int .u8 0,.int .u8 0,.int .u8 0,.int .u8 0,.int .u8 0,.float .f64 0,.bool false]:Array Value):=rfl
theorem lp:(ak none 0 0 cL).toArray=(#[.int .i64 0,.slice none 0 0,.int .i64 0,.string ⟨#[]⟩,.bool false,.int .u8 0,.int .u8 0,.int .u8 0,.int .u8 0,.int .u8 0,.int .u8 0,.int .u8 0,.int .u8 0,.int .u8 0,.int .u8 0,.int .u8 0,.int .u8 0,.int .u8 0,.int .u8 0,.int .u8 0,.int .u8 0,.int .i64 0,.int .u8 0,.int .u8 0,.int .u8 0,.int .u8 0,.int .u8 0,.int .u8 0,.float .f64 0,.bool false,.string ⟨#[]⟩,.float .f64 0,.string ⟨#[]⟩,.bool false]:Array Value):=rfl
def RW{α:Type}(cs:α→List Value)(sz:Nat)(w:World)(B:Nat)(A:Option Addr)(l:List α):Prop :=
 0<l.length→∃b o,A=some ⟨b,o,none⟩∧b<B∧∀j v,l[j]?=some v→w.rangeAt b (o+j*sz) (cs v)
section
variable {α:Type} {cs:α→List Value} {sz:Nat} {w w':World} {B B':Nat} {A:Option Addr} {l:List α}
theorem RW.keep(h:RW cs sz w B A l)(hk:∀p:Addr,p.block<B→w'.cell? p=w.cell? p):RW cs sz w' B A l:=fun hn=>by
 obtain⟨b,o,e,hb,hc⟩:=h hn;exact⟨b,o,e,hb,fun j v hj i c hi=>(hk ⟨b,_,none⟩ hb).trans (hc j v hj i c hi)⟩
theorem RW.more(h:RW cs sz w B A l)(hB:B≤B'):RW cs sz w B' A l:=fun hn=>by
 obtain⟨b,o,e,hb,hc⟩:=h hn;exact⟨b,o,e,by omega,hc⟩
theorem RW.below(h:RW cs sz w B A l)(hb:Below B w w'):RW cs sz w' B A l:=h.keep fun _ hp=>hb.cell hp
theorem RW.take(h:RW cs sz w B A l)(k:Nat):RW cs sz w B A (l.take k):=fun hn=>by
 obtain⟨b,o,e,hb,hc⟩:=h (by rw[Jj] at hn;omega);refine⟨b,o,e,hb,fun j v hj=>hc j v ?_⟩;rw[List.getElem?_take] at hj;split at hj
 ·exact hj
 ·cases hj
theorem RW.nil(w:World)(B:Nat)(A:Option Addr):RW cs sz w B A []:=fun hn=>by simp at hn
theorem RW.at_(h:RW cs sz w B A l){k:Nat}(hk:k<l.length):∃b o,A=some ⟨b,o,none⟩∧b<B∧w.rangeAt b (o+k*sz) (cs l[k]):=by
 obtain⟨b,o,e,hb,hc⟩:=h (by omega);exact⟨b,o,e,hb,hc k _ (List.getElem?_eq_getElem hk)⟩
end
def fT{α:Type}(cs:α→List Value)(l:List α):List Value:=l.flatMap cs
section
variable {α:Type} {cs:α→List Value} {sz:Nat} {P:α→Prop}
theorem Dh(hsz:∀v,P v→(cs v).length=sz){l:List α}(h:∀v∈l,P v){j:Nat}{v:α}(hj:l[j]?=some v){i:Nat}{u:Value}(hi:(cs v)[i]?=some u):(fT cs l)[j*sz+i]?=some u:=by
 induction l generalizing j with
 |nil=>simp at hj
 |cons x xs ih =>
  have hx:=hsz x (h x (by simp));rw[fT,List.flatMap_cons];rcases j with _|j
  ·simp only[List.getElem?_cons_zero,Option.some.injEq] at hj
   subst hj;rw[Nat.zero_mul,Jr,IL (IM.1 hi).1];exact hi
  ·rw[IF] at hj
   have:=ih (fun u hu=>h u (by simp[hu])) hj;have he:(j+1)*sz+i-sz=j*sz+i:=by rw[Nat.add_mul,Nat.one_mul];omega
   rw[IJ (by rw[hx,Nat.add_mul,Nat.one_mul];omega),hx,he];exact this
end
structure dq where
 name:List UInt8
 down:Bool
 run:Int
structure fL where
 src:cO
 dst:cO
 proto:Int
 sport:Int
 dport:Int
structure dE where
 key:fL
 name:List UInt8
 state:Int
 seen:Int
 no:Int
structure my where
 version:Int
 backs:List aU
structure bA where
 pool:my
 healths:List dq
 flows:List dE
 tick:Int
 no:Int
 count:List Int
structure cy(t:fL):Prop where
 src:aS t.src
 dst:aS t.dst
structure iU(s:bA):Prop where
 backs:∀b∈s.pool.backs,au b
 flows:∀f∈s.flows,cy f.key
 count:s.count.length=11
def aF(h:dq):List Value:=[sv h.name,.bool h.down,zv h.run]
def aM(t:fL):List Value:=ai t.src++(ai t.dst++[zv t.proto,zv t.sport,zv t.dport])
def aw(f:dE):List Value:=aM f.key++[sv f.name,zv f.state,zv f.seen,zv f.no]
def fM(A:Option Addr)(n c:Nat)(p:my):List Value:=[zv p.version,.slice A n c]
structure nJ where
 b:Option Addr
 cb:Nat
 h:Option Addr
 ch:Nat
 f:Option Addr
 cf:Nat
def cU(x:nJ)(s:bA):List Value :=
 zv s.pool.version :: .slice x.b s.pool.backs.length x.cb :: .slice x.h s.healths.length x.ch :: .slice x.f s.flows.length x.cf::zv s.tick::zv s.no::s.count.map zv
theorem fX{t:fL}(h:cy t):(aM t).length=37:=by
 have h1:=ar h.src;have h2:=ar h.dst;simp[aM,h1,h2]
theorem ib{f:dE}(h:cy f.key):(aw f).length=41:=by
 have:=fX h;simp[aw,this]
theorem l8{x:nJ}{s:bA}(h:iU s):(cU x s).length=17:=by
 simp[cU,h.count]
structure ma(w:World)(B:Nat)(x:nJ)(s:bA):Prop where
 backs:RW ah 27 w B x.b s.pool.backs
 healths:RW aF 3 w B x.h s.healths
 flows:RW aw 41 w B x.f s.flows
section
variable {w w':World} {B B':Nat} {x:nJ} {s:bA}
theorem ma.below(h:ma w B x s)(hb:Below B w w'):ma w' B x s:=⟨h.backs.below hb,h.healths.below hb,h.flows.below hb⟩
theorem ma.more(h:ma w B x s)(hB:B≤B'):ma w B' x s:=⟨h.backs.more hB,h.healths.more hB,h.flows.more hB⟩
end
structure md(w:World)(B:Nat)(x:nJ)(s:bA):Prop where
 held:ma w B x s
 ok:iU s
 cb:s.pool.backs.length≤x.cb∧s.pool.backs.length≤1000000
 ch:s.healths.length≤x.ch∧s.healths.length≤1000000
 cf:s.flows.length≤x.cf∧s.flows.length≤1000000
 nb:∀b∈s.pool.backs,b.name.length≤1000000000
 nh:∀h∈s.healths,h.name.length≤1000000000
 nf:∀f∈s.flows,f.name.length≤1000000000
theorem md.below{w w':World}{B:Nat}{x:nJ}{s:bA}(h:md w B x s)(hb:Below B w w'):md w' B x s:={ h with held:=h.held.below hb }
theorem md.more{w:World}{B B':Nat}{x:nJ}{s:bA}(h:md w B x s)(hB:B≤B'):md w B' x s:={ h with held:=h.held.more hB }
theorem md.on{w w':World}{x:nJ}{s:bA}(h:md w w.heap.size x s)(hb:Below w.heap.size w w'):md w' w'.heap.size x s:=(h.below hb).more hb.size
theorem bL:qq.underlying 56=some (.struct (qq.fieldsOf 56)):=by kernel_rfl
theorem AV:qq.stoodInHeld 56=false:=by kernel_rfl
theorem yg:qq.eqGuardType qq.depth 56=false:=by kernel_rfl
theorem ug(w:World):(sizeOf 27).run qq w=.ok 17 w:=by
 obtain⟨i,hi⟩:=info_of_underlying Je;rw[run_sizeOf w hi,show qq.cellsOf 27=17 by kernel_rfl]
theorem AW(w:World):(sizeOf 24).run qq w=.ok 6 w:=by
 obtain⟨i,hi⟩:=info_of_underlying IR;rw[run_sizeOf w hi,show qq.cellsOf 24=6 by kernel_rfl]
theorem Fa(b:aU)(w:World):(part 9 (ah b).toArray 0).run qq w=.ok (sv b.name) w:=by
 simp[part,isAgg,run_underlying IG,ah]
theorem zK(b:aU)(h:au b)(w:World):(part 27 (ah b).toArray 1).run qq w=.ok (.agg (ai b.addr).toArray) w:=by
 have e:(ah b).toArray.extract 1 18=(ai b.addr).toArray:=by
  apply Array.ext'
  simp only[Ja,I4,ah,I1,Jn];rw[I0 (by rw[ar h.addr];decide),I8 (by rw[ar h.addr];decide)]
 simp only[part,isAgg,IT,run_underlying Je,IK,Js,ug,if_true,IV,e]
theorem zL(b:aU)(h:au b)(w:World):(part 3 (ah b).toArray 18).run qq w=.ok (zv b.port) w:=by
 have e:(ah b).toArray[18]?=some (zv b.port):=by rw[IE];exact qH h 0
 simp[part,isAgg,run_underlying Jk,e]
theorem zM(b:aU)(h:au b)(w:World):(part 24 (ah b).toArray 19).run qq w=.ok (.agg (b.mac.map Extern.Stop.cell).toArray) w:=by
 have h2:ab b.mac=b.mac.map Extern.Stop.cell:=rfl;have hd:(ah b).drop 19=ab b.mac++[.float .f64 b.wt,.bool b.drain]:=by
  rw[ah,show 19=18+1 from rfl,I1,show 18=17+1 from rfl,←List.drop_drop,List.drop_left' (ar h.addr),I1,Jn]
 have e:(ah b).toArray.extract 19 25=(ab b.mac).toArray:=by
  apply Array.ext'
  simp only[Ja,I4];rw[hd,I0 (by rw[ap,h.mac];decide),I8 (by rw[ap,h.mac];decide)]
 simp only[part,isAgg,IT,run_underlying IR,IK,Js,AW,if_true,IV,e,h2]
theorem zN(b:aU)(h:au b)(w:World):(part 54 (ah b).toArray 25).run qq w=.ok (.float .f64 b.wt) w:=by
 have e:(ah b).toArray[25]?=some (.float .f64 b.wt):=by rw[IE];exact qI h 0
 simp[part,isAgg,run_underlying Tryz.underlying54,e]
theorem zO(b:aU)(h:au b)(w:World):(part 4 (ah b).toArray 26).run qq w=.ok (.bool b.drain) w:=by
 have e:(ah b).toArray[26]?=some (.bool b.drain):=by rw[IE];exact qI h 1
 simp[part,isAgg,run_underlying Jl,e]
theorem oa(d:Nat)(t:TypeId)(h:qq.underlying t=some (.float .f64))(w:World):(I2 (d+1) t (.float .f64 0) (.float .f64 0)).run qq w=.ok true w:=by
 have:=ru 0;simp[I2,run_underlying h,Op.floatEq]
 try (rw[this];rfl)
theorem AX(d:Nat)(a b:aU)(ha:au a)(hb:au b)(h0:a.wt=0)(h1:b.wt=0)(w:World) :
  (I2 (d+4) 56 (.agg (ah a).toArray) (.agg (ah b).toArray)).run qq w=.ok (a.name==b.name&&(a.addr==b.addr&&(a.port==b.port&&(a.mac==b.mac&&a.drain==b.drain)))) w:=by
 have e0:∀w,(I2 (d+3) 9 (sv a.name) (sv b.name)).run qq w=.ok (a.name==b.name) w:=fun w=>by
  have:=run_equalIn_string (P:=qq) w (d+2) 9 ⟨a.name.toArray⟩ ⟨b.name.toArray⟩ IG;rw[ByteArray.toList_eq,ByteArray.toList_eq] at this;simpa[sv] using this
 have e1:=fun w=>gT d a.addr b.addr ha.addr hb.addr w
 have e2:=fun w=>run_equalIn_int (P:=qq) w (d+2) 3 .i64 .i64 a.port b.port Jk
 have e3:=fun w=>run_equalIn_bytes (P:=qq) w (d+1) 24 5 6 IR IH oR a.mac b.mac ha.mac hb.mac
 have e4:=fun w=>oa (d+2) 54 Tryz.underlying54 w
 have e5:=fun w=>run_equalIn_bool (P:=qq) w (d+2) 4 a.drain b.drain Jl
 have p4a:=zN a ha w;have p4b:=zN b hb w;rw[h0] at p4a;rw[h1] at p4b;rw[run_equalIn_struct w (d+3) _ _ _ bL AV];simp only[Program.fieldsOf,I6,Op.eqFields];rw[if_pos (by decide)];simp only[IT,Fa,IK,e0];cases hc:(a.name==b.name)
 ·simp
 ·simp only[IZ,IP,if_false]
  rw[if_pos (by decide)];simp only[IT,zK a ha,zK b hb,IK,e1];cases hd:(a.addr==b.addr)
  ·simp
  ·simp only[IZ,IP,if_false]
   rw[if_pos (by decide)];simp only[IT,zL a ha,zL b hb,IK,zv,e2];cases he:(a.port==b.port)
   ·simp
   ·simp only[IZ,IP,if_false]
    rw[if_pos (by decide)];simp only[IT,zM a ha,zM b hb,IK,e3];cases hf:(a.mac==b.mac)
    ·simp
    ·simp only[IZ,IP,if_false]
     rw[if_pos (by decide)];simp only[IT,p4a,p4b,IK,e4];simp only[IZ,IP,if_false];rw[if_pos (by decide)];simp only[IT,zO a ha,zO b hb,IK,e5];cases hg:(a.drain==b.drain)<;>simp
theorem vz(A:Option Addr)(c:Nat)(l:List UInt8)(A':Option Addr)(c':Nat)(m:List UInt8)(w:World)(B B':Nat)(hb:BS w B A l)(hb':BS w B' A' m) :
  Calls qq 175 #[.slice A l.length c,.slice A' m.length c'] w fun e w'=>e=.returned (.bool (l==m))∧w=w':=by
 have h1:=bJ (P:=qq) 43 9 5 II IH IG w B A l hb _ c rfl;have h2:=bJ (P:=qq) 43 9 5 II IH IG w B' A' m hb' _ c' rfl;go_enter Tryz.func175,Tryz.ntmps175
 go_wp2
 go_ret
 exact⟨rfl,rfl⟩
theorem bO(n hi:Int)(w:World):Calls qq 68 #[.int .i64 n,.int .i64 hi] w fun e w'=>e=.returned (.bool (dh n 0 hi))∧w=w':=by
 by_cases h:0≤n
 ·have hr:Hid (dh n 0 hi=decide (n≤hi)):=by show _=_;rw[dh,decide_eq_true h];rfl
  go_enter Tryz.func68,Tryz.ntmps68
  go_wp2
  go_ret
  exact⟨by rw[hr.out];rfl,rfl⟩
 ·have hr:Hid (dh n 0 hi=false):=by show _=_;rw[dh,decide_eq_false h];rfl
  go_enter Tryz.func68,Tryz.ntmps68
  go_wp2
  go_ret
  exact⟨by rw[hr.out];rfl,rfl⟩
section
variable {w:World} {g:Nat} {t:TypeId}
theorem jx{b:aU}(hb:aj w g t (ah b).toArray):w.cell? ⟨g,0,none⟩=some (.string ⟨b.name.toArray⟩):=hb.cell 0
theorem jy{b:aU}(hb:aj w g t (ah b).toArray)(h:au b):w.cell? ⟨g,18,none⟩=some (.int .i64 b.port):=by rw[hb.cell,IE,show 18=18+0 from rfl,qH h];rfl
theorem lv{b:aU}(hb:aj w g t (ah b).toArray)(h:au b):w.cell? ⟨g,25,none⟩=some (.float .f64 b.wt):=by rw[hb.cell,IE,show 25=25+0 from rfl,qI h];rfl
theorem mI{b:aU}(hb:aj w g t (ah b).toArray)(h:au b):w.cell? ⟨g,26,none⟩=some (.bool b.drain):=by rw[hb.cell,IE,show 26=25+1 from rfl,qI h];rfl
theorem uh{b:aU}(hb:aj w g t (ah b).toArray)(h:au b):w.cell? ⟨g,1,none⟩=some (.bool b.addr.1):=by rw[hb.cell,IE,show 1=1+0 from rfl,pR h (by decide)];rfl
theorem nc{b:aU}(hb:aj w g t (ah b).toArray)(h:au b):w.rangeAt g 1 (ai b.addr):=fun j v hj=>by
 rw[hb.cell,IE,pR h (by have:=(IM.1 hj).1;rw[ar h.addr] at this;exact this)];exact hj
theorem yh{b:aU}(hb:aj w g t (ah b).toArray)(h:au b):w.rangeAt g 19 (ab b.mac):=fun j v hj=>by
 rw[hb.cell,IE,vu h (by have:=(IM.1 hj).1;rw[ap,h.mac] at this;exact this)];exact hj
variable {A:Option Addr} {n c:Nat}
theorem fG{a:ca}(hb:aj w g t (ak A n c a).toArray):w.cell? ⟨g,0,none⟩=some (.int .i64 a.kind):=hb.cell 0
theorem fu{a:ca}(hb:aj w g t (ak A n c a).toArray):w.cell? ⟨g,1,none⟩=some (.slice A n c):=hb.cell 1
theorem iF{a:ca}(hb:aj w g t (ak A n c a).toArray):w.cell? ⟨g,2,none⟩=some (.int .i64 a.op):=hb.cell 2
theorem zP{a:ca}(hb:aj w g t (ak A n c a).toArray)(h:aA a)(i:Nat):w.cell? ⟨g,30+i,none⟩=[sv a.oname,.float .f64 a.owt,sv a.name,.bool a.well][i]?:=by rw[hb.cell,IE,Gn h]
theorem ed{a:ca}(hb:aj w g t (ak A n c a).toArray)(h:aA a):w.cell? ⟨g,30,none⟩=some (.string ⟨a.oname.toArray⟩):=zP hb h 0
theorem kt{a:ca}(hb:aj w g t (ak A n c a).toArray)(h:aA a):w.cell? ⟨g,31,none⟩=some (.float .f64 a.owt):=zP hb h 1
theorem fY{a:ca}(hb:aj w g t (ak A n c a).toArray)(h:aA a):w.cell? ⟨g,32,none⟩=some (.string ⟨a.name.toArray⟩):=zP hb h 2
theorem iq{a:ca}(hb:aj w g t (ak A n c a).toArray)(h:aA a):w.cell? ⟨g,33,none⟩=some (.bool a.well):=zP hb h 3
theorem iV{a:ca}(hb:aj w g t (ak A n c a).toArray)(h:aA a):w.rangeAt g 3 (ah a.back):=fun j v hj=>by
 rw[hb.cell,IE,C3 h (by have:=(IM.1 hj).1;rw[bu h.back] at this;exact this)];exact hj
variable {A':Option Addr} {n' c':Nat}
theorem ob{e:dI}(hb:aj w g t (bh A n c A' n' c' e).toArray)(h:aP e):w.rangeAt g 0 (ak A n c e.act):=fun j v hj=>by
 rw[Jr,hb.cell,IE,Gp h (by have:=(IM.1 hj).1;rw[aX h.act] at this;exact this)];exact hj
theorem mz{e:dI}(hb:aj w g t (bh A n c A' n' c' e).toArray)(h:aP e)(i:Nat):w.cell? ⟨g,34+i,none⟩=[zv e.o.err,zv e.o.reason,.bool e.o.hit,zv e.o.version,sv e.o.name,.slice A' n' c',zv e.len,.int .u32 (e.sum:Int)][i]?:=by rw[hb.cell,IE,G2 h]
theorem pV{e:dI}(hb:aj w g t (bh A n c A' n' c' e).toArray)(h:aP e):w.rangeAt g 34 (cD A' n' c' e.o):=fun j v hj=>by
 rw[mz hb h];rcases j with _|_|_|_|_|_|j
 all_goals first|exact hj|(simp[cD] at hj)
theorem je{e:dI}(hb:aj w g t (bh A n c A' n' c' e).toArray)(h:aP e):w.cell? ⟨g,40,none⟩=some (.int .i64 e.len):=mz hb h 6
theorem ui{e:dI}(hb:aj w g t (bh A n c A' n' c' e).toArray)(h:aP e):w.cell? ⟨g,41,none⟩=some (.int .u32 (e.sum:Int)):=mz hb h 7
end
theorem ic(a:Addr)(n:Nat)(m:Mode)(w:World):(store a (.float .f64 n) m).run qq w=stored qq w a (.float .f64 n) m:=run_store qq w a _ m rfl
theorem vA{b:aU}(h:au b):(ah b).toArray.setIfInBounds 25 (.float .f64 0)=(ah { b with wt:=0 }).toArray:=by
 have h1:=ar h.addr;have h2:=h.mac;rw[Iy];simp[ah,List.set_append,h1,ap,h2]
theorem me{b:aU}(h:au b):au { b with wt:=0 }:=⟨h.addr,h.mac,by show (0:Nat)<_;decide⟩
theorem uj(a b:aU)(ha:au a)(hb:au b)(w:World) :
  Calls qq 176 #[.agg (ah a).toArray,.agg (ah b).toArray] w fun e w'=>e=.returned (.bool (bz a b))∧Below w.heap.size w w':=by
 obtain⟨W1,hW1⟩:∃W,W=w.alloc (.cells (ah a).toArray 56):=⟨_,rfl⟩;obtain⟨W,hW⟩:∃W,W=W1.alloc (.cells (ah b).toArray 56):=⟨_,rfl⟩;have hs1:W1.heap.size=w.heap.size+1:=by rw[hW1];simp
 have hX1:aj W1 w.heap.size 56 (ah a).toArray:=by rw[hW1];exact aj.new w _ _ _ rfl
 have hX:aj W w.heap.size 56 (ah a).toArray:=by rw[hW];exact aj.alloc hX1 _
 have hY:aj W (w.heap.size+1) 56 (ah b).toArray:=by rw[hW,←hs1];exact aj.new W1 _ _ _ rfl
 have hB:Below w.heap.size w W:=by rw[hW,hW1];exact ((Below.refl _ _).alloc (Jm _) _).alloc (by simp) _
 obtain⟨V,hV⟩:∃V,V=(W.setCell ⟨w.heap.size,25,none⟩ (.float .f64 0)).setCell ⟨w.heap.size+1,25,none⟩ (.float .f64 0):=⟨_,rfl⟩;have hXV:aj V w.heap.size 56 (ah { a with wt:=0 }).toArray:=by
  rw[hV,←vA ha];exact aj.far (aj.set_ hX 25 _) (p:=⟨w.heap.size+1,25,none⟩) (by show w.heap.size≠w.heap.size+1;omega) _
 have hYV:aj V (w.heap.size+1) 56 (ah { b with wt:=0 }).toArray:=by
  rw[hV,←vA hb];exact aj.set_ (aj.far hY (p:=⟨w.heap.size,25,none⟩) (by show w.heap.size+1≠w.heap.size;omega) _) 25 _
 have hBV:Below w.heap.size w V:=by rw[hV];exact (hB.setCell (by show w.heap.size≤w.heap.size;omega) _).setCell (by show w.heap.size≤w.heap.size+1;omega) _
 have d1:=lv hX ha;have d2:=lv hY hb;have f1:=hX.frozen 25;have f2:=hY.frozen 25;have d3:(W.setCell ⟨w.heap.size,25,none⟩ (.float .f64 0)).cell? ⟨w.heap.size+1,25,none⟩=some (.float .f64 b.wt):=lv (aj.far hY (p:=⟨w.heap.size,25,none⟩) (by show w.heap.size+1≠w.heap.size;omega) _) hb;have f3:(W.setCell ⟨w.heap.size,25,none⟩ (.float .f64 0)).frozen? ⟨w.heap.size+1,25,none⟩=false:=(aj.far hY (p:=⟨w.heap.size,25,none⟩) (by show w.heap.size+1≠w.heap.size;omega) _).frozen 25;have HRx:=hid (ag hXV);have HRy:=hid (ag hYV);have Hsx:=hid (cM (me ha));have Hsy:=hid (cM (me hb));have He:=hid (AX 9996 { a with wt:=0 } { b with wt:=0 } (me ha) (me hb) rfl rfl V);have HB:=hid hBV;have HV:=hid hV;have HW1:=hid hW1;have HW:=hid hW;have hr:bz a b=(br a.wt==br b.wt&&(a.name==b.name&&(a.addr==b.addr&&(a.port==b.port&&(a.mac==b.mac&&a.drain==b.drain))))):=by
  unfold bz;cases (a.name==b.name)<;>cases (a.addr==b.addr)<;>cases (a.port==b.port)<;>cases (a.mac==b.mac)<;>cases (br a.wt==br b.wt)<;>rfl
 have Hr:=hid hr;clear hW1 hW hX1 hX hY hB hV hXV hYV hBV hr hs1;go_enter Tryz.func176,Tryz.ntmps176
 go_upto_region 1 with fail
 rw[←HW1.out];rw[←HW.out]
 go_wp2_with fail
 refine (lj a.wt b.wt W).mono ?_;rintro e w2 ⟨rfl,rfl⟩;have hsf:=fun (a:Addr) (m:Mode) (w:World)=>ic a 0 m w
 go_upto_region 3 with fail
 rw[←HV.out];clear hsf;clear d1 d2 d3 f1 f2 f3;rcases hw:(br a.wt==br b.wt) with _|_
 ·have Hf:Hid (bz a b=false):=by show _=_;rw[Hr.out,hw];rfl
  clear hw
  go_wp2
  go_ret
  exact⟨by rw[Hf.out];rfl,HB.out⟩
 ·have Hf:Hid (bz a b=(a.name==b.name&&(a.addr==b.addr&&(a.port==b.port&&(a.mac==b.mac&&a.drain==b.drain))))):=by show _=_;rw[Hr.out,hw];rfl
  clear hw;obtain⟨q,hq⟩:∃q:Bool,q=(a.name==b.name&&(a.addr==b.addr&&(a.port==b.port&&(a.mac==b.mac&&a.drain==b.drain)))):=⟨_,rfl⟩;have He2:Hid ((I2 10000 56 (.agg (ah { a with wt:=0 }).toArray) (.agg (ah { b with wt:=0 }).toArray)).run qq V=.ok q V):=by rw[hq];exact He.out
  rw[←hq] at Hf;clear hq He
  go_wp2_with (first
   |((with_reducible refine aB 56 ?_);refine aa (by rfl) 56 (.tmp 2) rfl w.heap.size 0 rfl (ah { a with wt:=0 }) _ HRx.out I6 rfl Hsx.out ?_)
   |((with_reducible refine aB 56 ?_);refine aa (by rfl) 56 (.tmp 3) rfl (w.heap.size+1) 0 rfl (ah { b with wt:=0 }) _ HRy.out I6 rfl Hsy.out ?_)
   |((with_reducible refine vp 56 ?_);refine eD (by rfl) 56 56 (.tmp 15) (.tmp 16) rfl (ah { a with wt:=0 }).toArray (ah { b with wt:=0 }).toArray rfl rfl yg _ He2.out ?_))
  go_ret
  exact⟨by rw[Hf.out];rfl,HB.out⟩
theorem oc(n:Nat)(w:World)(hn:n<18446744073709551616):Calls qq 79 #[.float .f64 n] w fun e w'=>∃A c,e=.returned (.slice A (dK n).length c)∧BS w' w'.heap.size A (dK n)∧Below w.heap.size w w':=by
 refine (kJ n w hn).mono ?_;rintro e w' ⟨A,c,rfl,hown,hb⟩;have h8:=eR n;refine⟨A,c,by rw[h8],?_,hb⟩;rw[←h8] at hown;exact (Jq hown).1
theorem oU(a b:Nat)(ha:a<18446744073709551616)(hb:b<18446744073709551616)(w:World) :
  Calls qq 158 #[.float .f64 a,.float .f64 b] w fun e w'=>e=.returned (.bool (br a==br b))∧Below w.heap.size w w':=by
 rw[←C2 ha hb];go_enter Tryz.func158,Tryz.ntmps158
 go_upto_region 1 with fail
 refine wp_region_noPanic ?_;refine wp_region_held_drew (S:=fun w'=>Below w.heap.size w w') (by kernel_rfl) ((Below.refl _ _).drew) (fun hHeld=>?_);refine wpAnyH_take (i:=0) (v:=?_) rfl (by kernel_rfl) (by kernel_rfl) (by kernel_rfl) (fun _ _ _ h=>h) (Jd ⟨by rfl,?_⟩) hHeld ?_;rotate_left
 ·intro w' hSw
  skip
  go_simp
  try with_reducible rfl
 try (simp only[IS,IB,Iz,IA,Iy,IC,ID])
 refine wpAnyH_take (i:=3) (v:=?_) rfl (by kernel_rfl) (by kernel_rfl) (by kernel_rfl) (fun _ _ _ h=>h) (Jd ⟨by rfl,?_⟩) hHeld ?_;rotate_left
 ·intro w' hSw
  skip
  go_simp
  try with_reducible rfl
 try (simp only[IS,IB,Iz,IA,Iy,IC,ID])
 refine wpAnyH_ready (rs:=[1]) (by kernel_rfl) (by simp) ?_;refine IN (i:=1) rfl (fun K hK=>?_) ?_
 ·go_simp
  refine (oc a _ ha).mono ?_;rintro e w1 ⟨Aa,cAa,rfl,HAa0,hbAa⟩;have hBehind:Below w.heap.size w w1:=hHeld.trans (hbAa.mono hHeld.size);have HAa:=hid HAa0;clear HAa0
  go_wp2_with fail
  refine hK.out _ _ hBehind (fun hHeld=>?_);clear hK K hBehind
  try (simp only[IS,IB,Iz,IA,Iy,IC,ID])
  refine wpAnyH_ready (rs:=[2,4]) (by kernel_rfl) (by simp) ?_;refine IN (i:=2) rfl (fun K hK=>?_) ?_
  ·have hcv:=bJ (P:=qq) 43 9 5 II IH IG w1 _ Aa (dK a) HAa.out _ cAa rfl
   go_simp
   refine hK.out _ _ hHeld (fun hHeld=>?_);clear hK K hcv
   try (simp only[IS,IB,Iz,IA,Iy,IC,ID])
   refine wpAnyH_ready (rs:=[4]) (by kernel_rfl) (by simp) ?_;refine IN (i:=4) rfl (fun K hK=>?_) ?_
   ·go_simp
    refine (oc b _ hb).mono ?_;rintro e w2 ⟨Ab,cAb,rfl,HAb0,hbAb⟩;have hBehind:Below w.heap.size w w2:=hHeld.trans (hbAb.mono hHeld.size);have HAb:=hid HAb0;clear HAb0
    go_wp2_with fail
    refine hK.out _ _ hBehind (fun hHeld=>?_);clear hK K hBehind
    try (simp only[IS,IB,Iz,IA,Iy,IC,ID])
    refine wpAnyH_ready (rs:=[5]) (by kernel_rfl) (by simp) ?_;refine IN (i:=5) rfl (fun K hK=>?_) ?_
    ·have hcv:=bJ (P:=qq) 43 9 5 II IH IG w2 _ Ab (dK b) HAb.out _ cAb rfl
     go_simp
     refine hK.out _ _ hHeld (fun hHeld=>?_);clear hK K hcv
     try (simp only[IS,IB,Iz,IA,Iy,IC,ID])
     refine wpAnyH_take (i:=6) (v:=?_) rfl (by kernel_rfl) (by kernel_rfl) (by kernel_rfl) (fun _ _ _ h=>h) (Jd ⟨by rfl,?_⟩) hHeld ?_;rotate_left
     ·intro w' hSw
      skip
      go_simp
      try with_reducible rfl
     try (simp only[IS,IB,Iz,IA,Iy,IC,ID])
     refine wpAnyH_take (i:=7) (v:=?_) rfl (by kernel_rfl) (by kernel_rfl) (by kernel_rfl) (fun _ _ _ h=>h) (Jd ⟨by rfl,?_⟩) hHeld ?_;rotate_left
     ·intro w' hSw
      skip
      go_simp
      try with_reducible rfl
     try (simp only[IS,IB,Iz,IA,Iy,IC,ID])
     refine wpAnyH_done (by kernel_rfl) ?_ _;refine Jb ?_
     go_wp2
     go_ret
     exact⟨rfl,hHeld⟩
    exact IU
   exact IU
  refine IN (i:=4) rfl (fun K hK=>?_) ?_
  ·go_simp
   refine (oc b _ hb).mono ?_;rintro e w2 ⟨Ab,cAb,rfl,HAb0,hbAb⟩;have hBehind:Below w.heap.size w w2:=hHeld.trans (hbAb.mono hHeld.size);have HAb:=hid HAb0;clear HAb0
   go_wp2_with fail
   refine hK.out _ _ hBehind (fun hHeld=>?_);clear hK K hBehind
   try (simp only[IS,IB,Iz,IA,Iy,IC,ID])
   refine wpAnyH_ready (rs:=[2,5]) (by kernel_rfl) (by simp) ?_;refine IN (i:=2) rfl (fun K hK=>?_) ?_
   ·have hcv:=bJ (P:=qq) 43 9 5 II IH IG w2 _ Aa (dK a) (HAa.out.below hbAb) _ cAa rfl
    go_simp
    refine hK.out _ _ hHeld (fun hHeld=>?_);clear hK K hcv
    try (simp only[IS,IB,Iz,IA,Iy,IC,ID])
    refine wpAnyH_ready (rs:=[5]) (by kernel_rfl) (by simp) ?_;refine IN (i:=5) rfl (fun K hK=>?_) ?_
    ·have hcv:=bJ (P:=qq) 43 9 5 II IH IG w2 _ Ab (dK b) HAb.out _ cAb rfl
     go_simp
     refine hK.out _ _ hHeld (fun hHeld=>?_);clear hK K hcv
     try (simp only[IS,IB,Iz,IA,Iy,IC,ID])
     refine wpAnyH_take (i:=6) (v:=?_) rfl (by kernel_rfl) (by kernel_rfl) (by kernel_rfl) (fun _ _ _ h=>h) (Jd ⟨by rfl,?_⟩) hHeld ?_;rotate_left
     ·intro w' hSw
      skip
      go_simp
      try with_reducible rfl
     try (simp only[IS,IB,Iz,IA,Iy,IC,ID])
     refine wpAnyH_take (i:=7) (v:=?_) rfl (by kernel_rfl) (by kernel_rfl) (by kernel_rfl) (fun _ _ _ h=>h) (Jd ⟨by rfl,?_⟩) hHeld ?_;rotate_left
     ·intro w' hSw
      skip
      go_simp
      try with_reducible rfl
     try (simp only[IS,IB,Iz,IA,Iy,IC,ID])
     refine wpAnyH_done (by kernel_rfl) ?_ _;refine Jb ?_
     go_wp2
     go_ret
     exact⟨rfl,hHeld⟩
    exact IU
   refine IN (i:=5) rfl (fun K hK=>?_) ?_
   ·have hcv:=bJ (P:=qq) 43 9 5 II IH IG w2 _ Ab (dK b) HAb.out _ cAb rfl
    go_simp
    refine hK.out _ _ hHeld (fun hHeld=>?_);clear hK K hcv
    try (simp only[IS,IB,Iz,IA,Iy,IC,ID])
    refine wpAnyH_ready (rs:=[2]) (by kernel_rfl) (by simp) ?_;refine IN (i:=2) rfl (fun K hK=>?_) ?_
    ·have hcv:=bJ (P:=qq) 43 9 5 II IH IG w2 _ Aa (dK a) (HAa.out.below hbAb) _ cAa rfl
     go_simp
     refine hK.out _ _ hHeld (fun hHeld=>?_);clear hK K hcv
     try (simp only[IS,IB,Iz,IA,Iy,IC,ID])
     refine wpAnyH_take (i:=6) (v:=?_) rfl (by kernel_rfl) (by kernel_rfl) (by kernel_rfl) (fun _ _ _ h=>h) (Jd ⟨by rfl,?_⟩) hHeld ?_;rotate_left
     ·intro w' hSw
      skip
      go_simp
      try with_reducible rfl
     try (simp only[IS,IB,Iz,IA,Iy,IC,ID])
     refine wpAnyH_take (i:=7) (v:=?_) rfl (by kernel_rfl) (by kernel_rfl) (by kernel_rfl) (fun _ _ _ h=>h) (Jd ⟨by rfl,?_⟩) hHeld ?_;rotate_left
     ·intro w' hSw
      skip
      go_simp
      try with_reducible rfl
     try (simp only[IS,IB,Iz,IA,Iy,IC,ID])
     refine wpAnyH_done (by kernel_rfl) ?_ _;refine Jb ?_
     go_wp2
     go_ret
     exact⟨rfl,hHeld⟩
    exact IU
   exact IU
  exact IU
 exact IU
theorem yj:qq.eqGuardType qq.depth 24=false:=by kernel_rfl
theorem AY:(qq.info? 24).map (·.size)=some 6:=by kernel_rfl
theorem zQ{l:List UInt8}(h:l.length=6):(qq.info? 24).map (·.size)=some (ab l).length:=by rw[ap,h];exact AY
theorem Di(d:Nat)(a b:List UInt8)(ha:a.length=6)(hb:b.length=6)(w:World):(I2 (d+2) 24 (.agg (ab a).toArray) (.agg (ab b).toArray)).run qq w=.ok (a==b) w :=
 run_equalIn_bytes (P:=qq) w d 24 5 6 IR IH oR a b ha hb
theorem mJ:(cD none 0 0 qz).toArray=(#[.int .i64 0,.int .i64 0,.bool false,.int .i64 0,.string ⟨#[]⟩,.slice none 0 0]:Array Value):=rfl
section
variable {w:World} {g:Nat} {t:TypeId} {A:Option Addr} {n c:Nat} {x:sJ}
theorem jf(hb:aj w g t (cD A n c x).toArray):w.cell? ⟨g,0,none⟩=some (.int .i64 x.err):=hb.cell 0
theorem eN(hb:aj w g t (cD A n c x).toArray):w.cell? ⟨g,1,none⟩=some (.int .i64 x.reason):=hb.cell 1
theorem uk(hb:aj w g t (cD A n c x).toArray):w.cell? ⟨g,2,none⟩=some (.bool x.hit):=hb.cell 2
theorem dZ(hb:aj w g t (cD A n c x).toArray):w.cell? ⟨g,3,none⟩=some (.int .i64 x.version):=hb.cell 3
theorem gW(hb:aj w g t (cD A n c x).toArray):w.cell? ⟨g,4,none⟩=some (.string ⟨x.name.toArray⟩):=hb.cell 4
theorem ku(hb:aj w g t (cD A n c x).toArray):w.cell? ⟨g,5,none⟩=some (.slice A n c):=hb.cell 5
end
theorem Dk(w:World)(t:TypeId)(z cs:List Value)(hl:cs.length=z.length):∃x y,Hid (x=w.alloc (.cells z.toArray t))∧Hid (y=x.setCells w.heap.size 0 cs)∧Hid (x.there w.heap.size 0 cs.toArray.size)∧Hid (aj y w.heap.size t cs.toArray)∧Hid (Below w.heap.size w y):=by
 obtain⟨h1,h2,h3⟩:=jE w _ _ t z cs hl rfl rfl;exact⟨_,_,rfl,rfl,h1,h2,h3⟩
theorem vB(A:Option Addr)(c:Nat)(a:ca)(A':Option Addr)(c':Nat)(b:ca)(ha0:aA a)(hb0:aA b)(w:World)(hf:BS w w.heap.size A a.frame)(hf':BS w w.heap.size A' b.frame) :
  Calls qq 133 #[.agg (ak A a.frame.length c a).toArray,.agg (ak A' b.frame.length c' b).toArray] w fun e w'=>e=.returned (.bool (aV a b))∧Below w.heap.size w w':=by
 obtain⟨W1,W,HW1,HW,Hs1,HX,HY,HB⟩:=mf w 60 60 (ak A a.frame.length c a).toArray (ak A' b.frame.length c' b).toArray;have HF:=hid (hf.on HB.out);have HF':=hid (hf'.on HB.out);have ha:=hid ha0;have hb:=hid hb0;have l0:w.heap.size<W.heap.size:=HX.out.lt;have l1:w.heap.size+1<W.heap.size:=HY.out.lt;have d0:=fG HX.out;have e0:=fG HY.out;have d1:=fu HX.out;have e1:=fu HY.out;have d2:=iF HX.out;have e2:=iF HY.out;have d3:=ed HX.out ha0;have e3:=ed HY.out hb0;have d4:=kt HX.out ha0;have e4:=kt HY.out hb0;have d5:=fY HX.out ha0;have e5:=fY HY.out hb0;have d6:=iq HX.out ha0;have e6:=iq HY.out hb0;obtain⟨T,hT⟩:∃T,T=(a.kind==b.kind&&a.frame==b.frame&&a.op==b.op&&a.oname==b.oname&&(br a.owt==br b.owt)&&bz a.back b.back&&a.name==b.name&&a.well==b.well):=⟨_,rfl⟩;have HT:Hid (aV a b=T):=by show _=_;rw[hT];unfold aV;simp only[I3]
 clear hf hf' ha0 hb0;go_enter Tryz.func133,Tryz.ntmps133
 go_upto_region 1 with fail
 rw[←HW1.out,←HW.out];refine Jo ?_
 repeat ((first|refine pa ?_|refine gs (iV HX.out ha.out) l0 bL (cM ha.out.back) ?_|refine gs (iV HY.out hb.out) l1 bL (cM hb.out.back) ?_|refine gq (fun u hu=>vz A c a.frame A' c' b.frame u _ _ (HF.out.below hu) (HF'.out.below hu)) ?_|refine gq (fun u hu=>lj a.owt b.owt u) ?_|refine gc (fun u hu=>uj a.back b.back ha.out.back hb.out.back u) ?_|refine gp ?_|refine pt ?_);simp only[ld,lg,lf,IV])
 rw[←hT];refine Jt fun w2 hb2=>?_
 have Hb2:=hid (HB.out.trans (hb2.mono HB.out.size));clear hb2 hT
 go_wp2
 go_ret
 exact⟨by rw[HT.out];rfl,Hb2.out⟩
theorem ql(a b:aU)(ha0:au a)(hb0:au b)(w:World) :
  Calls qq 157 #[.agg (ah a).toArray,.agg (ah b).toArray] w fun e w'=>e=.returned (.bool (bz a b))∧Below w.heap.size w w':=by
 obtain⟨W1,W,HW1,HW,Hs1,HX,HY,HB⟩:=mf w 56 56 (ah a).toArray (ah b).toArray;have ha:=hid ha0;have hb:=hid hb0;have l0:w.heap.size<W.heap.size:=HX.out.lt;have l1:w.heap.size+1<W.heap.size:=HY.out.lt;have d0:=jx HX.out;have e0:=jx HY.out;have d1:=jy HX.out ha0;have e1:=jy HY.out hb0;have d2:=lv HX.out ha0;have e2:=lv HY.out hb0;have d3:=mI HX.out ha0;have e3:=mI HY.out hb0;obtain⟨T,hT⟩:∃T,T=(a.name==b.name&&a.addr==b.addr&&a.port==b.port&&a.mac==b.mac&&a.drain==b.drain&&(br a.wt==br b.wt)):=⟨_,rfl⟩;have HT:Hid (bz a b=T):=by show _=_;rw[hT];unfold bz;cases (a.drain==b.drain)<;>simp[I3]
 clear ha0 hb0;go_enter Tryz.func157,Tryz.ntmps157
 go_upto_region 1 with fail
 rw[←HW1.out,←HW.out];refine Jo ?_
 repeat ((first|refine pa ?_|refine gs (nc HX.out ha.out) l0 cS (eo ha.out.addr) ?_|refine gs (nc HY.out hb.out) l1 cS (eo hb.out.addr) ?_|refine gs (yh HX.out ha.out) l0 IR (zQ ha.out.mac) ?_|refine gs (yh HY.out hb.out) l1 IR (zQ hb.out.mac) ?_|refine ge (gT 9997 a.addr b.addr ha.out.addr hb.out.addr) eQ ?_|refine ge (Di 9998 a.mac b.mac ha.out.mac hb.out.mac) yj ?_|refine gc (fun u hu=>oU a.wt b.wt ha.out.wt hb.out.wt u) ?_|refine gp ?_|refine pt ?_);simp only[ld,lg,lf,IV])
 rw[←hT];refine Jt fun w2 hb2=>?_
 have Hb2:=hid (HB.out.trans (hb2.mono HB.out.size));clear hb2 hT
 go_wp2
 go_ret
 exact⟨by rw[HT.out];rfl,Hb2.out⟩
theorem mL(A:Option Addr)(c:Nat)(a:ca)(A':Option Addr)(c':Nat)(b:ca)(ha0:aA a)(hb0:aA b)(w:World)(hf:BS w w.heap.size A a.frame)(hf':BS w w.heap.size A' b.frame) :
  Calls qq 110 #[.agg (ak A a.frame.length c a).toArray,.agg (ak A' b.frame.length c' b).toArray] w fun e w'=>e=.returned (.bool (aV a b))∧Below w.heap.size w w':=by
 obtain⟨W1,W,HW1,HW,Hs1,HX,HY,HB⟩:=mf w 60 60 (ak A a.frame.length c a).toArray (ak A' b.frame.length c' b).toArray;have HF:=hid (hf.on HB.out);have HF':=hid (hf'.on HB.out);have ha:=hid ha0;have hb:=hid hb0;have l0:w.heap.size<W.heap.size:=HX.out.lt;have l1:w.heap.size+1<W.heap.size:=HY.out.lt;have d0:=fG HX.out;have e0:=fG HY.out;have d1:=fu HX.out;have e1:=fu HY.out;have d2:=iF HX.out;have e2:=iF HY.out;have d3:=ed HX.out ha0;have e3:=ed HY.out hb0;have d4:=kt HX.out ha0;have e4:=kt HY.out hb0;have d5:=fY HX.out ha0;have e5:=fY HY.out hb0;have d6:=iq HX.out ha0;have e6:=iq HY.out hb0;obtain⟨T,hT⟩:∃T,T=(a.kind==b.kind&&a.frame==b.frame&&a.op==b.op&&a.oname==b.oname&&(br a.owt==br b.owt)&&bz a.back b.back&&a.name==b.name&&a.well==b.well):=⟨_,rfl⟩;have HT:Hid (aV a b=T):=by show _=_;rw[hT];unfold aV;simp only[I3]
 clear hf hf' ha0 hb0;go_enter Tryz.func110,Tryz.ntmps110
 go_upto_region 1 with fail
 rw[←HW1.out,←HW.out]
 try simp only[List.append_eq,Ji,List.nil_append]
 refine Jo ?_
 repeat ((first|refine pa ?_|refine gs (iV HX.out ha.out) l0 bL (cM ha.out.back) ?_|refine gs (iV HY.out hb.out) l1 bL (cM hb.out.back) ?_|refine Ij HF.out rfl ?_|refine Ij HF'.out rfl ?_|refine gc (fun u hu=>oU a.owt b.owt ha.out.owt hb.out.owt u) ?_|refine gc (fun u hu=>ql a.back b.back ha.out.back hb.out.back u) ?_|refine gp ?_|refine pt ?_);simp only[ld,lg,lf,IV])
 rw[←hT];refine Jt fun w2 hb2=>?_
 have Hb2:=hid (HB.out.trans (hb2.mono HB.out.size));clear hb2 hT
 go_wp2
 go_ret
 exact⟨by rw[HT.out];rfl,Hb2.out⟩
theorem um(A:Option Addr)(c:Nat)(A2:Option Addr)(c2:Nat)(a:dI)(A':Option Addr)(c':Nat)(A2':Option Addr)(c2':Nat)(b:dI)(ha0:aP a)(hb0:aP b)(w:World)(hf:BS w w.heap.size A a.act.frame)(hf':BS w w.heap.size A' b.act.frame)(ho:BS w w.heap.size A2 a.o.out)(ho':BS w w.heap.size A2' b.o.out) :
  Calls qq 49 #[.agg (bh A a.act.frame.length c A2 a.o.out.length c2 a).toArray,.agg (bh A' b.act.frame.length c' A2' b.o.out.length c2' b).toArray] w fun e w'=>e=.returned (.bool (ip a b))∧Below w.heap.size w w':=by
 obtain⟨W1,W,HW1,HW,Hs1,HX,HY,HB⟩:=mf w 65 65 (bh A a.act.frame.length c A2 a.o.out.length c2 a).toArray (bh A' b.act.frame.length c' A2' b.o.out.length c2' b).toArray;have ha:=hid ha0;have hb:=hid hb0;obtain⟨x1,y1,X1,Y1,T1,B1,L1⟩:=Dk W 62 (cD none 0 0 qz) (cD A2 a.o.out.length c2 a.o) rfl;obtain⟨x2,y2,X2,Y2,T2,B2,L2⟩:=Dk y1 62 (cD none 0 0 qz) (cD A2' b.o.out.length c2' b.o) rfl;rw[mJ] at X1 X2;have RX:=hid (pV HX.out ha0);have HY1:=hid (aj.below HY.out L1.out HY.out.lt);have RY:=hid (pV HY1.out hb0);have hL:Below W.heap.size W y2:=L1.out.trans (L2.out.mono L1.out.size);have HX2:=hid (aj.below HX.out hL HX.out.lt);have HY2:=hid (aj.below HY.out hL HY.out.lt);have HP:=hid (aj.below B1.out L2.out B1.out.lt);have HB2:=hid (HB.out.trans (hL.mono HB.out.size));have HF:=hid (hf.on HB2.out);have HF':=hid (hf'.on HB2.out);have HO:=hid (ho.on HB2.out);have HO':=hid (ho'.on HB2.out);clear hf hf' ho ho' ha0 hb0 hL;go_enter Tryz.func49,Tryz.ntmps49
 go_upto_region 1 with fail
 rw[←HW1.out,←HW.out];go_upto_region 2 with (first
  |((with_reducible refine aB 62 ?_);refine aa (by rfl) 62 (.tmp 7) rfl w.heap.size 34 rfl (cD A2 a.o.out.length c2 a.o) _ RX.out Jf rfl jN ?_)
  |(rw[←X1.out];(with_reducible refine aR 62 ?_);refine wpList_store_mid rfl 62 (.tmp 5) (.tmp 8) rfl W.heap.size 0 (cD A2 a.o.out.length c2 a.o).toArray rfl rfl T1.out jN (lP _ _ _ _) ?_))
 rw[←Y1.out];go_upto_region 3 with (first
  |((with_reducible refine aB 62 ?_);refine aa (by rfl) 62 (.tmp 9) rfl (w.heap.size+1) 34 rfl (cD A2' b.o.out.length c2' b.o) _ RY.out Jf rfl jN ?_)
  |(rw[←X2.out];(with_reducible refine aR 62 ?_);refine wpList_store_mid rfl 62 (.tmp 6) (.tmp 10) rfl y1.heap.size 0 (cD A2' b.o.out.length c2' b.o).toArray rfl rfl T2.out jN (lP _ _ _ _) ?_))
 rw[←Y2.out];have l0:w.heap.size<y2.heap.size:=HX2.out.lt;have l1:w.heap.size+1<y2.heap.size:=HY2.out.lt;have l2:W.heap.size<y2.heap.size:=HP.out.lt;have l3:y1.heap.size<y2.heap.size:=B2.out.lt;clear X1 Y1 T1 X2 Y2 T2 RX RY;have d0:=jf HP.out;have e0:=jf B2.out;have d1:=eN HP.out;have e1:=eN B2.out;have d2:=uk HP.out;have e2:=uk B2.out;have d3:=dZ HP.out;have e3:=dZ B2.out;have d4:=gW HP.out;have e4:=gW B2.out;have d5:=ku HP.out;have e5:=ku B2.out;have d6:=je HX2.out ha.out;have e6:=je HY2.out hb.out;have d7:=ui HX2.out ha.out;have e7:=ui HY2.out hb.out;obtain⟨T,hT⟩:∃T,T=(aV a.act b.act&&a.o.err==b.o.err&&a.o.reason==b.o.reason&&a.o.hit==b.o.hit&&a.o.version==b.o.version&&a.o.name==b.o.name&&a.o.out==b.o.out&&a.len==b.len&&(a.sum:Int)==(b.sum:Int)):=⟨_,rfl⟩;have HT:Hid (ip a b=T):=by show _=_;rw[hT,show ((a.sum:Int)==(b.sum:Int))=(a.sum==b.sum) by rw[Bool.eq_iff_iff];simp[Int.ofNat_inj]];unfold ip;simp only[I3]
 refine Jo ?_;simp only[IS]
 repeat ((first|refine pa ?_|refine sl (ob HX2.out ha.out) l0 Jg (bv ha.out.act) ?_|refine sl (ob HY2.out hb.out) l1 Jg (bv hb.out.act) ?_|refine Ij HO.out rfl ?_|refine Ij HO'.out rfl ?_|refine cl (fun u hu=>mL A c a.act A' c' b.act ha.out.act hb.out.act u (HF.out.on hu) (HF'.out.on hu)) ?_|refine gp ?_|refine pt ?_);simp only[ld,lg,lf,IV])
 rw[←hT];refine Jt fun w2 hb2=>?_
 have Hb2:=hid (HB2.out.trans (hb2.mono HB2.out.size));clear hb2 hT
 go_wp2
 go_ret
 exact⟨by rw[HT.out];rfl,Hb2.out⟩
def yq(g:Nat)(bad:Bool):Array Value:=#[.pointer (some ⟨g,0,none⟩),.bool bad]
structure RS(w:World)(base g r:Nat)(l:List UInt8)(s:St)(bad:Bool):Prop where
 rd:eY w base g l s
 ok:em l s
 box:aj w r 157 (yq g bad)
theorem eY.blkE{w:World}{base g:Nat}{l:List UInt8}{s:St}(h:eY w base g l s):∃cs,aj w g 195 cs:=by
 obtain⟨A,c,hr,_⟩:=h;exact⟨_,hr⟩
section
variable {w w':World} {base g r:Nat} {l:List UInt8} {s s':St} {bad bad':Bool}
theorem RS.ne(h:RS w base g r l s bad):r≠g:=by
 obtain⟨cs,hb⟩:=h.rd.blkE;exact aj.ne h.box hb (by decide)
theorem RS.d0(h:RS w base g r l s bad):w.cell? ⟨r,0,none⟩=some (.pointer (some ⟨g,0,none⟩)):=h.box.cell 0
theorem RS.d1(h:RS w base g r l s bad):w.cell? ⟨r,1,none⟩=some (.bool bad):=h.box.cell 1
theorem RS.after(h:RS w base g r l s bad)(hR:eY w' base g l s')(hok:em l s')(hg:w.grownBy w' (some g)):RS w' base g r l s' bad :=
 ⟨hR,hok,aj.grown h.box hg (fun e=>h.ne (by injection e))⟩
theorem RS.below(h:RS w base g r l s bad)(hb:Below w.heap.size w w'):RS w' base g r l s bad:=⟨h.rd.below hb,h.ok,aj.below h.box hb h.box.lt⟩
theorem RS.bad_(h:RS w base g r l s bad)(b:Bool):RS (w.setCell ⟨r,1,none⟩ (.bool b)) base g r l s b :=
 ⟨eY.off h.rd (a8 w ⟨r,1,none⟩ (.bool b)) h.box (by decide) (by decide),h.ok,aj.set_ h.box 1 (.bool b)⟩
theorem nj(w:World)(g r:Nat)(k:Nat)(u:Value):cY w (w.setCell ⟨r,k,none⟩ u) g (some r):=cY.of_grown (a8 w ⟨r,k,none⟩ u)
end
theorem Dr{l:List UInt8}{s u:St}{x:List UInt8}(h:bG l s 8=(u,x)):x.length≤8:=by
 have:=congrArg Prod.snd h;simp only[bG,fd] at this;rw[if_neg (by decide)] at this;split at this
 ·rw[←this];simp
 ·split at this
  ·rw[←this];simp
  ·rw[←this,Jj]
   exact Nat.min_le_left _ _
def ep(l:List UInt8)(s:St)(bad:Bool):St×Bool×Bool:=((aT l s 1 true).1,bad||decide (1<(aT l s 1 true).2),(aT l s 1 true).2==1)
theorem nk(base g r:Nat)(l:List UInt8)(s:St)(bad:Bool)(w:World)(h:RS w base g r l s bad)(hl:l.length≤1000000000) :
  Calls qq 104 #[.pointer (some ⟨r,0,none⟩)] w fun e w'=>e=.returned (.bool (ep l s bad).2.2)∧RS w' base g r l (ep l s bad).1 (ep l s bad).2.1∧cY w w' g (some r):=by
 have H:=hid h;have ok2:=cK h.ok 1 true;have hn:=hid (cV base g l s w 1 true h.rd h.ok hl);unfold ep;rcases hq:aT l s 1 true with ⟨s2,q⟩
 rw[hq] at hn ok2;have d0:=h.d0;clear hq h;go_enter Tryz.func104,Tryz.ntmps104
 go_wp2_with fail
 refine hn.out.mono ?_;rintro e w2 ⟨rfl,hR,hg⟩;have H2:=hid (H.out.after hR ok2 hg);have HG:=hid (cY.of_g (r:=some r) hg);have d0:=H2.out.d0;have d1:=H2.out.d1;have df:=H2.out.box.frozen 1;have hqe:((q:Int)==1)=(q==1):=by
  by_cases hq:q=1
  ·subst hq;rfl
  ·rw[beq_eq_false_iff_ne.2 hq,beq_eq_false_iff_ne.2 (by omega)]
 clear hR hg hn;rcases bad with _|_
 ·by_cases hq:1<q
  ·have hqI:(1:Int)<(q:Int):=by omega
   have hf:Hid ((false||decide (1<q))=true):=by show _=_;rw[decide_eq_true hq];rfl
   clear hq
   go_wp2
   go_ret
   exact⟨by first|rfl|rw[hqe],by rw[hf.out];first|exact H2.out.bad_ true|(simp only[show (1:Int)<(q:Int) by omega,decide_true];exact H2.out.bad_ true),HG.out.trans (nj _ _ _ _ _)⟩
  ·have hqI:¬(1:Int)<(q:Int):=by omega
   have hf:Hid ((false||decide (1<q))=false):=by show _=_;rw[decide_eq_false hq];rfl
   clear hq
   go_wp2
   go_ret
   exact⟨by first|rfl|rw[hqe],by rw[hf.out];first|exact H2.out.bad_ false|(simp only[show ¬(1:Int)<(q:Int) by omega,decide_false];exact H2.out.bad_ false),HG.out.trans (nj _ _ _ _ _)⟩
 ·go_wp2
  go_ret
  exact⟨by first|rfl|rw[hqe],H2.out.bad_ true,HG.out.trans (nj _ _ _ _ _)⟩
def Bj(w:World)(base g r:Nat)(l:List UInt8)(s':St)(bad':Bool)(w':World):Prop:=RS w' base g r l s' bad'∧cY w w' g (some r)
theorem np(base g r:Nat)(l:List UInt8)(s:St)(bad:Bool)(w:World)(h:RS w base g r l s bad)(hl:l.length≤1000000000) :
  Calls qq 105 #[.pointer (some ⟨r,0,none⟩)] w fun e w'=>e=.returned (.string ⟨(cF l s 255).2.toArray⟩)∧Bj w base g r l (cF l s 255).1 bad w':=by
 have H:=hid h;have ok2:=j3 h.ok 255;have hn:=hid (kv base g l s w 255 h.rd h.ok hl (by decide));rcases hq:cF l s 255 with ⟨s2,x⟩
 rw[hq] at hn ok2;have d0:=h.d0;clear hq h;go_enter Tryz.func105,Tryz.ntmps105
 go_wp2_with fail
 refine hn.out.mono ?_;rintro e w2 ⟨A,c,rfl,hown,hR,hg⟩;have H2:=hid (H.out.after hR ok2 hg);have HG:=hid (cY.of_g (r:=some r) hg);have hcv:=bJ (P:=qq) 43 9 5 II IH IG w2 _ A x (Jq hown).1 _ c rfl;clear hR hg hn hown
 go_wp2
 go_ret
 exact⟨rfl,H2.out,HG.out⟩
def cR(l:List UInt8)(s:St)(bad:Bool):St×Bool×Nat:=((bG l s 8).1,bad||!(kI (bG l s 8).2).2,(kI (bG l s 8).2).1)
theorem qn(base g r:Nat)(l:List UInt8)(s:St)(bad:Bool)(w:World)(h:RS w base g r l s bad)(hl:l.length≤1000000000) :
  Calls qq 156 #[.pointer (some ⟨r,0,none⟩)] w fun e w'=>e=.returned (.float .f64 (cR l s bad).2.2)∧Bj w base g r l (cR l s bad).1 (cR l s bad).2.1 w':=by
 have H:=hid h;have ok2:=dX h.ok 8;have hn:=hid (ew base g l s w 8 h.rd h.ok hl (by decide));unfold cR;rcases hq:bG l s 8 with ⟨s2,x⟩
 have hx8:=Dr hq;rw[hq] at hn ok2;have d0:=h.d0;rcases hk:kI x with ⟨f,kk⟩
 simp only[hk];have Hk:=hid hk;clear hq h hk;go_enter Tryz.func156,Tryz.ntmps156
 go_wp2_with fail
 refine hn.out.mono ?_;rintro e w2 ⟨A,c,rfl,hown,hR,hg⟩;have H2:=hid (H.out.after hR ok2 hg);have HG:=hid (cY.of_g (r:=some r) hg);have Hw:=hid (CV A _ c x w2 rfl (Jq hown).1 hx8 (jb hown));rw[Hk.out] at Hw;clear hR hg hn hown
 go_wp2_with fail
 refine Hw.out.mono ?_;rintro e w3 ⟨rfl,hb3⟩;have H3:=hid (H2.out.below hb3);have HG3:=hid (HG.out.trans (cY.of_below hb3));have d0:=H3.out.d0;have d1:=H3.out.d1;have df:=H3.out.box.frozen 1;clear hb3 H2 HG Hw;rcases bad with _|_
 ·rcases kk with _|_
  ·go_wp2
   go_ret
   exact⟨rfl,H3.out.bad_ true,HG3.out.trans (nj _ _ _ _ _)⟩
  ·go_wp2
   go_ret
   exact⟨rfl,H3.out.bad_ false,HG3.out.trans (nj _ _ _ _ _)⟩
 ·go_wp2
  go_ret
  exact⟨rfl,H3.out.bad_ true,HG3.out.trans (nj _ _ _ _ _)⟩
theorem th(base g r:Nat)(l:List UInt8)(s:St)(bad:Bool)(w:World)(h:RS w base g r l s bad) :
  Calls qq 106 #[.pointer (some ⟨r,0,none⟩)] w fun e w'=>e=.returned (.bool (!bad&&(decide (s.2.1=0)&&decide (s.2.2=0))))∧Below w.heap.size w w':=by
 obtain⟨s0,fa,fe⟩:=s;have d0:=h.d0;have d1:=h.d1;have hn:Hid (Calls qq 93 #[.pointer (some ⟨g,0,none⟩)] w fun e w'=>e=.returned (.agg #[.int .i64 (fa:Int),.int .i64 (fe:Int)])∧Below w.heap.size w w'):=by
  obtain⟨A,c,hr,_⟩:=h.rd;exact eK g A l.length c s0 fa fe w hr
 clear h;show Calls qq _ _ w fun e w'=>e=.returned (.bool (!bad&&(decide (fa=0)&&decide (fe=0))))∧Below w.heap.size w w'
 obtain⟨z,hz⟩:∃z,z=(!bad&&(decide (fa=0)&&decide (fe=0))):=⟨_,rfl⟩;rw[←hz];have Hz:=hid hz;clear hz;go_enter Tryz.func106,Tryz.ntmps106
 rcases bad with _|_
 ·go_wp2_with fail
  refine hn.out.mono ?_;rintro e w2 ⟨rfl,hb2⟩;by_cases h1:fa=0
  ·by_cases h2:fe=0
   ·have hf:Hid (z=true):=by show _=_;rw[Hz.out,h1,h2];rfl
    subst h1;subst h2
    go_wp2
    go_ret
    exact⟨by rw[hf.out];rfl,hb2⟩
   ·have h2I:¬(fe:Int)=0:=by omega
    have hf:Hid (z=false):=by show _=_;rw[Hz.out,decide_eq_false h2];simp
    subst h1;clear h2
    go_wp2
    go_ret
    exact⟨by rw[hf.out];rfl,hb2⟩
  ·have h1I:¬(fa:Int)=0:=by omega
   have hf:Hid (z=false):=by show _=_;rw[Hz.out,decide_eq_false h1];simp
   clear h1
   go_wp2
   go_ret
   exact⟨by rw[hf.out];rfl,hb2⟩
 ·have hf:Hid (z=false):=by show _=_;rw[Hz.out];simp
  go_wp2
  go_ret
  exact⟨by rw[hf.out];rfl,Below.refl _ _⟩
