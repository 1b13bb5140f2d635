import Derived.Test.YtaafkokfdgfabaaGreatP6
import Derived.Test.YtaafkokfdgfabaaGreatP8
import Derived.Test.YtaafkokfdgfabaaGreatP10
import Derived.Test.YtaafkokfdgfabaaGreatP12
import Derived.WalkLawsBesides
import Derived.BigQuiet
import Derived.Laws.Externs
import Derived.Deep.RegionHeld3
set_option maxHeartbeats 8000000
namespace Go.Proofs.YtaafkokfdgfabaaGreat
open Go.RowKit
set_option linter.unusedVariables false
set_option linter.unusedSimpArgs false
def j9 (n:Nat):Bool:=n / 4503599627370496 % 2048 == 2047 && n % 4503599627370496 != 0
def bv (n:Nat):Nat:=if j9 n then 9221120237041090560 else n
theorem sP (n:Nat) (h:j9 n=true):9218868437227405312<n % 9223372036854775808:=by
 simp only [j9,Bool.and_eq_true,beq_iff_eq,bne_iff_ne] at h;omega
theorem yG (n:Nat) (h:j9 n=false):n % 9223372036854775808≤9218868437227405312:=by
 rcases Nat.lt_or_ge 9218868437227405312 (n % 9223372036854775808) with hc | hc
 ·have:j9 n=true:=by
   simp only [j9,Bool.and_eq_true,beq_iff_eq,bne_iff_ne];omega
  rw [this] at h;cases h
 ·exact hc
theorem qg (n:Nat):FloatKind.f64.format.order n n=if j9 n then none else some .eq:=by
 have e1:Ieee.double.signWeight=9223372036854775808:=by decide
 have e2:Ieee.double.binade=4503599627370496:=by decide
 have e3:Ieee.double.infRung=9218868437227405312:=by decide
 show (Ieee.double.read n).order (Ieee.double.read n)=_
 unfold Ieee.Format.read;simp only [e1,e2,e3];rcases h:j9 n with _ | _
 ·have:=yG n h
  simp only [Bool.false_eq_true,if_false];split
  ·simp [Ieee.Datum.order]
  ·split
   ·simp [Ieee.Datum.order]
   ·rw [if_pos (by omega)]
    simp [Ieee.Datum.order]
 ·have:=sP n h
  rw [if_neg (by omega),if_neg (by omega),if_neg (by omega)];simp [Ieee.Datum.order]
theorem B0 (n:Nat):(FloatKind.f64.format.order n n != some .eq)=j9 n:=by
 rw [qg];cases j9 n <;> rfl
theorem lO {n:Nat} (h:n<18446744073709551616):bv n<18446744073709551616:=by unfold bv;split <;> omega
theorem eP (n:Nat):bv (bv n)=bv n:=by
 unfold bv;rcases h:j9 n with _ | _
 ·simp [h]
 ·simp only [if_true]
  rw [if_pos (by decide)]
theorem lP (n:Nat) (w:World):(callFunc 145 #[.float .f64 n]).run Tryz.prog w=.ok (.value (.int .u64 (n:Int))) w:=by
 rw [run_callFunc_extern Tryz.func145 (by kernel_rfl) (by kernel_rfl) (by kernel_rfl) (e:=Extern.MathFloatBits.float64bits) (by kernel_rfl)];rfl
theorem ui (n:Nat) (w:World):(callFunc 194 #[.int .u64 (n:Int)]).run Tryz.prog w=.ok (.value (.float .f64 n)) w:=by
 rw [run_callFunc_extern Tryz.func194 (by kernel_rfl) (by kernel_rfl) (by kernel_rfl) (e:=Extern.MathFloatBits.float64frombits) (by kernel_rfl)];rfl
theorem zP (n:Nat) (w:World):Calls Tryz.prog 195 #[.float .f64 n] w fun e w'=>e=.returned (.bool (j9 n))∧w=w':=by
 have h:=B0 n;go_enter Tryz.func195,Tryz.ntmps195
 go_wp2
 go_ret
 exact ⟨by rfl,rfl⟩
theorem mn (n:Nat) (w:World):Calls Tryz.prog 184 #[.float .f64 n] w fun e w'=>e=.returned (.int .u64 (bv n:Int))∧w=w':=by
 have h:=lP n w;go_enter Tryz.func184,Tryz.ntmps184
 go_wp2_with fail
 refine (zP n w).mono ?_;rintro e w2 ⟨rfl,rfl⟩;rcases hn:j9 n with _ | _
 ·go_wp2
  go_ret
  exact ⟨by unfold bv;rw [hn];rfl,rfl⟩
 ·go_wp2
  go_ret
  exact ⟨by unfold bv;rw [hn];rfl,rfl⟩
theorem kx (a b:Nat) (w:World):Calls Tryz.prog 165 #[.float .f64 a,.float .f64 b] w fun e w'=>e=.returned (.bool (bv a == bv b))∧w=w':=by
 go_enter Tryz.func165,Tryz.ntmps165
 go_wp2_with fail
 refine (mn a w).mono ?_;rintro e w2 ⟨rfl,rfl⟩
 go_wp2_with fail
 refine (mn b w).mono ?_;rintro e w2 ⟨rfl,rfl⟩;have h:((bv a:Int) == (bv b:Int))=(bv a == bv b):=by
  by_cases h:bv a=bv b
  ·rw [h];simp
  ·rw [beq_eq_false_iff_ne.2 h,beq_eq_false_iff_ne.2 (by omega)]
 go_wp2
 go_ret
 exact ⟨by rfl,rfl⟩
def fj (n:Nat):List UInt8:=cd 8 (bv n) true
theorem fK (n:Nat):(fj n).length=8:=aw _ _ _
theorem uj (n:Nat) (w:World) (hn:n<18446744073709551616):Calls Tryz.prog 161 #[.float .f64 n] w fun e w'=>∃ A c,e=.returned (.slice A 8 c)∧w'.ownsRow w.heap.size 5 1 (.slice A 8 c) 8 (ab (fj n))∧Below w.heap.size w w':=by
 have hP:=ku true (bv n) 8 w (lO hn);rw [show cR 8=8 from rfl,show (cd 8 (bv n) true).length=8 from aw _ _ _] at hP;have HP:=Lib.hid hP;clear hP;go_enter Tryz.func161,Tryz.ntmps161
 go_wp2_with fail
 refine (mn n w).mono ?_;rintro e w2 ⟨rfl,rfl⟩
 go_wp2_with fail
 refine HP.out.mono ?_;rintro e w2 ⟨A,c,rfl,hown,hb⟩
 go_wp2
 go_ret
 exact ⟨A,c,rfl,hown,hb⟩
def jS (l:List UInt8):Nat × Bool:=if l.length=8∧bv (oP l)=oP l then (oP l,true) else (0,false)
theorem Ca (A:Option Addr) (n c:Nat) (l:List UInt8) (w:World) (hn:n=l.length) (hb:BS w w.heap.size A l) (hl:n≤8) (hc:n≤c) :
  Calls Tryz.prog 183 #[.slice A n c] w fun e w'=>e=.returned (.tuple #[.float .f64 (jS l).1,.bool (jS l).2])∧Below w.heap.size w w':=by
 subst hn;have Hg:=Lib.hid (nL A _ c l w rfl hb hl hc);obtain ⟨m,hm⟩:∃ m,m=oP l:=⟨_,rfl⟩
 have hw:jS l=if l.length=8∧bv m=m then (m,true) else (0,false):=by rw [hm];rfl
 rw [←hm] at Hg;have Hw:=Lib.hid hw;clear hm hb hw;obtain ⟨nl,hnl⟩:∃ n,n=l.length:=⟨_,rfl⟩
 rw [←hnl] at Hw Hg hl hc ⊢;clear hnl;go_enter Tryz.func183,Tryz.ntmps183
 go_wp2_with fail
 refine Hg.out.mono ?_;rintro e w2 ⟨rfl,hb2⟩;have Hb2:=Lib.hid hb2;have hf:=ui m w2;clear hb2 Hg;go_upto_region 3 with fail
 by_cases h8:nl=8
 ·subst h8
  go_wp2_with fail
  refine (mn m w2).mono ?_;rintro e w3 ⟨rfl,rfl⟩;by_cases hm:bv m=m
  ·have hmI:((bv m:Int) != (m:Int))=false:=by rw [hm];simp
   have Hm:=Lib.hid hm;clear hm
   go_wp2
   go_ret2
   have hfin:jS l=(m,true):=Hw.out.trans (by simp [Hm.out]);exact ⟨by rw [hfin];rfl,Hb2.out⟩
  ·have hmI:((bv m:Int) != (m:Int))=true:=by simp;omega
   have Hm:=Lib.hid hm;clear hm
   go_wp2
   go_ret2
   have hfin:jS l=(0,false):=Hw.out.trans (if_neg (fun h=>Hm.out h.2));exact ⟨by rw [hfin];rfl,Hb2.out⟩
 ·have h8I:((nl:Int) != 8)=true:=by simp;omega
  have H8:=Lib.hid h8;clear h8
  go_wp2
  go_ret2
  have hfin:jS l=(0,false):=Hw.out.trans (if_neg (fun h=>H8.out h.1));exact ⟨by rw [hfin];rfl,Hb2.out⟩
theorem Fo (n:Nat) (hn:n<18446744073709551616):bits BinOp.and IntKind.u64 (n:Int) 4503599627370495=((n % 4503599627370496:Nat):Int):=by
 have h:=bits_and_u64_nat n 4503599627370495 (by omega) (by omega);rw [show (4503599627370495:Nat)=2 ^ 52 - 1 by decide,Nat.and_two_pow_sub_one_eq_mod] at h;exact h
theorem Fp (n:Nat) (hn:n<18446744073709551616):bits BinOp.and IntKind.u64 (n:Int) 2047=((n % 2048:Nat):Int):=by
 have h:=bits_and_u64_nat n 2047 (by omega) (by omega);rw [show (2047:Nat)=2 ^ 11 - 1 by decide,Nat.and_two_pow_sub_one_eq_mod] at h;exact h
theorem zQ (n:Nat) (hn:n<18446744073709551616) (w:World):Calls Tryz.prog 180 #[.float .f64 n] w fun e w'=>∃ s:Bool,e=.returned (.tuple #[.bool s,.int .i64 ((n / 4503599627370496 % 2048:Nat):Int),.int .u64 ((n % 4503599627370496:Nat):Int)])∧w=w':=by
 have hf:=lP n w;have h1:=Fo n hn;have h2:=Fp (n / 4503599627370496) (by omega);rw [show ((n / 4503599627370496:Nat):Int)=(n:Int) / 4503599627370496 by omega] at h2;go_enter Tryz.func180,Tryz.ntmps180
 go_wp2
 go_ret3
 exact ⟨_,rfl,rfl⟩
theorem qh (n:Nat) (hn:n<18446744073709551616) (w:World):Calls Tryz.prog 144 #[.float .f64 n] w fun e w'=>e=.returned (.bool (j9 n))∧w=w':=by
 have Hp:=Lib.hid (zQ n hn w);obtain ⟨a,ha⟩:∃ a,a=n / 4503599627370496 % 2048:=⟨_,rfl⟩
 obtain ⟨b,hb⟩:∃ b,b=n % 4503599627370496:=⟨_,rfl⟩
 have hx:j9 n=(a == 2047 && b != 0):=by rw [ha,hb];rfl
 rw [←ha,←hb] at Hp;rw [hx];clear ha hb hx;go_enter Tryz.func144,Tryz.ntmps144
 go_wp2_with fail
 refine Hp.out.mono ?_;rintro e w2 ⟨s,rfl,rfl⟩;have h1:((a:Int) == 2047)=(a == 2047):=by
  by_cases h:a=2047
  ·subst h;rfl
  ·rw [beq_eq_false_iff_ne.2 h,beq_eq_false_iff_ne.2 (by omega)]
 have h2:((b:Int) != 0)=(b != 0):=by
  by_cases h:b=0
  ·subst h;rfl
  ·rw [bne_iff_ne.2 h,bne_iff_ne.2 (by omega)]
 rcases h3:(a == 2047) with _ | _
 ·rw [h3] at h1
  have h4:¬ (a:Int)=2047:=by simpa using h1
  go_wp2
  go_ret
  exact ⟨by rw [h3];rfl,rfl⟩
 ·rw [h3] at h1
  have h4:a=2047:=by simpa using h3
  subst h4
  go_wp2
  go_ret
  exact ⟨by simp [h2],rfl⟩
theorem Cb:cd 8 9221120237041090560 true=[127,248,0,0,0,0,0,0]:=by decide +kernel
theorem uk (n:Nat) (w:World) (hn:n<18446744073709551616):Calls Tryz.prog 79 #[.float .f64 n] w fun e w'=>∃ A c,e=.returned (.slice A 8 c)∧w'.ownsRow w.heap.size 5 1 (.slice A 8 c) 8 (ab (fj n))∧Below w.heap.size w w':=by
 rcases hx:j9 n with _ | _
 ·have hP:=BY true n 8 w hn
  have hw:fj n=cd 8 n true:=by unfold fj bv;rw [hx];rfl
  rw [show cR 8=8 from rfl,←hw,fK] at hP;have HP:=Lib.hid hP;have Hn:=Lib.hid (qh n hn w);rw [hx] at Hn;have hf:=lP n w;clear hP hw hx;go_enter Tryz.func79,Tryz.ntmps79
  go_wp2_with fail
  refine Hn.out.mono ?_;rintro e w2 ⟨rfl,rfl⟩
  go_wp2_with fail
  refine HP.out.mono ?_;rintro e w2 ⟨A,c,rfl,hown,hb⟩
  go_wp2
  go_ret
  exact ⟨A,c,rfl,hown,hb⟩
 ·have hw:fj n=[127,248,0,0,0,0,0,0]:=by unfold fj bv;rw [hx];exact Cb
  have Hw:=Lib.hid hw;have Hn:=Lib.hid (qh n hn w);rw [hx] at Hn;clear hw hx;go_enter Tryz.func79,Tryz.ntmps79
  go_wp2_with fail
  refine Hn.out.mono ?_;rintro e w2 ⟨rfl,rfl⟩
  go_wp2
  go_ret
  refine ⟨_,_,rfl,?_,(Below.refl _ _).alloc (Nat.le_refl _) _⟩;rw [Hw.out];exact World.ownsRow_lit w _ 8 (Nat.le_refl _) (by unfold maxLen;omega) (by simp)
theorem Cc {a b:Nat} (ha:a<18446744073709551616) (hb:b<18446744073709551616) (h:cd 8 a true=cd 8 b true):a=b:=by
 have h2:jP 8 a=jP 8 b:=by
  have:=congrArg List.reverse h;simpa [cd] using this
 have e:=congrArg oO h2;rw [jd 8 a (by omega),jd 8 b (by omega)] at e;exact e
theorem Cd {a b:Nat} (ha:a<18446744073709551616) (hb:b<18446744073709551616):(fj a == fj b)=(bv a == bv b):=by
 by_cases h:bv a=bv b
 ·rw [show fj a=fj b by unfold fj;rw [h],h];simp
 ·have hne:fj a≠fj b:=fun e=>h (Cc (lO ha) (lO hb) e)
  rw [beq_eq_false_iff_ne.2 h];exact beq_eq_false_iff_ne.2 hne
end Go.Proofs.YtaafkokfdgfabaaGreat
namespace Go.Proofs.YtaafkokfdgfabaaGreat
open Go.RowKit
set_option linter.unusedVariables false
set_option linter.unusedSimpArgs false
def zv (n:Int):Value:=.int .i64 n
def sv (l:List UInt8):Value:=.string ⟨l.toArray⟩
structure aU where
 name:List UInt8
 addr:cS
 port:Int
 mac:List UInt8
 wt:Nat
 drain:Bool
structure cz where
 kind:Int
 frame:List UInt8
 op:Int
 back:aU
 oname:List UInt8
 owt:Nat
 name:List UInt8
 well:Bool
structure rt where
 err:Int
 reason:Int
 hit:Bool
 version:Int
 name:List UInt8
 out:List UInt8
structure da where
 act:cz
 o:rt
 len:Int
 sum:Nat
def dN:aU:={ name:=[],addr:=cT,port:=0,mac:=List.replicate 6 0,wt:=0,drain:=false }
def dC:cz:={ kind:=0,frame:=[],op:=0,back:=dN,oname:=[],owt:=0,name:=[],well:=false }
def ul:rt:={ err:=0,reason:=0,hit:=false,version:=0,name:=[],out:=[] }
def mo:da:={ act:=dC,o:=ul,len:=0,sum:=0 }
structure au (b:aU):Prop where
 addr:aS b.addr
 mac:b.mac.length=6
 wt:b.wt<18446744073709551616
structure aA (a:cz):Prop where
 back:au a.back
 owt:a.owt<18446744073709551616
structure aB (e:da):Prop where
 act:aA e.act
 sum:e.sum<4294967296
theorem aF:au dN:=⟨rfl,rfl,by decide⟩
theorem bJ:aA dC:=⟨aF,by decide⟩
theorem eY:aB mo:=⟨bJ,by decide⟩
def ag (b:aU):List Value:=sv b.name :: (ai b.addr ++ (zv b.port :: (ab b.mac ++ [.float .f64 b.wt,.bool b.drain])))
def aq (A:Option Addr) (n c:Nat) (a:cz):List Value:=zv a.kind :: .slice A n c :: zv a.op :: (ag a.back ++ [sv a.oname,.float .f64 a.owt,sv a.name,.bool a.well])
def dG (A:Option Addr) (n c:Nat) (o:rt):List Value:=[zv o.err,zv o.reason,.bool o.hit,zv o.version,sv o.name,.slice A n c]
def bm (A:Option Addr) (n c:Nat) (A':Option Addr) (n' c':Nat) (e:da):List Value:=aq A n c e.act ++ (dG A' n' c' e.o ++ [zv e.len,.int .u32 (e.sum:Int)])
theorem bq {b:aU} (h:au b):(ag b).length=27:=by
 have h1:=ap h.addr;have h2:=h.mac;simp [ag,h1,ao,h2]
theorem aX {A:Option Addr} {n c:Nat} {a:cz} (h:aA a):(aq A n c a).length=34:=by
 have:=bq h.back;simp [aq,this]
theorem D8 {A:Option Addr} {n c:Nat} {o:rt}:(dG A n c o).length=6:=rfl
theorem jt {A A':Option Addr} {n c n' c':Nat} {e:da} (h:aB e):(bm A n c A' n' c' e).length=42:=by
 have:=aX (A:=A) (n:=n) (c:=c) h.act;simp [bm,this,D8]
section
variable {b:aU}
theorem rL (h:au b) {k:Nat} (hk:k<17):(ag b)[1 + k]?=(ai b.addr)[k]?:=by
 rw [show 1 + k=k + 1 by omega,ag,List.getElem?_cons_succ,List.getElem?_append_left (by rw [ap h.addr];exact hk)]
theorem pM (h:au b) (k:Nat):(ag b)[18 + k]?=(zv b.port :: (ab b.mac ++ [.float .f64 b.wt,.bool b.drain]))[k]?:=by
 rw [show 18 + k=(17 + k) + 1 by omega,ag,List.getElem?_cons_succ,List.getElem?_append_right (by rw [ap h.addr];omega),ap h.addr,Nat.add_sub_cancel_left]
theorem Ce (h:au b) {k:Nat} (hk:k<6):(ag b)[19 + k]?=(ab b.mac)[k]?:=by
 have:=pM h (k + 1);rw [show 19 + k=18 + (k + 1) by omega,this,List.getElem?_cons_succ,List.getElem?_append_left (by rw [ao,h.mac];exact hk)]
theorem pO (h:au b) (k:Nat):(ag b)[25 + k]?=[Value.float .f64 b.wt,.bool b.drain][k]?:=by
 have:=pM h (k + 7);rw [show 25 + k=18 + (k + 7) by omega,this,show k + 7=(k + 6) + 1 by omega,List.getElem?_cons_succ,List.getElem?_append_right (by rw [ao,h.mac];omega),ao,h.mac];simp
end
section
variable {A:Option Addr} {n c:Nat} {a:cz}
theorem Cf (h:aA a) {k:Nat} (hk:k<27):(aq A n c a)[3 + k]?=(ag a.back)[k]?:=by
 rw [show 3 + k=(k + 2) + 1 by omega,aq,List.getElem?_cons_succ,List.getElem?_cons_succ,List.getElem?_cons_succ,List.getElem?_append_left (by rw [bq h.back];exact hk)]
theorem Fq (h:aA a) (k:Nat):(aq A n c a)[30 + k]?=[sv a.oname,.float .f64 a.owt,sv a.name,.bool a.well][k]?:=by
 rw [show 30 + k=(27 + k + 2) + 1 by omega,aq,List.getElem?_cons_succ,List.getElem?_cons_succ,List.getElem?_cons_succ,List.getElem?_append_right (by rw [bq h.back];omega),bq h.back,Nat.add_sub_cancel_left]
end
section
variable {A A':Option Addr} {n c n' c':Nat} {e:da}
theorem Fr (h:aB e) {k:Nat} (hk:k<34):(bm A n c A' n' c' e)[k]?=(aq A n c e.act)[k]?:=by
 rw [bm,List.getElem?_append_left (by rw [aX h.act];exact hk)]
theorem Ga (h:aB e) (k:Nat):(bm A n c A' n' c' e)[34 + k]?=[zv e.o.err,zv e.o.reason,.bool e.o.hit,zv e.o.version,sv e.o.name,.slice A' n' c',zv e.len,.int .u32 (e.sum:Int)][k]?:=by
 rw [bm,List.getElem?_append_right (by rw [aX h.act];omega),aX h.act,Nat.add_sub_cancel_left];rfl
end
def bw (a b:aU):Bool:=a.name == b.name && (a.addr == b.addr && (a.port == b.port && (a.mac == b.mac && (bv a.wt == bv b.wt && a.drain == b.drain))))
def cK (a b:cz):Bool:=a.kind == b.kind && (a.frame == b.frame && (a.op == b.op && (a.oname == b.oname && (bv a.owt == bv b.owt && (bw a.back b.back && (a.name == b.name && a.well == b.well))))))
def gF (a b:da):Bool:=cK a.act b.act && (a.o.err == b.o.err && (a.o.reason == b.o.reason && (a.o.hit == b.o.hit && (a.o.version == b.o.version && (a.o.name == b.o.name && (a.o.out == b.o.out && (a.len == b.len && a.sum == b.sum)))))))
def dO (a:cz):cz :=
 if a.kind=1 then { dC with kind:=a.kind,frame:=a.frame }
 else if a.kind=2 then
  (if a.op=1 then { dC with kind:=a.kind,op:=a.op,back:=a.back }
   else if a.op=3 then { dC with kind:=a.kind,op:=a.op,oname:=a.oname,owt:=a.owt }
   else { dC with kind:=a.kind,op:=a.op,oname:=a.oname })
 else if a.kind=3 then { dC with kind:=a.kind,name:=a.name,well:=a.well }
 else { dC with kind:=a.kind }
theorem wE {a:cz} (h:aA a):aA (dO a):=by
 have h0:(0:Nat)<18446744073709551616:=by decide
 unfold dO;split
 ·exact ⟨aF,h0⟩
 ·split
  ·split
   ·exact ⟨h.back,h0⟩
   ·split
    ·exact ⟨aF,h.owt⟩
    ·exact ⟨aF,h0⟩
  ·split
   ·exact ⟨aF,h0⟩
   ·exact ⟨aF,h0⟩
def ez (n lo hi:Int):Bool:=decide (lo≤n) && decide (n≤hi)
theorem bE {n lo hi:Int}:ez n lo hi=true↔lo≤n∧n≤hi:=by simp [ez]
def fL (b:aU):Bool:=decide (b.name.length≤255) && ez b.port 0 65535
def ek (a:cz):Bool:=ez a.kind 1 4 && ((a.kind != 2 || ez a.op 1 5) && (cK a (dO a) && (decide (a.frame.length≤131072) && (decide (a.oname.length≤255) && (decide (a.name.length≤255) && fL a.back)))))
def aL (e:da):Bool:=ek e.act && (ez e.o.err 0 9 && (ez e.o.reason 0 10 && (ez e.o.version 0 1099511627776 && (decide (e.o.name.length≤255) && (decide (e.o.out.length=0) && ez e.len 0 262144)))))
theorem oY:(Tryz.prog.info? 56).map (·.size)=some 27:=by kernel_rfl
theorem Cg:(Tryz.prog.info? 60).map (·.size)=some 34:=by kernel_rfl
theorem Ch:(Tryz.prog.info? 62).map (·.size)=some 6:=by kernel_rfl
theorem D9:(Tryz.prog.info? 65).map (·.size)=some 42:=by kernel_rfl
theorem dv {b:aU} (h:au b):(Tryz.prog.info? 56).map (·.size)=some (ag b).length:=by rw [bq h];exact oY
theorem bR {A:Option Addr} {n c:Nat} {a:cz} (h:aA a):(Tryz.prog.info? 60).map (·.size)=some (aq A n c a).length:=by rw [aX h];exact Cg
theorem lQ {A:Option Addr} {n c:Nat} {o:rt}:(Tryz.prog.info? 62).map (·.size)=some (dG A n c o).length:=Ch
theorem lG {A A':Option Addr} {n c n' c':Nat} {e:da} (h:aB e):(Tryz.prog.info? 65).map (·.size)=some (bm A n c A' n' c' e).length:=by rw [jt h];exact D9
theorem eZ (b:aU):(ag b).toArray.all (·.oneCell')=true:=all_oneCell_toArray (by
 intro u hu;simp only [ag,ai,List.mem_cons,List.mem_append,List.cons_append,List.not_mem_nil,or_false] at hu;rcases hu with rfl | rfl | hu | rfl | hu | rfl | rfl
 all_goals first | rfl | exact ej _ u hu)
theorem eU (A:Option Addr) (n c:Nat) (a:cz):(aq A n c a).toArray.all (·.oneCell')=true:=all_oneCell_toArray (by
 intro u hu;simp only [aq,List.mem_cons,List.mem_append,List.not_mem_nil,or_false] at hu;rcases hu with rfl | rfl | rfl | hu | rfl | rfl | rfl | rfl
 all_goals first | rfl | exact Array.all_eq_true_iff_forall_mem.1 (eZ a.back) u (by simpa using hu))
theorem nR (A:Option Addr) (n c:Nat) (o:rt):(dG A n c o).toArray.all (·.oneCell')=true:=all_oneCell_toArray (by
 intro u hu;simp only [dG,List.mem_cons,List.not_mem_nil,or_false] at hu;rcases hu with rfl | rfl | rfl | rfl | rfl | rfl
 all_goals rfl)
theorem oZ (A:Option Addr) (n c:Nat) (A':Option Addr) (n' c':Nat) (e:da):(bm A n c A' n' c' e).toArray.all (·.oneCell')=true:=all_oneCell_toArray (by
 intro u hu;simp only [bm,List.mem_cons,List.mem_append,List.not_mem_nil,or_false] at hu;rcases hu with hu | hu | rfl | rfl
 ·exact Array.all_eq_true_iff_forall_mem.1 (eU A n c e.act) u (by simpa using hu)
 ·exact Array.all_eq_true_iff_forall_mem.1 (nR A' n' c' e.o) u (by simpa using hu)
 ·rfl
 ·rfl)
theorem gT:(ag dN).toArray=(#[.string ⟨#[]⟩,.bool false,.int .u8 0,.int .u8 0,.int .u8 0,.int .u8 0,.int .u8 0,.int .u8 0,.int .u8 0,.int .u8 0,.int .u8 0,.int .u8 0,.int .u8 0,.int .u8 0,.int .u8 0,.int .u8 0,.int .u8 0,.int .u8 0,.int .i64 0,.int .u8 0,.int .u8 0,.int .u8 0,.int .u8 0,.int .u8 0,.int .u8 0,.float .f64 0,.bool false]:Array Value):=rfl
theorem nS:(aq none 0 0 dC).toArray=(#[.int .i64 0,.slice none 0 0,.int .i64 0,.string ⟨#[]⟩,.bool false,.int .u8 0,.int .u8 0,.int .u8 0,.int .u8 0,.int .u8 0,.int .u8 0,.int .u8 0,.int .u8 0,.int .u8 0,.int .u8 0,.int .u8 0,.int .u8 0,.int .u8 0,.int .u8 0,.int .u8 0,.int .u8 0,.int .i64 0,.int .u8 0,.int .u8 0,.int .u8 0,.int .u8 0,.int .u8 0,.int .u8 0,.float .f64 0,.bool false,.string ⟨#[]⟩,.float .f64 0,.string ⟨#[]⟩,.bool false]:Array Value):=rfl
end Go.Proofs.YtaafkokfdgfabaaGreat
namespace Go.Proofs.YtaafkokfdgfabaaGreat
open Go.RowKit
set_option linter.unusedVariables false
set_option linter.unusedSimpArgs false
def RW {α:Type} (cs:α→List Value) (sz:Nat) (w:World) (B:Nat) (A:Option Addr) (l:List α):Prop :=
 0<l.length→∃ b o,A=some ⟨b,o,none⟩∧b<B∧∀ j v,l[j]?=some v→w.rangeAt b (o + j * sz) (cs v)
section
variable {α:Type} {cs:α→List Value} {sz:Nat} {w w':World} {B B':Nat} {A:Option Addr} {l:List α}
theorem RW.keep (h:RW cs sz w B A l) (hk:∀ p:Addr,p.block<B→w'.cell? p=w.cell? p):RW cs sz w' B A l:=fun hn=>by
 obtain ⟨b,o,e,hb,hc⟩:=h hn;exact ⟨b,o,e,hb,fun j v hj i c hi=>(hk ⟨b,_,none⟩ hb).trans (hc j v hj i c hi)⟩
theorem RW.more (h:RW cs sz w B A l) (hB:B≤B'):RW cs sz w B' A l:=fun hn=>by
 obtain ⟨b,o,e,hb,hc⟩:=h hn;exact ⟨b,o,e,by omega,hc⟩
theorem RW.below (h:RW cs sz w B A l) (hb:Below B w w'):RW cs sz w' B A l:=h.keep fun _ hp=>hb.cell hp
theorem RW.take (h:RW cs sz w B A l) (k:Nat):RW cs sz w B A (l.take k):=fun hn=>by
 obtain ⟨b,o,e,hb,hc⟩:=h (by rw [List.length_take] at hn;omega);refine ⟨b,o,e,hb,fun j v hj=>hc j v ?_⟩;rw [List.getElem?_take] at hj;split at hj
 ·exact hj
 ·cases hj
theorem RW.nil (w:World) (B:Nat) (A:Option Addr):RW cs sz w B A []:=fun hn=>by simp at hn
theorem RW.at_ (h:RW cs sz w B A l) {k:Nat} (hk:k<l.length):∃ b o,A=some ⟨b,o,none⟩∧b<B∧w.rangeAt b (o + k * sz) (cs l[k]):=by
 obtain ⟨b,o,e,hb,hc⟩:=h (by omega);exact ⟨b,o,e,hb,hc k _ (List.getElem?_eq_getElem hk)⟩
end
def cA {α:Type} (cs:α→List Value) (l:List α):List Value:=l.flatMap cs
section
variable {α:Type} {cs:α→List Value} {sz:Nat} {P:α→Prop}
theorem zV (hsz:∀ v,P v→(cs v).length=sz) {l:List α} (h:∀ v ∈ l,P v):(cA cs l).length=l.length * sz:=by
 induction l with
 | nil=>simp [cA]
 | cons v vs ih =>
  have:=ih (fun u hu=>h u (by simp [hu]));rw [cA,List.flatMap_cons,List.length_append,hsz v (h v (by simp))];rw [cA] at this;rw [this,List.length_cons,Nat.add_mul,Nat.one_mul,Nat.add_comm]
theorem Cv (hsz:∀ v,P v→(cs v).length=sz) {l:List α} (h:∀ v ∈ l,P v) {j:Nat} {v:α} (hj:l[j]?=some v) {i:Nat} {u:Value} (hi:(cs v)[i]?=some u):(cA cs l)[j * sz + i]?=some u:=by
 induction l generalizing j with
 | nil=>simp at hj
 | cons x xs ih =>
  have hx:=hsz x (h x (by simp));rw [cA,List.flatMap_cons];rcases j with _ | j
  ·simp only [List.getElem?_cons_zero,Option.some.injEq] at hj
   subst hj;rw [Nat.zero_mul,Nat.zero_add,List.getElem?_append_left (List.getElem?_eq_some_iff.1 hi).1];exact hi
  ·rw [List.getElem?_cons_succ] at hj
   have:=ih (fun u hu=>h u (by simp [hu])) hj;have he:(j + 1) * sz + i - sz=j * sz + i:=by rw [Nat.add_mul,Nat.one_mul];omega
   rw [List.getElem?_append_right (by rw [hx,Nat.add_mul,Nat.one_mul];omega),hx,he];exact this
end
structure cN where
 name:List UInt8
 down:Bool
 run:Int
structure fz where
 src:cS
 dst:cS
 proto:Int
 sport:Int
 dport:Int
structure dD where
 key:fz
 name:List UInt8
 state:Int
 seen:Int
 no:Int
structure lS where
 version:Int
 backs:List aU
structure bh where
 pool:lS
 healths:List cN
 flows:List dD
 tick:Int
 no:Int
 count:List Int
structure cg (t:fz):Prop where
 src:aS t.src
 dst:aS t.dst
structure gG (s:bh):Prop where
 backs:∀ b ∈ s.pool.backs,au b
 flows:∀ f ∈ s.flows,cg f.key
 count:s.count.length=11
def aC (h:cN):List Value:=[sv h.name,.bool h.down,zv h.run]
def aO (t:fz):List Value:=ai t.src ++ (ai t.dst ++ [zv t.proto,zv t.sport,zv t.dport])
def ax (f:dD):List Value:=aO f.key ++ [sv f.name,zv f.state,zv f.seen,zv f.no]
def fN (A:Option Addr) (n c:Nat) (p:lS):List Value:=[zv p.version,.slice A n c]
structure nG where
 b:Option Addr
 cb:Nat
 h:Option Addr
 ch:Nat
 f:Option Addr
 cf:Nat
def dh (x:nG) (s:bh):List Value :=
 zv s.pool.version :: .slice x.b s.pool.backs.length x.cb :: .slice x.h s.healths.length x.ch :: .slice x.f s.flows.length x.cf :: zv s.tick :: zv s.no :: s.count.map zv
theorem fw {t:fz} (h:cg t):(aO t).length=37:=by
 have h1:=ap h.src;have h2:=ap h.dst;simp [aO,h1,h2]
theorem iT {f:dD} (h:cg f.key):(ax f).length=41:=by
 have:=fw h;simp [ax,this]
theorem kb {x:nG} {s:bh} (h:gG s):(dh x s).length=17:=by
 simp [dh,h.count]
structure kX (w:World) (B:Nat) (x:nG) (s:bh):Prop where
 backs:RW ag 27 w B x.b s.pool.backs
 healths:RW aC 3 w B x.h s.healths
 flows:RW ax 41 w B x.f s.flows
section
variable {w w':World} {B B':Nat} {x:nG} {s:bh}
theorem kX.below (h:kX w B x s) (hb:Below B w w'):kX w' B x s:=⟨h.backs.below hb,h.healths.below hb,h.flows.below hb⟩
theorem kX.more (h:kX w B x s) (hB:B≤B'):kX w B' x s:=⟨h.backs.more hB,h.healths.more hB,h.flows.more hB⟩
end
structure mJ (w:World) (B:Nat) (x:nG) (s:bh):Prop where
 held:kX w B x s
 ok:gG s
 cb:s.pool.backs.length≤x.cb∧s.pool.backs.length≤1000000
 ch:s.healths.length≤x.ch∧s.healths.length≤1000000
 cf:s.flows.length≤x.cf∧s.flows.length≤1000000
 nb:∀ b ∈ s.pool.backs,b.name.length≤1000000000
 nh:∀ h ∈ s.healths,h.name.length≤1000000000
 nf:∀ f ∈ s.flows,f.name.length≤1000000000
theorem mJ.below {w w':World} {B:Nat} {x:nG} {s:bh} (h:mJ w B x s) (hb:Below B w w'):mJ w' B x s:={ h with held:=h.held.below hb }
theorem mJ.more {w:World} {B B':Nat} {x:nG} {s:bh} (h:mJ w B x s) (hB:B≤B'):mJ w B' x s:={ h with held:=h.held.more hB }
theorem mJ.on {w w':World} {x:nG} {s:bh} (h:mJ w w.heap.size x s) (hb:Below w.heap.size w w'):mJ w' w'.heap.size x s:=(h.below hb).more hb.size
end Go.Proofs.YtaafkokfdgfabaaGreat
namespace Go.Proofs.YtaafkokfdgfabaaGreat
open Go.RowKit
set_option linter.unusedVariables false
set_option linter.unusedSimpArgs false
theorem bW:Tryz.prog.underlying 56=some (.struct (Tryz.prog.fieldsOf 56)):=by kernel_rfl
theorem zW:Tryz.prog.stoodInHeld 56=false:=by kernel_rfl
theorem wJ:Tryz.prog.eqGuardType Tryz.prog.depth 56=false:=by kernel_rfl
theorem sW (w:World):(sizeOf 27).run Tryz.prog w=.ok 17 w:=by
 obtain ⟨i,hi⟩:=info_of_underlying Tryz.underlying27;rw [run_sizeOf w hi,show Tryz.prog.cellsOf 27=17 by kernel_rfl]
theorem zX (w:World):(sizeOf 24).run Tryz.prog w=.ok 6 w:=by
 obtain ⟨i,hi⟩:=info_of_underlying Tryz.underlying24;rw [run_sizeOf w hi,show Tryz.prog.cellsOf 24=6 by kernel_rfl]
theorem Eb (b:aU) (w:World):(part 9 (ag b).toArray 0).run Tryz.prog w=.ok (sv b.name) w:=by
 simp [part,isAgg,run_underlying Tryz.underlying9,ag]
theorem yI (b:aU) (h:au b) (w:World):(part 27 (ag b).toArray 1).run Tryz.prog w=.ok (.agg (ai b.addr).toArray) w:=by
 have e:(ag b).toArray.extract 1 18=(ai b.addr).toArray:=by
  apply Array.ext'
  simp only [Array.toList_extract,List.extract_eq_take_drop,ag,List.drop_succ_cons,List.drop_zero];rw [List.take_append_of_le_length (by rw [ap h.addr];decide),List.take_of_length_le (by rw [ap h.addr];decide)]
 simp only [part,isAgg,Sem.run_bind,run_underlying Tryz.underlying27,Result.andThen_ok,Sem.run_pure,sW,if_true,Nat.reduceAdd,e]
theorem yJ (b:aU) (h:au b) (w:World):(part 3 (ag b).toArray 18).run Tryz.prog w=.ok (zv b.port) w:=by
 have e:(ag b).toArray[18]?=some (zv b.port):=by rw [List.getElem?_toArray];exact pM h 0
 simp [part,isAgg,run_underlying Tryz.underlying3,e]
theorem yK (b:aU) (h:au b) (w:World):(part 24 (ag b).toArray 19).run Tryz.prog w=.ok (.agg (b.mac.map Extern.Stop.cell).toArray) w:=by
 have h2:ab b.mac=b.mac.map Extern.Stop.cell:=rfl;have hd:(ag b).drop 19=ab b.mac ++ [.float .f64 b.wt,.bool b.drain]:=by
  rw [ag,show 19=18 + 1 from rfl,List.drop_succ_cons,show 18=17 + 1 from rfl,←List.drop_drop,List.drop_left' (ap h.addr),List.drop_succ_cons,List.drop_zero]
 have e:(ag b).toArray.extract 19 25=(ab b.mac).toArray:=by
  apply Array.ext'
  simp only [Array.toList_extract,List.extract_eq_take_drop];rw [hd,List.take_append_of_le_length (by rw [ao,h.mac];decide),List.take_of_length_le (by rw [ao,h.mac];decide)]
 simp only [part,isAgg,Sem.run_bind,run_underlying Tryz.underlying24,Result.andThen_ok,Sem.run_pure,zX,if_true,Nat.reduceAdd,e,h2]
theorem yL (b:aU) (h:au b) (w:World):(part 54 (ag b).toArray 25).run Tryz.prog w=.ok (.float .f64 b.wt) w:=by
 have e:(ag b).toArray[25]?=some (.float .f64 b.wt):=by rw [List.getElem?_toArray];exact pO h 0
 simp [part,isAgg,run_underlying Tryz.underlying54,e]
theorem yM (b:aU) (h:au b) (w:World):(part 4 (ag b).toArray 26).run Tryz.prog w=.ok (.bool b.drain) w:=by
 have e:(ag b).toArray[26]?=some (.bool b.drain):=by rw [List.getElem?_toArray];exact pO h 1
 simp [part,isAgg,run_underlying Tryz.underlying4,e]
theorem nc (d:Nat) (t:TypeId) (h:Tryz.prog.underlying t=some (.float .f64)) (w:World):(Op.equalIn (d + 1) t (.float .f64 0) (.float .f64 0)).run Tryz.prog w=.ok true w:=by
 have:=qg 0;simp [Op.equalIn,run_underlying h,Op.floatEq]
 try (rw [this];rfl)
theorem zY (d:Nat) (a b:aU) (ha:au a) (hb:au b) (h0:a.wt=0) (h1:b.wt=0) (w:World) :
  (Op.equalIn (d + 4) 56 (.agg (ag a).toArray) (.agg (ag b).toArray)).run Tryz.prog w=.ok (a.name == b.name && (a.addr == b.addr && (a.port == b.port && (a.mac == b.mac && a.drain == b.drain)))) w:=by
 have e0:∀ w,(Op.equalIn (d + 3) 9 (sv a.name) (sv b.name)).run Tryz.prog w=.ok (a.name == b.name) w:=fun w=>by
  have:=run_equalIn_string (P:=Tryz.prog) w (d + 2) 9 ⟨a.name.toArray⟩ ⟨b.name.toArray⟩ Tryz.underlying9;rw [ByteArray.toList_eq,ByteArray.toList_eq] at this;simpa [sv] using this
 have e1:=fun w=>gR d a.addr b.addr ha.addr hb.addr w
 have e2:=fun w=>run_equalIn_int (P:=Tryz.prog) w (d + 2) 3 .i64 .i64 a.port b.port Tryz.underlying3
 have e3:=fun w=>run_equalIn_bytes (P:=Tryz.prog) w (d + 1) 24 5 6 Tryz.underlying24 Tryz.underlying5 nP a.mac b.mac ha.mac hb.mac
 have e4:=fun w=>nc (d + 2) 54 Tryz.underlying54 w
 have e5:=fun w=>run_equalIn_bool (P:=Tryz.prog) w (d + 2) 4 a.drain b.drain Tryz.underlying4
 have p4a:=yL a ha w;have p4b:=yL b hb w;rw [h0] at p4a;rw [h1] at p4b;rw [run_equalIn_struct w (d + 3) _ _ _ bW zW];simp only [Program.fieldsOf,Tryz.underlying56,Op.eqFields];rw [if_pos (by decide)];simp only [Sem.run_bind,Eb,Result.andThen_ok,e0];cases hc:(a.name == b.name)
 ·simp
 ·simp only [Bool.not_true,Bool.false_eq_true,if_false]
  rw [if_pos (by decide)];simp only [Sem.run_bind,yI a ha,yI b hb,Result.andThen_ok,e1];cases hd:(a.addr == b.addr)
  ·simp
  ·simp only [Bool.not_true,Bool.false_eq_true,if_false]
   rw [if_pos (by decide)];simp only [Sem.run_bind,yJ a ha,yJ b hb,Result.andThen_ok,zv,e2];cases he:(a.port == b.port)
   ·simp
   ·simp only [Bool.not_true,Bool.false_eq_true,if_false]
    rw [if_pos (by decide)];simp only [Sem.run_bind,yK a ha,yK b hb,Result.andThen_ok,e3];cases hf:(a.mac == b.mac)
    ·simp
    ·simp only [Bool.not_true,Bool.false_eq_true,if_false]
     rw [if_pos (by decide)];simp only [Sem.run_bind,p4a,p4b,Result.andThen_ok,e4];simp only [Bool.not_true,Bool.false_eq_true,if_false];rw [if_pos (by decide)];simp only [Sem.run_bind,yM a ha,yM b hb,Result.andThen_ok,e5];cases hg:(a.drain == b.drain) <;> simp
theorem uq (A:Option Addr) (c:Nat) (l:List UInt8) (A':Option Addr) (c':Nat) (m:List UInt8) (w:World) (B B':Nat) (hb:BS w B A l) (hb':BS w B' A' m) :
  Calls Tryz.prog 175 #[.slice A l.length c,.slice A' m.length c'] w fun e w'=>e=.returned (.bool (l == m))∧w=w':=by
 have h1:=bu (P:=Tryz.prog) 43 9 5 Tryz.underlying43 Tryz.underlying5 Tryz.underlying9 w B A l hb _ c rfl;have h2:=bu (P:=Tryz.prog) 43 9 5 Tryz.underlying43 Tryz.underlying5 Tryz.underlying9 w B' A' m hb' _ c' rfl;go_enter Tryz.func175,Tryz.ntmps175
 go_wp2
 go_ret
 exact ⟨rfl,rfl⟩
theorem bB (n hi:Int) (w:World):Calls Tryz.prog 68 #[.int .i64 n,.int .i64 hi] w fun e w'=>e=.returned (.bool (ez n 0 hi))∧w=w':=by
 by_cases h:0≤n
 ·have hr:Hid (ez n 0 hi=decide (n≤hi)):=by show _=_;rw [ez,decide_eq_true h];rfl
  go_enter Tryz.func68,Tryz.ntmps68
  go_wp2
  go_ret
  exact ⟨by rw [hr.out];rfl,rfl⟩
 ·have hr:Hid (ez n 0 hi=false):=by show _=_;rw [ez,decide_eq_false h];rfl
  go_enter Tryz.func68,Tryz.ntmps68
  go_wp2
  go_ret
  exact ⟨by rw [hr.out];rfl,rfl⟩
section
variable {w:World} {g:Nat} {t:TypeId}
theorem mq {b:aU} (hb:ah w g t (ag b).toArray):w.cell? ⟨g,0,none⟩=some (.string ⟨b.name.toArray⟩):=hb.cell 0
theorem kY {b:aU} (hb:ah w g t (ag b).toArray) (h:au b):w.cell? ⟨g,18,none⟩=some (.int .i64 b.port):=by rw [hb.cell,List.getElem?_toArray,show 18=18 + 0 from rfl,pM h];rfl
theorem mO {b:aU} (hb:ah w g t (ag b).toArray) (h:au b):w.cell? ⟨g,25,none⟩=some (.float .f64 b.wt):=by rw [hb.cell,List.getElem?_toArray,show 25=25 + 0 from rfl,pO h];rfl
theorem oa {b:aU} (hb:ah w g t (ag b).toArray) (h:au b):w.cell? ⟨g,26,none⟩=some (.bool b.drain):=by rw [hb.cell,List.getElem?_toArray,show 26=25 + 1 from rfl,pO h];rfl
theorem wK {b:aU} (hb:ah w g t (ag b).toArray) (h:au b):w.cell? ⟨g,1,none⟩=some (.bool b.addr.1):=by rw [hb.cell,List.getElem?_toArray,show 1=1 + 0 from rfl,rL h (by decide)];rfl
theorem pP {b:aU} (hb:ah w g t (ag b).toArray) (h:au b):w.rangeAt g 1 (ai b.addr):=fun j v hj=>by
 rw [hb.cell,List.getElem?_toArray,rL h (by have:=(List.getElem?_eq_some_iff.1 hj).1;rw [ap h.addr] at this;exact this)];exact hj
theorem wL {b:aU} (hb:ah w g t (ag b).toArray) (h:au b):w.rangeAt g 19 (ab b.mac):=fun j v hj=>by
 rw [hb.cell,List.getElem?_toArray,Ce h (by have:=(List.getElem?_eq_some_iff.1 hj).1;rw [ao,h.mac] at this;exact this)];exact hj
variable {A:Option Addr} {n c:Nat}
theorem iL {a:cz} (hb:ah w g t (aq A n c a).toArray):w.cell? ⟨g,0,none⟩=some (.int .i64 a.kind):=hb.cell 0
theorem go {a:cz} (hb:ah w g t (aq A n c a).toArray):w.cell? ⟨g,1,none⟩=some (.slice A n c):=hb.cell 1
theorem kz {a:cz} (hb:ah w g t (aq A n c a).toArray):w.cell? ⟨g,2,none⟩=some (.int .i64 a.op):=hb.cell 2
theorem yN {a:cz} (hb:ah w g t (aq A n c a).toArray) (h:aA a) (i:Nat):w.cell? ⟨g,30 + i,none⟩=[sv a.oname,.float .f64 a.owt,sv a.name,.bool a.well][i]?:=by rw [hb.cell,List.getElem?_toArray,Fq h]
theorem fA {a:cz} (hb:ah w g t (aq A n c a).toArray) (h:aA a):w.cell? ⟨g,30,none⟩=some (.string ⟨a.oname.toArray⟩):=yN hb h 0
theorem lT {a:cz} (hb:ah w g t (aq A n c a).toArray) (h:aA a):w.cell? ⟨g,31,none⟩=some (.float .f64 a.owt):=yN hb h 1
theorem ij {a:cz} (hb:ah w g t (aq A n c a).toArray) (h:aA a):w.cell? ⟨g,32,none⟩=some (.string ⟨a.name.toArray⟩):=yN hb h 2
theorem jf {a:cz} (hb:ah w g t (aq A n c a).toArray) (h:aA a):w.cell? ⟨g,33,none⟩=some (.bool a.well):=yN hb h 3
theorem jT {a:cz} (hb:ah w g t (aq A n c a).toArray) (h:aA a):w.rangeAt g 3 (ag a.back):=fun j v hj=>by
 rw [hb.cell,List.getElem?_toArray,Cf h (by have:=(List.getElem?_eq_some_iff.1 hj).1;rw [bq h.back] at this;exact this)];exact hj
variable {A':Option Addr} {n' c':Nat}
theorem qm {e:da} (hb:ah w g t (bm A n c A' n' c' e).toArray) (h:aB e):w.rangeAt g 0 (aq A n c e.act):=fun j v hj=>by
 rw [Nat.zero_add,hb.cell,List.getElem?_toArray,Fr h (by have:=(List.getElem?_eq_some_iff.1 hj).1;rw [aX h.act] at this;exact this)];exact hj
theorem lJ {e:da} (hb:ah w g t (bm A n c A' n' c' e).toArray) (h:aB e) (i:Nat):w.cell? ⟨g,34 + i,none⟩=[zv e.o.err,zv e.o.reason,.bool e.o.hit,zv e.o.version,sv e.o.name,.slice A' n' c',zv e.len,.int .u32 (e.sum:Int)][i]?:=by rw [hb.cell,List.getElem?_toArray,Ga h]
theorem sX {e:da} (hb:ah w g t (bm A n c A' n' c' e).toArray) (h:aB e):w.rangeAt g 34 (dG A' n' c' e.o):=fun j v hj=>by
 rw [lJ hb h];rcases j with _ | _ | _ | _ | _ | _ | j
 all_goals first | exact hj | (simp [dG] at hj)
theorem jy {e:da} (hb:ah w g t (bm A n c A' n' c' e).toArray) (h:aB e):w.cell? ⟨g,40,none⟩=some (.int .i64 e.len):=lJ hb h 6
theorem wM {e:da} (hb:ah w g t (bm A n c A' n' c' e).toArray) (h:aB e):w.cell? ⟨g,41,none⟩=some (.int .u32 (e.sum:Int)):=lJ hb h 7
end
end Go.Proofs.YtaafkokfdgfabaaGreat
namespace Go.Proofs.YtaafkokfdgfabaaGreat
open Go.RowKit
set_option linter.unusedVariables false
set_option linter.unusedSimpArgs false
theorem iM (a:Addr) (n:Nat) (m:Mode) (w:World):(store a (.float .f64 n) m).run Tryz.prog w=stored Tryz.prog w a (.float .f64 n) m:=run_store Tryz.prog w a _ m rfl
theorem ur {b:aU} (h:au b):(ag b).toArray.setIfInBounds 25 (.float .f64 0)=(ag { b with wt:=0 }).toArray:=by
 have h1:=ap h.addr;have h2:=h.mac;rw [List.setIfInBounds_toArray];simp [ag,List.set_append,h1,ao,h2]
theorem kZ {b:aU} (h:au b):au { b with wt:=0 }:=⟨h.addr,h.mac,by show (0:Nat)<_;decide⟩
set_option maxRecDepth 100000 in
theorem sY (a b:aU) (ha:au a) (hb:au b) (w:World) :
  Calls Tryz.prog 176 #[.agg (ag a).toArray,.agg (ag b).toArray] w fun e w'=>e=.returned (.bool (bw a b))∧Below w.heap.size w w':=by
 obtain ⟨W1,hW1⟩:∃ W,W=w.alloc (.cells (ag a).toArray 56):=⟨_,rfl⟩
 obtain ⟨W,hW⟩:∃ W,W=W1.alloc (.cells (ag b).toArray 56):=⟨_,rfl⟩
 have hs1:W1.heap.size=w.heap.size + 1:=by rw [hW1];simp
 have hX1:ah W1 w.heap.size 56 (ag a).toArray:=by rw [hW1];exact ah.new w _ _ _ rfl
 have hX:ah W w.heap.size 56 (ag a).toArray:=by rw [hW];exact ah.alloc hX1 _
 have hY:ah W (w.heap.size + 1) 56 (ag b).toArray:=by rw [hW,←hs1];exact ah.new W1 _ _ _ rfl
 have hB:Below w.heap.size w W:=by rw [hW,hW1];exact ((Below.refl _ _).alloc (Nat.le_refl _) _).alloc (by simp) _
 obtain ⟨V,hV⟩:∃ V,V=(W.setCell ⟨w.heap.size,25,none⟩ (.float .f64 0)).setCell ⟨w.heap.size + 1,25,none⟩ (.float .f64 0):=⟨_,rfl⟩
 have hXV:ah V w.heap.size 56 (ag { a with wt:=0 }).toArray:=by
  rw [hV,←ur ha];exact ah.far (ah.set_ hX 25 _) (p:=⟨w.heap.size + 1,25,none⟩) (by show w.heap.size≠w.heap.size + 1;omega) _
 have hYV:ah V (w.heap.size + 1) 56 (ag { b with wt:=0 }).toArray:=by
  rw [hV,←ur hb];exact ah.set_ (ah.far hY (p:=⟨w.heap.size,25,none⟩) (by show w.heap.size + 1≠w.heap.size;omega) _) 25 _
 have hBV:Below w.heap.size w V:=by rw [hV];exact (hB.setCell (by show w.heap.size≤w.heap.size;omega) _).setCell (by show w.heap.size≤w.heap.size + 1;omega) _
 have d1:=mO hX ha;have d2:=mO hY hb;have f1:=hX.frozen 25;have f2:=hY.frozen 25;have d3:(W.setCell ⟨w.heap.size,25,none⟩ (.float .f64 0)).cell? ⟨w.heap.size + 1,25,none⟩=some (.float .f64 b.wt):=mO (ah.far hY (p:=⟨w.heap.size,25,none⟩) (by show w.heap.size + 1≠w.heap.size;omega) _) hb;have f3:(W.setCell ⟨w.heap.size,25,none⟩ (.float .f64 0)).frozen? ⟨w.heap.size + 1,25,none⟩=false:=(ah.far hY (p:=⟨w.heap.size,25,none⟩) (by show w.heap.size + 1≠w.heap.size;omega) _).frozen 25;have HRx:=Lib.hid (ae hXV);have HRy:=Lib.hid (ae hYV);have Hsx:=Lib.hid (dv (kZ ha));have Hsy:=Lib.hid (dv (kZ hb));have He:=Lib.hid (zY 9996 { a with wt:=0 } { b with wt:=0 } (kZ ha) (kZ hb) rfl rfl V);have HB:=Lib.hid hBV;have HV:=Lib.hid hV;have HW1:=Lib.hid hW1;have HW:=Lib.hid hW;have hr:bw a b=(bv a.wt == bv b.wt && (a.name == b.name && (a.addr == b.addr && (a.port == b.port && (a.mac == b.mac && a.drain == b.drain))))):=by
  unfold bw;cases (a.name == b.name) <;> cases (a.addr == b.addr) <;> cases (a.port == b.port) <;> cases (a.mac == b.mac) <;> cases (bv a.wt == bv b.wt) <;> rfl
 have Hr:=Lib.hid hr;clear hW1 hW hX1 hX hY hB hV hXV hYV hBV hr hs1;go_enter Tryz.func176,Tryz.ntmps176
 go_upto_region 1 with fail
 rw [←HW1.out];rw [←HW.out]
 go_wp2_with fail
 refine (kx a.wt b.wt W).mono ?_;rintro e w2 ⟨rfl,rfl⟩;have hsf:=fun (a:Addr) (m:Mode) (w:World)=>iM a 0 m w
 go_upto_region 3 with fail
 rw [←HV.out];clear hsf;clear d1 d2 d3 f1 f2 f3;rcases hw:(bv a.wt == bv b.wt) with _ | _
 ·have Hf:Hid (bw a b=false):=by show _=_;rw [Hr.out,hw];rfl
  clear hw
  go_wp2
  go_ret
  exact ⟨by rw [Hf.out];rfl,HB.out⟩
 ·have Hf:Hid (bw a b=(a.name == b.name && (a.addr == b.addr && (a.port == b.port && (a.mac == b.mac && a.drain == b.drain))))):=by show _=_;rw [Hr.out,hw];rfl
  clear hw;obtain ⟨q,hq⟩:∃ q:Bool,q=(a.name == b.name && (a.addr == b.addr && (a.port == b.port && (a.mac == b.mac && a.drain == b.drain)))):=⟨_,rfl⟩
  have He2:Hid ((Op.equalIn 10000 56 (.agg (ag { a with wt:=0 }).toArray) (.agg (ag { b with wt:=0 }).toArray)).run Tryz.prog V=.ok q V):=by rw [hq];exact He.out
  rw [←hq] at Hf;clear hq He
  go_wp2_with (first
   | ((with_reducible refine aE 56 ?_);refine aa (by rfl) 56 (.tmp 2) rfl w.heap.size 0 rfl (ag { a with wt:=0 }) _ HRx.out Tryz.underlying56 rfl Hsx.out ?_)
   | ((with_reducible refine aE 56 ?_);refine aa (by rfl) 56 (.tmp 3) rfl (w.heap.size + 1) 0 rfl (ag { b with wt:=0 }) _ HRy.out Tryz.underlying56 rfl Hsy.out ?_)
   | ((with_reducible refine F8 56 ?_);refine ia (by rfl) 56 56 (.tmp 15) (.tmp 16) rfl (ag { a with wt:=0 }).toArray (ag { b with wt:=0 }).toArray rfl rfl wJ _ He2.out ?_))
  go_ret
  exact ⟨by rw [Hf.out];rfl,HB.out⟩
end Go.Proofs.YtaafkokfdgfabaaGreat
namespace Go.Proofs.YtaafkokfdgfabaaGreat
open Go.RowKit
set_option linter.unusedVariables false
set_option linter.unusedSimpArgs false
theorem ni (n:Nat) (w:World) (hn:n<18446744073709551616):Calls Tryz.prog 79 #[.float .f64 n] w fun e w'=>∃ A c,e=.returned (.slice A (fj n).length c)∧BS w' w'.heap.size A (fj n)∧Below w.heap.size w w':=by
 refine (uk n w hn).mono ?_;rintro e w' ⟨A,c,rfl,hown,hb⟩;have h8:=fK n;refine ⟨A,c,by rw [h8],?_,hb⟩;rw [←h8] at hown;exact (BS.of_own hown).1
set_option maxRecDepth 100000 in
theorem ob (a b:Nat) (ha:a<18446744073709551616) (hb:b<18446744073709551616) (w:World) :
  Calls Tryz.prog 158 #[.float .f64 a,.float .f64 b] w fun e w'=>e=.returned (.bool (bv a == bv b))∧Below w.heap.size w w':=by
 rw [←Cd ha hb];go_enter Tryz.func158,Tryz.ntmps158
 go_upto_region 1 with fail
 refine wp_region_noPanic ?_;refine wp_region_held_drew (S:=fun w'=>Below w.heap.size w w') (by kernel_rfl) ((Below.refl _ _).drew) (fun hHeld=>?_);refine wpAnyH_take (i:=0) (v:=?_) rfl (by kernel_rfl) (by kernel_rfl) (by kernel_rfl) (fun _ _ _ h=>h) (Or.inl ⟨by rfl,?_⟩) hHeld ?_;rotate_left
 ·intro w' hSw
  skip
  go_simp
  try with_reducible rfl
 try (simp only [Act.put,List.getElem_toArray,List.getElem_cons_succ,List.getElem_cons_zero,List.setIfInBounds_toArray,List.set_cons_zero,List.set_cons_succ])
 refine wpAnyH_take (i:=3) (v:=?_) rfl (by kernel_rfl) (by kernel_rfl) (by kernel_rfl) (fun _ _ _ h=>h) (Or.inl ⟨by rfl,?_⟩) hHeld ?_;rotate_left
 ·intro w' hSw
  skip
  go_simp
  try with_reducible rfl
 try (simp only [Act.put,List.getElem_toArray,List.getElem_cons_succ,List.getElem_cons_zero,List.setIfInBounds_toArray,List.set_cons_zero,List.set_cons_succ])
 refine wpAnyH_ready (rs:=[1]) (by kernel_rfl) (by simp) ?_;refine AllReadyH.cons (i:=1) rfl (fun K hK=>?_) ?_
 ·go_simp
  refine (ni a _ ha).mono ?_;rintro e w1 ⟨Aa,cAa,rfl,HAa0,hbAa⟩;have hBehind:Below w.heap.size w w1:=hHeld.trans (hbAa.mono hHeld.size);have HAa:=Lib.hid HAa0;clear HAa0
  go_wp2_with fail
  refine hK.out _ _ hBehind (fun hHeld=>?_);clear hK K hBehind
  try (simp only [Act.put,List.getElem_toArray,List.getElem_cons_succ,List.getElem_cons_zero,List.setIfInBounds_toArray,List.set_cons_zero,List.set_cons_succ])
  refine wpAnyH_ready (rs:=[2,4]) (by kernel_rfl) (by simp) ?_;refine AllReadyH.cons (i:=2) rfl (fun K hK=>?_) ?_
  ·have hcv:=bu (P:=Tryz.prog) 43 9 5 Tryz.underlying43 Tryz.underlying5 Tryz.underlying9 w1 _ Aa (fj a) HAa.out _ cAa rfl
   go_simp
   refine hK.out _ _ hHeld (fun hHeld=>?_);clear hK K hcv
   try (simp only [Act.put,List.getElem_toArray,List.getElem_cons_succ,List.getElem_cons_zero,List.setIfInBounds_toArray,List.set_cons_zero,List.set_cons_succ])
   refine wpAnyH_ready (rs:=[4]) (by kernel_rfl) (by simp) ?_;refine AllReadyH.cons (i:=4) rfl (fun K hK=>?_) ?_
   ·go_simp
    refine (ni b _ hb).mono ?_;rintro e w2 ⟨Ab,cAb,rfl,HAb0,hbAb⟩;have hBehind:Below w.heap.size w w2:=hHeld.trans (hbAb.mono hHeld.size);have HAb:=Lib.hid HAb0;clear HAb0
    go_wp2_with fail
    refine hK.out _ _ hBehind (fun hHeld=>?_);clear hK K hBehind
    try (simp only [Act.put,List.getElem_toArray,List.getElem_cons_succ,List.getElem_cons_zero,List.setIfInBounds_toArray,List.set_cons_zero,List.set_cons_succ])
    refine wpAnyH_ready (rs:=[5]) (by kernel_rfl) (by simp) ?_;refine AllReadyH.cons (i:=5) rfl (fun K hK=>?_) ?_
    ·have hcv:=bu (P:=Tryz.prog) 43 9 5 Tryz.underlying43 Tryz.underlying5 Tryz.underlying9 w2 _ Ab (fj b) HAb.out _ cAb rfl
     go_simp
     refine hK.out _ _ hHeld (fun hHeld=>?_);clear hK K hcv
     try (simp only [Act.put,List.getElem_toArray,List.getElem_cons_succ,List.getElem_cons_zero,List.setIfInBounds_toArray,List.set_cons_zero,List.set_cons_succ])
     refine wpAnyH_take (i:=6) (v:=?_) rfl (by kernel_rfl) (by kernel_rfl) (by kernel_rfl) (fun _ _ _ h=>h) (Or.inl ⟨by rfl,?_⟩) hHeld ?_;rotate_left
     ·intro w' hSw
      skip
      go_simp
      try with_reducible rfl
     try (simp only [Act.put,List.getElem_toArray,List.getElem_cons_succ,List.getElem_cons_zero,List.setIfInBounds_toArray,List.set_cons_zero,List.set_cons_succ])
     refine wpAnyH_take (i:=7) (v:=?_) rfl (by kernel_rfl) (by kernel_rfl) (by kernel_rfl) (fun _ _ _ h=>h) (Or.inl ⟨by rfl,?_⟩) hHeld ?_;rotate_left
     ·intro w' hSw
      skip
      go_simp
      try with_reducible rfl
     try (simp only [Act.put,List.getElem_toArray,List.getElem_cons_succ,List.getElem_cons_zero,List.setIfInBounds_toArray,List.set_cons_zero,List.set_cons_succ])
     refine wpAnyH_done (by kernel_rfl) ?_ _;refine NoPanic.normal ?_
     go_wp2
     go_ret
     exact ⟨rfl,hHeld⟩
    exact AllReadyH.nil
   exact AllReadyH.nil
  refine AllReadyH.cons (i:=4) rfl (fun K hK=>?_) ?_
  ·go_simp
   refine (ni b _ hb).mono ?_;rintro e w2 ⟨Ab,cAb,rfl,HAb0,hbAb⟩;have hBehind:Below w.heap.size w w2:=hHeld.trans (hbAb.mono hHeld.size);have HAb:=Lib.hid HAb0;clear HAb0
   go_wp2_with fail
   refine hK.out _ _ hBehind (fun hHeld=>?_);clear hK K hBehind
   try (simp only [Act.put,List.getElem_toArray,List.getElem_cons_succ,List.getElem_cons_zero,List.setIfInBounds_toArray,List.set_cons_zero,List.set_cons_succ])
   refine wpAnyH_ready (rs:=[2,5]) (by kernel_rfl) (by simp) ?_;refine AllReadyH.cons (i:=2) rfl (fun K hK=>?_) ?_
   ·have hcv:=bu (P:=Tryz.prog) 43 9 5 Tryz.underlying43 Tryz.underlying5 Tryz.underlying9 w2 _ Aa (fj a) (HAa.out.below hbAb) _ cAa rfl
    go_simp
    refine hK.out _ _ hHeld (fun hHeld=>?_);clear hK K hcv
    try (simp only [Act.put,List.getElem_toArray,List.getElem_cons_succ,List.getElem_cons_zero,List.setIfInBounds_toArray,List.set_cons_zero,List.set_cons_succ])
    refine wpAnyH_ready (rs:=[5]) (by kernel_rfl) (by simp) ?_;refine AllReadyH.cons (i:=5) rfl (fun K hK=>?_) ?_
    ·have hcv:=bu (P:=Tryz.prog) 43 9 5 Tryz.underlying43 Tryz.underlying5 Tryz.underlying9 w2 _ Ab (fj b) HAb.out _ cAb rfl
     go_simp
     refine hK.out _ _ hHeld (fun hHeld=>?_);clear hK K hcv
     try (simp only [Act.put,List.getElem_toArray,List.getElem_cons_succ,List.getElem_cons_zero,List.setIfInBounds_toArray,List.set_cons_zero,List.set_cons_succ])
     refine wpAnyH_take (i:=6) (v:=?_) rfl (by kernel_rfl) (by kernel_rfl) (by kernel_rfl) (fun _ _ _ h=>h) (Or.inl ⟨by rfl,?_⟩) hHeld ?_;rotate_left
     ·intro w' hSw
      skip
      go_simp
      try with_reducible rfl
     try (simp only [Act.put,List.getElem_toArray,List.getElem_cons_succ,List.getElem_cons_zero,List.setIfInBounds_toArray,List.set_cons_zero,List.set_cons_succ])
     refine wpAnyH_take (i:=7) (v:=?_) rfl (by kernel_rfl) (by kernel_rfl) (by kernel_rfl) (fun _ _ _ h=>h) (Or.inl ⟨by rfl,?_⟩) hHeld ?_;rotate_left
     ·intro w' hSw
      skip
      go_simp
      try with_reducible rfl
     try (simp only [Act.put,List.getElem_toArray,List.getElem_cons_succ,List.getElem_cons_zero,List.setIfInBounds_toArray,List.set_cons_zero,List.set_cons_succ])
     refine wpAnyH_done (by kernel_rfl) ?_ _;refine NoPanic.normal ?_
     go_wp2
     go_ret
     exact ⟨rfl,hHeld⟩
    exact AllReadyH.nil
   refine AllReadyH.cons (i:=5) rfl (fun K hK=>?_) ?_
   ·have hcv:=bu (P:=Tryz.prog) 43 9 5 Tryz.underlying43 Tryz.underlying5 Tryz.underlying9 w2 _ Ab (fj b) HAb.out _ cAb rfl
    go_simp
    refine hK.out _ _ hHeld (fun hHeld=>?_);clear hK K hcv
    try (simp only [Act.put,List.getElem_toArray,List.getElem_cons_succ,List.getElem_cons_zero,List.setIfInBounds_toArray,List.set_cons_zero,List.set_cons_succ])
    refine wpAnyH_ready (rs:=[2]) (by kernel_rfl) (by simp) ?_;refine AllReadyH.cons (i:=2) rfl (fun K hK=>?_) ?_
    ·have hcv:=bu (P:=Tryz.prog) 43 9 5 Tryz.underlying43 Tryz.underlying5 Tryz.underlying9 w2 _ Aa (fj a) (HAa.out.below hbAb) _ cAa rfl
     go_simp
     refine hK.out _ _ hHeld (fun hHeld=>?_);clear hK K hcv
     try (simp only [Act.put,List.getElem_toArray,List.getElem_cons_succ,List.getElem_cons_zero,List.setIfInBounds_toArray,List.set_cons_zero,List.set_cons_succ])
     refine wpAnyH_take (i:=6) (v:=?_) rfl (by kernel_rfl) (by kernel_rfl) (by kernel_rfl) (fun _ _ _ h=>h) (Or.inl ⟨by rfl,?_⟩) hHeld ?_;rotate_left
     ·intro w' hSw
      skip
      go_simp
      try with_reducible rfl
     try (simp only [Act.put,List.getElem_toArray,List.getElem_cons_succ,List.getElem_cons_zero,List.setIfInBounds_toArray,List.set_cons_zero,List.set_cons_succ])
     refine wpAnyH_take (i:=7) (v:=?_) rfl (by kernel_rfl) (by kernel_rfl) (by kernel_rfl) (fun _ _ _ h=>h) (Or.inl ⟨by rfl,?_⟩) hHeld ?_;rotate_left
     ·intro w' hSw
      skip
      go_simp
      try with_reducible rfl
     try (simp only [Act.put,List.getElem_toArray,List.getElem_cons_succ,List.getElem_cons_zero,List.setIfInBounds_toArray,List.set_cons_zero,List.set_cons_succ])
     refine wpAnyH_done (by kernel_rfl) ?_ _;refine NoPanic.normal ?_
     go_wp2
     go_ret
     exact ⟨rfl,hHeld⟩
    exact AllReadyH.nil
   exact AllReadyH.nil
  exact AllReadyH.nil
 exact AllReadyH.nil
end Go.Proofs.YtaafkokfdgfabaaGreat
namespace Go.Proofs.YtaafkokfdgfabaaGreat
open Go.RowKit
set_option linter.unusedVariables false
set_option linter.unusedSimpArgs false
theorem wN:Tryz.prog.eqGuardType Tryz.prog.depth 24=false:=by kernel_rfl
theorem zZ:(Tryz.prog.info? 24).map (·.size)=some 6:=by kernel_rfl
theorem yO {l:List UInt8} (h:l.length=6):(Tryz.prog.info? 24).map (·.size)=some (ab l).length:=by rw [ao,h];exact zZ
theorem Cw (d:Nat) (a b:List UInt8) (ha:a.length=6) (hb:b.length=6) (w:World):(Op.equalIn (d + 2) 24 (.agg (ab a).toArray) (.agg (ab b).toArray)).run Tryz.prog w=.ok (a == b) w :=
 run_equalIn_bytes (P:=Tryz.prog) w d 24 5 6 Tryz.underlying24 Tryz.underlying5 nP a b ha hb
end Go.Proofs.YtaafkokfdgfabaaGreat
namespace Go.Proofs.YtaafkokfdgfabaaGreat
open Go.RowKit
set_option linter.unusedVariables false
set_option linter.unusedSimpArgs false
theorem qn:(dG none 0 0 ul).toArray=(#[.int .i64 0,.int .i64 0,.bool false,.int .i64 0,.string ⟨#[]⟩,.slice none 0 0]:Array Value):=rfl
section
variable {w:World} {g:Nat} {t:TypeId} {A:Option Addr} {n c:Nat} {x:rt}
theorem jz (hb:ah w g t (dG A n c x).toArray):w.cell? ⟨g,0,none⟩=some (.int .i64 x.err):=hb.cell 0
theorem e9 (hb:ah w g t (dG A n c x).toArray):w.cell? ⟨g,1,none⟩=some (.int .i64 x.reason):=hb.cell 1
theorem wP (hb:ah w g t (dG A n c x).toArray):w.cell? ⟨g,2,none⟩=some (.bool x.hit):=hb.cell 2
theorem eo (hb:ah w g t (dG A n c x).toArray):w.cell? ⟨g,3,none⟩=some (.int .i64 x.version):=hb.cell 3
theorem ik (hb:ah w g t (dG A n c x).toArray):w.cell? ⟨g,4,none⟩=some (.string ⟨x.name.toArray⟩):=hb.cell 4
theorem ke (hb:ah w g t (dG A n c x).toArray):w.cell? ⟨g,5,none⟩=some (.slice A n c):=hb.cell 5
end
end Go.Proofs.YtaafkokfdgfabaaGreat
namespace Go.Proofs.YtaafkokfdgfabaaGreat
open Go.RowKit
set_option linter.unusedVariables false
set_option linter.unusedSimpArgs false
theorem Cy (w:World) (t:TypeId) (z cs:List Value) (hl:cs.length=z.length):∃ x y,Hid (x=w.alloc (.cells z.toArray t))∧Hid (y=x.setCells w.heap.size 0 cs)∧Hid (x.there w.heap.size 0 cs.toArray.size)∧Hid (ah y w.heap.size t cs.toArray)∧Hid (Below w.heap.size w y):=by
 obtain ⟨h1,h2,h3⟩:=mL w _ _ t z cs hl rfl rfl;exact ⟨_,_,rfl,rfl,h1,h2,h3⟩
set_option maxRecDepth 100000 in
theorem uu (A:Option Addr) (c:Nat) (a:cz) (A':Option Addr) (c':Nat) (b:cz) (ha0:aA a) (hb0:aA b) (w:World) (hf:BS w w.heap.size A a.frame) (hf':BS w w.heap.size A' b.frame) :
  Calls Tryz.prog 133 #[.agg (aq A a.frame.length c a).toArray,.agg (aq A' b.frame.length c' b).toArray] w fun e w'=>e=.returned (.bool (cK a b))∧Below w.heap.size w w':=by
 obtain ⟨W1,W,HW1,HW,Hs1,HX,HY,HB⟩:=k7 w 60 60 (aq A a.frame.length c a).toArray (aq A' b.frame.length c' b).toArray;have HF:=Lib.hid (hf.on HB.out);have HF':=Lib.hid (hf'.on HB.out);have ha:=Lib.hid ha0;have hb:=Lib.hid hb0;have l0:w.heap.size<W.heap.size:=HX.out.lt;have l1:w.heap.size + 1<W.heap.size:=HY.out.lt;have d0:=iL HX.out;have e0:=iL HY.out;have d1:=go HX.out;have e1:=go HY.out;have d2:=kz HX.out;have e2:=kz HY.out;have d3:=fA HX.out ha0;have e3:=fA HY.out hb0;have d4:=lT HX.out ha0;have e4:=lT HY.out hb0;have d5:=ij HX.out ha0;have e5:=ij HY.out hb0;have d6:=jf HX.out ha0;have e6:=jf HY.out hb0;obtain ⟨T,hT⟩:∃ T,T=(a.kind == b.kind && a.frame == b.frame && a.op == b.op && a.oname == b.oname && (bv a.owt == bv b.owt) && bw a.back b.back && a.name == b.name && a.well == b.well):=⟨_,rfl⟩
 have HT:Hid (cK a b=T):=by show _=_;rw [hT];unfold cK;simp only [Bool.and_assoc]
 clear hf hf' ha0 hb0;go_enter Tryz.func133,Tryz.ntmps133
 go_upto_region 1 with fail
 rw [←HW1.out,←HW.out];refine Sd.plain ?_
 repeat ((first | refine pa ?_ | refine gs (jT HX.out ha.out) l0 bW (dv ha.out.back) ?_ | refine gs (jT HY.out hb.out) l1 bW (dv hb.out.back) ?_ | refine gq (fun u hu=>uq A c a.frame A' c' b.frame u _ _ (HF.out.below hu) (HF'.out.below hu)) ?_ | refine gq (fun u hu=>kx a.owt b.owt u) ?_ | refine gc (fun u hu=>sY a.back b.back ha.out.back hb.out.back u) ?_ | refine gp ?_ | refine pt ?_);simp only [ld,lg,lf,Nat.reduceAdd])
 rw [←hT];refine Sd.done fun w2 hb2=>?_
 have Hb2:=Lib.hid (HB.out.trans (hb2.mono HB.out.size));clear hb2 hT
 go_wp2
 go_ret
 exact ⟨by rw [HT.out];rfl,Hb2.out⟩
set_option maxRecDepth 100000 in
theorem pv (a b:aU) (ha0:au a) (hb0:au b) (w:World) :
  Calls Tryz.prog 157 #[.agg (ag a).toArray,.agg (ag b).toArray] w fun e w'=>e=.returned (.bool (bw a b))∧Below w.heap.size w w':=by
 obtain ⟨W1,W,HW1,HW,Hs1,HX,HY,HB⟩:=k7 w 56 56 (ag a).toArray (ag b).toArray;have ha:=Lib.hid ha0;have hb:=Lib.hid hb0;have l0:w.heap.size<W.heap.size:=HX.out.lt;have l1:w.heap.size + 1<W.heap.size:=HY.out.lt;have d0:=mq HX.out;have e0:=mq HY.out;have d1:=kY HX.out ha0;have e1:=kY HY.out hb0;have d2:=mO HX.out ha0;have e2:=mO HY.out hb0;have d3:=oa HX.out ha0;have e3:=oa HY.out hb0;obtain ⟨T,hT⟩:∃ T,T=(a.name == b.name && a.addr == b.addr && a.port == b.port && a.mac == b.mac && a.drain == b.drain && (bv a.wt == bv b.wt)):=⟨_,rfl⟩
 have HT:Hid (bw a b=T):=by show _=_;rw [hT];unfold bw;cases (a.drain == b.drain) <;> simp [Bool.and_assoc]
 clear ha0 hb0;go_enter Tryz.func157,Tryz.ntmps157
 go_upto_region 1 with fail
 rw [←HW1.out,←HW.out];refine Sd.plain ?_
 repeat ((first | refine pa ?_ | refine gs (pP HX.out ha.out) l0 du (fX ha.out.addr) ?_ | refine gs (pP HY.out hb.out) l1 du (fX hb.out.addr) ?_ | refine gs (wL HX.out ha.out) l0 Tryz.underlying24 (yO ha.out.mac) ?_ | refine gs (wL HY.out hb.out) l1 Tryz.underlying24 (yO hb.out.mac) ?_ | refine ge (gR 9997 a.addr b.addr ha.out.addr hb.out.addr) gJ ?_ | refine ge (Cw 9998 a.mac b.mac ha.out.mac hb.out.mac) wN ?_ | refine gc (fun u hu=>ob a.wt b.wt ha.out.wt hb.out.wt u) ?_ | refine gp ?_ | refine pt ?_);simp only [ld,lg,lf,Nat.reduceAdd])
 rw [←hT];refine Sd.done fun w2 hb2=>?_
 have Hb2:=Lib.hid (HB.out.trans (hb2.mono HB.out.size));clear hb2 hT
 go_wp2
 go_ret
 exact ⟨by rw [HT.out];rfl,Hb2.out⟩
set_option maxRecDepth 100000 in
theorem qp (A:Option Addr) (c:Nat) (a:cz) (A':Option Addr) (c':Nat) (b:cz) (ha0:aA a) (hb0:aA b) (w:World) (hf:BS w w.heap.size A a.frame) (hf':BS w w.heap.size A' b.frame) :
  Calls Tryz.prog 110 #[.agg (aq A a.frame.length c a).toArray,.agg (aq A' b.frame.length c' b).toArray] w fun e w'=>e=.returned (.bool (cK a b))∧Below w.heap.size w w':=by
 obtain ⟨W1,W,HW1,HW,Hs1,HX,HY,HB⟩:=k7 w 60 60 (aq A a.frame.length c a).toArray (aq A' b.frame.length c' b).toArray;have HF:=Lib.hid (hf.on HB.out);have HF':=Lib.hid (hf'.on HB.out);have ha:=Lib.hid ha0;have hb:=Lib.hid hb0;have l0:w.heap.size<W.heap.size:=HX.out.lt;have l1:w.heap.size + 1<W.heap.size:=HY.out.lt;have d0:=iL HX.out;have e0:=iL HY.out;have d1:=go HX.out;have e1:=go HY.out;have d2:=kz HX.out;have e2:=kz HY.out;have d3:=fA HX.out ha0;have e3:=fA HY.out hb0;have d4:=lT HX.out ha0;have e4:=lT HY.out hb0;have d5:=ij HX.out ha0;have e5:=ij HY.out hb0;have d6:=jf HX.out ha0;have e6:=jf HY.out hb0;obtain ⟨T,hT⟩:∃ T,T=(a.kind == b.kind && a.frame == b.frame && a.op == b.op && a.oname == b.oname && (bv a.owt == bv b.owt) && bw a.back b.back && a.name == b.name && a.well == b.well):=⟨_,rfl⟩
 have HT:Hid (cK a b=T):=by show _=_;rw [hT];unfold cK;simp only [Bool.and_assoc]
 clear hf hf' ha0 hb0;go_enter Tryz.func110,Tryz.ntmps110
 go_upto_region 1 with fail
 rw [←HW1.out,←HW.out]
 try simp only [List.append_eq,List.cons_append,List.nil_append]
 refine Sd.plain ?_
 repeat ((first | refine pa ?_ | refine gs (jT HX.out ha.out) l0 bW (dv ha.out.back) ?_ | refine gs (jT HY.out hb.out) l1 bW (dv hb.out.back) ?_ | refine Gu HF.out rfl ?_ | refine Gu HF'.out rfl ?_ | refine gc (fun u hu=>ob a.owt b.owt ha.out.owt hb.out.owt u) ?_ | refine gc (fun u hu=>pv a.back b.back ha.out.back hb.out.back u) ?_ | refine gp ?_ | refine pt ?_);simp only [ld,lg,lf,Nat.reduceAdd])
 rw [←hT];refine Sd.done fun w2 hb2=>?_
 have Hb2:=Lib.hid (HB.out.trans (hb2.mono HB.out.size));clear hb2 hT
 go_wp2
 go_ret
 exact ⟨by rw [HT.out];rfl,Hb2.out⟩
set_option maxRecDepth 100000 in
theorem s8 (A:Option Addr) (c:Nat) (A2:Option Addr) (c2:Nat) (a:da) (A':Option Addr) (c':Nat) (A2':Option Addr) (c2':Nat) (b:da) (ha0:aB a) (hb0:aB b) (w:World) (hf:BS w w.heap.size A a.act.frame) (hf':BS w w.heap.size A' b.act.frame) (ho:BS w w.heap.size A2 a.o.out) (ho':BS w w.heap.size A2' b.o.out) :
  Calls Tryz.prog 49 #[.agg (bm A a.act.frame.length c A2 a.o.out.length c2 a).toArray,.agg (bm A' b.act.frame.length c' A2' b.o.out.length c2' b).toArray] w fun e w'=>e=.returned (.bool (gF a b))∧Below w.heap.size w w':=by
 obtain ⟨W1,W,HW1,HW,Hs1,HX,HY,HB⟩:=k7 w 65 65 (bm A a.act.frame.length c A2 a.o.out.length c2 a).toArray (bm A' b.act.frame.length c' A2' b.o.out.length c2' b).toArray;have ha:=Lib.hid ha0;have hb:=Lib.hid hb0;obtain ⟨x1,y1,X1,Y1,T1,B1,L1⟩:=Cy W 62 (dG none 0 0 ul) (dG A2 a.o.out.length c2 a.o) rfl;obtain ⟨x2,y2,X2,Y2,T2,B2,L2⟩:=Cy y1 62 (dG none 0 0 ul) (dG A2' b.o.out.length c2' b.o) rfl;rw [qn] at X1 X2;have RX:=Lib.hid (sX HX.out ha0);have HY1:=Lib.hid (ah.below HY.out L1.out HY.out.lt);have RY:=Lib.hid (sX HY1.out hb0);have hL:Below W.heap.size W y2:=L1.out.trans (L2.out.mono L1.out.size);have HX2:=Lib.hid (ah.below HX.out hL HX.out.lt);have HY2:=Lib.hid (ah.below HY.out hL HY.out.lt);have HP:=Lib.hid (ah.below B1.out L2.out B1.out.lt);have HB2:=Lib.hid (HB.out.trans (hL.mono HB.out.size));have HF:=Lib.hid (hf.on HB2.out);have HF':=Lib.hid (hf'.on HB2.out);have HO:=Lib.hid (ho.on HB2.out);have HO':=Lib.hid (ho'.on HB2.out);clear hf hf' ho ho' ha0 hb0 hL;go_enter Tryz.func49,Tryz.ntmps49
 go_upto_region 1 with fail
 rw [←HW1.out,←HW.out];go_upto_region 2 with (first
  | ((with_reducible refine aE 62 ?_);refine aa (by rfl) 62 (.tmp 7) rfl w.heap.size 34 rfl (dG A2 a.o.out.length c2 a.o) _ RX.out Tryz.underlying62 rfl lQ ?_)
  | (rw [←X1.out];(with_reducible refine aM 62 ?_);refine wpList_store_mid rfl 62 (.tmp 5) (.tmp 8) rfl W.heap.size 0 (dG A2 a.o.out.length c2 a.o).toArray rfl rfl T1.out lQ (nR _ _ _ _) ?_))
 rw [←Y1.out];go_upto_region 3 with (first
  | ((with_reducible refine aE 62 ?_);refine aa (by rfl) 62 (.tmp 9) rfl (w.heap.size + 1) 34 rfl (dG A2' b.o.out.length c2' b.o) _ RY.out Tryz.underlying62 rfl lQ ?_)
  | (rw [←X2.out];(with_reducible refine aM 62 ?_);refine wpList_store_mid rfl 62 (.tmp 6) (.tmp 10) rfl y1.heap.size 0 (dG A2' b.o.out.length c2' b.o).toArray rfl rfl T2.out lQ (nR _ _ _ _) ?_))
 rw [←Y2.out];have l0:w.heap.size<y2.heap.size:=HX2.out.lt;have l1:w.heap.size + 1<y2.heap.size:=HY2.out.lt;have l2:W.heap.size<y2.heap.size:=HP.out.lt;have l3:y1.heap.size<y2.heap.size:=B2.out.lt;clear X1 Y1 T1 X2 Y2 T2 RX RY;have d0:=jz HP.out;have e0:=jz B2.out;have d1:=e9 HP.out;have e1:=e9 B2.out;have d2:=wP HP.out;have e2:=wP B2.out;have d3:=eo HP.out;have e3:=eo B2.out;have d4:=ik HP.out;have e4:=ik B2.out;have d5:=ke HP.out;have e5:=ke B2.out;have d6:=jy HX2.out ha.out;have e6:=jy HY2.out hb.out;have d7:=wM HX2.out ha.out;have e7:=wM HY2.out hb.out;obtain ⟨T,hT⟩:∃ T,T=(cK a.act b.act && a.o.err == b.o.err && a.o.reason == b.o.reason && a.o.hit == b.o.hit && a.o.version == b.o.version && a.o.name == b.o.name && a.o.out == b.o.out && a.len == b.len && (a.sum:Int) == (b.sum:Int)):=⟨_,rfl⟩
 have HT:Hid (gF a b=T):=by show _=_;rw [hT,show ((a.sum:Int) == (b.sum:Int))=(a.sum == b.sum) by rw [Bool.eq_iff_iff];simp [Int.ofNat_inj]];unfold gF;simp only [Bool.and_assoc]
 refine Sd.plain ?_;simp only [Act.put]
 repeat ((first | refine pa ?_ | refine sl (qm HX2.out ha.out) l0 Tryz.underlying60 (bR ha.out.act) ?_ | refine sl (qm HY2.out hb.out) l1 Tryz.underlying60 (bR hb.out.act) ?_ | refine Gu HO.out rfl ?_ | refine Gu HO'.out rfl ?_ | refine cl (fun u hu=>qp A c a.act A' c' b.act ha.out.act hb.out.act u (HF.out.on hu) (HF'.out.on hu)) ?_ | refine gp ?_ | refine pt ?_);simp only [ld,lg,lf,Nat.reduceAdd])
 rw [←hT];refine Sd.done fun w2 hb2=>?_
 have Hb2:=Lib.hid (HB2.out.trans (hb2.mono HB2.out.size));clear hb2 hT
 go_wp2
 go_ret
 exact ⟨by rw [HT.out];rfl,Hb2.out⟩
end Go.Proofs.YtaafkokfdgfabaaGreat
namespace Go.Proofs.YtaafkokfdgfabaaGreat
open Go.RowKit
set_option linter.unusedVariables false
set_option linter.unusedSimpArgs false
def wU (g:Nat) (bad:Bool):Array Value:=#[.pointer (some ⟨g,0,none⟩),.bool bad]
structure RS (w:World) (base g r:Nat) (l:List UInt8) (s:St) (bad:Bool):Prop where
 rd:ey w base g l s
 ok:bY l s
 box:ah w r 157 (wU g bad)
theorem ey.blkE {w:World} {base g:Nat} {l:List UInt8} {s:St} (h:ey w base g l s):∃ cs,ah w g 195 cs:=by
 obtain ⟨A,c,hr,_⟩:=h;exact ⟨_,hr⟩
section
variable {w w':World} {base g r:Nat} {l:List UInt8} {s s':St} {bad bad':Bool}
theorem RS.ne (h:RS w base g r l s bad):r≠g:=by
 obtain ⟨cs,hb⟩:=h.rd.blkE;exact ah.ne h.box hb (by decide)
theorem RS.d0 (h:RS w base g r l s bad):w.cell? ⟨r,0,none⟩=some (.pointer (some ⟨g,0,none⟩)):=h.box.cell 0
theorem RS.d1 (h:RS w base g r l s bad):w.cell? ⟨r,1,none⟩=some (.bool bad):=h.box.cell 1
theorem RS.after (h:RS w base g r l s bad) (hR:ey w' base g l s') (hok:bY l s') (hg:w.grownBy w' (some g)):RS w' base g r l s' bad :=
 ⟨hR,hok,ah.grown h.box hg (fun e=>h.ne (by injection e))⟩
theorem RS.below (h:RS w base g r l s bad) (hb:Below w.heap.size w w'):RS w' base g r l s bad:=⟨h.rd.below hb,h.ok,ah.below h.box hb h.box.lt⟩
theorem RS.bad_ (h:RS w base g r l s bad) (b:Bool):RS (w.setCell ⟨r,1,none⟩ (.bool b)) base g r l s b :=
 ⟨ey.off h.rd (aV w ⟨r,1,none⟩ (.bool b)) h.box (by decide) (by decide),h.ok,ah.set_ h.box 1 (.bool b)⟩
theorem mt (w:World) (g r:Nat) (k:Nat) (u:Value):cG w (w.setCell ⟨r,k,none⟩ u) g (some r):=cG.of_grown (aV w ⟨r,k,none⟩ u)
end
theorem CF {l:List UInt8} {s u:St} {x:List UInt8} (h:a8 l s 8=(u,x)):x.length≤8:=by
 have:=congrArg Prod.snd h;simp only [a8,eC] at this;rw [if_neg (by decide)] at this;split at this
 ·rw [←this];simp
 ·split at this
  ·rw [←this];simp
  ·rw [←this,List.length_take]
   exact Nat.min_le_left _ _
def dQ (l:List UInt8) (s:St) (bad:Bool):St × Bool × Bool:=((aJ l s 1 true).1,bad || decide (1<(aJ l s 1 true).2),(aJ l s 1 true).2 == 1)
set_option maxRecDepth 100000 in
theorem mu (base g r:Nat) (l:List UInt8) (s:St) (bad:Bool) (w:World) (h:RS w base g r l s bad) (hl:l.length≤1000000000) :
  Calls Tryz.prog 104 #[.pointer (some ⟨r,0,none⟩)] w fun e w'=>e=.returned (.bool (dQ l s bad).2.2)∧RS w' base g r l (dQ l s bad).1 (dQ l s bad).2.1∧cG w w' g (some r):=by
 have H:=Lib.hid h;have ok2:=bQ h.ok 1 true;have hn:=Lib.hid (cF base g l s w 1 true h.rd h.ok hl);unfold dQ;rcases hq:aJ l s 1 true with ⟨s2,q⟩
 rw [hq] at hn ok2;have d0:=h.d0;clear hq h;go_enter Tryz.func104,Tryz.ntmps104
 go_wp2_with fail
 refine hn.out.mono ?_;rintro e w2 ⟨rfl,hR,hg⟩;have H2:=Lib.hid (H.out.after hR ok2 hg);have HG:=Lib.hid (cG.of_g (r:=some r) hg);have d0:=H2.out.d0;have d1:=H2.out.d1;have df:=H2.out.box.frozen 1;have hqe:((q:Int) == 1)=(q == 1):=by
  by_cases hq:q=1
  ·subst hq;rfl
  ·rw [beq_eq_false_iff_ne.2 hq,beq_eq_false_iff_ne.2 (by omega)]
 clear hR hg hn;rcases bad with _ | _
 ·by_cases hq:1<q
  ·have hqI:(1:Int)<(q:Int):=by omega
   have hf:Hid ((false || decide (1<q))=true):=by show _=_;rw [decide_eq_true hq];rfl
   clear hq
   go_wp2
   go_ret
   exact ⟨by first | rfl | rw [hqe],by rw [hf.out];first | exact H2.out.bad_ true | (simp only [show (1:Int)<(q:Int) by omega,decide_true];exact H2.out.bad_ true),HG.out.trans (mt _ _ _ _ _)⟩
  ·have hqI:¬ (1:Int)<(q:Int):=by omega
   have hf:Hid ((false || decide (1<q))=false):=by show _=_;rw [decide_eq_false hq];rfl
   clear hq
   go_wp2
   go_ret
   exact ⟨by first | rfl | rw [hqe],by rw [hf.out];first | exact H2.out.bad_ false | (simp only [show ¬ (1:Int)<(q:Int) by omega,decide_false];exact H2.out.bad_ false),HG.out.trans (mt _ _ _ _ _)⟩
 ·go_wp2
  go_ret
  exact ⟨by first | rfl | rw [hqe],H2.out.bad_ true,HG.out.trans (mt _ _ _ _ _)⟩
def Aj (w:World) (base g r:Nat) (l:List UInt8) (s':St) (bad':Bool) (w':World):Prop:=RS w' base g r l s' bad'∧cG w w' g (some r)
set_option maxRecDepth 100000 in
theorem mv (base g r:Nat) (l:List UInt8) (s:St) (bad:Bool) (w:World) (h:RS w base g r l s bad) (hl:l.length≤1000000000) :
  Calls Tryz.prog 105 #[.pointer (some ⟨r,0,none⟩)] w fun e w'=>e=.returned (.string ⟨(bO l s 255).2.toArray⟩)∧Aj w base g r l (bO l s 255).1 bad w':=by
 have H:=Lib.hid h;have ok2:=ft h.ok 255;have hn:=Lib.hid (jB base g l s w 255 h.rd h.ok hl (by decide));rcases hq:bO l s 255 with ⟨s2,x⟩
 rw [hq] at hn ok2;have d0:=h.d0;clear hq h;go_enter Tryz.func105,Tryz.ntmps105
 go_wp2_with fail
 refine hn.out.mono ?_;rintro e w2 ⟨A,c,rfl,hown,hR,hg⟩;have H2:=Lib.hid (H.out.after hR ok2 hg);have HG:=Lib.hid (cG.of_g (r:=some r) hg);have hcv:=bu (P:=Tryz.prog) 43 9 5 Tryz.underlying43 Tryz.underlying5 Tryz.underlying9 w2 _ A x (BS.of_own hown).1 _ c rfl;clear hR hg hn hown
 go_wp2
 go_ret
 exact ⟨rfl,H2.out,HG.out⟩
def cy (l:List UInt8) (s:St) (bad:Bool):St × Bool × Nat:=((a8 l s 8).1,bad || !(jS (a8 l s 8).2).2,(jS (a8 l s 8).2).1)
set_option maxRecDepth 100000 in
theorem pz (base g r:Nat) (l:List UInt8) (s:St) (bad:Bool) (w:World) (h:RS w base g r l s bad) (hl:l.length≤1000000000) :
  Calls Tryz.prog 156 #[.pointer (some ⟨r,0,none⟩)] w fun e w'=>e=.returned (.float .f64 (cy l s bad).2.2)∧Aj w base g r l (cy l s bad).1 (cy l s bad).2.1 w':=by
 have H:=Lib.hid h;have ok2:=dt h.ok 8;have hn:=Lib.hid (dW base g l s w 8 h.rd h.ok hl (by decide));unfold cy;rcases hq:a8 l s 8 with ⟨s2,x⟩
 have hx8:=CF hq;rw [hq] at hn ok2;have d0:=h.d0;rcases hk:jS x with ⟨f,kk⟩
 simp only [hk];have Hk:=Lib.hid hk;clear hq h hk;go_enter Tryz.func156,Tryz.ntmps156
 go_wp2_with fail
 refine hn.out.mono ?_;rintro e w2 ⟨A,c,rfl,hown,hR,hg⟩;have H2:=Lib.hid (H.out.after hR ok2 hg);have HG:=Lib.hid (cG.of_g (r:=some r) hg);have Hw:=Lib.hid (Ca A _ c x w2 rfl (BS.of_own hown).1 hx8 (gI hown));rw [Hk.out] at Hw;clear hR hg hn hown
 go_wp2_with fail
 refine Hw.out.mono ?_;rintro e w3 ⟨rfl,hb3⟩;have H3:=Lib.hid (H2.out.below hb3);have HG3:=Lib.hid (HG.out.trans (cG.of_below hb3));have d0:=H3.out.d0;have d1:=H3.out.d1;have df:=H3.out.box.frozen 1;clear hb3 H2 HG Hw;rcases bad with _ | _
 ·rcases kk with _ | _
  ·go_wp2
   go_ret
   exact ⟨rfl,H3.out.bad_ true,HG3.out.trans (mt _ _ _ _ _)⟩
  ·go_wp2
   go_ret
   exact ⟨rfl,H3.out.bad_ false,HG3.out.trans (mt _ _ _ _ _)⟩
 ·go_wp2
  go_ret
  exact ⟨rfl,H3.out.bad_ true,HG3.out.trans (mt _ _ _ _ _)⟩
set_option maxRecDepth 100000 in
theorem rT (base g r:Nat) (l:List UInt8) (s:St) (bad:Bool) (w:World) (h:RS w base g r l s bad) :
  Calls Tryz.prog 106 #[.pointer (some ⟨r,0,none⟩)] w fun e w'=>e=.returned (.bool (!bad && (decide (s.2.1=0) && decide (s.2.2=0))))∧Below w.heap.size w w':=by
 obtain ⟨s0,fa,fe⟩:=s;have d0:=h.d0;have d1:=h.d1;have hn:Hid (Calls Tryz.prog 93 #[.pointer (some ⟨g,0,none⟩)] w fun e w'=>e=.returned (.agg #[.int .i64 (fa:Int),.int .i64 (fe:Int)])∧Below w.heap.size w w'):=by
  obtain ⟨A,c,hr,_⟩:=h.rd;exact ec g A l.length c s0 fa fe w hr
 clear h;show Calls Tryz.prog _ _ w fun e w'=>e=.returned (.bool (!bad && (decide (fa=0) && decide (fe=0))))∧Below w.heap.size w w'
 obtain ⟨z,hz⟩:∃ z,z=(!bad && (decide (fa=0) && decide (fe=0))):=⟨_,rfl⟩
 rw [←hz];have Hz:=Lib.hid hz;clear hz;go_enter Tryz.func106,Tryz.ntmps106
 rcases bad with _ | _
 ·go_wp2_with fail
  refine hn.out.mono ?_;rintro e w2 ⟨rfl,hb2⟩;by_cases h1:fa=0
  ·by_cases h2:fe=0
   ·have hf:Hid (z=true):=by show _=_;rw [Hz.out,h1,h2];rfl
    subst h1;subst h2
    go_wp2
    go_ret
    exact ⟨by rw [hf.out];rfl,hb2⟩
   ·have h2I:¬ (fe:Int)=0:=by omega
    have hf:Hid (z=false):=by show _=_;rw [Hz.out,decide_eq_false h2];simp
    subst h1;clear h2
    go_wp2
    go_ret
    exact ⟨by rw [hf.out];rfl,hb2⟩
  ·have h1I:¬ (fa:Int)=0:=by omega
   have hf:Hid (z=false):=by show _=_;rw [Hz.out,decide_eq_false h1];simp
   clear h1
   go_wp2
   go_ret
   exact ⟨by rw [hf.out];rfl,hb2⟩
 ·have hf:Hid (z=false):=by show _=_;rw [Hz.out];simp
  go_wp2
  go_ret
  exact ⟨by rw [hf.out];rfl,Below.refl _ _⟩
end Go.Proofs.YtaafkokfdgfabaaGreat
