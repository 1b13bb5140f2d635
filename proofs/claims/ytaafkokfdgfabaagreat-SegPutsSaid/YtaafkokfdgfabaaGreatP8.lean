import Derived.Test.YtaafkokfdgfabaaGreatProg
import Derived.Test.YtaafkokfdgfabaaGreatP1
import Derived.Test.YtaafkokfdgfabaaGreatP2
import Derived.Test.YtaafkokfdgfabaaGreatP5
import Derived.Test.YtaafkokfdgfabaaGreatP7
import Derived.WalkKit
import Derived.Outline
import Derived.Deep.QuietTactic
import Derived.BigQuiet
import Derived.IntWalk
import Derived.Deep.RegionHeld3
import Derived.StillTailTactics
set_option maxHeartbeats 8000000
set_option maxRecDepth 100000
set_option linter.unusedVariables false
set_option linter.unusedSimpArgs false
open List renaming length_drop→Iy,length_append→IA,length_take→IC,take_append_drop→IG,drop_drop→IJ,length→IN
open Nat renaming le_refl→Iz,lt_of_lt_of_le→II,add_assoc→IK,le_trans→IM
namespace Go.Proofs.YtaafkokfdgfabaaGreat
open Go.RowKit
open Lib (hid)
open BS renaming of_own→IL
open IntWalk renaming i64_in→IB
open Tryz renaming prog→qq
open Value renaming slice→ID,ownBlock→IH
open World renaming ownsRow_nil→IE,block_lt_of_cell?→IF
def Ix(A:Option Addr)(n c:Nat)(at_ fa fe:Nat):Array Value:=#[.slice A n c,.int .i64 (at_:Int),.int .i64 (fa:Int),.int .i64 (fe:Int)]
def Rd(w:World)(g:Nat)(A:Option Addr)(n c:Nat)(at_ fa fe:Nat):Prop:=aj w g 195 (Ix A n c at_ fa fe)
section
variable {w w':World} {g:Nat} {A:Option Addr} {n c at_ fa fe:Nat}
theorem Rd.c0(h:Rd w g A n c at_ fa fe):w.cell? ⟨g,0,none⟩=some (.slice A n c):=aj.cell h 0
theorem Rd.c1(h:Rd w g A n c at_ fa fe):w.cell? ⟨g,1,none⟩=some (.int .i64 (at_:Int)):=aj.cell h 1
theorem Rd.c2(h:Rd w g A n c at_ fa fe):w.cell? ⟨g,2,none⟩=some (.int .i64 (fa:Int)):=aj.cell h 2
theorem Rd.c3(h:Rd w g A n c at_ fa fe):w.cell? ⟨g,3,none⟩=some (.int .i64 (fe:Int)):=aj.cell h 3
theorem Rd.fr(h:Rd w g A n c at_ fa fe)(i:Nat):w.frozen? ⟨g,i,none⟩=false:=aj.frozen h i
end
theorem xP(g:Nat)(A:Option Addr)(n c at_ fa fe:Nat)(w:World)(h:Rd w g A n c at_ fa fe)(hn:n≤1000000000)(ha:at_≤n) :
  Calls qq 92 #[.pointer (some ⟨g,0,none⟩)] w fun e w'=>e=.returned (.int .i64 ((n:Int)-(at_:Int)))∧∃m,w'=w.drewN m:=by
 have h0:=h.c0;have h1:=h.c1;have h2:=h.c2;have h3:=h.c3;go_enter Tryz.func92,Tryz.ntmps92
 have hw:IntKind.i64.wrap ((n:Int)-(at_:Int))=(n:Int)-(at_:Int):=IB _ (by omega)
 go_wp2
 go_quiet (fail)
 go_wp2
 go_ret
 refine⟨by first|rfl|(simp only[hw];rfl),_,rfl⟩
theorem eK(g:Nat)(A:Option Addr)(n c at_ fa fe:Nat)(w:World)(h:Rd w g A n c at_ fa fe) :
  Calls qq 93 #[.pointer (some ⟨g,0,none⟩)] w fun e w'=>e=.returned (.agg #[.int .i64 (fa:Int),.int .i64 (fe:Int)])∧Below w.heap.size w w':=by
 have h0:=h.c0;have h1:=h.c1;have h2:=h.c2;have h3:=h.c3;go_enter Tryz.func93,Tryz.ntmps93
 have m2:∀o,(w.alloc o).cell? ⟨g,2,none⟩=some (.int .i64 (fa:Int)):=fun o=>(World.cell?_alloc_lt w o _ (IF w _ h2)).trans h2
 have m3:∀o,(w.alloc o).cell? ⟨g,3,none⟩=some (.int .i64 (fe:Int)):=fun o=>(World.cell?_alloc_lt w o _ (IF w _ h3)).trans h3
 go_wp2
 refine bodyPost_ret (v:=.agg #[.int .i64 (fa:Int),.int .i64 (fe:Int)]) (results_cell_row (P:=qq) rfl _ _ w.heap.size _ _ _ _ rfl (heap_alloc_new w _) Tryz.underlying143 rfl (by kernel_rfl)) rfl ⟨rfl,(Below.refl _ _).alloc (Iz _) _⟩
def CF(w:World)(base g:Nat)(l:List UInt8)(at_ fa fe:Nat):Prop :=
 ∃(A:Option Addr) (c:Nat),Rd w g A l.length c at_ fa fe∧w.ownsRow base 5 1 (.slice A l.length c) l.length (ab l)∧(∀k,(ID A l.length c).ownBlock=some k→k≠g)∧l.length≤c
theorem a8(w:World)(p:Addr)(u:Value):w.grownBy (w.setCell p u) (some p.block) :=
 ⟨rfl,rfl,rfl,by simp[World.setCell],fun k _ hne=>Below.heap_setCell _ _ _ _ (fun e=>hne (by rw[e]))⟩
theorem aq{a b c:World}{row:Option Nat}(h:a.grownBy b row)(k:b.grownBy c row):a.grownBy c row :=
 ⟨k.os.trans h.os,k.tape.trans h.tape,k.output.trans h.output,IM h.size k.size,fun i hi hne=>(k.block i (II hi h.size) hne).trans (h.block i hi hne)⟩
theorem bE{w w':World}{row:Option Nat}(h:Below w.heap.size w w'):w.grownBy w' row:=⟨h.os,h.tape,h.output,h.size,fun k hk _=>h.block k hk⟩
theorem mV(w:World)(row:Option Nat):w.grownBy w.drew row:=⟨rfl,rfl,rfl,Iz _,fun _ _ _=>rfl⟩
theorem fy(w:World)(n:Nat)(row:Option Nat):w.grownBy (w.drewN n) row:=⟨rfl,rfl,rfl,Iz _,fun _ _ _=>rfl⟩
theorem CF.turn{w w':World}{base g:Nat}{l:List UInt8}{A:Option Addr}{c a2 f2 e2:Nat}(hr:Rd w' g A l.length c a2 f2 e2)(hown:w.ownsRow base 5 1 (.slice A l.length c) l.length (ab l))(hne:∀k,(ID A l.length c).ownBlock=some k→k≠g)(hc:l.length≤c)(hg:w.grownBy w' (some g)):CF w' base g l a2 f2 e2 :=
 ⟨A,c,hr,hown.kept hg (.inr (fun e=>hne g e rfl)),hne,hc⟩
theorem CF.below{w w':World}{base g:Nat}{l:List UInt8}{at_ fa fe:Nat}(h:CF w base g l at_ fa fe)(hb:Below w.heap.size w w'):CF w' base g l at_ fa fe:=by
 obtain⟨A,c,hr,hown,hne,hc⟩:=h;exact⟨A,c,aj.below hr hb (aj.lt hr),an hown hb,hne,hc⟩
theorem xQ(base g:Nat)(l:List UInt8)(at_ fa fe e:Nat)(w:World)(h:CF w base g l at_ fa fe) :
  Calls qq 148 #[.pointer (some ⟨g,0,none⟩),.int .i64 (e:Int)] w fun x w'=>x=.returned (.tuple #[])∧CF w' base g l at_ (if fe=0 then at_ else fa) (if fe=0 then e else fe)∧w.grownBy w' (some g):=by
 obtain⟨A,c,hr,hown,hne,hcap⟩:=h;have h0:=hr.c0;have h1:=hr.c1;have h2:=hr.c2;have h3:=hr.c3;have f2:=hr.fr 2;have f3:=hr.fr 3;by_cases hfe:fe=0
 ·subst hfe
  have Hr:=hid hr;have Hown:=hid hown;clear hr hown;go_enter Tryz.func148,Tryz.ntmps148
  go_wp2
  go_end0
  have hg:=aq (a8 w ⟨g,2,none⟩ (.int .i64 (at_:Int))) (a8 _ ⟨g,3,none⟩ (.int .i64 (e:Int)));exact⟨rfl,CF.turn (aj.set_ (aj.set_ Hr.out 2 (.int .i64 (at_:Int))) 3 (.int .i64 (e:Int))) Hown.out hne hcap hg,hg⟩
 ·have hfI:((fe:Int)==0)=false:=by simp;omega
  have hfI2:¬(fe:Int)=0:=by omega
  rw[if_neg hfe,if_neg hfe];have Hr:=hid hr;have Hown:=hid hown;clear hr hown;go_enter Tryz.func148,Tryz.ntmps148
  go_wp2
  go_end0
  exact⟨rfl,⟨A,c,Hr.out,Hown.out,hne,hcap⟩,.refl _ _⟩
abbrev St:Type:=Nat×Nat×Nat
def iA(s:St)(e:Nat):St:=if s.2.2=0 then (s.1,s.1,e) else s
def fd(l:List UInt8)(s:St)(skip n:Nat):St×List UInt8 :=
 if s.2.2≠0 then (s,[]) else if l.length<s.1+skip+n then (iA s 2,[]) else ((s.1+skip+n,s.2.1,s.2.2),(l.drop (s.1+skip)).take n)
def dJ(l:List UInt8)(s:St):St×Nat×Nat :=
 if s.2.2≠0 then (s,0,0) else if (cC (l.drop s.1)).2.2≠0 then (iA s (cC (l.drop s.1)).2.2,0,0) else (s,(cC (l.drop s.1)).1,(cC (l.drop s.1)).2.1)
def ja(b:List UInt8)(big:Bool):Nat:=if big then pG b else pF b
def bG(l:List UInt8)(s:St)(n:Int):St×List UInt8:=if n<0 then (iA s 1,[]) else fd l s 0 n.toNat
def aT(l:List UInt8)(s:St)(n:Int)(big:Bool):St×Nat:=if n<1∨8<n then (iA s 1,0) else ((fd l s 0 n.toNat).1,ja (fd l s 0 n.toNat).2 big)
def g9(l:List UInt8)(s:St):St×Nat:=(((dJ l s).1.1+(dJ l s).2.2,(dJ l s).1.2),(dJ l s).2.1)
def cF(l:List UInt8)(s:St)(m:Int):St×List UInt8 :=
 if m<0∨m<((dJ l s).2.1:Int) then (iA (dJ l s).1 4,[]) else fd l (dJ l s).1 (dJ l s).2.2 (dJ l s).2.1
def jM(l:List UInt8)(s:St):St:=if s.1<l.length then iA s 3 else s
def em(l:List UInt8)(s:St):Prop:=s.1≤l.length∧s.2.1≤l.length∧s.2.2≤4
section
variable {l:List UInt8} {s:St}
theorem AM(s:St)(e:Nat):(iA s e).1=s.1:=by unfold iA;split<;>rfl
theorem mW(h:em l s){e:Nat}(he:e≤4):em l (iA s e):=by
 obtain⟨h1,h2,h3⟩:=h;unfold iA em;split<;>simp_all
theorem xR(h:em l s)(k n:Nat):em l (fd l s k n).1:=by
 have h':=h;obtain⟨h1,h2,h3⟩:=h;unfold fd;split
 ·exact h'
 ·split
  ·exact mW h' (by omega)
  ·refine⟨by simp only;omega,h2,h3⟩
theorem EV{l:List UInt8}(h:(cC l).2.2=0):(cC l).2.1≤l.length∧(cC l).1<18446744073709551616:=by
 rcases hv:cC l with ⟨a,b,e⟩
 rw[hv] at h;simp only at h;subst h;have:=j7 hv;exact⟨this.2.2.1,this.1⟩
theorem Gk(l:List UInt8):(cC l).2.2≤3:=by
 rcases hv:cC l with ⟨a,b,e⟩
 by_cases h:e=0
 ·subst h
  exact Nat.zero_le _
 ·have:=(rk hv h).2.2
  show e≤3
  omega
theorem oP(h:em l s):em l (dJ l s).1∧(dJ l s).1.1=s.1∧s.1+(dJ l s).2.2≤l.length∧(dJ l s).2.1<18446744073709551616:=by
 have h':=h;obtain⟨h1,h2,h3⟩:=h;unfold dJ;split
 ·exact⟨h',rfl,by simp only;omega,by simp⟩
 ·split
  ·exact⟨mW h' (by have:=Gk (l.drop s.1);omega),AM _ _,by simp only;omega,by simp⟩
  ·rename_i h5
   have:=EV (l:=l.drop s.1) (by omega);rw[Iy] at this;exact⟨h',rfl,by simp only;omega,this.2⟩
theorem dX(h:em l s)(n:Int):em l (bG l s n).1:=by
 unfold bG;split
 ·exact mW h (by omega)
 ·exact xR h _ _
theorem cK(h:em l s)(n:Int)(big:Bool):em l (aT l s n big).1:=by
 unfold aT;split
 ·exact mW h (by omega)
 ·exact xR h _ _
theorem n0(h:em l s):em l (g9 l s).1:=by
 obtain⟨⟨_,h2,h3⟩,h4,h5,_⟩:=oP h;exact⟨by simp only[g9];omega,h2,h3⟩
theorem j3(h:em l s)(m:Int):em l (cF l s m).1:=by
 unfold cF;split
 ·exact mW (oP h).1 (by omega)
 ·exact xR (oP h).1 _ _
theorem xS(h:em l s):em l (jM l s):=by
 unfold jM;split
 ·exact mW h (by omega)
 ·exact h
theorem EW{b:List UInt8}(h:b.length≤8):pG b<18446744073709551616:=by
 have h1:=CQ b;have h2:256^b.length≤256^8:=Nat.pow_le_pow_right (by omega) h;omega
theorem ju(l:List UInt8)(s:St)(k n:Nat):(fd l s k n).2.length≤n:=by
 unfold fd;split
 ·simp
 ·split
  ·simp
  ·simp only[IC];omega
end
theorem EX{w:World}{base g:Nat}{e t:TypeId}{n:Nat}{v:Value}{xs:List Value}{cs:Array Value}(h:w.ownsRow base e 1 v n xs)(hb:aj w g t cs)(hne:t≠e):∀k,v.ownBlock=some k→k≠g:=by
 intro k hk e1;subst e1;rcases h.2 with ⟨rfl,_⟩|⟨g',cap,cur,rfl,_,hh,_⟩
 ·cases hk
 ·have:g'=k:=by simpa[IH] using hk
  subst this;have hb':w.heap[g']?=some (.cells cs t):=hb;rw[hh] at hb';injection hb' with hb'
  injection hb' with _ ht
  exact hne ht.symm
def eY(w:World)(base g:Nat)(l:List UInt8)(s:St):Prop:=CF w base g l s.1 s.2.1 s.2.2
theorem eY.below{w w':World}{base g:Nat}{l:List UInt8}{s:St}(h:eY w base g l s)(hb:Below w.heap.size w w'):eY w' base g l s:=CF.below h hb
theorem mX(A:Option Addr)(n c:Nat)(l:List UInt8)(w:World)(hn:n=l.length)(hb:BS w w.heap.size A l)(hl:n≤1000000000) :
  Calls qq 88 #[.slice A n c] w fun e w'=>∃g,e=.returned (.pointer (some ⟨g,0,none⟩))∧w.heap.size≤g∧g<w'.heap.size∧eY w' w.heap.size g l (0,0,0)∧Below w.heap.size w w':=by
 subst hn;have HB:=hid hb;clear hb;go_enter Tryz.func88,Tryz.ntmps88
 go_wp2_with fail
 refine (pO _ _ _ l _ rfl HB.out (by omega)).mono ?_;rintro e w1 ⟨A',c',rfl,hown,hb1⟩;have Hown:=hid hown;clear hown
 go_wp2
 go_ret
 have hw2:Below w1.heap.size w1 (w1.alloc (.cells #[.slice A' l.length c',.int .i64 0,.int .i64 0,.int .i64 0] 195)):=(Below.refl _ w1).alloc (Iz _) _;have hbl:Rd (w1.alloc (.cells #[.slice A' l.length c',.int .i64 0,.int .i64 0,.int .i64 0] 195)) w1.heap.size A' l.length c' 0 0 0:=aj.new _ _ _ _ rfl;have ho:=an Hown.out hw2;obtain⟨_,_,e3,h3,_⟩:=cw Hown.out;injection e3 with _ _ e4
 exact⟨_,rfl,hb1.size,by simp,⟨A',c',hbl,ho,EX ho hbl (by decide),by omega⟩,hb1.trans (hw2.mono hb1.size)⟩
theorem iB(base g:Nat)(l:List UInt8)(s:St)(e:Nat)(w:World)(h:eY w base g l s) :
  Calls qq 148 #[.pointer (some ⟨g,0,none⟩),.int .i64 (e:Int)] w fun x w'=>x=.returned (.tuple #[])∧eY w' base g l (iA s e)∧w.grownBy w' (some g) :=
 (xQ base g l s.1 s.2.1 s.2.2 e w h).mono fun x w' ⟨h1,h2,h3⟩=>⟨h1,by
  unfold eY iA;by_cases hs:s.2.2=0
  ·rw[if_pos hs] at h2 ⊢
   rw[if_pos hs] at h2;exact h2
  ·rw[if_neg hs] at h2 ⊢
   rw[if_neg hs] at h2;exact h2,h3⟩
section
variable {w w':World} {g k:Nat} {t:TypeId} {cs:Array Value}
theorem aj.grown(h:aj w g t cs){row:Option Nat}(hg:w.grownBy w' row)(hne:some g≠row):aj w' g t cs:=(hg.block g h.lt hne).trans h
theorem aj.ne{t':TypeId}{cs':Array Value}(h:aj w g t cs)(h':aj w k t' cs')(ht:t≠t'):g≠k:=fun e=>by
 subst e;unfold aj at h h';rw[h] at h';injection h' with h'
 injection h' with _ ht'
 exact ht ht'
theorem aK{base:Nat}{e:TypeId}{size n:Nat}{v:Value}{xs:List Value}(h:w.ownsRow base e size v n xs)(hb:aj w k t cs)(ht:t≠e):v.ownBlock=none∨v.ownBlock≠some k:=by
 rcases h.2 with ⟨rfl,_⟩|⟨g',cap,cur,rfl,_,hh,_⟩
 ·exact .inl rfl
 ·right
  intro e1;have:g'=k:=by simpa[IH] using e1
  subst this;have hb':w.heap[g']?=some (.cells cs t):=hb;rw[hh] at hb';injection hb' with hb'
  injection hb' with _ ht'
  exact ht ht'.symm
theorem eY.off{base:Nat}{l:List UInt8}{s:St}(h:eY w base g l s)(hg:w.grownBy w' (some k))(hb:aj w k t cs)(h1:t≠195)(h2:t≠5):eY w' base g l s:=by
 obtain⟨A,c,hr,hown,hne,hc⟩:=h;exact⟨A,c,aj.grown hr hg (fun e=>by injection e with e;exact (aj.ne hb hr h1) e.symm),hown.kept hg (aK hown hb h2),hne,hc⟩
theorem eY.lt{base:Nat}{l:List UInt8}{s:St}(h:eY w base g l s):g<w.heap.size:=by
 obtain⟨A,c,hr,_⟩:=h;exact aj.lt hr
end
theorem lh(base g:Nat)(l:List UInt8)(s:St)(w:World)(h:eY w base g l s)(hs:em l s)(hl:l.length≤1000000000) :
  Calls qq 92 #[.pointer (some ⟨g,0,none⟩)] w fun e w'=>e=.returned (.int .i64 ((l.length:Int)-(s.1:Int)))∧∃m,w'=w.drewN m:=by
 obtain⟨A,c,hr,_⟩:=h;exact xP g A l.length c s.1 s.2.1 s.2.2 w hr hl hs.1
theorem jD{B:Nat}{w:World}(n:Nat):Below B w (w.drewN n):=⟨rfl,rfl,rfl,Iz _,fun _ _=>rfl⟩
theorem eY.drewN{w:World}{base g:Nat}{l:List UInt8}{s:St}(h:eY w base g l s)(m:Nat):eY (w.drewN m) base g l s:=h.below (jD m)
theorem eY.drew{w:World}{base g:Nat}{l:List UInt8}{s:St}(h:eY w base g l s):eY w.drew base g l s:=h.below ((Below.refl _ w).drew)
theorem jb{w:World}{base:Nat}{e:TypeId}{size n m c:Nat}{A:Option Addr}{xs:List Value}(h:w.ownsRow base e size (.slice A n c) m xs):n≤c:=by
 obtain⟨_,_,e3,h3,_⟩:=cw h;injection e3 with _ e2 e4
 omega
def zH(w:World)(base g:Nat)(l:List UInt8)(r:St×List UInt8)(x:Ending)(w':World):Prop :=
 ∃A c,x=.returned (.slice A r.2.length c)∧w'.ownsRow w.heap.size 5 1 (.slice A r.2.length c) r.2.length (ab r.2)∧eY w' base g l r.1∧w.grownBy w' (some g)
theorem mE{w w':World}{base g:Nat}{l:List UInt8}{s:St}(h:eY w' base g l s)(hg:w.grownBy w' (some g)):zH w base g l (s,[]) (.returned (.slice none 0 0)) w' :=
 ⟨none,0,rfl,IE _ _ _ _,h,hg⟩
theorem AN{l:List UInt8}{s:St}{k n:Nat}(h:¬s.2.2=0):fd l s k n=(s,[]):=if_pos h
theorem AO{l:List UInt8}{s:St}{k n:Nat}(h:s.2.2=0)(h2:l.length<s.1+k+n):fd l s k n=(iA s 2,[]):=by
 unfold fd;rw[if_neg (by omega),if_pos h2]
theorem Gl{l:List UInt8}{s:St}{k n:Nat}(h:s.2.2=0)(h2:s.1+k+n≤l.length):fd l s k n=((s.1+k+n,s.2.1,s.2.2),(l.drop (s.1+k)).take n):=by
 unfold fd;rw[if_neg (by omega),if_neg (by omega)]
theorem pP(base g:Nat)(l:List UInt8)(s:St)(k n:Nat)(w:World)(h:eY w base g l s)(hs:em l s)(hk:s.1+k≤l.length)(hl:l.length≤1000000000)(hn:n<9223372036854775808) :
  Calls qq 149 #[.pointer (some ⟨g,0,none⟩),.int .i64 (k:Int),.int .i64 (n:Int)] w (zH w base g l (fd l s k n)):=by
 obtain⟨at_,fa,fe⟩:=s;have H:=hid h;have Hs:=hid hs;obtain⟨A,c,hr,hown,hne,hc⟩:=h;have h0:=Rd.c0 hr;have h1:=Rd.c1 hr;have h2:=Rd.c2 hr;have h3:=Rd.c3 hr;have f1:=Rd.fr hr 1;have Hr:=hid hr;have Hown:=hid hown;have ha:at_+k≤l.length:=hk;have Hne:=hid hne;clear hr hown hs hk hne;by_cases hfe:fe=0
 ·subst hfe
  have hw1:IntKind.i64.wrap ((l.length:Int)-(at_:Int)-(k:Int))=(l.length:Int)-(at_:Int)-(k:Int):=IB _ (by omega);by_cases hsh:l.length<at_+k+n
  ·have hshI:(l.length:Int)-(at_:Int)-(k:Int)<(n:Int):=by omega
   rw[AO (s:=(at_,fa,0)) rfl hsh];go_enter Tryz.func149,Tryz.ntmps149
   go_wp2_with fail
   refine (lh base g l _ w H.out Hs.out hl).mono ?_;rintro e w1 ⟨rfl,m,rfl⟩
   go_wp2_with fail
   refine (iB base g l (at_,fa,0) 2 _ (H.out.drewN m)).mono ?_;rintro e w2 ⟨rfl,hR,hg⟩
   go_wp2
   go_ret
   exact mE hR (aq (fy w m _) hg)
  ·have hshI:¬(l.length:Int)-(at_:Int)-(k:Int)<(n:Int):=by omega
   obtain⟨bod,hbod⟩:∃bod,(l.drop (at_+k)).take n=bod:=⟨_,rfl⟩;obtain⟨E,hE⟩:∃E,at_+k+n=E:=⟨_,rfl⟩;rw[show fd l (at_,fa,0) k n=((E,fa,0),bod) by rw[Gl (s:=(at_,fa,0)) rfl (by show at_+k+n≤_;omega),←hbod,←hE]];have hEl:E≤l.length:=by omega
   have Hbod:=hid hbod;have HE:=hid hE;clear hbod hE;have hw2:IntKind.i64.wrap ((at_:Int)+(k:Int))=(at_:Int)+(k:Int):=IB _ (by omega);obtain⟨a,ha2⟩:∃a,at_+k=a:=⟨_,rfl⟩;have ha3:(at_:Int)+(k:Int)=(a:Int):=by omega
   go_enter Tryz.func149,Tryz.ntmps149
   go_wp2_with fail
   refine (lh base g l _ w H.out Hs.out hl).mono ?_;rintro e w1 ⟨rfl,m,rfl⟩
   go_wp2_with fail
   have hE2:(a:Int)+(n:Int)=(E:Int):=by have:=HE.out;omega
   rw[hE2];have hR0:Rd ((w.drewN m).setCell ⟨g,1,none⟩ (.int .i64 (E:Int))) g A l.length c E fa 0:=aj.set_ (aj.drewN Hr.out m) 1 (.int .i64 (E:Int));have hg0:w.grownBy ((w.drewN m).setCell ⟨g,1,none⟩ (.int .i64 (E:Int))) (some g):=aq (fy w m _) (a8 _ ⟨g,1,none⟩ (.int .i64 (E:Int)));generalize ((w.drewN m).setCell ⟨g,1,none⟩ (.int .i64 (E:Int)))=W at *
   have h0':=Rd.c0 hR0;have h1':=Rd.c1 hR0;have HR0:=hid hR0;have Hg0:=hid hg0;have Hown1:=hid (Hown.out.kept hg0 (.inr (fun e=>Hne.out g e rfl)));have ha4:(0:Int)≤(a:Int):=by omega
   have hE4:(a:Int)≤(E:Int):=by omega
   have hE5:(E:Int)≤(c:Int):=by omega
   clear hR0 hg0;have HL:Hid (E-a=bod.length):=by show _=_;have:=HE.out;rw[←Hbod.out,IC,Iy];omega
   have hbs:BS W.drew W.drew.heap.size (if c=a then A else A.map (·.add a)) bod:=by
    obtain⟨b1,_⟩:=IL Hown1.out;rw[←Hbod.out,ha2];exact (b1.drop (k:=a) (cap:=c) hc).take n
   have HbP:Hid (c=a→BS W.drew W.drew.heap.size A bod):=fun e=>by rw[if_pos e] at hbs;exact hbs
   have HbN:Hid (¬c=a→BS W.drew W.drew.heap.size (A.map (·.add a)) bod):=fun e=>by rw[if_neg e] at hbs;exact hbs
   have Hsz:Hid (w.heap.size≤W.heap.size):=Hg0.out.size;clear hbs hE2 ha2 ha3 hw1 hw2;go_still_tail 10,(by kernel_rfl)
   change wpList _ _ _ _ _ W.drew
   go_wp2_with fail
   all_goals
    refine (pO _ _ _ bod _ HL.out (by first|exact HbP.out (by assumption)|exact HbN.out (by assumption)) (by omega)).mono ?_;rintro e w3 ⟨A3,c3,rfl,hown3,hb3⟩;have Hown3:=hid hown3;clear hown3
    go_wp2
    go_ret
    have hd:Below W.heap.size W W.drew:=(Below.refl _ W).drew;have h13:Below W.heap.size W w3:=hd.trans hb3;exact⟨A3,c3,rfl,bP Hown3.out Hsz.out,CF.turn (aj.below HR0.out h13 (aj.lt HR0.out)) Hown1.out Hne.out hc (bE h13),aq Hg0.out (bE h13)⟩
 ·rw[AN (s:=(at_,fa,fe)) hfe]
  have hfI:((fe:Int)==0)=false:=by simp;omega
  have hfI2:((fe:Int) != 0)=true:=by simp;omega
  go_enter Tryz.func149,Tryz.ntmps149
  go_wp2
  go_ret
  exact mE H.out (.refl _ _)
theorem qj{P:Program}{f:FuncId}{args:Array Value}{w:World}{n:Nat}{v:Value}
  (h:Calls P f args (w.drewN n) fun e w'=>e=.returned v∧w.drewN n=w'):Calls P f args (w.drewN n) fun e w''=>e=.returned v∧∃m,w''=w.drewN m :=
 h.mono fun _ _ ⟨he,hm⟩=>⟨he,n,hm.symm⟩
def Gm(w:World)(base g:Nat)(l:List UInt8)(r:St×Nat×Nat)(x:Ending)(w':World):Prop :=
 x=.returned (.tuple #[.int .u64 (r.2.1:Int),.int .i64 (r.2.2:Int)])∧eY w' base g l r.1∧w.grownBy w' (some g)
theorem lO(base g:Nat)(l:List UInt8)(s:St)(w:World)(h:eY w base g l s)(hs:em l s)(hl:l.length≤1000000000) :
  Calls qq 150 #[.pointer (some ⟨g,0,none⟩)] w (Gm w base g l (dJ l s)):=by
 obtain⟨at_,fa,fe⟩:=s;have H:=hid h;obtain⟨A,c,hr,hown,hne,hc⟩:=h;have h0:=Rd.c0 hr;have h1:=Rd.c1 hr;have h2:=Rd.c2 hr;have h3:=Rd.c3 hr;have Hown:=hid hown;have ha:at_≤l.length:=hs.1;clear hr hown hs hne;by_cases hfe:fe=0
 ·subst hfe
  rcases hv:cC (l.drop at_) with ⟨n,k,e⟩
  have Hv:=hid hv;have HL:Hid (l.length-at_=(l.drop at_).length):=by show _=_;rw[Iy]
  have hbs:BS w w.heap.size (if c=at_ then A else A.map (·.add at_)) (l.drop at_):=(IL Hown.out).1.drop hc;have HbP:Hid (c=at_→BS w w.heap.size A (l.drop at_)):=fun e=>by rw[if_pos e] at hbs;exact hbs
  have HbN:Hid (¬c=at_→BS w w.heap.size (A.map (·.add at_)) (l.drop at_)):=fun e=>by rw[if_neg e] at hbs;exact hbs
  have Hm:Hid (l.length-at_≤maxLen):=by show _≤maxLen;unfold maxLen;omega
  have ha0:(0:Int)≤(at_:Int):=by omega
  have ha1:(at_:Int)≤(l.length:Int):=by omega
  clear hbs hv;by_cases he:e=0
  ·subst he
   have hx:dJ l (at_,fa,0)=((at_,fa,0),n,k):=by unfold dJ;rw[if_neg (by simp)];simp only;rw[Hv.out,if_neg (by simp)]
   rw[hx];clear hx;by_cases hca:c=at_
   all_goals
    go_enter Tryz.func150,Tryz.ntmps150
    go_wp2
    go_quiet ((go_at_call 84;exact qj (pM _ _ _ (l.drop at_) _ _ HL.out (BS.drewN (by first|exact HbP.out (by assumption)|exact HbN.out (by assumption)) _) Hm.out Hv.out)))
    go_wp2
    go_ret2
    exact⟨rfl,H.out.drewN _,fy _ _ _⟩
  ·have he':(e:Int)≠0:=by omega
   have hbad:=rk Hv.out he;obtain⟨rfl,rfl,he2⟩:=hbad;have hx:dJ l (at_,fa,0)=(iA (at_,fa,0) e,0,0):=by unfold dJ;rw[if_neg (by simp)];simp only;rw[Hv.out,if_pos he]
   rw[hx];clear hx;by_cases hca:c=at_
   all_goals
    go_enter Tryz.func150,Tryz.ntmps150
    go_wp2
    go_quiet ((go_at_call 84;exact qj (pM _ _ _ (l.drop at_) _ _ HL.out (BS.drewN (by first|exact HbP.out (by assumption)|exact HbN.out (by assumption)) _) Hm.out Hv.out)))
    go_wp2_with fail
    refine (iB base g l (at_,fa,0) e _ (H.out.drewN _)).mono ?_;rintro x w2 ⟨rfl,hR,hg⟩
    go_wp2
    go_ret2
    exact⟨rfl,hR,aq (fy _ _ _) hg⟩
 ·have hx:dJ l (at_,fa,fe)=((at_,fa,fe),0,0):=if_pos hfe
  rw[hx];clear hx;have hfI:((fe:Int)==0)=false:=by simp;omega
  have hfI2:((fe:Int) != 0)=true:=by simp;omega
  go_enter Tryz.func150,Tryz.ntmps150
  go_wp2
  go_ret2
  exact⟨rfl,H.out,.refl _ _⟩
theorem xT(big:Bool)(A:Option Addr)(n c:Nat)(l:List UInt8)(w:World)(hn:n=l.length)(hb:BS w w.heap.size A l)(hl:n≤8)(hc:n≤c) :
  Calls qq 85 #[.slice A n c,.bool big] w fun e w'=>e=.returned (.int .u64 (ja l big:Int))∧Below w.heap.size w w':=by
 rcases big with _|_
 ·exact oN A n c l w hn hb hl hc
 ·exact oO A n c l w hn hb hl hc
def FY(w:World)(base g:Nat)(l:List UInt8)(r:St×Nat)(x:Ending)(w':World):Prop :=
 x=.returned (.int .u64 (r.2:Int))∧eY w' base g l r.1∧w.grownBy w' (some g)
section
variable (base g:Nat) (l:List UInt8) (s:St) (w:World)
theorem ew(n:Int)(h:eY w base g l s)(hs:em l s)(hl:l.length≤1000000000)(hn:n<9223372036854775808) :
  Calls qq 89 #[.pointer (some ⟨g,0,none⟩),.int .i64 n] w (zH w base g l (bG l s n)):=by
 have H:=hid h;have Hs:=hid hs;clear h hs;by_cases h0:n<0
 ·rw[show bG l s n=(iA s 1,[]) from if_pos h0]
  go_enter Tryz.func89,Tryz.ntmps89
  go_wp2_with fail
  refine (iB base g l s 1 _ H.out).mono ?_;rintro x w2 ⟨rfl,hR,hg⟩
  go_wp2
  go_ret
  exact mE hR hg
 ·obtain⟨k,rfl⟩:∃k:Nat,n=(k:Int):=⟨n.toNat,by omega⟩
  rw[show bG l s (k:Int)=fd l s 0 k by unfold bG;rw[if_neg h0];rfl];go_enter Tryz.func89,Tryz.ntmps89
  go_wp2_with fail
  refine (pP base g l s 0 k _ H.out Hs.out Hs.out.1 hl (by omega)).mono ?_;rintro x w2 ⟨A,c,rfl,hown,hR,hg⟩;have Hown:=hid hown;clear hown
  go_wp2
  go_ret
  exact⟨A,c,rfl,Hown.out,hR,hg⟩
theorem cV(n:Int)(big:Bool)(h:eY w base g l s)(hs:em l s)(hl:l.length≤1000000000) :
  Calls qq 103 #[.pointer (some ⟨g,0,none⟩),.int .i64 n,.bool big] w (FY w base g l (aT l s n big)):=by
 have H:=hid h;have Hs:=hid hs;clear h hs;by_cases h1:n<1
 ·rw[show aT l s n big=(iA s 1,0) from if_pos (.inl h1)]
  go_enter Tryz.func103,Tryz.ntmps103
  go_wp2_with fail
  refine (iB base g l s 1 _ H.out).mono ?_;rintro x w2 ⟨rfl,hR,hg⟩
  go_wp2
  go_ret
  exact⟨rfl,hR,hg⟩
 ·by_cases h2:8<n
  ·rw[show aT l s n big=(iA s 1,0) from if_pos (.inr h2)]
   go_enter Tryz.func103,Tryz.ntmps103
   go_wp2_with fail
   refine (iB base g l s 1 _ H.out).mono ?_;rintro x w2 ⟨rfl,hR,hg⟩
   go_wp2
   go_ret
   exact⟨rfl,hR,hg⟩
  ·obtain⟨k,rfl⟩:∃k:Nat,n=(k:Int):=⟨n.toNat,by omega⟩
   rw[show aT l s (k:Int) big=((fd l s 0 k).1,ja (fd l s 0 k).2 big) by unfold aT;rw[if_neg (by omega)];rfl];have hlen:=ju l s 0 k;obtain⟨r,hr⟩:∃r,fd l s 0 k=r:=⟨_,rfl⟩;rw[hr] at hlen ⊢;have Hr:=hid hr;clear hr;go_enter Tryz.func103,Tryz.ntmps103
   go_wp2_with fail
   refine (pP base g l s 0 k _ H.out Hs.out Hs.out.1 hl (by omega)).mono ?_;rw[Hr.out];rintro x w2 ⟨A,c,rfl,hown,hR,hg⟩;have Hb:=hid (IL hown).1;have h3:=jb hown;clear hown
   go_wp2_with fail
   refine (xT big _ _ _ r.2 _ rfl Hb.out (by omega) (by omega)).mono ?_;rintro x w3 ⟨rfl,hb⟩
   go_wp2
   go_ret
   exact⟨rfl,hR.below hb,aq hg (bE hb)⟩
theorem j8(h:eY w base g l s)(hs:em l s)(hl:l.length≤1000000000) :
  Calls qq 90 #[.pointer (some ⟨g,0,none⟩)] w (FY w base g l (g9 l s)):=by
 have H:=hid h;have Hs:=hid hs;have hok:=oP hs;unfold g9;rcases hp:dJ l s with ⟨⟨at_,fa,fe⟩,n,k⟩
 rw[hp] at hok;have Hp:=hid hp;have hk:at_+k≤l.length:=by have:=hok.2.1;have:=hok.2.2.1;simp only at *;omega
 clear h hs hok hp;go_enter Tryz.func90,Tryz.ntmps90
 go_wp2_with fail
 refine (lO base g l s _ H.out Hs.out hl).mono ?_;rw[Hp.out];rintro x w2 ⟨rfl,hR,hg⟩;obtain⟨A,c,hr,hown,hne,hc⟩:=hR;have h0:=Rd.c0 hr;have h1:=Rd.c1 hr;have h2:=Rd.c2 hr;have h3:=Rd.c3 hr;have f1:=Rd.fr hr 1;have Hr:=hid hr;have Hown:=hid hown;have Hne:=hid hne;have hw:IntKind.i64.wrap ((at_:Int)+(k:Int))=(at_:Int)+(k:Int):=IB _ (by omega);clear hr hown hne
 go_wp2
 go_ret
 have hgs:=a8 w2 ⟨g,1,none⟩ (.int .i64 ((at_:Int)+(k:Int)));exact⟨rfl,CF.turn (aj.set_ Hr.out 1 (.int .i64 ((at_:Int)+(k:Int)))) Hown.out Hne.out hc hgs,aq hg hgs⟩
theorem pQ(h:eY w base g l s)(hs:em l s)(hl:l.length≤1000000000) :
  Calls qq 101 #[.pointer (some ⟨g,0,none⟩)] w fun x w'=>x=.returned (.tuple #[])∧eY w' base g l (jM l s)∧w.grownBy w' (some g):=by
 have H:=hid h;have Hs:=hid hs;have ha:=hs.1;clear h hs;by_cases h1:s.1<l.length
 ·rw[show jM l s=iA s 3 from if_pos h1]
  have hI:(0:Int)<(l.length:Int)-(s.1:Int):=by omega
  go_enter Tryz.func101,Tryz.ntmps101
  go_wp2_with fail
  refine (lh base g l s w H.out Hs.out hl).mono ?_;rintro e w1 ⟨rfl,m,rfl⟩
  go_wp2_with fail
  refine (iB base g l s 3 _ (H.out.drewN m)).mono ?_;rintro x w3 ⟨rfl,hR3,hg3⟩
  go_wp2
  go_end0
  exact⟨rfl,hR3,aq (fy w m _) hg3⟩
 ·rw[show jM l s=s from if_neg h1]
  have hI:¬(0:Int)<(l.length:Int)-(s.1:Int):=by omega
  go_enter Tryz.func101,Tryz.ntmps101
  go_wp2_with fail
  refine (lh base g l s w H.out Hs.out hl).mono ?_;rintro e w1 ⟨rfl,m,rfl⟩
  go_wp2
  go_end0
  exact⟨rfl,H.out.drewN m,fy w m _⟩
end
abbrev xG:Type:=List UInt8×Nat
def iw(most:Nat)(s:xG)(b:List UInt8):xG:=if s.2≠0 then s else if most<s.1.length+b.length then (s.1,4) else (s.1++b,0)
def zR(w:World)(base g:Nat)(A:Option Addr)(c most:Nat)(s:xG):Prop :=
 aj w g 212 #[.slice A s.1.length c,.int .i64 (most:Int),.int .i64 (s.2:Int)]∧w.ownsRow base 5 1 (.slice A s.1.length c) s.1.length (ab s.1)∧base≤g
def cY(w w':World)(g:Nat)(r:Option Nat):Prop :=
 w'.os=w.os∧w'.tape=w.tape∧w'.output=w.output∧w.heap.size≤w'.heap.size∧∀k,k<w.heap.size→k≠g→some k≠r→w'.heap[k]?=w.heap[k]?
theorem cY.refl(w:World)(g:Nat)(r:Option Nat):cY w w g r:=⟨rfl,rfl,rfl,Iz _,fun _ _ _ _=>rfl⟩
theorem cY.trans{a b c:World}{g:Nat}{r:Option Nat}(h:cY a b g r)(k:cY b c g r):cY a c g r :=
 ⟨k.1.trans h.1,k.2.1.trans h.2.1,k.2.2.1.trans h.2.2.1,IM h.2.2.2.1 k.2.2.2.1,fun i hi h1 h2=>(k.2.2.2.2 i (II hi h.2.2.2.1) h1 h2).trans (h.2.2.2.2 i hi h1 h2)⟩
theorem cY.of_grown{w w':World}{g:Nat}{r:Option Nat}(h:w.grownBy w' r):cY w w' g r:=⟨h.os,h.tape,h.output,h.size,fun k hk _ h2=>h.block k hk h2⟩
theorem cY.of_g{w w':World}{g:Nat}{r:Option Nat}(h:w.grownBy w' (some g)):cY w w' g r:=⟨h.os,h.tape,h.output,h.size,fun k hk h1 _=>h.block k hk (fun e=>by injection e with e;exact h1 e)⟩
theorem cY.of_below{w w':World}{g:Nat}{r:Option Nat}(h:Below w.heap.size w w'):cY w w' g r:=⟨h.os,h.tape,h.output,h.size,fun k hk _ _=>h.block k hk⟩
theorem cY.below{w w':World}{g:Nat}{r:Option Nat}{B:Nat}(h:cY w w' g r)(hg:B≤g)(hr:∀k,r=some k→B≤k)(hB:B≤w.heap.size):Below B w w' :=
 ⟨h.1,h.2.1,h.2.2.1,h.2.2.2.1,fun k hk=>h.2.2.2.2 k (by omega) (by omega) (fun e=>by have:=hr k e.symm;omega)⟩
theorem cY.own{w w':World}{g:Nat}{r:Option Nat}(h:cY w w' g r){base:Nat}{e:TypeId}{size n:Nat}{v:Value}{xs:List Value}(ho:w.ownsRow base e size v n xs)(h1:v.ownBlock≠some g)(h2:v.ownBlock=none∨v.ownBlock≠r):w'.ownsRow base e size v n xs:=by
 refine⟨ho.1,?_⟩;rcases ho.2 with hn|⟨k,cap,cur,rfl,hb,hgg,rest⟩
 ·exact .inl hn
 ·refine .inr ⟨k,cap,cur,rfl,hb,?_,rest⟩
  have hk:k<w.heap.size:=aj.lt (w:=w) (g:=k) (t:=e) (cs:=cur) hgg;rw[h.2.2.2.2 k hk (fun e=>h1 (by rw[e];rfl)) (fun e=>by
   rcases h2 with h2|h2
   ·simp[IH] at h2
   ·exact h2 e)]
  exact hgg
theorem cY.blk{w w':World}{g:Nat}{r:Option Nat}(h:cY w w' g r){k:Nat}{t:TypeId}{cs:Array Value}(hb:aj w k t cs)(h1:k≠g)(h2:some k≠r):aj w' k t cs:=(h.2.2.2.2 k hb.lt h1 h2).trans hb
def iG(w:World)(base g:Nat)(A:Option Addr)(most:Nat)(s:xG)(x:Ending)(w':World):Prop :=
 x=.returned (.tuple #[])∧∃A' c',zR w' base g A' c' most s∧cY w w' g (ID A 0 0).ownBlock∧((ID A' 0 0).ownBlock=(ID A 0 0).ownBlock∨∃k,(ID A' 0 0).ownBlock=some k∧w.heap.size≤k)
theorem zR.below{w w':World}{base g:Nat}{A:Option Addr}{c most:Nat}{s:xG}(h:zR w base g A c most s)(hb:Below w.heap.size w w'):zR w' base g A c most s :=
 ⟨aj.below h.1 hb h.1.lt,an h.2.1 hb,h.2.2⟩
theorem nP(m:Int)(w:World)(hm:m<9223372036854775808) :
  Calls qq 111 #[.int .i64 m] w fun e w'=>e=.returned (.pointer (some ⟨w.heap.size,0,none⟩))∧zR w' w.heap.size w.heap.size none 0 m.toNat ([],0)∧Below w.heap.size w w':=by
 by_cases h0:m<0
 ·have hmx:max m 0=0:=by omega
  have ht:m.toNat=0:=by omega
  rw[ht];go_enter Tryz.func111,Tryz.ntmps111
  go_wp2
  go_ret
  exact⟨rfl,⟨aj.new w _ _ _ rfl,IE _ _ _ _,Iz _⟩,(Below.refl _ _).alloc (Iz _) _⟩
 ·obtain⟨k,rfl⟩:∃k:Nat,m=(k:Int):=⟨m.toNat,by omega⟩
  have hmx:max (k:Int) 0=(k:Int):=by omega
  go_enter Tryz.func111,Tryz.ntmps111
  go_wp2
  go_ret
  exact⟨rfl,⟨aj.new w _ _ _ rfl,IE _ _ _ _,Iz _⟩,(Below.refl _ _).alloc (Iz _) _⟩
section
variable (base g:Nat) (l:List UInt8) (s:St) (w:World)
theorem kv(m:Int)(h:eY w base g l s)(hs:em l s)(hl:l.length≤1000000000)(hm:m<9223372036854775808) :
  Calls qq 154 #[.pointer (some ⟨g,0,none⟩),.int .i64 m] w (zH w base g l (cF l s m)):=by
 have H:=hid h;have Hs:=hid hs;have hok:=oP hs;unfold cF;rcases hp:dJ l s with ⟨s1,n,k⟩
 rw[hp] at hok;have Hp:=hid hp;simp only at hok;obtain⟨hok1,hok2,hok3,hok4⟩:=hok;have Hok1:=hid hok1;have Hok2:=hid hok2;clear h hs hp hok1 hok2 hok4;by_cases h0:m<0
 ·rw[if_pos (.inl h0)]
  go_enter Tryz.func154,Tryz.ntmps154
  go_wp2_with fail
  refine (lO base g l s _ H.out Hs.out hl).mono ?_;rw[Hp.out];rintro x w2 ⟨rfl,hR,hg⟩
  go_wp2_with fail
  refine (iB base g l s1 4 _ hR).mono ?_;rintro x w3 ⟨rfl,hR3,hg3⟩
  go_wp2
  go_ret
  exact mE hR3 (aq hg hg3)
 ·obtain⟨q,rfl⟩:∃q:Nat,m=(q:Int):=⟨m.toNat,by omega⟩
  have hwq:IntKind.u64.wrap (q:Int)=(q:Int):=jZ q (by omega);by_cases h1:(q:Int)<(n:Int)
  ·rw[if_pos (.inr h1)]
   go_enter Tryz.func154,Tryz.ntmps154
   go_wp2_with fail
   refine (lO base g l s _ H.out Hs.out hl).mono ?_;rw[Hp.out];rintro x w2 ⟨rfl,hR,hg⟩
   go_wp2_with fail
   refine (iB base g l s1 4 _ hR).mono ?_;rintro x w3 ⟨rfl,hR3,hg3⟩
   go_wp2
   go_ret
   exact mE hR3 (aq hg hg3)
  ·rw[if_neg (by simp only;omega)]
   have hwn:IntKind.i64.wrap (n:Int)=(n:Int):=IB _ (by omega);have Hn:Hid (n<9223372036854775808):=by show n<_;omega
   clear hm;go_enter Tryz.func154,Tryz.ntmps154
   go_wp2_with fail
   refine (lO base g l s _ H.out Hs.out hl).mono ?_;rw[Hp.out];rintro x w2 ⟨rfl,hR,hg⟩
   go_wp2_with fail
   refine (pP base g l s1 k n _ hR Hok1.out (by rw[Hok2.out];exact hok3) hl Hn.out).mono ?_;rintro x w3 ⟨A,c,rfl,hown,hR3,hg3⟩;have Hown:=hid hown;clear hown
   go_wp2
   go_ret
   exact⟨A,c,rfl,bP Hown.out hg.size,hR3,aq hg hg3⟩
end
def fq(s:St)(k:Nat):St:=(s.1+k,s.2.1,s.2.2)
theorem cH(s:St)(a b:Nat):fq (fq s a) b=fq s (a+b):=by simp[fq,IK]
structure cd(l:List UInt8)(s:St)(x:List UInt8)(s':St):Prop where
 ok:s.2.2=0
 to:s'=fq s x.length
 le:s.1+x.length≤l.length
 eq:l.drop s.1=x++l.drop (s.1+x.length)
section
variable {l:List UInt8} {s s' s'':St} {x y:List UInt8}
theorem cd.trans(h:cd l s x s')(k:cd l s' y s''):cd l s (x++y) s'':=by
 obtain⟨h1,rfl,h3,h4⟩:=h;obtain⟨k1,rfl,k3,k4⟩:=k;simp only[fq] at k3 k4;refine⟨h1,by rw[cH,IA],by rw[IA];omega,?_⟩;rw[h4,k4,IA,List.append_assoc,IK]
theorem cd.nil(h:s.2.2=0)(hl:s.1≤l.length):cd l s [] s:=⟨h,rfl,by simpa using hl,by simp⟩
theorem cd.of(h:s.2.2=0)(hl:s.1≤l.length){r:List UInt8}(e:l.drop s.1=x++r):cd l s x (fq s x.length):=by
 have hlen:=congrArg IN e;rw[Iy,IA] at hlen;refine⟨h,rfl,by omega,?_⟩;rw[e,←IJ,e,List.drop_left]
theorem cd.ok'(h:cd l s x s'):s'.2.2=0:=by rw[h.to];exact h.ok
theorem cd.le'(h:cd l s x s'):s'.1≤l.length:=by rw[h.to];exact h.le
theorem cd.at_(h:cd l s x s'):s'.2.1=s.2.1:=by rw[h.to];rfl
theorem cd.rest(h:cd l s x s'){r:List UInt8}(e:l.drop s.1=x++r):l.drop s'.1=r:=by
 have h4:=h.eq;rw[e] at h4;rw[h.to];exact (List.append_cancel_left h4).symm
theorem cd.take(h:cd l s x s'):x=(l.drop s.1).take x.length:=by rw[h.eq];simp
theorem ly{e:Nat}(he:e≠0):(iA s e).2.2≠0:=by
 unfold iA;split
 ·exact he
 ·assumption
theorem F9(h:s.2.2=0)(hl:s.1≤l.length){r:List UInt8}(e:l.drop s.1=x++r):fd l s 0 x.length=(fq s x.length,x):=by
 have hlen:=congrArg IN e;rw[Iy,IA] at hlen;unfold fd;rw[if_neg (by omega),if_neg (by omega),Nat.add_zero,e,List.take_left];rfl
theorem Ga{n:Nat}(h:(fd l s 0 n).1.2.2=0):∃x,x.length=n∧cd l s x (fd l s 0 n).1∧(fd l s 0 n).2=x:=by
 unfold fd at h ⊢;split at h
 ·contradiction
 ·rename_i h0
  split at h
  ·exact absurd h (ly (by decide))
  ·rename_i h1
   rw[if_neg h0,if_neg h1];refine⟨(l.drop s.1).take n,by rw[IC,Iy];omega,?_,by simp⟩;have hx:((l.drop s.1).take n).length=n:=by rw[IC,Iy];omega
   refine⟨by omega,by simp[fq,hx],by rw[hx];omega,?_⟩;rw[hx,←IJ,IG]
theorem jP(h:s.2.2=0)(hl:s.1≤l.length){r:List UInt8}{n:Int}(hn:n=(x.length:Int))(e:l.drop s.1=x++r):bG l s n=(fq s x.length,x):=by
 subst hn;unfold bG;rw[if_neg (by omega)];exact F9 h hl e
theorem mM{n:Int}(hn:0≤n)(h:(bG l s n).1.2.2=0):∃x,x.length=n.toNat∧cd l s x (bG l s n).1∧(bG l s n).2=x:=by
 unfold bG at h ⊢;rw[if_neg (by omega)] at h ⊢;exact Ga h
theorem kK(h:s.2.2=0)(hl:s.1≤l.length){r:List UInt8}{n:Int}(hn:n=(x.length:Int))(h1:1≤x.length)(h8:x.length≤8)(big:Bool)(e:l.drop s.1=x++r):aT l s n big=(fq s x.length,ja x big):=by
 subst hn;unfold aT;rw[if_neg (by omega),Int.toNat_natCast,F9 h hl e]
theorem oW{n:Int}(h1:1≤n)(h8:n≤8)(big:Bool)(h:(aT l s n big).1.2.2=0):∃x,x.length=n.toNat∧cd l s x (aT l s n big).1∧(aT l s n big).2=ja x big:=by
 unfold aT at h ⊢;rw[if_neg (by omega)] at h ⊢;obtain⟨x,hx,he,e⟩:=Ga h;exact⟨x,hx,he,by rw[e]⟩
theorem tj(h:s.2.2=0)(hl:s.1≤l.length){r:List UInt8}{m:Nat}(hm:m<18446744073709551616)(e:l.drop s.1=aC m++r):g9 l s=(fq s (aC m).length,m):=by
 have hg:cC (l.drop s.1)=(m,(aC m).length,0):=by rw[e];exact mT m hm r
 unfold g9 dJ;rw[if_neg (by omega),hg];simp[fq]
theorem Ds(h:(g9 l s).1.2.2=0)(hl:s.1≤l.length):(g9 l s).2<18446744073709551616∧cd l s (aC (g9 l s).2) (g9 l s).1:=by
 have hp:(dJ l s).1.2.2=0:=h;have h0:s.2.2=0:=by
  unfold dJ at hp;split at hp
  ·exact hp
  ·omega
 have hv:(cC (l.drop s.1)).2.2=0:=by
  unfold dJ at hp;rw[if_neg (by omega)] at hp;split at hp
  ·exact absurd hp (ly (by assumption))
  ·omega
 rcases hg:cC (l.drop s.1) with ⟨m,k,e⟩
 rw[hg] at hv;simp only at hv;subst hv;have hk:=j7 hg;have hpe:dJ l s=(s,m,k):=by
  unfold dJ;rw[if_neg (by omega),hg];simp
 have hvs:g9 l s=(fq s k,m):=by
  unfold g9;rw[hpe];rfl
 rw[hvs];refine⟨hk.1,?_⟩;have e:l.drop s.1=aC m++(l.drop s.1).drop k:=by rw[hk.2.2.2.2,IG]
 have:=cd.of h0 hl e;rw[←hk.2.2.2.1] at this;exact this
theorem Dt(h:(jM l s).2.2=0):s.1≥l.length∧jM l s=s:=by
 unfold jM at h ⊢;split at h
 ·exact absurd h (ly (by decide))
 ·rename_i h1
  rw[if_neg h1];exact⟨by omega,rfl⟩
theorem yr(h:l.length≤s.1):jM l s=s:=by
 unfold jM;rw[if_neg (by omega)]
end
theorem dF(c:UInt8):ja [c] true=c.toNat:=by simp[ja,pG]
theorem lz(a b:UInt8):ja [a,b] true=a.toNat*256+b.toNat:=by simp[ja,pG]
theorem oX{x:List UInt8}(h:x.length=1):∃c,x=[c]:=by
 match x,h with
 |[c],_=>exact⟨c,rfl⟩
theorem zS{x:List UInt8}(h:x.length=2):∃a b,x=[a,b]:=by
 match x,h with
 |[a,b],_=>exact⟨a,b,rfl⟩
