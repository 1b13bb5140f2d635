import Derived.Test.YtaafkokfdgfabaaGreatProg
import Derived.Test.YtaafkokfdgfabaaGreatP1
import Derived.Test.YtaafkokfdgfabaaGreatP2
import Derived.Test.YtaafkokfdgfabaaGreatP5
import Derived.Test.YtaafkokfdgfabaaGreatP7
import Derived.WalkKit
import Derived.Outline
import Derived.Deep.QuietTactic
import Derived.BigQuiet
import Derived.IntWalk
import Derived.Deep.RegionHeld3
import Derived.StillTailTactics
set_option maxHeartbeats 8000000
namespace Go.Proofs.YtaafkokfdgfabaaGreat
open Go.RowKit
set_option linter.unusedVariables false
def GH (A:Option Addr) (n c:Nat) (at_ fa fe:Nat):Array Value:=#[.slice A n c,.int .i64 (at_:Int),.int .i64 (fa:Int),.int .i64 (fe:Int)]
def Rd (w:World) (g:Nat) (A:Option Addr) (n c:Nat) (at_ fa fe:Nat):Prop:=ah w g 195 (GH A n c at_ fa fe)
section
variable {w w':World} {g:Nat} {A:Option Addr} {n c at_ fa fe:Nat}
theorem Rd.c0 (h:Rd w g A n c at_ fa fe):w.cell? ⟨g,0,none⟩=some (.slice A n c):=ah.cell h 0
theorem Rd.c1 (h:Rd w g A n c at_ fa fe):w.cell? ⟨g,1,none⟩=some (.int .i64 (at_:Int)):=ah.cell h 1
theorem Rd.c2 (h:Rd w g A n c at_ fa fe):w.cell? ⟨g,2,none⟩=some (.int .i64 (fa:Int)):=ah.cell h 2
theorem Rd.c3 (h:Rd w g A n c at_ fa fe):w.cell? ⟨g,3,none⟩=some (.int .i64 (fe:Int)):=ah.cell h 3
theorem Rd.fr (h:Rd w g A n c at_ fa fe) (i:Nat):w.frozen? ⟨g,i,none⟩=false:=ah.frozen h i
end
theorem wh (g:Nat) (A:Option Addr) (n c at_ fa fe:Nat) (w:World) (h:Rd w g A n c at_ fa fe) (hn:n≤1000000000) (ha:at_≤n) :
  Calls Tryz.prog 92 #[.pointer (some ⟨g,0,none⟩)] w fun e w'=>e=.returned (.int .i64 ((n:Int) - (at_:Int)))∧∃ m,w'=w.drewN m:=by
 have h0:=h.c0;have h1:=h.c1;have h2:=h.c2;have h3:=h.c3;go_enter Tryz.func92,Tryz.ntmps92
 have hw:IntKind.i64.wrap ((n:Int) - (at_:Int))=(n:Int) - (at_:Int):=IntWalk.i64_in _ (by omega)
 go_wp2
 go_quiet (fail)
 go_wp2
 go_ret
 refine ⟨by first | rfl | (simp only [hw];rfl),_,rfl⟩
theorem ec (g:Nat) (A:Option Addr) (n c at_ fa fe:Nat) (w:World) (h:Rd w g A n c at_ fa fe) :
  Calls Tryz.prog 93 #[.pointer (some ⟨g,0,none⟩)] w fun e w'=>e=.returned (.agg #[.int .i64 (fa:Int),.int .i64 (fe:Int)])∧Below w.heap.size w w':=by
 have h0:=h.c0;have h1:=h.c1;have h2:=h.c2;have h3:=h.c3;go_enter Tryz.func93,Tryz.ntmps93
 have m2:∀ o,(w.alloc o).cell? ⟨g,2,none⟩=some (.int .i64 (fa:Int)):=fun o=>(World.cell?_alloc_lt w o _ (World.block_lt_of_cell? w _ h2)).trans h2
 have m3:∀ o,(w.alloc o).cell? ⟨g,3,none⟩=some (.int .i64 (fe:Int)):=fun o=>(World.cell?_alloc_lt w o _ (World.block_lt_of_cell? w _ h3)).trans h3
 go_wp2
 refine bodyPost_ret (v:=.agg #[.int .i64 (fa:Int),.int .i64 (fe:Int)]) (results_cell_row (P:=Tryz.prog) rfl _ _ w.heap.size _ _ _ _ rfl (heap_alloc_new w _) Tryz.underlying143 rfl (by kernel_rfl)) rfl ⟨rfl,(Below.refl _ _).alloc (Nat.le_refl _) _⟩
end Go.Proofs.YtaafkokfdgfabaaGreat
namespace Go.Proofs.YtaafkokfdgfabaaGreat
open Go.RowKit
set_option linter.unusedVariables false
def BL (w:World) (base g:Nat) (l:List UInt8) (at_ fa fe:Nat):Prop :=
 ∃ (A:Option Addr) (c:Nat),Rd w g A l.length c at_ fa fe∧w.ownsRow base 5 1 (.slice A l.length c) l.length (ab l)∧(∀ k,(Value.slice A l.length c).ownBlock=some k→k≠g)∧l.length≤c
theorem aV (w:World) (p:Addr) (u:Value):w.grownBy (w.setCell p u) (some p.block) :=
 ⟨rfl,rfl,rfl,by simp [World.setCell],fun k _ hne=>Below.heap_setCell _ _ _ _ (fun e=>hne (by rw [e]))⟩
theorem am {a b c:World} {row:Option Nat} (h:a.grownBy b row) (k:b.grownBy c row):a.grownBy c row :=
 ⟨k.os.trans h.os,k.tape.trans h.tape,k.output.trans h.output,Nat.le_trans h.size k.size,fun i hi hne=>(k.block i (Nat.lt_of_lt_of_le hi h.size) hne).trans (h.block i hi hne)⟩
theorem bj {w w':World} {row:Option Nat} (h:Below w.heap.size w w'):w.grownBy w' row:=⟨h.os,h.tape,h.output,h.size,fun k hk _=>h.block k hk⟩
theorem mj (w:World) (row:Option Nat):w.grownBy w.drew row:=⟨rfl,rfl,rfl,Nat.le_refl _,fun _ _ _=>rfl⟩
theorem eO (w:World) (n:Nat) (row:Option Nat):w.grownBy (w.drewN n) row:=⟨rfl,rfl,rfl,Nat.le_refl _,fun _ _ _=>rfl⟩
theorem BL.turn {w w':World} {base g:Nat} {l:List UInt8} {A:Option Addr} {c a2 f2 e2:Nat} (hr:Rd w' g A l.length c a2 f2 e2) (hown:w.ownsRow base 5 1 (.slice A l.length c) l.length (ab l)) (hne:∀ k,(Value.slice A l.length c).ownBlock=some k→k≠g) (hc:l.length≤c) (hg:w.grownBy w' (some g)):BL w' base g l a2 f2 e2 :=
 ⟨A,c,hr,hown.kept hg (.inr (fun e=>hne g e rfl)),hne,hc⟩
theorem BL.below {w w':World} {base g:Nat} {l:List UInt8} {at_ fa fe:Nat} (h:BL w base g l at_ fa fe) (hb:Below w.heap.size w w'):BL w' base g l at_ fa fe:=by
 obtain ⟨A,c,hr,hown,hne,hc⟩:=h;exact ⟨A,c,ah.below hr hb (ah.lt hr),ay hown hb,hne,hc⟩
theorem wo (base g:Nat) (l:List UInt8) (at_ fa fe e:Nat) (w:World) (h:BL w base g l at_ fa fe) :
  Calls Tryz.prog 148 #[.pointer (some ⟨g,0,none⟩),.int .i64 (e:Int)] w fun x w'=>x=.returned (.tuple #[])∧BL w' base g l at_ (if fe=0 then at_ else fa) (if fe=0 then e else fe)∧w.grownBy w' (some g):=by
 obtain ⟨A,c,hr,hown,hne,hcap⟩:=h;have h0:=hr.c0;have h1:=hr.c1;have h2:=hr.c2;have h3:=hr.c3;have f2:=hr.fr 2;have f3:=hr.fr 3;by_cases hfe:fe=0
 ·subst hfe
  have Hr:=Lib.hid hr;have Hown:=Lib.hid hown;clear hr hown;go_enter Tryz.func148,Tryz.ntmps148
  go_wp2
  go_end0
  have hg:=am (aV w ⟨g,2,none⟩ (.int .i64 (at_:Int))) (aV _ ⟨g,3,none⟩ (.int .i64 (e:Int)));exact ⟨rfl,BL.turn (ah.set_ (ah.set_ Hr.out 2 (.int .i64 (at_:Int))) 3 (.int .i64 (e:Int))) Hown.out hne hcap hg,hg⟩
 ·have hfI:((fe:Int) == 0)=false:=by simp;omega
  have hfI2:¬ (fe:Int)=0:=by omega
  rw [if_neg hfe,if_neg hfe];have Hr:=Lib.hid hr;have Hown:=Lib.hid hown;clear hr hown;go_enter Tryz.func148,Tryz.ntmps148
  go_wp2
  go_end0
  exact ⟨rfl,⟨A,c,Hr.out,Hown.out,hne,hcap⟩,.refl _ _⟩
end Go.Proofs.YtaafkokfdgfabaaGreat
namespace Go.Proofs.YtaafkokfdgfabaaGreat
open Go.RowKit
abbrev St:Type:=Nat × Nat × Nat
def gO (s:St) (e:Nat):St:=if s.2.2=0 then (s.1,s.1,e) else s
def eC (l:List UInt8) (s:St) (skip n:Nat):St × List UInt8 :=
 if s.2.2≠0 then (s,[]) else if l.length<s.1 + skip + n then (gO s 2,[]) else ((s.1 + skip + n,s.2.1,s.2.2),(l.drop (s.1 + skip)).take n)
def dq (l:List UInt8) (s:St):St × Nat × Nat :=
 if s.2.2≠0 then (s,0,0) else if (bX (l.drop s.1)).2.2≠0 then (gO s (bX (l.drop s.1)).2.2,0,0) else (s,(bX (l.drop s.1)).1,(bX (l.drop s.1)).2.1)
def ix (b:List UInt8) (big:Bool):Nat:=if big then oP b else oO b
def a8 (l:List UInt8) (s:St) (n:Int):St × List UInt8:=if n<0 then (gO s 1,[]) else eC l s 0 n.toNat
def aJ (l:List UInt8) (s:St) (n:Int) (big:Bool):St × Nat:=if n<1∨8<n then (gO s 1,0) else ((eC l s 0 n.toNat).1,ix (eC l s 0 n.toNat).2 big)
def fJ (l:List UInt8) (s:St):St × Nat:=(((dq l s).1.1 + (dq l s).2.2,(dq l s).1.2),(dq l s).2.1)
def bO (l:List UInt8) (s:St) (m:Int):St × List UInt8 :=
 if m<0∨m<((dq l s).2.1:Int) then (gO (dq l s).1 4,[]) else eC l (dq l s).1 (dq l s).2.2 (dq l s).2.1
def iZ (l:List UInt8) (s:St):St:=if s.1<l.length then gO s 3 else s
def bY (l:List UInt8) (s:St):Prop:=s.1≤l.length∧s.2.1≤l.length∧s.2.2≤4
section
variable {l:List UInt8} {s:St}
theorem zL (s:St) (e:Nat):(gO s e).1=s.1:=by unfold gO;split <;> rfl
theorem ml (h:bY l s) {e:Nat} (he:e≤4):bY l (gO s e):=by
 obtain ⟨h1,h2,h3⟩:=h;unfold gO bY;split <;> simp_all
theorem wv (h:bY l s) (k n:Nat):bY l (eC l s k n).1:=by
 have h':=h;obtain ⟨h1,h2,h3⟩:=h;unfold eC;split
 ·exact h'
 ·split
  ·exact ml h' (by omega)
  ·refine ⟨by simp only;omega,h2,h3⟩
theorem D4 {l:List UInt8} (h:(bX l).2.2=0):(bX l).2.1≤l.length∧(bX l).1<18446744073709551616:=by
 rcases hv:bX l with ⟨a,b,e⟩
 rw [hv] at h;simp only at h;subst h;have:=jj hv;exact ⟨this.2.2.1,this.1⟩
theorem Fk (l:List UInt8):(bX l).2.2≤3:=by
 rcases hv:bX l with ⟨a,b,e⟩
 by_cases h:e=0
 ·subst h
  exact Nat.zero_le _
 ·have:=(p9 hv h).2.2
  show e≤3
  omega
theorem nM (h:bY l s):bY l (dq l s).1∧(dq l s).1.1=s.1∧s.1 + (dq l s).2.2≤l.length∧(dq l s).2.1<18446744073709551616:=by
 have h':=h;obtain ⟨h1,h2,h3⟩:=h;unfold dq;split
 ·exact ⟨h',rfl,by simp only;omega,by simp⟩
 ·split
  ·exact ⟨ml h' (by have:=Fk (l.drop s.1);omega),zL _ _,by simp only;omega,by simp⟩
  ·rename_i h5
   have:=D4 (l:=l.drop s.1) (by omega);rw [List.length_drop] at this;exact ⟨h',rfl,by simp only;omega,this.2⟩
theorem dt (h:bY l s) (n:Int):bY l (a8 l s n).1:=by
 unfold a8;split
 ·exact ml h (by omega)
 ·exact wv h _ _
theorem bQ (h:bY l s) (n:Int) (big:Bool):bY l (aJ l s n big).1:=by
 unfold aJ;split
 ·exact ml h (by omega)
 ·exact wv h _ _
theorem kT (h:bY l s):bY l (fJ l s).1:=by
 obtain ⟨⟨_,h2,h3⟩,h4,h5,_⟩:=nM h;exact ⟨by simp only [fJ];omega,h2,h3⟩
theorem ft (h:bY l s) (m:Int):bY l (bO l s m).1:=by
 unfold bO;split
 ·exact ml (nM h).1 (by omega)
 ·exact wv (nM h).1 _ _
theorem ww (h:bY l s):bY l (iZ l s):=by
 unfold iZ;split
 ·exact ml h (by omega)
 ·exact h
theorem D5 {b:List UInt8} (h:b.length≤8):oP b<18446744073709551616:=by
 have h1:=BV b;have h2:256 ^ b.length≤256 ^ 8:=Nat.pow_le_pow_right (by omega) h;omega
theorem iI (l:List UInt8) (s:St) (k n:Nat):(eC l s k n).2.length≤n:=by
 unfold eC;split
 ·simp
 ·split
  ·simp
  ·simp only [List.length_take];omega
end
end Go.Proofs.YtaafkokfdgfabaaGreat
namespace Go.Proofs.YtaafkokfdgfabaaGreat
open Go.RowKit
set_option linter.unusedVariables false
theorem D6 {w:World} {base g:Nat} {e t:TypeId} {n:Nat} {v:Value} {xs:List Value} {cs:Array Value} (h:w.ownsRow base e 1 v n xs) (hb:ah w g t cs) (hne:t≠e):∀ k,v.ownBlock=some k→k≠g:=by
 intro k hk e1;subst e1;rcases h.2 with ⟨rfl,_⟩ | ⟨g',cap,cur,rfl,_,hh,_⟩
 ·cases hk
 ·have:g'=k:=by simpa [Value.ownBlock] using hk
  subst this;have hb':w.heap[g']?=some (.cells cs t):=hb;rw [hh] at hb';injection hb' with hb'
  injection hb' with _ ht
  exact hne ht.symm
def ey (w:World) (base g:Nat) (l:List UInt8) (s:St):Prop:=BL w base g l s.1 s.2.1 s.2.2
theorem ey.below {w w':World} {base g:Nat} {l:List UInt8} {s:St} (h:ey w base g l s) (hb:Below w.heap.size w w'):ey w' base g l s:=BL.below h hb
theorem mm (A:Option Addr) (n c:Nat) (l:List UInt8) (w:World) (hn:n=l.length) (hb:BS w w.heap.size A l) (hl:n≤1000000000) :
  Calls Tryz.prog 88 #[.slice A n c] w fun e w'=>∃ g,e=.returned (.pointer (some ⟨g,0,none⟩))∧w.heap.size≤g∧g<w'.heap.size∧ey w' w.heap.size g l (0,0,0)∧Below w.heap.size w w':=by
 subst hn;have HB:=Lib.hid hb;clear hb;go_enter Tryz.func88,Tryz.ntmps88
 go_wp2_with fail
 refine (oV _ _ _ l _ rfl HB.out (by omega)).mono ?_;rintro e w1 ⟨A',c',rfl,hown,hb1⟩;have Hown:=Lib.hid hown;clear hown
 go_wp2
 go_ret
 have hw2:Below w1.heap.size w1 (w1.alloc (.cells #[.slice A' l.length c',.int .i64 0,.int .i64 0,.int .i64 0] 195)):=(Below.refl _ w1).alloc (Nat.le_refl _) _;have hbl:Rd (w1.alloc (.cells #[.slice A' l.length c',.int .i64 0,.int .i64 0,.int .i64 0] 195)) w1.heap.size A' l.length c' 0 0 0:=ah.new _ _ _ _ rfl;have ho:=ay Hown.out hw2;obtain ⟨_,_,e3,h3,_⟩:=cE Hown.out;injection e3 with _ _ e4
 exact ⟨_,rfl,hb1.size,by simp,⟨A',c',hbl,ho,D6 ho hbl (by decide),by omega⟩,hb1.trans (hw2.mono hb1.size)⟩
theorem gP (base g:Nat) (l:List UInt8) (s:St) (e:Nat) (w:World) (h:ey w base g l s) :
  Calls Tryz.prog 148 #[.pointer (some ⟨g,0,none⟩),.int .i64 (e:Int)] w fun x w'=>x=.returned (.tuple #[])∧ey w' base g l (gO s e)∧w.grownBy w' (some g) :=
 (wo base g l s.1 s.2.1 s.2.2 e w h).mono fun x w' ⟨h1,h2,h3⟩=>⟨h1,by
  unfold ey gO;by_cases hs:s.2.2=0
  ·rw [if_pos hs] at h2 ⊢
   rw [if_pos hs] at h2;exact h2
  ·rw [if_neg hs] at h2 ⊢
   rw [if_neg hs] at h2;exact h2,h3⟩
end Go.Proofs.YtaafkokfdgfabaaGreat
namespace Go.Proofs.YtaafkokfdgfabaaGreat
open Go.RowKit
set_option linter.unusedVariables false
section
variable {w w':World} {g k:Nat} {t:TypeId} {cs:Array Value}
theorem ah.grown (h:ah w g t cs) {row:Option Nat} (hg:w.grownBy w' row) (hne:some g≠row):ah w' g t cs:=(hg.block g h.lt hne).trans h
theorem ah.ne {t':TypeId} {cs':Array Value} (h:ah w g t cs) (h':ah w k t' cs') (ht:t≠t'):g≠k:=fun e=>by
 subst e;unfold ah at h h';rw [h] at h';injection h' with h'
 injection h' with _ ht'
 exact ht ht'
theorem aK {base:Nat} {e:TypeId} {size n:Nat} {v:Value} {xs:List Value} (h:w.ownsRow base e size v n xs) (hb:ah w k t cs) (ht:t≠e):v.ownBlock=none∨v.ownBlock≠some k:=by
 rcases h.2 with ⟨rfl,_⟩ | ⟨g',cap,cur,rfl,_,hh,_⟩
 ·exact .inl rfl
 ·right
  intro e1;have:g'=k:=by simpa [Value.ownBlock] using e1
  subst this;have hb':w.heap[g']?=some (.cells cs t):=hb;rw [hh] at hb';injection hb' with hb'
  injection hb' with _ ht'
  exact ht ht'.symm
theorem ey.off {base:Nat} {l:List UInt8} {s:St} (h:ey w base g l s) (hg:w.grownBy w' (some k)) (hb:ah w k t cs) (h1:t≠195) (h2:t≠5):ey w' base g l s:=by
 obtain ⟨A,c,hr,hown,hne,hc⟩:=h;exact ⟨A,c,ah.grown hr hg (fun e=>by injection e with e;exact (ah.ne hb hr h1) e.symm),hown.kept hg (aK hown hb h2),hne,hc⟩
theorem ey.lt {base:Nat} {l:List UInt8} {s:St} (h:ey w base g l s):g<w.heap.size:=by
 obtain ⟨A,c,hr,_⟩:=h;exact ah.lt hr
end
end Go.Proofs.YtaafkokfdgfabaaGreat
namespace Go.Proofs.YtaafkokfdgfabaaGreat
open Go.RowKit
set_option linter.unusedVariables false
theorem kv (base g:Nat) (l:List UInt8) (s:St) (w:World) (h:ey w base g l s) (hs:bY l s) (hl:l.length≤1000000000) :
  Calls Tryz.prog 92 #[.pointer (some ⟨g,0,none⟩)] w fun e w'=>e=.returned (.int .i64 ((l.length:Int) - (s.1:Int)))∧∃ m,w'=w.drewN m:=by
 obtain ⟨A,c,hr,_⟩:=h;exact wh g A l.length c s.1 s.2.1 s.2.2 w hr hl hs.1
theorem iR {B:Nat} {w:World} (n:Nat):Below B w (w.drewN n):=⟨rfl,rfl,rfl,Nat.le_refl _,fun _ _=>rfl⟩
theorem ey.drewN {w:World} {base g:Nat} {l:List UInt8} {s:St} (h:ey w base g l s) (m:Nat):ey (w.drewN m) base g l s:=h.below (iR m)
theorem ey.drew {w:World} {base g:Nat} {l:List UInt8} {s:St} (h:ey w base g l s):ey w.drew base g l s:=h.below ((Below.refl _ w).drew)
theorem gI {w:World} {base:Nat} {e:TypeId} {size n m c:Nat} {A:Option Addr} {xs:List Value} (h:w.ownsRow base e size (.slice A n c) m xs):n≤c:=by
 obtain ⟨_,_,e3,h3,_⟩:=cE h;injection e3 with _ e2 e4
 omega
def yE (w:World) (base g:Nat) (l:List UInt8) (r:St × List UInt8) (x:Ending) (w':World):Prop :=
 ∃ A c,x=.returned (.slice A r.2.length c)∧w'.ownsRow w.heap.size 5 1 (.slice A r.2.length c) r.2.length (ab r.2)∧ey w' base g l r.1∧w.grownBy w' (some g)
theorem lM {w w':World} {base g:Nat} {l:List UInt8} {s:St} (h:ey w' base g l s) (hg:w.grownBy w' (some g)):yE w base g l (s,[]) (.returned (.slice none 0 0)) w' :=
 ⟨none,0,rfl,World.ownsRow_nil _ _ _ _,h,hg⟩
theorem zM {l:List UInt8} {s:St} {k n:Nat} (h:¬ s.2.2=0):eC l s k n=(s,[]):=if_pos h
theorem zN {l:List UInt8} {s:St} {k n:Nat} (h:s.2.2=0) (h2:l.length<s.1 + k + n):eC l s k n=(gO s 2,[]):=by
 unfold eC;rw [if_neg (by omega),if_pos h2]
theorem Fm {l:List UInt8} {s:St} {k n:Nat} (h:s.2.2=0) (h2:s.1 + k + n≤l.length):eC l s k n=((s.1 + k + n,s.2.1,s.2.2),(l.drop (s.1 + k)).take n):=by
 unfold eC;rw [if_neg (by omega),if_neg (by omega)]
set_option maxRecDepth 100000 in
theorem oW (base g:Nat) (l:List UInt8) (s:St) (k n:Nat) (w:World) (h:ey w base g l s) (hs:bY l s) (hk:s.1 + k≤l.length) (hl:l.length≤1000000000) (hn:n<9223372036854775808) :
  Calls Tryz.prog 149 #[.pointer (some ⟨g,0,none⟩),.int .i64 (k:Int),.int .i64 (n:Int)] w (yE w base g l (eC l s k n)):=by
 obtain ⟨at_,fa,fe⟩:=s;have H:=Lib.hid h;have Hs:=Lib.hid hs;obtain ⟨A,c,hr,hown,hne,hc⟩:=h;have h0:=Rd.c0 hr;have h1:=Rd.c1 hr;have h2:=Rd.c2 hr;have h3:=Rd.c3 hr;have f1:=Rd.fr hr 1;have Hr:=Lib.hid hr;have Hown:=Lib.hid hown;have ha:at_ + k≤l.length:=hk;have Hne:=Lib.hid hne;clear hr hown hs hk hne;by_cases hfe:fe=0
 ·subst hfe
  have hw1:IntKind.i64.wrap ((l.length:Int) - (at_:Int) - (k:Int))=(l.length:Int) - (at_:Int) - (k:Int):=IntWalk.i64_in _ (by omega);by_cases hsh:l.length<at_ + k + n
  ·have hshI:(l.length:Int) - (at_:Int) - (k:Int)<(n:Int):=by omega
   rw [zN (s:=(at_,fa,0)) rfl hsh];go_enter Tryz.func149,Tryz.ntmps149
   go_wp2_with fail
   refine (kv base g l _ w H.out Hs.out hl).mono ?_;rintro e w1 ⟨rfl,m,rfl⟩
   go_wp2_with fail
   refine (gP base g l (at_,fa,0) 2 _ (H.out.drewN m)).mono ?_;rintro e w2 ⟨rfl,hR,hg⟩
   go_wp2
   go_ret
   exact lM hR (am (eO w m _) hg)
  ·have hshI:¬ (l.length:Int) - (at_:Int) - (k:Int)<(n:Int):=by omega
   obtain ⟨bod,hbod⟩:∃ bod,(l.drop (at_ + k)).take n=bod:=⟨_,rfl⟩
   obtain ⟨E,hE⟩:∃ E,at_ + k + n=E:=⟨_,rfl⟩
   rw [show eC l (at_,fa,0) k n=((E,fa,0),bod) by rw [Fm (s:=(at_,fa,0)) rfl (by show at_ + k + n≤_;omega),←hbod,←hE]];have hEl:E≤l.length:=by omega
   have Hbod:=Lib.hid hbod;have HE:=Lib.hid hE;clear hbod hE;have hw2:IntKind.i64.wrap ((at_:Int) + (k:Int))=(at_:Int) + (k:Int):=IntWalk.i64_in _ (by omega);obtain ⟨a,ha2⟩:∃ a,at_ + k=a:=⟨_,rfl⟩
   have ha3:(at_:Int) + (k:Int)=(a:Int):=by omega
   go_enter Tryz.func149,Tryz.ntmps149
   go_wp2_with fail
   refine (kv base g l _ w H.out Hs.out hl).mono ?_;rintro e w1 ⟨rfl,m,rfl⟩
   go_wp2_with fail
   have hE2:(a:Int) + (n:Int)=(E:Int):=by have:=HE.out;omega
   rw [hE2];have hR0:Rd ((w.drewN m).setCell ⟨g,1,none⟩ (.int .i64 (E:Int))) g A l.length c E fa 0:=ah.set_ (ah.drewN Hr.out m) 1 (.int .i64 (E:Int));have hg0:w.grownBy ((w.drewN m).setCell ⟨g,1,none⟩ (.int .i64 (E:Int))) (some g):=am (eO w m _) (aV _ ⟨g,1,none⟩ (.int .i64 (E:Int)));generalize ((w.drewN m).setCell ⟨g,1,none⟩ (.int .i64 (E:Int)))=W at *
   have h0':=Rd.c0 hR0;have h1':=Rd.c1 hR0;have HR0:=Lib.hid hR0;have Hg0:=Lib.hid hg0;have Hown1:=Lib.hid (Hown.out.kept hg0 (.inr (fun e=>Hne.out g e rfl)));have ha4:(0:Int)≤(a:Int):=by omega
   have hE4:(a:Int)≤(E:Int):=by omega
   have hE5:(E:Int)≤(c:Int):=by omega
   clear hR0 hg0;have HL:Hid (E - a=bod.length):=by show _=_;have:=HE.out;rw [←Hbod.out,List.length_take,List.length_drop];omega
   have hbs:BS W.drew W.drew.heap.size (if c=a then A else A.map (·.add a)) bod:=by
    obtain ⟨b1,_⟩:=BS.of_own Hown1.out;rw [←Hbod.out,ha2];exact (b1.drop (k:=a) (cap:=c) hc).take n
   have HbP:Hid (c=a→BS W.drew W.drew.heap.size A bod):=fun e=>by rw [if_pos e] at hbs;exact hbs
   have HbN:Hid (¬ c=a→BS W.drew W.drew.heap.size (A.map (·.add a)) bod):=fun e=>by rw [if_neg e] at hbs;exact hbs
   have Hsz:Hid (w.heap.size≤W.heap.size):=Hg0.out.size;clear hbs hE2 ha2 ha3 hw1 hw2;go_still_tail 10,(by kernel_rfl)
   change wpList _ _ _ _ _ W.drew
   go_wp2_with fail
   all_goals
    refine (oV _ _ _ bod _ HL.out (by first | exact HbP.out (by assumption) | exact HbN.out (by assumption)) (by omega)).mono ?_;rintro e w3 ⟨A3,c3,rfl,hown3,hb3⟩;have Hown3:=Lib.hid hown3;clear hown3
    go_wp2
    go_ret
    have hd:Below W.heap.size W W.drew:=(Below.refl _ W).drew;have h13:Below W.heap.size W w3:=hd.trans hb3;exact ⟨A3,c3,rfl,bV Hown3.out Hsz.out,BL.turn (ah.below HR0.out h13 (ah.lt HR0.out)) Hown1.out Hne.out hc (bj h13),am Hg0.out (bj h13)⟩
 ·rw [zM (s:=(at_,fa,fe)) hfe]
  have hfI:((fe:Int) == 0)=false:=by simp;omega
  have hfI2:((fe:Int) != 0)=true:=by simp;omega
  go_enter Tryz.func149,Tryz.ntmps149
  go_wp2
  go_ret
  exact lM H.out (.refl _ _)
end Go.Proofs.YtaafkokfdgfabaaGreat
namespace Go.Proofs.YtaafkokfdgfabaaGreat
open Go.RowKit
set_option linter.unusedVariables false
theorem pu {P:Program} {f:FuncId} {args:Array Value} {w:World} {n:Nat} {v:Value}
  (h:Calls P f args (w.drewN n) fun e w'=>e=.returned v∧w.drewN n=w'):Calls P f args (w.drewN n) fun e w''=>e=.returned v∧∃ m,w''=w.drewN m :=
 h.mono fun _ _ ⟨he,hm⟩=>⟨he,n,hm.symm⟩
def Fn (w:World) (base g:Nat) (l:List UInt8) (r:St × Nat × Nat) (x:Ending) (w':World):Prop :=
 x=.returned (.tuple #[.int .u64 (r.2.1:Int),.int .i64 (r.2.2:Int)])∧ey w' base g l r.1∧w.grownBy w' (some g)
set_option maxRecDepth 100000 in
theorem kU (base g:Nat) (l:List UInt8) (s:St) (w:World) (h:ey w base g l s) (hs:bY l s) (hl:l.length≤1000000000) :
  Calls Tryz.prog 150 #[.pointer (some ⟨g,0,none⟩)] w (Fn w base g l (dq l s)):=by
 obtain ⟨at_,fa,fe⟩:=s;have H:=Lib.hid h;obtain ⟨A,c,hr,hown,hne,hc⟩:=h;have h0:=Rd.c0 hr;have h1:=Rd.c1 hr;have h2:=Rd.c2 hr;have h3:=Rd.c3 hr;have Hown:=Lib.hid hown;have ha:at_≤l.length:=hs.1;clear hr hown hs hne;by_cases hfe:fe=0
 ·subst hfe
  rcases hv:bX (l.drop at_) with ⟨n,k,e⟩
  have Hv:=Lib.hid hv;have HL:Hid (l.length - at_=(l.drop at_).length):=by show _=_;rw [List.length_drop]
  have hbs:BS w w.heap.size (if c=at_ then A else A.map (·.add at_)) (l.drop at_):=(BS.of_own Hown.out).1.drop hc;have HbP:Hid (c=at_→BS w w.heap.size A (l.drop at_)):=fun e=>by rw [if_pos e] at hbs;exact hbs
  have HbN:Hid (¬ c=at_→BS w w.heap.size (A.map (·.add at_)) (l.drop at_)):=fun e=>by rw [if_neg e] at hbs;exact hbs
  have Hm:Hid (l.length - at_≤maxLen):=by show _≤maxLen;unfold maxLen;omega
  have ha0:(0:Int)≤(at_:Int):=by omega
  have ha1:(at_:Int)≤(l.length:Int):=by omega
  clear hbs hv;by_cases he:e=0
  ·subst he
   have hx:dq l (at_,fa,0)=((at_,fa,0),n,k):=by unfold dq;rw [if_neg (by simp)];simp only;rw [Hv.out,if_neg (by simp)]
   rw [hx];clear hx;by_cases hca:c=at_
   all_goals
    go_enter Tryz.func150,Tryz.ntmps150
    go_wp2
    go_quiet ((go_at_call 84;exact pu (oU _ _ _ (l.drop at_) _ _ HL.out (BS.drewN (by first | exact HbP.out (by assumption) | exact HbN.out (by assumption)) _) Hm.out Hv.out)))
    go_wp2
    go_ret2
    exact ⟨rfl,H.out.drewN _,eO _ _ _⟩
  ·have he':(e:Int)≠0:=by omega
   have hbad:=p9 Hv.out he;obtain ⟨rfl,rfl,he2⟩:=hbad;have hx:dq l (at_,fa,0)=(gO (at_,fa,0) e,0,0):=by unfold dq;rw [if_neg (by simp)];simp only;rw [Hv.out,if_pos he]
   rw [hx];clear hx;by_cases hca:c=at_
   all_goals
    go_enter Tryz.func150,Tryz.ntmps150
    go_wp2
    go_quiet ((go_at_call 84;exact pu (oU _ _ _ (l.drop at_) _ _ HL.out (BS.drewN (by first | exact HbP.out (by assumption) | exact HbN.out (by assumption)) _) Hm.out Hv.out)))
    go_wp2_with fail
    refine (gP base g l (at_,fa,0) e _ (H.out.drewN _)).mono ?_;rintro x w2 ⟨rfl,hR,hg⟩
    go_wp2
    go_ret2
    exact ⟨rfl,hR,am (eO _ _ _) hg⟩
 ·have hx:dq l (at_,fa,fe)=((at_,fa,fe),0,0):=if_pos hfe
  rw [hx];clear hx;have hfI:((fe:Int) == 0)=false:=by simp;omega
  have hfI2:((fe:Int) != 0)=true:=by simp;omega
  go_enter Tryz.func150,Tryz.ntmps150
  go_wp2
  go_ret2
  exact ⟨rfl,H.out,.refl _ _⟩
end Go.Proofs.YtaafkokfdgfabaaGreat
namespace Go.Proofs.YtaafkokfdgfabaaGreat
open Go.RowKit
set_option linter.unusedVariables false
theorem wA (big:Bool) (A:Option Addr) (n c:Nat) (l:List UInt8) (w:World) (hn:n=l.length) (hb:BS w w.heap.size A l) (hl:n≤8) (hc:n≤c) :
  Calls Tryz.prog 85 #[.slice A n c,.bool big] w fun e w'=>e=.returned (.int .u64 (ix l big:Int))∧Below w.heap.size w w':=by
 rcases big with _ | _
 ·exact nK A n c l w hn hb hl hc
 ·exact nL A n c l w hn hb hl hc
def EZ (w:World) (base g:Nat) (l:List UInt8) (r:St × Nat) (x:Ending) (w':World):Prop :=
 x=.returned (.int .u64 (r.2:Int))∧ey w' base g l r.1∧w.grownBy w' (some g)
section
variable (base g:Nat) (l:List UInt8) (s:St) (w:World)
set_option maxRecDepth 100000 in
theorem dW (n:Int) (h:ey w base g l s) (hs:bY l s) (hl:l.length≤1000000000) (hn:n<9223372036854775808) :
  Calls Tryz.prog 89 #[.pointer (some ⟨g,0,none⟩),.int .i64 n] w (yE w base g l (a8 l s n)):=by
 have H:=Lib.hid h;have Hs:=Lib.hid hs;clear h hs;by_cases h0:n<0
 ·rw [show a8 l s n=(gO s 1,[]) from if_pos h0]
  go_enter Tryz.func89,Tryz.ntmps89
  go_wp2_with fail
  refine (gP base g l s 1 _ H.out).mono ?_;rintro x w2 ⟨rfl,hR,hg⟩
  go_wp2
  go_ret
  exact lM hR hg
 ·obtain ⟨k,rfl⟩:∃ k:Nat,n=(k:Int):=⟨n.toNat,by omega⟩
  rw [show a8 l s (k:Int)=eC l s 0 k by unfold a8;rw [if_neg h0];rfl];go_enter Tryz.func89,Tryz.ntmps89
  go_wp2_with fail
  refine (oW base g l s 0 k _ H.out Hs.out Hs.out.1 hl (by omega)).mono ?_;rintro x w2 ⟨A,c,rfl,hown,hR,hg⟩;have Hown:=Lib.hid hown;clear hown
  go_wp2
  go_ret
  exact ⟨A,c,rfl,Hown.out,hR,hg⟩
set_option maxRecDepth 100000 in
theorem cF (n:Int) (big:Bool) (h:ey w base g l s) (hs:bY l s) (hl:l.length≤1000000000) :
  Calls Tryz.prog 103 #[.pointer (some ⟨g,0,none⟩),.int .i64 n,.bool big] w (EZ w base g l (aJ l s n big)):=by
 have H:=Lib.hid h;have Hs:=Lib.hid hs;clear h hs;by_cases h1:n<1
 ·rw [show aJ l s n big=(gO s 1,0) from if_pos (.inl h1)]
  go_enter Tryz.func103,Tryz.ntmps103
  go_wp2_with fail
  refine (gP base g l s 1 _ H.out).mono ?_;rintro x w2 ⟨rfl,hR,hg⟩
  go_wp2
  go_ret
  exact ⟨rfl,hR,hg⟩
 ·by_cases h2:8<n
  ·rw [show aJ l s n big=(gO s 1,0) from if_pos (.inr h2)]
   go_enter Tryz.func103,Tryz.ntmps103
   go_wp2_with fail
   refine (gP base g l s 1 _ H.out).mono ?_;rintro x w2 ⟨rfl,hR,hg⟩
   go_wp2
   go_ret
   exact ⟨rfl,hR,hg⟩
  ·obtain ⟨k,rfl⟩:∃ k:Nat,n=(k:Int):=⟨n.toNat,by omega⟩
   rw [show aJ l s (k:Int) big=((eC l s 0 k).1,ix (eC l s 0 k).2 big) by unfold aJ;rw [if_neg (by omega)];rfl];have hlen:=iI l s 0 k;obtain ⟨r,hr⟩:∃ r,eC l s 0 k=r:=⟨_,rfl⟩
   rw [hr] at hlen ⊢;have Hr:=Lib.hid hr;clear hr;go_enter Tryz.func103,Tryz.ntmps103
   go_wp2_with fail
   refine (oW base g l s 0 k _ H.out Hs.out Hs.out.1 hl (by omega)).mono ?_;rw [Hr.out];rintro x w2 ⟨A,c,rfl,hown,hR,hg⟩;have Hb:=Lib.hid (BS.of_own hown).1;have h3:=gI hown;clear hown
   go_wp2_with fail
   refine (wA big _ _ _ r.2 _ rfl Hb.out (by omega) (by omega)).mono ?_;rintro x w3 ⟨rfl,hb⟩
   go_wp2
   go_ret
   exact ⟨rfl,hR.below hb,am hg (bj hb)⟩
set_option maxRecDepth 100000 in
theorem jk (h:ey w base g l s) (hs:bY l s) (hl:l.length≤1000000000) :
  Calls Tryz.prog 90 #[.pointer (some ⟨g,0,none⟩)] w (EZ w base g l (fJ l s)):=by
 have H:=Lib.hid h;have Hs:=Lib.hid hs;have hok:=nM hs;unfold fJ;rcases hp:dq l s with ⟨⟨at_,fa,fe⟩,n,k⟩
 rw [hp] at hok;have Hp:=Lib.hid hp;have hk:at_ + k≤l.length:=by have:=hok.2.1;have:=hok.2.2.1;simp only at *;omega
 clear h hs hok hp;go_enter Tryz.func90,Tryz.ntmps90
 go_wp2_with fail
 refine (kU base g l s _ H.out Hs.out hl).mono ?_;rw [Hp.out];rintro x w2 ⟨rfl,hR,hg⟩;obtain ⟨A,c,hr,hown,hne,hc⟩:=hR;have h0:=Rd.c0 hr;have h1:=Rd.c1 hr;have h2:=Rd.c2 hr;have h3:=Rd.c3 hr;have f1:=Rd.fr hr 1;have Hr:=Lib.hid hr;have Hown:=Lib.hid hown;have Hne:=Lib.hid hne;have hw:IntKind.i64.wrap ((at_:Int) + (k:Int))=(at_:Int) + (k:Int):=IntWalk.i64_in _ (by omega);clear hr hown hne
 go_wp2
 go_ret
 have hgs:=aV w2 ⟨g,1,none⟩ (.int .i64 ((at_:Int) + (k:Int)));exact ⟨rfl,BL.turn (ah.set_ Hr.out 1 (.int .i64 ((at_:Int) + (k:Int)))) Hown.out Hne.out hc hgs,am hg hgs⟩
set_option maxRecDepth 100000 in
theorem oX (h:ey w base g l s) (hs:bY l s) (hl:l.length≤1000000000) :
  Calls Tryz.prog 101 #[.pointer (some ⟨g,0,none⟩)] w fun x w'=>x=.returned (.tuple #[])∧ey w' base g l (iZ l s)∧w.grownBy w' (some g):=by
 have H:=Lib.hid h;have Hs:=Lib.hid hs;have ha:=hs.1;clear h hs;by_cases h1:s.1<l.length
 ·rw [show iZ l s=gO s 3 from if_pos h1]
  have hI:(0:Int)<(l.length:Int) - (s.1:Int):=by omega
  go_enter Tryz.func101,Tryz.ntmps101
  go_wp2_with fail
  refine (kv base g l s w H.out Hs.out hl).mono ?_;rintro e w1 ⟨rfl,m,rfl⟩
  go_wp2_with fail
  refine (gP base g l s 3 _ (H.out.drewN m)).mono ?_;rintro x w3 ⟨rfl,hR3,hg3⟩
  go_wp2
  go_end0
  exact ⟨rfl,hR3,am (eO w m _) hg3⟩
 ·rw [show iZ l s=s from if_neg h1]
  have hI:¬ (0:Int)<(l.length:Int) - (s.1:Int):=by omega
  go_enter Tryz.func101,Tryz.ntmps101
  go_wp2_with fail
  refine (kv base g l s w H.out Hs.out hl).mono ?_;rintro e w1 ⟨rfl,m,rfl⟩
  go_wp2
  go_end0
  exact ⟨rfl,H.out.drewN m,eO w m _⟩
end
end Go.Proofs.YtaafkokfdgfabaaGreat
namespace Go.Proofs.YtaafkokfdgfabaaGreat
open Go.RowKit
set_option linter.unusedVariables false
abbrev vR:Type:=List UInt8 × Nat
def gK (most:Nat) (s:vR) (b:List UInt8):vR:=if s.2≠0 then s else if most<s.1.length + b.length then (s.1,4) else (s.1 ++ b,0)
def yP (w:World) (base g:Nat) (A:Option Addr) (c most:Nat) (s:vR):Prop :=
 ah w g 212 #[.slice A s.1.length c,.int .i64 (most:Int),.int .i64 (s.2:Int)]∧w.ownsRow base 5 1 (.slice A s.1.length c) s.1.length (ab s.1)∧base≤g
def cG (w w':World) (g:Nat) (r:Option Nat):Prop :=
 w'.os=w.os∧w'.tape=w.tape∧w'.output=w.output∧w.heap.size≤w'.heap.size∧∀ k,k<w.heap.size→k≠g→some k≠r→w'.heap[k]?=w.heap[k]?
theorem cG.refl (w:World) (g:Nat) (r:Option Nat):cG w w g r:=⟨rfl,rfl,rfl,Nat.le_refl _,fun _ _ _ _=>rfl⟩
theorem cG.trans {a b c:World} {g:Nat} {r:Option Nat} (h:cG a b g r) (k:cG b c g r):cG a c g r :=
 ⟨k.1.trans h.1,k.2.1.trans h.2.1,k.2.2.1.trans h.2.2.1,Nat.le_trans h.2.2.2.1 k.2.2.2.1,fun i hi h1 h2=>(k.2.2.2.2 i (Nat.lt_of_lt_of_le hi h.2.2.2.1) h1 h2).trans (h.2.2.2.2 i hi h1 h2)⟩
theorem cG.of_grown {w w':World} {g:Nat} {r:Option Nat} (h:w.grownBy w' r):cG w w' g r:=⟨h.os,h.tape,h.output,h.size,fun k hk _ h2=>h.block k hk h2⟩
theorem cG.of_g {w w':World} {g:Nat} {r:Option Nat} (h:w.grownBy w' (some g)):cG w w' g r:=⟨h.os,h.tape,h.output,h.size,fun k hk h1 _=>h.block k hk (fun e=>by injection e with e;exact h1 e)⟩
theorem cG.of_below {w w':World} {g:Nat} {r:Option Nat} (h:Below w.heap.size w w'):cG w w' g r:=⟨h.os,h.tape,h.output,h.size,fun k hk _ _=>h.block k hk⟩
theorem cG.below {w w':World} {g:Nat} {r:Option Nat} {B:Nat} (h:cG w w' g r) (hg:B≤g) (hr:∀ k,r=some k→B≤k) (hB:B≤w.heap.size):Below B w w' :=
 ⟨h.1,h.2.1,h.2.2.1,h.2.2.2.1,fun k hk=>h.2.2.2.2 k (by omega) (by omega) (fun e=>by have:=hr k e.symm;omega)⟩
theorem cG.own {w w':World} {g:Nat} {r:Option Nat} (h:cG w w' g r) {base:Nat} {e:TypeId} {size n:Nat} {v:Value} {xs:List Value} (ho:w.ownsRow base e size v n xs) (h1:v.ownBlock≠some g) (h2:v.ownBlock=none∨v.ownBlock≠r):w'.ownsRow base e size v n xs:=by
 refine ⟨ho.1,?_⟩;rcases ho.2 with hn | ⟨k,cap,cur,rfl,hb,hgg,rest⟩
 ·exact .inl hn
 ·refine .inr ⟨k,cap,cur,rfl,hb,?_,rest⟩
  have hk:k<w.heap.size:=ah.lt (w:=w) (g:=k) (t:=e) (cs:=cur) hgg;rw [h.2.2.2.2 k hk (fun e=>h1 (by rw [e];rfl)) (fun e=>by
   rcases h2 with h2 | h2
   ·simp [Value.ownBlock] at h2
   ·exact h2 e)]
  exact hgg
theorem cG.blk {w w':World} {g:Nat} {r:Option Nat} (h:cG w w' g r) {k:Nat} {t:TypeId} {cs:Array Value} (hb:ah w k t cs) (h1:k≠g) (h2:some k≠r):ah w' k t cs:=(h.2.2.2.2 k hb.lt h1 h2).trans hb
def gU (w:World) (base g:Nat) (A:Option Addr) (most:Nat) (s:vR) (x:Ending) (w':World):Prop :=
 x=.returned (.tuple #[])∧∃ A' c',yP w' base g A' c' most s∧cG w w' g (Value.slice A 0 0).ownBlock∧((Value.slice A' 0 0).ownBlock=(Value.slice A 0 0).ownBlock∨∃ k,(Value.slice A' 0 0).ownBlock=some k∧w.heap.size≤k)
theorem yP.below {w w':World} {base g:Nat} {A:Option Addr} {c most:Nat} {s:vR} (h:yP w base g A c most s) (hb:Below w.heap.size w w'):yP w' base g A c most s :=
 ⟨ah.below h.1 hb h.1.lt,ay h.2.1 hb,h.2.2⟩
set_option maxRecDepth 100000 in
theorem mP (m:Int) (w:World) (hm:m<9223372036854775808) :
  Calls Tryz.prog 111 #[.int .i64 m] w fun e w'=>e=.returned (.pointer (some ⟨w.heap.size,0,none⟩))∧yP w' w.heap.size w.heap.size none 0 m.toNat ([],0)∧Below w.heap.size w w':=by
 by_cases h0:m<0
 ·have hmx:max m 0=0:=by omega
  have ht:m.toNat=0:=by omega
  rw [ht];go_enter Tryz.func111,Tryz.ntmps111
  go_wp2
  go_ret
  exact ⟨rfl,⟨ah.new w _ _ _ rfl,World.ownsRow_nil _ _ _ _,Nat.le_refl _⟩,(Below.refl _ _).alloc (Nat.le_refl _) _⟩
 ·obtain ⟨k,rfl⟩:∃ k:Nat,m=(k:Int):=⟨m.toNat,by omega⟩
  have hmx:max (k:Int) 0=(k:Int):=by omega
  go_enter Tryz.func111,Tryz.ntmps111
  go_wp2
  go_ret
  exact ⟨rfl,⟨ah.new w _ _ _ rfl,World.ownsRow_nil _ _ _ _,Nat.le_refl _⟩,(Below.refl _ _).alloc (Nat.le_refl _) _⟩
end Go.Proofs.YtaafkokfdgfabaaGreat
namespace Go.Proofs.YtaafkokfdgfabaaGreat
open Go.RowKit
set_option linter.unusedVariables false
section
variable (base g:Nat) (l:List UInt8) (s:St) (w:World)
set_option maxRecDepth 100000 in
theorem jB (m:Int) (h:ey w base g l s) (hs:bY l s) (hl:l.length≤1000000000) (hm:m<9223372036854775808) :
  Calls Tryz.prog 154 #[.pointer (some ⟨g,0,none⟩),.int .i64 m] w (yE w base g l (bO l s m)):=by
 have H:=Lib.hid h;have Hs:=Lib.hid hs;have hok:=nM hs;unfold bO;rcases hp:dq l s with ⟨s1,n,k⟩
 rw [hp] at hok;have Hp:=Lib.hid hp;simp only at hok;obtain ⟨hok1,hok2,hok3,hok4⟩:=hok;have Hok1:=Lib.hid hok1;have Hok2:=Lib.hid hok2;clear h hs hp hok1 hok2 hok4;by_cases h0:m<0
 ·rw [if_pos (.inl h0)]
  go_enter Tryz.func154,Tryz.ntmps154
  go_wp2_with fail
  refine (kU base g l s _ H.out Hs.out hl).mono ?_;rw [Hp.out];rintro x w2 ⟨rfl,hR,hg⟩
  go_wp2_with fail
  refine (gP base g l s1 4 _ hR).mono ?_;rintro x w3 ⟨rfl,hR3,hg3⟩
  go_wp2
  go_ret
  exact lM hR3 (am hg hg3)
 ·obtain ⟨q,rfl⟩:∃ q:Nat,m=(q:Int):=⟨m.toNat,by omega⟩
  have hwq:IntKind.u64.wrap (q:Int)=(q:Int):=jc q (by omega);by_cases h1:(q:Int)<(n:Int)
  ·rw [if_pos (.inr h1)]
   go_enter Tryz.func154,Tryz.ntmps154
   go_wp2_with fail
   refine (kU base g l s _ H.out Hs.out hl).mono ?_;rw [Hp.out];rintro x w2 ⟨rfl,hR,hg⟩
   go_wp2_with fail
   refine (gP base g l s1 4 _ hR).mono ?_;rintro x w3 ⟨rfl,hR3,hg3⟩
   go_wp2
   go_ret
   exact lM hR3 (am hg hg3)
  ·rw [if_neg (by simp only;omega)]
   have hwn:IntKind.i64.wrap (n:Int)=(n:Int):=IntWalk.i64_in _ (by omega);have Hn:Hid (n<9223372036854775808):=by show n<_;omega
   clear hm;go_enter Tryz.func154,Tryz.ntmps154
   go_wp2_with fail
   refine (kU base g l s _ H.out Hs.out hl).mono ?_;rw [Hp.out];rintro x w2 ⟨rfl,hR,hg⟩
   go_wp2_with fail
   refine (oW base g l s1 k n _ hR Hok1.out (by rw [Hok2.out];exact hok3) hl Hn.out).mono ?_;rintro x w3 ⟨A,c,rfl,hown,hR3,hg3⟩;have Hown:=Lib.hid hown;clear hown
   go_wp2
   go_ret
   exact ⟨A,c,rfl,bV Hown.out hg.size,hR3,am hg hg3⟩
end
end Go.Proofs.YtaafkokfdgfabaaGreat
namespace Go.Proofs.YtaafkokfdgfabaaGreat
open Go.RowKit
set_option linter.unusedVariables false
def ep (s:St) (k:Nat):St:=(s.1 + k,s.2.1,s.2.2)
theorem ca (s:St) (a b:Nat):ep (ep s a) b=ep s (a + b):=by simp [ep,Nat.add_assoc]
structure br (l:List UInt8) (s:St) (x:List UInt8) (s':St):Prop where
 ok:s.2.2=0
 to:s'=ep s x.length
 le:s.1 + x.length≤l.length
 eq:l.drop s.1=x ++ l.drop (s.1 + x.length)
section
variable {l:List UInt8} {s s' s'':St} {x y:List UInt8}
theorem br.trans (h:br l s x s') (k:br l s' y s''):br l s (x ++ y) s'':=by
 obtain ⟨h1,rfl,h3,h4⟩:=h;obtain ⟨k1,rfl,k3,k4⟩:=k;simp only [ep] at k3 k4;refine ⟨h1,by rw [ca,List.length_append],by rw [List.length_append];omega,?_⟩;rw [h4,k4,List.length_append,List.append_assoc,Nat.add_assoc]
theorem br.nil (h:s.2.2=0) (hl:s.1≤l.length):br l s [] s:=⟨h,rfl,by simpa using hl,by simp⟩
theorem br.of (h:s.2.2=0) (hl:s.1≤l.length) {r:List UInt8} (e:l.drop s.1=x ++ r):br l s x (ep s x.length):=by
 have hlen:=congrArg List.length e;rw [List.length_drop,List.length_append] at hlen;refine ⟨h,rfl,by omega,?_⟩;rw [e,←List.drop_drop,e,List.drop_left]
theorem br.ok' (h:br l s x s'):s'.2.2=0:=by rw [h.to];exact h.ok
theorem br.le' (h:br l s x s'):s'.1≤l.length:=by rw [h.to];exact h.le
theorem br.at_ (h:br l s x s'):s'.2.1=s.2.1:=by rw [h.to];rfl
theorem br.rest (h:br l s x s') {r:List UInt8} (e:l.drop s.1=x ++ r):l.drop s'.1=r:=by
 have h4:=h.eq;rw [e] at h4;rw [h.to];exact (List.append_cancel_left h4).symm
theorem br.take (h:br l s x s'):x=(l.drop s.1).take x.length:=by rw [h.eq];simp
theorem kA {e:Nat} (he:e≠0):(gO s e).2.2≠0:=by
 unfold gO;split
 ·exact he
 ·assumption
theorem Fa (h:s.2.2=0) (hl:s.1≤l.length) {r:List UInt8} (e:l.drop s.1=x ++ r):eC l s 0 x.length=(ep s x.length,x):=by
 have hlen:=congrArg List.length e;rw [List.length_drop,List.length_append] at hlen;unfold eC;rw [if_neg (by omega),if_neg (by omega),Nat.add_zero,e,List.take_left];rfl
theorem Fb {n:Nat} (h:(eC l s 0 n).1.2.2=0):∃ x,x.length=n∧br l s x (eC l s 0 n).1∧(eC l s 0 n).2=x:=by
 unfold eC at h ⊢;split at h
 ·contradiction
 ·rename_i h0
  split at h
  ·exact absurd h (kA (by decide))
  ·rename_i h1
   rw [if_neg h0,if_neg h1];refine ⟨(l.drop s.1).take n,by rw [List.length_take,List.length_drop];omega,?_,by simp⟩;have hx:((l.drop s.1).take n).length=n:=by rw [List.length_take,List.length_drop];omega
   refine ⟨by omega,by simp [ep,hx],by rw [hx];omega,?_⟩;rw [hx,←List.drop_drop,List.take_append_drop]
theorem i5 (h:s.2.2=0) (hl:s.1≤l.length) {r:List UInt8} {n:Int} (hn:n=(x.length:Int)) (e:l.drop s.1=x ++ r):a8 l s n=(ep s x.length,x):=by
 subst hn;unfold a8;rw [if_neg (by omega)];exact Fa h hl e
theorem iB {n:Int} (hn:0≤n) (h:(a8 l s n).1.2.2=0):∃ x,x.length=n.toNat∧br l s x (a8 l s n).1∧(a8 l s n).2=x:=by
 unfold a8 at h ⊢;rw [if_neg (by omega)] at h ⊢;exact Fb h
theorem jU (h:s.2.2=0) (hl:s.1≤l.length) {r:List UInt8} {n:Int} (hn:n=(x.length:Int)) (h1:1≤x.length) (h8:x.length≤8) (big:Bool) (e:l.drop s.1=x ++ r):aJ l s n big=(ep s x.length,ix x big):=by
 subst hn;unfold aJ;rw [if_neg (by omega),Int.toNat_natCast,Fa h hl e]
theorem jC {n:Int} (h1:1≤n) (h8:n≤8) (big:Bool) (h:(aJ l s n big).1.2.2=0):∃ x,x.length=n.toNat∧br l s x (aJ l s n big).1∧(aJ l s n big).2=ix x big:=by
 unfold aJ at h ⊢;rw [if_neg (by omega)] at h ⊢;obtain ⟨x,hx,he,e⟩:=Fb h;exact ⟨x,hx,he,by rw [e]⟩
theorem rU (h:s.2.2=0) (hl:s.1≤l.length) {r:List UInt8} {m:Nat} (hm:m<18446744073709551616) (e:l.drop s.1=aI m ++ r):fJ l s=(ep s (aI m).length,m):=by
 have hg:bX (l.drop s.1)=(m,(aI m).length,0):=by rw [e];exact mh m hm r
 unfold fJ dq;rw [if_neg (by omega),hg];simp [ep]
theorem qy (h:(fJ l s).1.2.2=0) (hl:s.1≤l.length):(fJ l s).2<18446744073709551616∧br l s (aI (fJ l s).2) (fJ l s).1:=by
 have hp:(dq l s).1.2.2=0:=h;have h0:s.2.2=0:=by
  unfold dq at hp;split at hp
  ·exact hp
  ·omega
 have hv:(bX (l.drop s.1)).2.2=0:=by
  unfold dq at hp;rw [if_neg (by omega)] at hp;split at hp
  ·exact absurd hp (kA (by assumption))
  ·omega
 rcases hg:bX (l.drop s.1) with ⟨m,k,e⟩
 rw [hg] at hv;simp only at hv;subst hv;have hk:=jj hg;have hpe:dq l s=(s,m,k):=by
  unfold dq;rw [if_neg (by omega),hg];simp
 have hvs:fJ l s=(ep s k,m):=by
  unfold fJ;rw [hpe];rfl
 rw [hvs];refine ⟨hk.1,?_⟩;have e:l.drop s.1=aI m ++ (l.drop s.1).drop k:=by rw [hk.2.2.2.2,List.take_append_drop]
 have:=br.of h0 hl e;rw [←hk.2.2.2.1] at this;exact this
theorem wV (h:(iZ l s).2.2=0):s.1≥l.length∧iZ l s=s:=by
 unfold iZ at h ⊢;split at h
 ·exact absurd h (kA (by decide))
 ·rename_i h1
  rw [if_neg h1];exact ⟨by omega,rfl⟩
theorem wW (h:l.length≤s.1):iZ l s=s:=by
 unfold iZ;rw [if_neg (by omega)]
end
theorem cL (c:UInt8):ix [c] true=c.toNat:=by simp [ix,oP]
theorem kB (a b:UInt8):ix [a,b] true=a.toNat * 256 + b.toNat:=by simp [ix,oP]
theorem lc {x:List UInt8} (h:x.length=1):∃ c,x=[c]:=by
 match x,h with
 | [c],_=>exact ⟨c,rfl⟩
theorem yQ {x:List UInt8} (h:x.length=2):∃ a b,x=[a,b]:=by
 match x,h with
 | [a,b],_=>exact ⟨a,b,rfl⟩
end Go.Proofs.YtaafkokfdgfabaaGreat
