import Derived.Test.YtaafkokfdgfabaaGreatProg
import Derived.Test.YtaafkokfdgfabaaGreatP1
import Derived.Test.YtaafkokfdgfabaaGreatP2
import Derived.Test.YtaafkokfdgfabaaGreatP5
import Derived.Test.YtaafkokfdgfabaaGreatP7
import Derived.WalkKit
import Derived.Outline
import Derived.Deep.QuietTactic
import Derived.BigQuiet
import Derived.IntWalk
import Derived.Deep.RegionHeld3
import Derived.StillTailTactics
set_option maxHeartbeats 8000000
namespace Go.Proofs.YtaafkokfdgfabaaGreat
open Go.RowKit
set_option linter.unusedVariables false
def EI (A:Option Addr) (n c:Nat) (at_ fa fe:Nat):Array Value:=#[.slice A n c,.int .i64 (at_:Int),.int .i64 (fa:Int),.int .i64 (fe:Int)]
def Rd (w:World) (g:Nat) (A:Option Addr) (n c:Nat) (at_ fa fe:Nat):Prop:=ah w g 195 (EI A n c at_ fa fe)
section
variable {w w':World} {g:Nat} {A:Option Addr} {n c at_ fa fe:Nat}
theorem Rd.c0 (h:Rd w g A n c at_ fa fe):w.cell? ⟨g,0,none⟩=some (.slice A n c):=ah.cell h 0
theorem Rd.c1 (h:Rd w g A n c at_ fa fe):w.cell? ⟨g,1,none⟩=some (.int .i64 (at_:Int)):=ah.cell h 1
theorem Rd.c2 (h:Rd w g A n c at_ fa fe):w.cell? ⟨g,2,none⟩=some (.int .i64 (fa:Int)):=ah.cell h 2
theorem Rd.c3 (h:Rd w g A n c at_ fa fe):w.cell? ⟨g,3,none⟩=some (.int .i64 (fe:Int)):=ah.cell h 3
theorem Rd.fr (h:Rd w g A n c at_ fa fe) (i:Nat):w.frozen? ⟨g,i,none⟩=false:=ah.frozen h i
end
theorem ux (g:Nat) (A:Option Addr) (n c at_ fa fe:Nat) (w:World) (h:Rd w g A n c at_ fa fe) (hn:n≤1000000000) (ha:at_≤n) :
  Calls Tryz.prog 92 #[.pointer (some ⟨g,0,none⟩)] w fun e w'=>e=.returned (.int .i64 ((n:Int) - (at_:Int)))∧∃ m,w'=w.drewN m:=by
 have h0:=h.c0;have h1:=h.c1;have h2:=h.c2;have h3:=h.c3;go_enter Tryz.func92,Tryz.ntmps92
 have hw:IntKind.i64.wrap ((n:Int) - (at_:Int))=(n:Int) - (at_:Int):=IntWalk.i64_in _ (by omega)
 go_wp2
 go_quiet (fail)
 go_wp2
 go_ret
 refine ⟨by first | rfl | (simp only [hw];rfl),_,rfl⟩
theorem dN (g:Nat) (A:Option Addr) (n c at_ fa fe:Nat) (w:World) (h:Rd w g A n c at_ fa fe) :
  Calls Tryz.prog 93 #[.pointer (some ⟨g,0,none⟩)] w fun e w'=>e=.returned (.agg #[.int .i64 (fa:Int),.int .i64 (fe:Int)])∧Below w.heap.size w w':=by
 have h0:=h.c0;have h1:=h.c1;have h2:=h.c2;have h3:=h.c3;go_enter Tryz.func93,Tryz.ntmps93
 have m2:∀ o,(w.alloc o).cell? ⟨g,2,none⟩=some (.int .i64 (fa:Int)):=fun o=>(World.cell?_alloc_lt w o _ (World.block_lt_of_cell? w _ h2)).trans h2
 have m3:∀ o,(w.alloc o).cell? ⟨g,3,none⟩=some (.int .i64 (fe:Int)):=fun o=>(World.cell?_alloc_lt w o _ (World.block_lt_of_cell? w _ h3)).trans h3
 go_wp2
 refine bodyPost_ret (v:=.agg #[.int .i64 (fa:Int),.int .i64 (fe:Int)]) (results_cell_row (P:=Tryz.prog) rfl _ _ w.heap.size _ _ _ _ rfl (heap_alloc_new w _) Tryz.underlying143 rfl (by kernel_rfl)) rfl ⟨rfl,(Below.refl _ _).alloc (Nat.le_refl _) _⟩
end Go.Proofs.YtaafkokfdgfabaaGreat
namespace Go.Proofs.YtaafkokfdgfabaaGreat
open Go.RowKit
set_option linter.unusedVariables false
def zG (w:World) (base g:Nat) (l:List UInt8) (at_ fa fe:Nat):Prop :=
 ∃ (A:Option Addr) (c:Nat),Rd w g A l.length c at_ fa fe∧w.ownsRow base 5 1 (.slice A l.length c) l.length (ab l)∧(∀ k,(Value.slice A l.length c).ownBlock=some k→k≠g)∧l.length≤c
theorem aT (w:World) (p:Addr) (u:Value):w.grownBy (w.setCell p u) (some p.block) :=
 ⟨rfl,rfl,rfl,by simp [World.setCell],fun k _ hne=>Below.heap_setCell _ _ _ _ (fun e=>hne (by rw [e]))⟩
theorem ak {a b c:World} {row:Option Nat} (h:a.grownBy b row) (k:b.grownBy c row):a.grownBy c row :=
 ⟨k.os.trans h.os,k.tape.trans h.tape,k.output.trans h.output,Nat.le_trans h.size k.size,fun i hi hne=>(k.block i (Nat.lt_of_lt_of_le hi h.size) hne).trans (h.block i hi hne)⟩
theorem ba {w w':World} {row:Option Nat} (h:Below w.heap.size w w'):w.grownBy w' row:=⟨h.os,h.tape,h.output,h.size,fun k hk _=>h.block k hk⟩
theorem k9 (w:World) (row:Option Nat):w.grownBy w.drew row:=⟨rfl,rfl,rfl,Nat.le_refl _,fun _ _ _=>rfl⟩
theorem eo (w:World) (n:Nat) (row:Option Nat):w.grownBy (w.drewN n) row:=⟨rfl,rfl,rfl,Nat.le_refl _,fun _ _ _=>rfl⟩
theorem zG.turn {w w':World} {base g:Nat} {l:List UInt8} {A:Option Addr} {c a2 f2 e2:Nat} (hr:Rd w' g A l.length c a2 f2 e2) (hown:w.ownsRow base 5 1 (.slice A l.length c) l.length (ab l)) (hne:∀ k,(Value.slice A l.length c).ownBlock=some k→k≠g) (hc:l.length≤c) (hg:w.grownBy w' (some g)):zG w' base g l a2 f2 e2 :=
 ⟨A,c,hr,hown.kept hg (.inr (fun e=>hne g e rfl)),hne,hc⟩
theorem zG.below {w w':World} {base g:Nat} {l:List UInt8} {at_ fa fe:Nat} (h:zG w base g l at_ fa fe) (hb:Below w.heap.size w w'):zG w' base g l at_ fa fe:=by
 obtain ⟨A,c,hr,hown,hne,hc⟩:=h;exact ⟨A,c,ah.below hr hb (ah.lt hr),ax hown hb,hne,hc⟩
theorem uy (base g:Nat) (l:List UInt8) (at_ fa fe e:Nat) (w:World) (h:zG w base g l at_ fa fe) :
  Calls Tryz.prog 148 #[.pointer (some ⟨g,0,none⟩),.int .i64 (e:Int)] w fun x w'=>x=.returned (.tuple #[])∧zG w' base g l at_ (if fe=0 then at_ else fa) (if fe=0 then e else fe)∧w.grownBy w' (some g):=by
 obtain ⟨A,c,hr,hown,hne,hcap⟩:=h;have h0:=hr.c0;have h1:=hr.c1;have h2:=hr.c2;have h3:=hr.c3;have f2:=hr.fr 2;have f3:=hr.fr 3;by_cases hfe:fe=0
 ·subst hfe
  have Hr:=Lib.hid hr;have Hown:=Lib.hid hown;clear hr hown;go_enter Tryz.func148,Tryz.ntmps148
  go_wp2
  go_end0
  have hg:=ak (aT w ⟨g,2,none⟩ (.int .i64 (at_:Int))) (aT _ ⟨g,3,none⟩ (.int .i64 (e:Int)));exact ⟨rfl,zG.turn (ah.set_ (ah.set_ Hr.out 2 (.int .i64 (at_:Int))) 3 (.int .i64 (e:Int))) Hown.out hne hcap hg,hg⟩
 ·have hfI:((fe:Int) == 0)=false:=by simp;omega
  have hfI2:¬ (fe:Int)=0:=by omega
  rw [if_neg hfe,if_neg hfe];have Hr:=Lib.hid hr;have Hown:=Lib.hid hown;clear hr hown;go_enter Tryz.func148,Tryz.ntmps148
  go_wp2
  go_end0
  exact ⟨rfl,⟨A,c,Hr.out,Hown.out,hne,hcap⟩,.refl _ _⟩
end Go.Proofs.YtaafkokfdgfabaaGreat
namespace Go.Proofs.YtaafkokfdgfabaaGreat
open Go.RowKit
abbrev St:Type:=Nat × Nat × Nat
def fZ (s:St) (e:Nat):St:=if s.2.2=0 then (s.1,s.1,e) else s
def eb (l:List UInt8) (s:St) (skip n:Nat):St × List UInt8 :=
 if s.2.2≠0 then (s,[]) else if l.length<s.1 + skip + n then (fZ s 2,[]) else ((s.1 + skip + n,s.2.1,s.2.2),(l.drop (s.1 + skip)).take n)
def cN (l:List UInt8) (s:St):St × Nat × Nat :=
 if s.2.2≠0 then (s,0,0) else if (bM (l.drop s.1)).2.2≠0 then (fZ s (bM (l.drop s.1)).2.2,0,0) else (s,(bM (l.drop s.1)).1,(bM (l.drop s.1)).2.1)
def gP (b:List UInt8) (big:Bool):Nat:=if big then nC b else nB b
def bc (l:List UInt8) (s:St) (n:Int):St × List UInt8:=if n<0 then (fZ s 1,[]) else eb l s 0 n.toNat
def aG (l:List UInt8) (s:St) (n:Int) (big:Bool):St × Nat:=if n<1∨8<n then (fZ s 1,0) else ((eb l s 0 n.toNat).1,gP (eb l s 0 n.toNat).2 big)
def fI (l:List UInt8) (s:St):St × Nat:=(((cN l s).1.1 + (cN l s).2.2,(cN l s).1.2),(cN l s).2.1)
def bO (l:List UInt8) (s:St) (m:Int):St × List UInt8 :=
 if m<0∨m<((cN l s).2.1:Int) then (fZ (cN l s).1 4,[]) else eb l (cN l s).1 (cN l s).2.2 (cN l s).2.1
def iw (l:List UInt8) (s:St):St:=if s.1<l.length then fZ s 3 else s
def dA (l:List UInt8) (s:St):Prop:=s.1≤l.length∧s.2.1≤l.length∧s.2.2≤4
section
variable {l:List UInt8} {s:St}
theorem xL (s:St) (e:Nat):(fZ s e).1=s.1:=by unfold fZ;split <;> rfl
theorem la (h:dA l s) {e:Nat} (he:e≤4):dA l (fZ s e):=by
 obtain ⟨h1,h2,h3⟩:=h;unfold fZ dA;split <;> simp_all
theorem uz (h:dA l s) (k n:Nat):dA l (eb l s k n).1:=by
 have h':=h;obtain ⟨h1,h2,h3⟩:=h;unfold eb;split
 ·exact h'
 ·split
  ·exact la h' (by omega)
  ·refine ⟨by simp only;omega,h2,h3⟩
theorem Cu {l:List UInt8} (h:(bM l).2.2=0):(bM l).2.1≤l.length∧(bM l).1<18446744073709551616:=by
 rcases hv:bM l with ⟨a,b,e⟩
 rw [hv] at h;simp only at h;subst h;have:=iL hv;exact ⟨this.2.2.1,this.1⟩
theorem DB (l:List UInt8):(bM l).2.2≤3:=by
 rcases hv:bM l with ⟨a,b,e⟩
 by_cases h:e=0
 ·subst h
  exact Nat.zero_le _
 ·have:=(oU hv h).2.2
  show e≤3
  omega
theorem mu (h:dA l s):dA l (cN l s).1∧(cN l s).1.1=s.1∧s.1 + (cN l s).2.2≤l.length∧(cN l s).2.1<18446744073709551616:=by
 have h':=h;obtain ⟨h1,h2,h3⟩:=h;unfold cN;split
 ·exact ⟨h',rfl,by simp only;omega,by simp⟩
 ·split
  ·exact ⟨la h' (by have:=DB (l.drop s.1);omega),xL _ _,by simp only;omega,by simp⟩
  ·rename_i h5
   have:=Cu (l:=l.drop s.1) (by omega);rw [List.length_drop] at this;exact ⟨h',rfl,by simp only;omega,this.2⟩
theorem cY (h:dA l s) (n:Int):dA l (bc l s n).1:=by
 unfold bc;split
 ·exact la h (by omega)
 ·exact uz h _ _
theorem bU (h:dA l s) (n:Int) (big:Bool):dA l (aG l s n big).1:=by
 unfold aG;split
 ·exact la h (by omega)
 ·exact uz h _ _
theorem lV (h:dA l s):dA l (fI l s).1:=by
 obtain ⟨⟨_,h2,h3⟩,h4,h5,_⟩:=mu h;exact ⟨by simp only [fI];omega,h2,h3⟩
theorem iG (h:dA l s) (m:Int):dA l (bO l s m).1:=by
 unfold bO;split
 ·exact la (mu h).1 (by omega)
 ·exact uz (mu h).1 _ _
theorem uA (h:dA l s):dA l (iw l s):=by
 unfold iw;split
 ·exact la h (by omega)
 ·exact h
theorem Cv {b:List UInt8} (h:b.length≤8):nC b<18446744073709551616:=by
 have h1:=zP b;have h2:256 ^ b.length≤256 ^ 8:=Nat.pow_le_pow_right (by omega) h;omega
theorem g8 (l:List UInt8) (s:St) (k n:Nat):(eb l s k n).2.length≤n:=by
 unfold eb;split
 ·simp
 ·split
  ·simp
  ·simp only [List.length_take];omega
end
end Go.Proofs.YtaafkokfdgfabaaGreat
namespace Go.Proofs.YtaafkokfdgfabaaGreat
open Go.RowKit
set_option linter.unusedVariables false
theorem Cw {w:World} {base g:Nat} {e t:TypeId} {n:Nat} {v:Value} {xs:List Value} {cs:Array Value} (h:w.ownsRow base e 1 v n xs) (hb:ah w g t cs) (hne:t≠e):∀ k,v.ownBlock=some k→k≠g:=by
 intro k hk e1;subst e1;rcases h.2 with ⟨rfl,_⟩ | ⟨g',cap,cur,rfl,_,hh,_⟩
 ·cases hk
 ·have:g'=k:=by simpa [Value.ownBlock] using hk
  subst this;have hb':w.heap[g']?=some (.cells cs t):=hb;rw [hh] at hb';injection hb' with hb'
  injection hb' with _ ht
  exact hne ht.symm
def d8 (w:World) (base g:Nat) (l:List UInt8) (s:St):Prop:=zG w base g l s.1 s.2.1 s.2.2
theorem d8.below {w w':World} {base g:Nat} {l:List UInt8} {s:St} (h:d8 w base g l s) (hb:Below w.heap.size w w'):d8 w' base g l s:=zG.below h hb
theorem lc (A:Option Addr) (n c:Nat) (l:List UInt8) (w:World) (hn:n=l.length) (hb:BS w w.heap.size A l) (hl:n≤1000000000) :
  Calls Tryz.prog 88 #[.slice A n c] w fun e w'=>∃ g,e=.returned (.pointer (some ⟨g,0,none⟩))∧w.heap.size≤g∧g<w'.heap.size∧d8 w' w.heap.size g l (0,0,0)∧Below w.heap.size w w':=by
 subst hn;have HB:=Lib.hid hb;clear hb;go_enter Tryz.func88,Tryz.ntmps88
 go_wp2_with fail
 refine (nI _ _ _ l _ rfl HB.out (by omega)).mono ?_;rintro e w1 ⟨A',c',rfl,hown,hb1⟩;have Hown:=Lib.hid hown;clear hown
 go_wp2
 go_ret
 have hw2:Below w1.heap.size w1 (w1.alloc (.cells #[.slice A' l.length c',.int .i64 0,.int .i64 0,.int .i64 0] 195)):=(Below.refl _ w1).alloc (Nat.le_refl _) _;have hbl:Rd (w1.alloc (.cells #[.slice A' l.length c',.int .i64 0,.int .i64 0,.int .i64 0] 195)) w1.heap.size A' l.length c' 0 0 0:=ah.new _ _ _ _ rfl;have ho:=ax Hown.out hw2;obtain ⟨_,_,e3,h3,_⟩:=cC Hown.out;injection e3 with _ _ e4
 exact ⟨_,rfl,hb1.size,by simp,⟨A',c',hbl,ho,Cw ho hbl (by decide),by omega⟩,hb1.trans (hw2.mono hb1.size)⟩
theorem f8 (base g:Nat) (l:List UInt8) (s:St) (e:Nat) (w:World) (h:d8 w base g l s) :
  Calls Tryz.prog 148 #[.pointer (some ⟨g,0,none⟩),.int .i64 (e:Int)] w fun x w'=>x=.returned (.tuple #[])∧d8 w' base g l (fZ s e)∧w.grownBy w' (some g) :=
 (uy base g l s.1 s.2.1 s.2.2 e w h).mono fun x w' ⟨h1,h2,h3⟩=>⟨h1,by
  unfold d8 fZ;by_cases hs:s.2.2=0
  ·rw [if_pos hs] at h2 ⊢
   rw [if_pos hs] at h2;exact h2
  ·rw [if_neg hs] at h2 ⊢
   rw [if_neg hs] at h2;exact h2,h3⟩
end Go.Proofs.YtaafkokfdgfabaaGreat
namespace Go.Proofs.YtaafkokfdgfabaaGreat
open Go.RowKit
set_option linter.unusedVariables false
section
variable {w w':World} {g k:Nat} {t:TypeId} {cs:Array Value}
theorem ah.grown (h:ah w g t cs) {row:Option Nat} (hg:w.grownBy w' row) (hne:some g≠row):ah w' g t cs:=(hg.block g h.lt hne).trans h
theorem ah.ne {t':TypeId} {cs':Array Value} (h:ah w g t cs) (h':ah w k t' cs') (ht:t≠t'):g≠k:=fun e=>by
 subst e;unfold ah at h h';rw [h] at h';injection h' with h'
 injection h' with _ ht'
 exact ht ht'
theorem aF {base:Nat} {e:TypeId} {size n:Nat} {v:Value} {xs:List Value} (h:w.ownsRow base e size v n xs) (hb:ah w k t cs) (ht:t≠e):v.ownBlock=none∨v.ownBlock≠some k:=by
 rcases h.2 with ⟨rfl,_⟩ | ⟨g',cap,cur,rfl,_,hh,_⟩
 ·exact .inl rfl
 ·right
  intro e1;have:g'=k:=by simpa [Value.ownBlock] using e1
  subst this;have hb':w.heap[g']?=some (.cells cs t):=hb;rw [hh] at hb';injection hb' with hb'
  injection hb' with _ ht'
  exact ht ht'.symm
theorem d8.off {base:Nat} {l:List UInt8} {s:St} (h:d8 w base g l s) (hg:w.grownBy w' (some k)) (hb:ah w k t cs) (h1:t≠195) (h2:t≠5):d8 w' base g l s:=by
 obtain ⟨A,c,hr,hown,hne,hc⟩:=h;exact ⟨A,c,ah.grown hr hg (fun e=>by injection e with e;exact (ah.ne hb hr h1) e.symm),hown.kept hg (aF hown hb h2),hne,hc⟩
theorem d8.lt {base:Nat} {l:List UInt8} {s:St} (h:d8 w base g l s):g<w.heap.size:=by
 obtain ⟨A,c,hr,_⟩:=h;exact ah.lt hr
end
end Go.Proofs.YtaafkokfdgfabaaGreat
namespace Go.Proofs.YtaafkokfdgfabaaGreat
open Go.RowKit
set_option linter.unusedVariables false
theorem jJ (base g:Nat) (l:List UInt8) (s:St) (w:World) (h:d8 w base g l s) (hs:dA l s) (hl:l.length≤1000000000) :
  Calls Tryz.prog 92 #[.pointer (some ⟨g,0,none⟩)] w fun e w'=>e=.returned (.int .i64 ((l.length:Int) - (s.1:Int)))∧∃ m,w'=w.drewN m:=by
 obtain ⟨A,c,hr,_⟩:=h;exact ux g A l.length c s.1 s.2.1 s.2.2 w hr hl hs.1
theorem ik {B:Nat} {w:World} (n:Nat):Below B w (w.drewN n):=⟨rfl,rfl,rfl,Nat.le_refl _,fun _ _=>rfl⟩
theorem d8.drewN {w:World} {base g:Nat} {l:List UInt8} {s:St} (h:d8 w base g l s) (m:Nat):d8 (w.drewN m) base g l s:=h.below (ik m)
theorem d8.drew {w:World} {base g:Nat} {l:List UInt8} {s:St} (h:d8 w base g l s):d8 w.drew base g l s:=h.below ((Below.refl _ w).drew)
theorem ix {w:World} {base:Nat} {e:TypeId} {size n m c:Nat} {A:Option Addr} {xs:List Value} (h:w.ownsRow base e size (.slice A n c) m xs):n≤c:=by
 obtain ⟨_,_,e3,h3,_⟩:=cC h;injection e3 with _ e2 e4
 omega
def wB (w:World) (base g:Nat) (l:List UInt8) (r:St × List UInt8) (x:Ending) (w':World):Prop :=
 ∃ A c,x=.returned (.slice A r.2.length c)∧w'.ownsRow w.heap.size 5 1 (.slice A r.2.length c) r.2.length (ab r.2)∧d8 w' base g l r.1∧w.grownBy w' (some g)
theorem kG {w w':World} {base g:Nat} {l:List UInt8} {s:St} (h:d8 w' base g l s) (hg:w.grownBy w' (some g)):wB w base g l (s,[]) (.returned (.slice none 0 0)) w' :=
 ⟨none,0,rfl,World.ownsRow_nil _ _ _ _,h,hg⟩
theorem xM {l:List UInt8} {s:St} {k n:Nat} (h:¬ s.2.2=0):eb l s k n=(s,[]):=if_pos h
theorem xN {l:List UInt8} {s:St} {k n:Nat} (h:s.2.2=0) (h2:l.length<s.1 + k + n):eb l s k n=(fZ s 2,[]):=by
 unfold eb;rw [if_neg (by omega),if_pos h2]
theorem DC {l:List UInt8} {s:St} {k n:Nat} (h:s.2.2=0) (h2:s.1 + k + n≤l.length):eb l s k n=((s.1 + k + n,s.2.1,s.2.2),(l.drop (s.1 + k)).take n):=by
 unfold eb;rw [if_neg (by omega),if_neg (by omega)]
set_option maxRecDepth 100000 in
theorem nJ (base g:Nat) (l:List UInt8) (s:St) (k n:Nat) (w:World) (h:d8 w base g l s) (hs:dA l s) (hk:s.1 + k≤l.length) (hl:l.length≤1000000000) (hn:n<9223372036854775808) :
  Calls Tryz.prog 149 #[.pointer (some ⟨g,0,none⟩),.int .i64 (k:Int),.int .i64 (n:Int)] w (wB w base g l (eb l s k n)):=by
 obtain ⟨at_,fa,fe⟩:=s;have H:=Lib.hid h;have Hs:=Lib.hid hs;obtain ⟨A,c,hr,hown,hne,hc⟩:=h;have h0:=Rd.c0 hr;have h1:=Rd.c1 hr;have h2:=Rd.c2 hr;have h3:=Rd.c3 hr;have f1:=Rd.fr hr 1;have Hr:=Lib.hid hr;have Hown:=Lib.hid hown;have ha:at_ + k≤l.length:=hk;have Hne:=Lib.hid hne;clear hr hown hs hk hne;by_cases hfe:fe=0
 ·subst hfe
  have hw1:IntKind.i64.wrap ((l.length:Int) - (at_:Int) - (k:Int))=(l.length:Int) - (at_:Int) - (k:Int):=IntWalk.i64_in _ (by omega);by_cases hsh:l.length<at_ + k + n
  ·have hshI:(l.length:Int) - (at_:Int) - (k:Int)<(n:Int):=by omega
   rw [xN (s:=(at_,fa,0)) rfl hsh];go_enter Tryz.func149,Tryz.ntmps149
   go_wp2_with fail
   refine (jJ base g l _ w H.out Hs.out hl).mono ?_;rintro e w1 ⟨rfl,m,rfl⟩
   go_wp2_with fail
   refine (f8 base g l (at_,fa,0) 2 _ (H.out.drewN m)).mono ?_;rintro e w2 ⟨rfl,hR,hg⟩
   go_wp2
   go_ret
   exact kG hR (ak (eo w m _) hg)
  ·have hshI:¬ (l.length:Int) - (at_:Int) - (k:Int)<(n:Int):=by omega
   obtain ⟨bod,hbod⟩:∃ bod,(l.drop (at_ + k)).take n=bod:=⟨_,rfl⟩
   obtain ⟨E,hE⟩:∃ E,at_ + k + n=E:=⟨_,rfl⟩
   rw [show eb l (at_,fa,0) k n=((E,fa,0),bod) by rw [DC (s:=(at_,fa,0)) rfl (by show at_ + k + n≤_;omega),←hbod,←hE]];have hEl:E≤l.length:=by omega
   have Hbod:=Lib.hid hbod;have HE:=Lib.hid hE;clear hbod hE;have hw2:IntKind.i64.wrap ((at_:Int) + (k:Int))=(at_:Int) + (k:Int):=IntWalk.i64_in _ (by omega);obtain ⟨a,ha2⟩:∃ a,at_ + k=a:=⟨_,rfl⟩
   have ha3:(at_:Int) + (k:Int)=(a:Int):=by omega
   go_enter Tryz.func149,Tryz.ntmps149
   go_wp2_with fail
   refine (jJ base g l _ w H.out Hs.out hl).mono ?_;rintro e w1 ⟨rfl,m,rfl⟩
   go_wp2_with fail
   have hE2:(a:Int) + (n:Int)=(E:Int):=by have:=HE.out;omega
   rw [hE2];have hR0:Rd ((w.drewN m).setCell ⟨g,1,none⟩ (.int .i64 (E:Int))) g A l.length c E fa 0:=ah.set_ (ah.drewN Hr.out m) 1 (.int .i64 (E:Int));have hg0:w.grownBy ((w.drewN m).setCell ⟨g,1,none⟩ (.int .i64 (E:Int))) (some g):=ak (eo w m _) (aT _ ⟨g,1,none⟩ (.int .i64 (E:Int)));generalize ((w.drewN m).setCell ⟨g,1,none⟩ (.int .i64 (E:Int)))=W at *
   have h0':=Rd.c0 hR0;have h1':=Rd.c1 hR0;have HR0:=Lib.hid hR0;have Hg0:=Lib.hid hg0;have Hown1:=Lib.hid (Hown.out.kept hg0 (.inr (fun e=>Hne.out g e rfl)));have ha4:(0:Int)≤(a:Int):=by omega
   have hE4:(a:Int)≤(E:Int):=by omega
   have hE5:(E:Int)≤(c:Int):=by omega
   clear hR0 hg0;have HL:Hid (E - a=bod.length):=by show _=_;have:=HE.out;rw [←Hbod.out,List.length_take,List.length_drop];omega
   have hbs:BS W.drew W.drew.heap.size (if c=a then A else A.map (·.add a)) bod:=by
    obtain ⟨b1,_⟩:=BS.of_own Hown1.out;rw [←Hbod.out,ha2];exact (b1.drop (k:=a) (cap:=c) hc).take n
   have HbP:Hid (c=a→BS W.drew W.drew.heap.size A bod):=fun e=>by rw [if_pos e] at hbs;exact hbs
   have HbN:Hid (¬ c=a→BS W.drew W.drew.heap.size (A.map (·.add a)) bod):=fun e=>by rw [if_neg e] at hbs;exact hbs
   have Hsz:Hid (w.heap.size≤W.heap.size):=Hg0.out.size;clear hbs hE2 ha2 ha3 hw1 hw2;go_still_tail 10,(by kernel_rfl)
   change wpList _ _ _ _ _ W.drew
   go_wp2_with fail
   all_goals
    refine (nI _ _ _ bod _ HL.out (by first | exact HbP.out (by assumption) | exact HbN.out (by assumption)) (by omega)).mono ?_;rintro e w3 ⟨A3,c3,rfl,hown3,hb3⟩;have Hown3:=Lib.hid hown3;clear hown3
    go_wp2
    go_ret
    have hd:Below W.heap.size W W.drew:=(Below.refl _ W).drew;have h13:Below W.heap.size W w3:=hd.trans hb3;exact ⟨A3,c3,rfl,bJ Hown3.out Hsz.out,zG.turn (ah.below HR0.out h13 (ah.lt HR0.out)) Hown1.out Hne.out hc (ba h13),ak Hg0.out (ba h13)⟩
 ·rw [xM (s:=(at_,fa,fe)) hfe]
  have hfI:((fe:Int) == 0)=false:=by simp;omega
  have hfI2:((fe:Int) != 0)=true:=by simp;omega
  go_enter Tryz.func149,Tryz.ntmps149
  go_wp2
  go_ret
  exact kG H.out (.refl _ _)
end Go.Proofs.YtaafkokfdgfabaaGreat
namespace Go.Proofs.YtaafkokfdgfabaaGreat
open Go.RowKit
set_option linter.unusedVariables false
theorem n9 {P:Program} {f:FuncId} {args:Array Value} {w:World} {n:Nat} {v:Value}
  (h:Calls P f args (w.drewN n) fun e w'=>e=.returned v∧w.drewN n=w'):Calls P f args (w.drewN n) fun e w''=>e=.returned v∧∃ m,w''=w.drewN m :=
 h.mono fun _ _ ⟨he,hm⟩=>⟨he,n,hm.symm⟩
def DD (w:World) (base g:Nat) (l:List UInt8) (r:St × Nat × Nat) (x:Ending) (w':World):Prop :=
 x=.returned (.tuple #[.int .u64 (r.2.1:Int),.int .i64 (r.2.2:Int)])∧d8 w' base g l r.1∧w.grownBy w' (some g)
set_option maxRecDepth 100000 in
theorem j7 (base g:Nat) (l:List UInt8) (s:St) (w:World) (h:d8 w base g l s) (hs:dA l s) (hl:l.length≤1000000000) :
  Calls Tryz.prog 150 #[.pointer (some ⟨g,0,none⟩)] w (DD w base g l (cN l s)):=by
 obtain ⟨at_,fa,fe⟩:=s;have H:=Lib.hid h;obtain ⟨A,c,hr,hown,hne,hc⟩:=h;have h0:=Rd.c0 hr;have h1:=Rd.c1 hr;have h2:=Rd.c2 hr;have h3:=Rd.c3 hr;have Hown:=Lib.hid hown;have ha:at_≤l.length:=hs.1;clear hr hown hs hne;by_cases hfe:fe=0
 ·subst hfe
  rcases hv:bM (l.drop at_) with ⟨n,k,e⟩
  have Hv:=Lib.hid hv;have HL:Hid (l.length - at_=(l.drop at_).length):=by show _=_;rw [List.length_drop]
  have hbs:BS w w.heap.size (if c=at_ then A else A.map (·.add at_)) (l.drop at_):=(BS.of_own Hown.out).1.drop hc;have HbP:Hid (c=at_→BS w w.heap.size A (l.drop at_)):=fun e=>by rw [if_pos e] at hbs;exact hbs
  have HbN:Hid (¬ c=at_→BS w w.heap.size (A.map (·.add at_)) (l.drop at_)):=fun e=>by rw [if_neg e] at hbs;exact hbs
  have Hm:Hid (l.length - at_≤maxLen):=by show _≤maxLen;unfold maxLen;omega
  have ha0:(0:Int)≤(at_:Int):=by omega
  have ha1:(at_:Int)≤(l.length:Int):=by omega
  clear hbs hv;by_cases he:e=0
  ·subst he
   have hx:cN l (at_,fa,0)=((at_,fa,0),n,k):=by unfold cN;rw [if_neg (by simp)];simp only;rw [Hv.out,if_neg (by simp)]
   rw [hx];clear hx;by_cases hca:c=at_
   all_goals
    go_enter Tryz.func150,Tryz.ntmps150
    go_wp2
    go_quiet ((go_at_call 84;exact n9 (nH _ _ _ (l.drop at_) _ _ HL.out (BS.drewN (by first | exact HbP.out (by assumption) | exact HbN.out (by assumption)) _) Hm.out Hv.out)))
    go_wp2
    go_ret2
    exact ⟨rfl,H.out.drewN _,eo _ _ _⟩
  ·have he':(e:Int)≠0:=by omega
   have hbad:=oU Hv.out he;obtain ⟨rfl,rfl,he2⟩:=hbad;have hx:cN l (at_,fa,0)=(fZ (at_,fa,0) e,0,0):=by unfold cN;rw [if_neg (by simp)];simp only;rw [Hv.out,if_pos he]
   rw [hx];clear hx;by_cases hca:c=at_
   all_goals
    go_enter Tryz.func150,Tryz.ntmps150
    go_wp2
    go_quiet ((go_at_call 84;exact n9 (nH _ _ _ (l.drop at_) _ _ HL.out (BS.drewN (by first | exact HbP.out (by assumption) | exact HbN.out (by assumption)) _) Hm.out Hv.out)))
    go_wp2_with fail
    refine (f8 base g l (at_,fa,0) e _ (H.out.drewN _)).mono ?_;rintro x w2 ⟨rfl,hR,hg⟩
    go_wp2
    go_ret2
    exact ⟨rfl,hR,ak (eo _ _ _) hg⟩
 ·have hx:cN l (at_,fa,fe)=((at_,fa,fe),0,0):=if_pos hfe
  rw [hx];clear hx;have hfI:((fe:Int) == 0)=false:=by simp;omega
  have hfI2:((fe:Int) != 0)=true:=by simp;omega
  go_enter Tryz.func150,Tryz.ntmps150
  go_wp2
  go_ret2
  exact ⟨rfl,H.out,.refl _ _⟩
end Go.Proofs.YtaafkokfdgfabaaGreat
namespace Go.Proofs.YtaafkokfdgfabaaGreat
open Go.RowKit
set_option linter.unusedVariables false
theorem uB (big:Bool) (A:Option Addr) (n c:Nat) (l:List UInt8) (w:World) (hn:n=l.length) (hb:BS w w.heap.size A l) (hl:n≤8) (hc:n≤c) :
  Calls Tryz.prog 85 #[.slice A n c,.bool big] w fun e w'=>e=.returned (.int .u64 (gP l big:Int))∧Below w.heap.size w w':=by
 rcases big with _ | _
 ·exact mr A n c l w hn hb hl hc
 ·exact mt A n c l w hn hb hl hc
def Do (w:World) (base g:Nat) (l:List UInt8) (r:St × Nat) (x:Ending) (w':World):Prop :=
 x=.returned (.int .u64 (r.2:Int))∧d8 w' base g l r.1∧w.grownBy w' (some g)
section
variable (base g:Nat) (l:List UInt8) (s:St) (w:World)
set_option maxRecDepth 100000 in
theorem dF (n:Int) (h:d8 w base g l s) (hs:dA l s) (hl:l.length≤1000000000) (hn:n<9223372036854775808) :
  Calls Tryz.prog 89 #[.pointer (some ⟨g,0,none⟩),.int .i64 n] w (wB w base g l (bc l s n)):=by
 have H:=Lib.hid h;have Hs:=Lib.hid hs;clear h hs;by_cases h0:n<0
 ·rw [show bc l s n=(fZ s 1,[]) from if_pos h0]
  go_enter Tryz.func89,Tryz.ntmps89
  go_wp2_with fail
  refine (f8 base g l s 1 _ H.out).mono ?_;rintro x w2 ⟨rfl,hR,hg⟩
  go_wp2
  go_ret
  exact kG hR hg
 ·obtain ⟨k,rfl⟩:∃ k:Nat,n=(k:Int):=⟨n.toNat,by omega⟩
  rw [show bc l s (k:Int)=eb l s 0 k by unfold bc;rw [if_neg h0];rfl];go_enter Tryz.func89,Tryz.ntmps89
  go_wp2_with fail
  refine (nJ base g l s 0 k _ H.out Hs.out Hs.out.1 hl (by omega)).mono ?_;rintro x w2 ⟨A,c,rfl,hown,hR,hg⟩;have Hown:=Lib.hid hown;clear hown
  go_wp2
  go_ret
  exact ⟨A,c,rfl,Hown.out,hR,hg⟩
set_option maxRecDepth 100000 in
theorem cg (n:Int) (big:Bool) (h:d8 w base g l s) (hs:dA l s) (hl:l.length≤1000000000) :
  Calls Tryz.prog 103 #[.pointer (some ⟨g,0,none⟩),.int .i64 n,.bool big] w (Do w base g l (aG l s n big)):=by
 have H:=Lib.hid h;have Hs:=Lib.hid hs;clear h hs;by_cases h1:n<1
 ·rw [show aG l s n big=(fZ s 1,0) from if_pos (.inl h1)]
  go_enter Tryz.func103,Tryz.ntmps103
  go_wp2_with fail
  refine (f8 base g l s 1 _ H.out).mono ?_;rintro x w2 ⟨rfl,hR,hg⟩
  go_wp2
  go_ret
  exact ⟨rfl,hR,hg⟩
 ·by_cases h2:8<n
  ·rw [show aG l s n big=(fZ s 1,0) from if_pos (.inr h2)]
   go_enter Tryz.func103,Tryz.ntmps103
   go_wp2_with fail
   refine (f8 base g l s 1 _ H.out).mono ?_;rintro x w2 ⟨rfl,hR,hg⟩
   go_wp2
   go_ret
   exact ⟨rfl,hR,hg⟩
  ·obtain ⟨k,rfl⟩:∃ k:Nat,n=(k:Int):=⟨n.toNat,by omega⟩
   rw [show aG l s (k:Int) big=((eb l s 0 k).1,gP (eb l s 0 k).2 big) by unfold aG;rw [if_neg (by omega)];rfl];have hlen:=g8 l s 0 k;obtain ⟨r,hr⟩:∃ r,eb l s 0 k=r:=⟨_,rfl⟩
   rw [hr] at hlen ⊢;have Hr:=Lib.hid hr;clear hr;go_enter Tryz.func103,Tryz.ntmps103
   go_wp2_with fail
   refine (nJ base g l s 0 k _ H.out Hs.out Hs.out.1 hl (by omega)).mono ?_;rw [Hr.out];rintro x w2 ⟨A,c,rfl,hown,hR,hg⟩;have Hb:=Lib.hid (BS.of_own hown).1;have h3:=ix hown;clear hown
   go_wp2_with fail
   refine (uB big _ _ _ r.2 _ rfl Hb.out (by omega) (by omega)).mono ?_;rintro x w3 ⟨rfl,hb⟩
   go_wp2
   go_ret
   exact ⟨rfl,hR.below hb,ak hg (ba hb)⟩
set_option maxRecDepth 100000 in
theorem iM (h:d8 w base g l s) (hs:dA l s) (hl:l.length≤1000000000) :
  Calls Tryz.prog 90 #[.pointer (some ⟨g,0,none⟩)] w (Do w base g l (fI l s)):=by
 have H:=Lib.hid h;have Hs:=Lib.hid hs;have hok:=mu hs;unfold fI;rcases hp:cN l s with ⟨⟨at_,fa,fe⟩,n,k⟩
 rw [hp] at hok;have Hp:=Lib.hid hp;have hk:at_ + k≤l.length:=by have:=hok.2.1;have:=hok.2.2.1;simp only at *;omega
 clear h hs hok hp;go_enter Tryz.func90,Tryz.ntmps90
 go_wp2_with fail
 refine (j7 base g l s _ H.out Hs.out hl).mono ?_;rw [Hp.out];rintro x w2 ⟨rfl,hR,hg⟩;obtain ⟨A,c,hr,hown,hne,hc⟩:=hR;have h0:=Rd.c0 hr;have h1:=Rd.c1 hr;have h2:=Rd.c2 hr;have h3:=Rd.c3 hr;have f1:=Rd.fr hr 1;have Hr:=Lib.hid hr;have Hown:=Lib.hid hown;have Hne:=Lib.hid hne;have hw:IntKind.i64.wrap ((at_:Int) + (k:Int))=(at_:Int) + (k:Int):=IntWalk.i64_in _ (by omega);clear hr hown hne
 go_wp2
 go_ret
 have hgs:=aT w2 ⟨g,1,none⟩ (.int .i64 ((at_:Int) + (k:Int)));exact ⟨rfl,zG.turn (ah.set_ Hr.out 1 (.int .i64 ((at_:Int) + (k:Int)))) Hown.out Hne.out hc hgs,ak hg hgs⟩
set_option maxRecDepth 100000 in
theorem nK (h:d8 w base g l s) (hs:dA l s) (hl:l.length≤1000000000) :
  Calls Tryz.prog 101 #[.pointer (some ⟨g,0,none⟩)] w fun x w'=>x=.returned (.tuple #[])∧d8 w' base g l (iw l s)∧w.grownBy w' (some g):=by
 have H:=Lib.hid h;have Hs:=Lib.hid hs;have ha:=hs.1;clear h hs;by_cases h1:s.1<l.length
 ·rw [show iw l s=fZ s 3 from if_pos h1]
  have hI:(0:Int)<(l.length:Int) - (s.1:Int):=by omega
  go_enter Tryz.func101,Tryz.ntmps101
  go_wp2_with fail
  refine (jJ base g l s w H.out Hs.out hl).mono ?_;rintro e w1 ⟨rfl,m,rfl⟩
  go_wp2_with fail
  refine (f8 base g l s 3 _ (H.out.drewN m)).mono ?_;rintro x w3 ⟨rfl,hR3,hg3⟩
  go_wp2
  go_end0
  exact ⟨rfl,hR3,ak (eo w m _) hg3⟩
 ·rw [show iw l s=s from if_neg h1]
  have hI:¬ (0:Int)<(l.length:Int) - (s.1:Int):=by omega
  go_enter Tryz.func101,Tryz.ntmps101
  go_wp2_with fail
  refine (jJ base g l s w H.out Hs.out hl).mono ?_;rintro e w1 ⟨rfl,m,rfl⟩
  go_wp2
  go_end0
  exact ⟨rfl,H.out.drewN m,eo w m _⟩
end
end Go.Proofs.YtaafkokfdgfabaaGreat
namespace Go.Proofs.YtaafkokfdgfabaaGreat
open Go.RowKit
set_option linter.unusedVariables false
abbrev uk:Type:=List UInt8 × Nat
def fV (most:Nat) (s:uk) (b:List UInt8):uk:=if s.2≠0 then s else if most<s.1.length + b.length then (s.1,4) else (s.1 ++ b,0)
def wP (w:World) (base g:Nat) (A:Option Addr) (c most:Nat) (s:uk):Prop :=
 ah w g 212 #[.slice A s.1.length c,.int .i64 (most:Int),.int .i64 (s.2:Int)]∧w.ownsRow base 5 1 (.slice A s.1.length c) s.1.length (ab s.1)∧base≤g
def cj (w w':World) (g:Nat) (r:Option Nat):Prop :=
 w'.os=w.os∧w'.tape=w.tape∧w'.output=w.output∧w.heap.size≤w'.heap.size∧∀ k,k<w.heap.size→k≠g→some k≠r→w'.heap[k]?=w.heap[k]?
theorem cj.refl (w:World) (g:Nat) (r:Option Nat):cj w w g r:=⟨rfl,rfl,rfl,Nat.le_refl _,fun _ _ _ _=>rfl⟩
theorem cj.trans {a b c:World} {g:Nat} {r:Option Nat} (h:cj a b g r) (k:cj b c g r):cj a c g r :=
 ⟨k.1.trans h.1,k.2.1.trans h.2.1,k.2.2.1.trans h.2.2.1,Nat.le_trans h.2.2.2.1 k.2.2.2.1,fun i hi h1 h2=>(k.2.2.2.2 i (Nat.lt_of_lt_of_le hi h.2.2.2.1) h1 h2).trans (h.2.2.2.2 i hi h1 h2)⟩
theorem cj.of_grown {w w':World} {g:Nat} {r:Option Nat} (h:w.grownBy w' r):cj w w' g r:=⟨h.os,h.tape,h.output,h.size,fun k hk _ h2=>h.block k hk h2⟩
theorem cj.of_g {w w':World} {g:Nat} {r:Option Nat} (h:w.grownBy w' (some g)):cj w w' g r:=⟨h.os,h.tape,h.output,h.size,fun k hk h1 _=>h.block k hk (fun e=>by injection e with e;exact h1 e)⟩
theorem cj.of_below {w w':World} {g:Nat} {r:Option Nat} (h:Below w.heap.size w w'):cj w w' g r:=⟨h.os,h.tape,h.output,h.size,fun k hk _ _=>h.block k hk⟩
theorem cj.below {w w':World} {g:Nat} {r:Option Nat} {B:Nat} (h:cj w w' g r) (hg:B≤g) (hr:∀ k,r=some k→B≤k) (hB:B≤w.heap.size):Below B w w' :=
 ⟨h.1,h.2.1,h.2.2.1,h.2.2.2.1,fun k hk=>h.2.2.2.2 k (by omega) (by omega) (fun e=>by have:=hr k e.symm;omega)⟩
theorem cj.own {w w':World} {g:Nat} {r:Option Nat} (h:cj w w' g r) {base:Nat} {e:TypeId} {size n:Nat} {v:Value} {xs:List Value} (ho:w.ownsRow base e size v n xs) (h1:v.ownBlock≠some g) (h2:v.ownBlock=none∨v.ownBlock≠r):w'.ownsRow base e size v n xs:=by
 refine ⟨ho.1,?_⟩;rcases ho.2 with hn | ⟨k,cap,cur,rfl,hb,hgg,rest⟩
 ·exact .inl hn
 ·refine .inr ⟨k,cap,cur,rfl,hb,?_,rest⟩
  have hk:k<w.heap.size:=ah.lt (w:=w) (g:=k) (t:=e) (cs:=cur) hgg;rw [h.2.2.2.2 k hk (fun e=>h1 (by rw [e];rfl)) (fun e=>by
   rcases h2 with h2 | h2
   ·simp [Value.ownBlock] at h2
   ·exact h2 e)]
  exact hgg
theorem cj.blk {w w':World} {g:Nat} {r:Option Nat} (h:cj w w' g r) {k:Nat} {t:TypeId} {cs:Array Value} (hb:ah w k t cs) (h1:k≠g) (h2:some k≠r):ah w' k t cs:=(h.2.2.2.2 k hb.lt h1 h2).trans hb
def gm (w:World) (base g:Nat) (A:Option Addr) (most:Nat) (s:uk) (x:Ending) (w':World):Prop :=
 x=.returned (.tuple #[])∧∃ A' c',wP w' base g A' c' most s∧cj w w' g (Value.slice A 0 0).ownBlock∧((Value.slice A' 0 0).ownBlock=(Value.slice A 0 0).ownBlock∨∃ k,(Value.slice A' 0 0).ownBlock=some k∧w.heap.size≤k)
theorem wP.below {w w':World} {base g:Nat} {A:Option Addr} {c most:Nat} {s:uk} (h:wP w base g A c most s) (hb:Below w.heap.size w w'):wP w' base g A c most s :=
 ⟨ah.below h.1 hb h.1.lt,ax h.2.1 hb,h.2.2⟩
set_option maxRecDepth 100000 in
theorem lO (m:Int) (w:World) (hm:m<9223372036854775808) :
  Calls Tryz.prog 111 #[.int .i64 m] w fun e w'=>e=.returned (.pointer (some ⟨w.heap.size,0,none⟩))∧wP w' w.heap.size w.heap.size none 0 m.toNat ([],0)∧Below w.heap.size w w':=by
 by_cases h0:m<0
 ·have hmx:max m 0=0:=by omega
  have ht:m.toNat=0:=by omega
  rw [ht];go_enter Tryz.func111,Tryz.ntmps111
  go_wp2
  go_ret
  exact ⟨rfl,⟨ah.new w _ _ _ rfl,World.ownsRow_nil _ _ _ _,Nat.le_refl _⟩,(Below.refl _ _).alloc (Nat.le_refl _) _⟩
 ·obtain ⟨k,rfl⟩:∃ k:Nat,m=(k:Int):=⟨m.toNat,by omega⟩
  have hmx:max (k:Int) 0=(k:Int):=by omega
  go_enter Tryz.func111,Tryz.ntmps111
  go_wp2
  go_ret
  exact ⟨rfl,⟨ah.new w _ _ _ rfl,World.ownsRow_nil _ _ _ _,Nat.le_refl _⟩,(Below.refl _ _).alloc (Nat.le_refl _) _⟩
end Go.Proofs.YtaafkokfdgfabaaGreat
namespace Go.Proofs.YtaafkokfdgfabaaGreat
open Go.RowKit
set_option linter.unusedVariables false
section
variable (base g:Nat) (l:List UInt8) (s:St) (w:World)
set_option maxRecDepth 100000 in
theorem i4 (m:Int) (h:d8 w base g l s) (hs:dA l s) (hl:l.length≤1000000000) (hm:m<9223372036854775808) :
  Calls Tryz.prog 154 #[.pointer (some ⟨g,0,none⟩),.int .i64 m] w (wB w base g l (bO l s m)):=by
 have H:=Lib.hid h;have Hs:=Lib.hid hs;have hok:=mu hs;unfold bO;rcases hp:cN l s with ⟨s1,n,k⟩
 rw [hp] at hok;have Hp:=Lib.hid hp;simp only at hok;obtain ⟨hok1,hok2,hok3,hok4⟩:=hok;have Hok1:=Lib.hid hok1;have Hok2:=Lib.hid hok2;clear h hs hp hok1 hok2 hok4;by_cases h0:m<0
 ·rw [if_pos (.inl h0)]
  go_enter Tryz.func154,Tryz.ntmps154
  go_wp2_with fail
  refine (j7 base g l s _ H.out Hs.out hl).mono ?_;rw [Hp.out];rintro x w2 ⟨rfl,hR,hg⟩
  go_wp2_with fail
  refine (f8 base g l s1 4 _ hR).mono ?_;rintro x w3 ⟨rfl,hR3,hg3⟩
  go_wp2
  go_ret
  exact kG hR3 (ak hg hg3)
 ·obtain ⟨q,rfl⟩:∃ q:Nat,m=(q:Int):=⟨m.toNat,by omega⟩
  have hwq:IntKind.u64.wrap (q:Int)=(q:Int):=iE q (by omega);by_cases h1:(q:Int)<(n:Int)
  ·rw [if_pos (.inr h1)]
   go_enter Tryz.func154,Tryz.ntmps154
   go_wp2_with fail
   refine (j7 base g l s _ H.out Hs.out hl).mono ?_;rw [Hp.out];rintro x w2 ⟨rfl,hR,hg⟩
   go_wp2_with fail
   refine (f8 base g l s1 4 _ hR).mono ?_;rintro x w3 ⟨rfl,hR3,hg3⟩
   go_wp2
   go_ret
   exact kG hR3 (ak hg hg3)
  ·rw [if_neg (by simp only;omega)]
   have hwn:IntKind.i64.wrap (n:Int)=(n:Int):=IntWalk.i64_in _ (by omega);have Hn:Hid (n<9223372036854775808):=by show n<_;omega
   clear hm;go_enter Tryz.func154,Tryz.ntmps154
   go_wp2_with fail
   refine (j7 base g l s _ H.out Hs.out hl).mono ?_;rw [Hp.out];rintro x w2 ⟨rfl,hR,hg⟩
   go_wp2_with fail
   refine (nJ base g l s1 k n _ hR Hok1.out (by rw [Hok2.out];exact hok3) hl Hn.out).mono ?_;rintro x w3 ⟨A,c,rfl,hown,hR3,hg3⟩;have Hown:=Lib.hid hown;clear hown
   go_wp2
   go_ret
   exact ⟨A,c,rfl,bJ Hown.out hg.size,hR3,ak hg hg3⟩
end
end Go.Proofs.YtaafkokfdgfabaaGreat
namespace Go.Proofs.YtaafkokfdgfabaaGreat
open Go.RowKit
set_option linter.unusedVariables false
def eg (s:St) (k:Nat):St:=(s.1 + k,s.2.1,s.2.2)
theorem bR (s:St) (a b:Nat):eg (eg s a) b=eg s (a + b):=by simp [eg,Nat.add_assoc]
structure bw (l:List UInt8) (s:St) (x:List UInt8) (s':St):Prop where
 ok:s.2.2=0
 to:s'=eg s x.length
 le:s.1 + x.length≤l.length
 eq:l.drop s.1=x ++ l.drop (s.1 + x.length)
section
variable {l:List UInt8} {s s' s'':St} {x y:List UInt8}
theorem bw.trans (h:bw l s x s') (k:bw l s' y s''):bw l s (x ++ y) s'':=by
 obtain ⟨h1,rfl,h3,h4⟩:=h;obtain ⟨k1,rfl,k3,k4⟩:=k;simp only [eg] at k3 k4;refine ⟨h1,by rw [bR,List.length_append],by rw [List.length_append];omega,?_⟩;rw [h4,k4,List.length_append,List.append_assoc,Nat.add_assoc]
theorem bw.nil (h:s.2.2=0) (hl:s.1≤l.length):bw l s [] s:=⟨h,rfl,by simpa using hl,by simp⟩
theorem bw.of (h:s.2.2=0) (hl:s.1≤l.length) {r:List UInt8} (e:l.drop s.1=x ++ r):bw l s x (eg s x.length):=by
 have hlen:=congrArg List.length e;rw [List.length_drop,List.length_append] at hlen;refine ⟨h,rfl,by omega,?_⟩;rw [e,←List.drop_drop,e,List.drop_left]
theorem bw.ok' (h:bw l s x s'):s'.2.2=0:=by rw [h.to];exact h.ok
theorem bw.le' (h:bw l s x s'):s'.1≤l.length:=by rw [h.to];exact h.le
theorem bw.at_ (h:bw l s x s'):s'.2.1=s.2.1:=by rw [h.to];rfl
theorem bw.rest (h:bw l s x s') {r:List UInt8} (e:l.drop s.1=x ++ r):l.drop s'.1=r:=by
 have h4:=h.eq;rw [e] at h4;rw [h.to];exact (List.append_cancel_left h4).symm
theorem bw.take (h:bw l s x s'):x=(l.drop s.1).take x.length:=by rw [h.eq];simp
theorem jP {e:Nat} (he:e≠0):(fZ s e).2.2≠0:=by
 unfold fZ;split
 ·exact he
 ·assumption
theorem Dr (h:s.2.2=0) (hl:s.1≤l.length) {r:List UInt8} (e:l.drop s.1=x ++ r):eb l s 0 x.length=(eg s x.length,x):=by
 have hlen:=congrArg List.length e;rw [List.length_drop,List.length_append] at hlen;unfold eb;rw [if_neg (by omega),if_neg (by omega),Nat.add_zero,e,List.take_left];rfl
theorem Ds {n:Nat} (h:(eb l s 0 n).1.2.2=0):∃ x,x.length=n∧bw l s x (eb l s 0 n).1∧(eb l s 0 n).2=x:=by
 unfold eb at h ⊢;split at h
 ·contradiction
 ·rename_i h0
  split at h
  ·exact absurd h (jP (by decide))
  ·rename_i h1
   rw [if_neg h0,if_neg h1];refine ⟨(l.drop s.1).take n,by rw [List.length_take,List.length_drop];omega,?_,by simp⟩;have hx:((l.drop s.1).take n).length=n:=by rw [List.length_take,List.length_drop];omega
   refine ⟨by omega,by simp [eg,hx],by rw [hx];omega,?_⟩;rw [hx,←List.drop_drop,List.take_append_drop]
theorem iy (h:s.2.2=0) (hl:s.1≤l.length) {r:List UInt8} {n:Int} (hn:n=(x.length:Int)) (e:l.drop s.1=x ++ r):bc l s n=(eg s x.length,x):=by
 subst hn;unfold bc;rw [if_neg (by omega)];exact Dr h hl e
theorem kS {n:Int} (hn:0≤n) (h:(bc l s n).1.2.2=0):∃ x,x.length=n.toNat∧bw l s x (bc l s n).1∧(bc l s n).2=x:=by
 unfold bc at h ⊢;rw [if_neg (by omega)] at h ⊢;exact Ds h
theorem jh (h:s.2.2=0) (hl:s.1≤l.length) {r:List UInt8} {n:Int} (hn:n=(x.length:Int)) (h1:1≤x.length) (h8:x.length≤8) (big:Bool) (e:l.drop s.1=x ++ r):aG l s n big=(eg s x.length,gP x big):=by
 subst hn;unfold aG;rw [if_neg (by omega),Int.toNat_natCast,Dr h hl e]
theorem mP {n:Int} (h1:1≤n) (h8:n≤8) (big:Bool) (h:(aG l s n big).1.2.2=0):∃ x,x.length=n.toNat∧bw l s x (aG l s n big).1∧(aG l s n big).2=gP x big:=by
 unfold aG at h ⊢;rw [if_neg (by omega)] at h ⊢;obtain ⟨x,hx,he,e⟩:=Ds h;exact ⟨x,hx,he,by rw [e]⟩
theorem qA (h:s.2.2=0) (hl:s.1≤l.length) {r:List UInt8} {m:Nat} (hm:m<18446744073709551616) (e:l.drop s.1=aE m ++ r):fI l s=(eg s (aE m).length,m):=by
 have hg:bM (l.drop s.1)=(m,(aE m).length,0):=by rw [e];exact k7 m hm r
 unfold fI cN;rw [if_neg (by omega),hg];simp [eg]
theorem AH (h:(fI l s).1.2.2=0) (hl:s.1≤l.length):(fI l s).2<18446744073709551616∧bw l s (aE (fI l s).2) (fI l s).1:=by
 have hp:(cN l s).1.2.2=0:=h;have h0:s.2.2=0:=by
  unfold cN at hp;split at hp
  ·exact hp
  ·omega
 have hv:(bM (l.drop s.1)).2.2=0:=by
  unfold cN at hp;rw [if_neg (by omega)] at hp;split at hp
  ·exact absurd hp (jP (by assumption))
  ·omega
 rcases hg:bM (l.drop s.1) with ⟨m,k,e⟩
 rw [hg] at hv;simp only at hv;subst hv;have hk:=iL hg;have hpe:cN l s=(s,m,k):=by
  unfold cN;rw [if_neg (by omega),hg];simp
 have hvs:fI l s=(eg s k,m):=by
  unfold fI;rw [hpe];rfl
 rw [hvs];refine ⟨hk.1,?_⟩;have e:l.drop s.1=aE m ++ (l.drop s.1).drop k:=by rw [hk.2.2.2.2,List.take_append_drop]
 have:=bw.of h0 hl e;rw [←hk.2.2.2.1] at this;exact this
theorem AI (h:(iw l s).2.2=0):s.1≥l.length∧iw l s=s:=by
 unfold iw at h ⊢;split at h
 ·exact absurd h (jP (by decide))
 ·rename_i h1
  rw [if_neg h1];exact ⟨by omega,rfl⟩
theorem uT (h:l.length≤s.1):iw l s=s:=by
 unfold iw;rw [if_neg (by omega)]
end
theorem cK (c:UInt8):gP [c] true=c.toNat:=by simp [gP,nC]
theorem jQ (a b:UInt8):gP [a,b] true=a.toNat * 256 + b.toNat:=by simp [gP,nC]
theorem mQ {x:List UInt8} (h:x.length=1):∃ c,x=[c]:=by
 match x,h with
 | [c],_=>exact ⟨c,rfl⟩
theorem wQ {x:List UInt8} (h:x.length=2):∃ a b,x=[a,b]:=by
 match x,h with
 | [a,b],_=>exact ⟨a,b,rfl⟩
end Go.Proofs.YtaafkokfdgfabaaGreat
