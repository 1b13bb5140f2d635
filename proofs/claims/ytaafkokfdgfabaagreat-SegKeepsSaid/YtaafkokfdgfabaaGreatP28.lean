import Derived.Test.YtaafkokfdgfabaaGreatP10
import Derived.Lib.AppendStr
set_option maxHeartbeats 8000000
set_option maxRecDepth 100000
set_option linter.unusedVariables false
set_option linter.unusedSimpArgs false
open Nat renaming lt_of_lt_of_le→qq,le_trans→Iz,le_refl→IA
namespace Go.Proofs.YtaafkokfdgfabaaGreat
open Go.RowKit
open Value renaming ownBlock→Iy
structure GU(B:Nat)(w w':World):Prop where
 os:w'.os=w.os
 tape:w'.tape=w.tape
 output:w'.output=w.output
 size:w.heap.size≤w'.heap.size
 block:∀k,k<w.heap.size→(k<B∨∀cs m,w.heap[k]?≠some (.cells cs 5 m))→w'.heap[k]?=w.heap[k]?
section
variable {B:Nat} {w w' w'':World}
theorem GU.refl(B:Nat)(w:World):GU B w w:=⟨rfl,rfl,rfl,IA _,fun _ _ _=>rfl⟩
theorem GU.trans(h:GU B w w')(k:GU B w' w''):GU B w w'' :=
 ⟨k.os.trans h.os,k.tape.trans h.tape,k.output.trans h.output,Iz h.size k.size,fun i hi hc =>
  (k.block i (qq hi h.size) (hc.imp id fun hn=>by rw[h.block i hi (.inr hn)];exact hn)).trans (h.block i hi hc)⟩
theorem GU.of_below(h:Below w.heap.size w w'):GU B w w':=⟨h.os,h.tape,h.output,h.size,fun k hk _=>h.block k hk⟩
theorem GU.drew(w:World):GU B w w.drew:=GU.of_below (Below.refl _ _).drew
theorem GU.alloc(w:World)(o:Obj):GU B w (w.alloc o):=GU.of_below ((Below.refl _ _).alloc (IA _) _)
theorem GU.below(h:GU B w w')(hB:B≤w.heap.size):Below B w w':=⟨h.os,h.tape,h.output,h.size,fun k hk=>h.block k (by omega) (.inl hk)⟩
theorem GU.blk(h:GU B w w'){g:Nat}{t:TypeId}{cs:Array Value}(hb:aj w g t cs)(ht:t≠5):aj w' g t cs:=by
 have h1:=h.block g hb.lt (.inr fun cs' m e=>by
  have e2:w.heap[g]?=some (.cells cs t (0,0)):=hb;rw[e2] at e;injection e with e
  injection e with _ e3
  exact ht e3)
 exact h1.trans hb
theorem GU.of_grown{s n:Nat}{v:Value}{xs:List Value}(ho:w.ownsRow B 5 s v n xs)(hg:w.grownBy w' v.ownBlock):GU B w w':=by
 obtain⟨h1,h2,h3,h4,h5⟩:=hg;refine⟨h1,h2,h3,h4,fun k hk hc=>h5 k hk ?_⟩;rcases ho.2 with ⟨rfl,_⟩|⟨g,cap,cur,rfl,hb,hh,_⟩
 ·simp[Iy]
 ·intro e
  have e':k=g:=by simpa[Iy] using e
  subst e';rcases hc with hc|hc
  ·omega
  ·exact hc _ _ hh
theorem GU.set_(h:GU B w w'){g:Nat}(i:Nat)(u:Value)(hg:w.heap.size≤g):GU B w (w'.setCell ⟨g,i,none⟩ u):=by
 obtain⟨h1,h2,h3,h4,h5⟩:=a8 w' ⟨g,i,none⟩ u;refine⟨h1.trans h.os,h2.trans h.tape,h3.trans h.output,Iz h.size h4,fun k hk hc=>(h5 k (qq hk h.size) ?_).trans (h.block k hk hc)⟩;intro e;have e':k=g:=by simpa using e
 omega
end
def pu(B:Nat)(w:World)(m:List UInt8)(e:Ending)(w':World):Prop :=
 ∃A' c',e=.returned (.slice A' m.length c')∧w'.ownsRow B 5 1 (.slice A' m.length c') m.length (ab m)∧GU B w w'
theorem qt(l:List UInt8):Lib.strCells ⟨l.toArray⟩=ab l:=by
 simp[Lib.strCells,ab,mD]
