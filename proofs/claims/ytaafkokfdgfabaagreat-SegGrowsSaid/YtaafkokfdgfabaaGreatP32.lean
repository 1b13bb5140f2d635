import Derived.Test.YtaafkokfdgfabaaGreatP9
import Derived.Test.YtaafkokfdgfabaaGreatP10
import Derived.Test.YtaafkokfdgfabaaGreatP12
import Derived.Test.YtaafkokfdgfabaaGreatP22
import Derived.Deep.LoopGhost
set_option maxHeartbeats 8000000
namespace Go.Proofs.YtaafkokfdgfabaaGreat
open Go.RowKit
set_option linter.unusedVariables false
set_option linter.unusedSimpArgs false
theorem de:(Tryz.prog.info? 29).map (·.size)=some 54:=by kernel_rfl
theorem eS:Tryz.prog.underlying 29=some (.struct (Tryz.prog.fieldsOf 29)):=by kernel_rfl
theorem fT (A:Option Addr) (n c:Nat) (f:bc):(aj A n c f).toArray.all (·.oneCell')=true:=all_oneCell_toArray (by
 intro u hu;simp only [aj,dY,ai,List.mem_cons,List.mem_append,List.mem_map,List.mem_nil_iff,or_false] at hu;rcases hu with rfl | rfl | rfl | ⟨z,_,rfl⟩ | rfl | rfl | hu | (rfl | hu) | (rfl | hu) | rfl | rfl | rfl
 all_goals first | rfl | exact ej _ u hu)
structure ko (w wr:World) (base g:Nat) (l:List UInt8) (s:St) (A:Option Addr) (c:Nat) (f:bc):Prop where
 rd:ey wr base g l s
 ok:bY l s
 box:ah wr (w.heap.size + 1) 29 (aj A f.vips.length c f).toArray
 res:ah wr w.heap.size 29 (aj none 0 0 bn).toArray
 row:i8 wr w.heap.size A c f.vips
 bel:Below w.heap.size w wr
 shape:ak f
 hg:w.heap.size≤g
 hbase:w.heap.size≤base
section
variable {w wr w':World} {base g:Nat} {l:List UInt8} {s s':St} {A A':Option Addr} {c c':Nat} {f f':bc}
theorem ey.blk {w:World} (h:ey w base g l s):∃ cs,ah w g 195 cs:=by
 obtain ⟨A,c,hr,_⟩:=h;exact ⟨_,hr⟩
theorem ko.after (h:ko w wr base g l s A c f) (hR:ey w' base g l s') (hok:bY l s') (hg:wr.grownBy w' (some g)):ko w w' base g l s' A c f:=by
 obtain ⟨cs,hrb⟩:=h.rd.blk;have hn:∀ {k:Nat} {cs':Array Value},ah wr k 29 cs'→some k≠some g:=fun hb e=>ah.ne hb hrb (by decide) (by injection e)
 exact ⟨hR,hok,ah.grown h.box hg (hn h.box),ah.grown h.res hg (hn h.res),h.row.grown hrb (by decide) hg,h.bel.grown hg h.bel.size (fun k hk=>by injection hk with hk;have:=h.hg;omega),h.shape,h.hg,h.hbase⟩
theorem ko.below (h:ko w wr base g l s A c f) (hb:Below wr.heap.size wr w'):ko w w' base g l s A c f :=
 ⟨h.rd.below hb,h.ok,ah.below h.box hb h.box.lt,ah.below h.res hb h.res.lt,h.row.below hb,h.bel.trans (hb.mono h.bel.size),h.shape,h.hg,h.hbase⟩
theorem ko.boxed (h:ko w wr base g l s A c f) (hb:ah w' (w.heap.size + 1) 29 (aj A f'.vips.length c f').toArray) (hv:f'.vips=f.vips) (hg:wr.grownBy w' (some (w.heap.size + 1))) (hs:ak f'):ko w w' base g l s A c f':=by
 refine ⟨ey.off h.rd hg h.box (by decide) (by decide),h.ok,hb,ah.grown h.res hg (fun e=>by injection e with e;omega),?_,h.bel.grown hg h.bel.size (fun k hk=>by injection hk with hk;omega),hs,h.hg,h.hbase⟩;rw [hv];exact h.row.grown h.box (by decide) hg
theorem ko.set_ (h:ko w wr base g l s A c f) (k:Nat) (u:Value) (e:(aj A f.vips.length c f).toArray.setIfInBounds k u=(aj A f'.vips.length c f').toArray) (hv:f'.vips=f.vips) (hs:ak f'):ko w (wr.setCell ⟨w.heap.size + 1,k,none⟩ u) base g l s A c f':=by
 refine h.boxed ?_ hv (aV _ ⟨w.heap.size + 1,k,none⟩ u) hs;have:=ah.set_ h.box k u;rw [e] at this;exact this
end
theorem qT {f:bc} (h:ak f) (x:Int):ak { f with size:=x }:=⟨h.vips,h.idle,h.mac,h.four,h.six⟩
theorem xR {f:bc} (h:ak f) (x:Int):ak { f with room:=x }:=⟨h.vips,h.idle,h.mac,h.four,h.six⟩
theorem xS {f:bc} (h:ak f) (x:Int):ak { f with rise:=x }:=⟨h.vips,h.idle,h.mac,h.four,h.six⟩
theorem xT {f:bc} (h:ak f) (x:Int):ak { f with fall:=x }:=⟨h.vips,h.idle,h.mac,h.four,h.six⟩
theorem xU {f:bc} (h:ak f) (x:Int):ak { f with most:=x }:=⟨h.vips,h.idle,h.mac,h.four,h.six⟩
theorem xV {f:bc} (h:ak f) (x:Int):ak { f with keep:=x }:=⟨h.vips,h.idle,h.mac,h.four,h.six⟩
theorem vB {f:bc} (h:ak f) (x:Int):ak { f with batch:=x }:=⟨h.vips,h.idle,h.mac,h.four,h.six⟩
theorem xX {f:bc} (h:ak f) (x:Bool):ak { f with six:=(x,f.six.2) }:=⟨h.vips,h.idle,h.mac,h.four,h.six⟩
theorem xY {f:bc} (h:ak f) (k:Nat) (x:Int):ak { f with idle:=f.idle.set k x }:=⟨h.vips,by simpa using h.idle,h.mac,h.four,h.six⟩
theorem Bg {f:bc} (h:ak f) (x:List UInt8) (hx:x.length=6):ak { f with mac:=x }:=⟨h.vips,h.idle,hx,h.four,h.six⟩
theorem xZ {f:bc} (h:ak f) (x:List UInt8) (hx:x.length=16):ak { f with four:=(f.four.1,x) }:=⟨h.vips,h.idle,h.mac,hx,h.six⟩
theorem Bh {f:bc} (h:ak f) (x:List UInt8) (hx:x.length=16):ak { f with six:=(f.six.1,x) }:=⟨h.vips,h.idle,h.mac,h.four,hx⟩
def tM (w:World) (l:List UInt8) (e:Ending) (w':World):Prop :=
 Below w.heap.size w w'∧(bL l=none→e=.returned (.tuple #[jx none 0 0 bn,.int .i64 3])) ∧
  ∀ f,bL l=some f→∃ A c,e=.returned (.tuple #[jx A f.vips.length c f,.int .i64 0])∧i8 w' w.heap.size A c f.vips∧f.vips.length≤c∧ak f
end Go.Proofs.YtaafkokfdgfabaaGreat
namespace Go.Proofs.YtaafkokfdgfabaaGreat
open Go.RowKit
set_option linter.unusedVariables false
set_option linter.unusedSimpArgs false
theorem EF (l:List UInt8) (s:St):(aJ l s 1 true).2≤255:=by
 have h:=iI l s 0 1;unfold aJ;rw [if_neg (by decide)];show ix (eC l s 0 1).2 true≤255
 match hx:(eC l s 0 1).2,h with
 | [],_=>decide
 | [c],_=>rw [cL];have:=c.toNat_lt;omega
theorem EG (l:List UInt8) (s:St):(aJ l s 2 true).2≤65535:=by
 have h:=iI l s 0 2;unfold aJ;rw [if_neg (by decide)];show ix (eC l s 0 2).2 true≤65535
 match hx:(eC l s 0 2).2,h with
 | [],_=>decide
 | [c],_=>rw [cL];have:=c.toNat_lt;omega
 | [c,d],_=>rw [kB];have:=c.toNat_lt;have:=d.toNat_lt;omega
theorem Ds (l:List UInt8) (s:St):aS (ja l s):=by
 unfold ja bg;split
 ·simp only
  split
  ·assumption
  ·rfl
 ·split
  ·simp only
   split
   ·exact ew (by omega)
   ·rfl
  ·rfl
section
variable {w wr w':World} {base g:Nat} {l:List UInt8} {s s':St} {A A':Option Addr} {c c':Nat} {f f':bc}
theorem ko.other {k:Nat} {cs:Array Value} (h:ko w wr base g l s A c f) (hk:ah wr k 108 cs) (hne:(Value.slice A f.vips.length c).ownBlock≠some k) (hwk:w.heap.size≤k) (hg:wr.grownBy w' (some k)):ko w w' base g l s A c f :=
 ⟨ey.off h.rd hg hk (by decide) (by decide),h.ok,ah.grown h.box hg (fun e=>ah.ne h.box hk (by decide) (by injection e)),ah.grown h.res hg (fun e=>ah.ne h.res hk (by decide) (by injection e)),⟨h.row.1.kept hg (.inr hne),h.row.2⟩,h.bel.grown hg h.bel.size (fun j hj=>by injection hj with hj;omega),h.shape,h.hg,h.hbase⟩
theorem Bi {w w':World} (h:w.grownBy w' none) (k:Nat):w.grownBy w' (some k):=⟨h.os,h.tape,h.output,h.size,fun j hj _=>h.block j hj (by simp)⟩
theorem ko.append {vs:List ct} {v:ct} (h:ko w wr base g l s A c { bn with vips:=vs }) (hown:i8 w' w.heap.size A' c' (vs ++ [v])) (hg:wr.grownBy w' (Value.slice A vs.length c).ownBlock) :
  ko w (w'.setCell ⟨w.heap.size + 1,0,none⟩ (.slice A' (vs.length + 1) c')) base g l s A' c' { bn with vips:=vs ++ [v] }:=by
 have hv:({ bn with vips:=vs }:bc).vips=vs:=rfl;have h1:∃ w2g:Unit,ey w' base g l s∧ah w' (w.heap.size + 1) 29 (aj A vs.length c { bn with vips:=vs }).toArray∧ah w' w.heap.size 29 (aj none 0 0 bn).toArray∧Below w.heap.size w w':=by
  refine ⟨(),?_⟩;rcases h.row.1.2 with ⟨e0,_⟩ | ⟨k,cap,cur,e1,hk,hh,_⟩
  ·rw [hv] at e0
   rw [e0] at hg;have hgn:wr.grownBy w' (some wr.heap.size):=Bi hg _;have hb:Below wr.heap.size wr w':=⟨hg.os,hg.tape,hg.output,hg.size,fun j hj=>hg.block j hj (by simp [Value.ownBlock])⟩
   exact ⟨h.rd.below hb,ah.below h.box hb h.box.lt,ah.below h.res hb h.res.lt,h.bel.trans (hb.mono h.bel.size)⟩
  ·rw [hv] at e1
   rw [e1] at hg;have hgk:wr.grownBy w' (some k):=hg;have hkb:ah wr k 108 cur:=hh;exact ⟨ey.off h.rd hgk hkb (by decide) (by decide),ah.grown h.box hgk (fun e=>ah.ne h.box hkb (by decide) (by injection e)),ah.grown h.res hgk (fun e=>ah.ne h.res hkb (by decide) (by injection e)),h.bel.grown hgk h.bel.size (fun j hj=>by injection hj with hj;omega)⟩
 obtain ⟨_,hrd,hbox,hres,hbel⟩:=h1;have hgs:=aV w' ⟨w.heap.size + 1,0,none⟩ (.slice A' (vs.length + 1) c');refine ⟨ey.off hrd hgs hbox (by decide) (by decide),h.ok,?_,ah.grown hres hgs (fun e=>by injection e with e;have e1:w.heap.size=w.heap.size + 1:=e;omega),?_,hbel.setCell (by simp) _,⟨hown.2,rfl,rfl,rfl,rfl⟩,h.hg,h.hbase⟩
 ·have:=ah.set_ hbox 0 (.slice A' (vs.length + 1) c')
  rw [AH A' (vs.length + 1) c' (vs ++ [v])] at this;show ah _ _ _ (aj A' (vs ++ [v]).length c' _).toArray
  rw [List.length_append];exact this
 ·exact hown.grown hbox (by decide) hgs
theorem ko.appBox {vs:List ct} (h:ko w wr base g l s A c { bn with vips:=vs }) (hg:wr.grownBy w' (Value.slice A vs.length c).ownBlock):ah w' (w.heap.size + 1) 29 (aj A vs.length c { bn with vips:=vs }).toArray:=by
 have hv:({ bn with vips:=vs }:bc).vips=vs:=rfl;rcases h.row.1.2 with ⟨e0,_⟩ | ⟨k,cap,cur,e1,hk,hh,_⟩
 ·rw [hv] at e0
  rw [e0] at hg;exact ah.grown h.box hg (by simp [Value.ownBlock])
 ·rw [hv] at e1
  rw [e1] at hg;have hkb:ah wr k 108 cur:=hh;exact ah.grown h.box hg (fun e=>ah.ne h.box hkb (by decide) (by injection e))
end
theorem Dt {l:List UInt8} {s1 s:St} {many k:Nat} {vs:List ct} (hm:aY l (0,0,0)=(s1,many)) (h64:many≤64) (hk:k<many) (hat:eK l many s1=(eK l (many - k) s).map fun p=>(p.1,vs ++ p.2)) (hv:oy l s=none):bL l=none:=by
 have h1:eK l (many - k) s=none:=by
  rw [show many - k=(many - k - 1) + 1 by omega,eK,hv]
 rw [h1] at hat;unfold bL jE pB;rw [hm];simp only;rw [if_pos h64,hat];rfl
theorem so {l:List UInt8} {s1 s:St} {many k:Nat} {vs:List ct} {v:ct} (hk:k<many) (hat:eK l many s1=(eK l (many - k) s).map fun p=>(p.1,vs ++ p.2)) (hv:oy l s=some v) :
  eK l many s1=(eK l (many - (k + 1)) (kG l s)).map fun p=>(p.1,(vs ++ [v]) ++ p.2):=by
 rw [hat,show many - k=(many - (k + 1)) + 1 by omega,eK,hv];simp only;rcases eK l (many - (k + 1)) (kG l s) with _ | ⟨p1,p2⟩
 ·rfl
 ·simp
end Go.Proofs.YtaafkokfdgfabaaGreat
namespace Go.Proofs.YtaafkokfdgfabaaGreat
open Go.RowKit
set_option linter.unusedVariables false
set_option linter.unusedSimpArgs false
theorem pp (l:List UInt8):∀ (a b:Nat) (s:St),cU l (a + b) s=((cU l b (cU l a s).1).1,(cU l a s).2 ++ (cU l b (cU l a s).1).2)
 | 0,b,s=>by simp [cU]
 | a + 1,b,s=>by
  rw [show a + 1 + b=(a + b) + 1 by omega,cU,pp l a b];simp [cU]
theorem Bj (l:List UInt8) (s:St):cU l 1 s=((aY l s).1,[(aY l s).2]):=rfl
theorem yg (l:List UInt8) (k:Nat) (s:St):cU l (k + 1) s=((aY l (cU l k s).1).1,(cU l k s).2 ++ [(aY l (cU l k s).1).2]):=by
 rw [pp,Bj]
def eb (ms:List Nat):List Int:=0 :: (ms.map Int.ofNat ++ List.replicate (5 - ms.length) 0)
theorem yh {ms:List Nat} (h:ms.length≤5):(eb ms).length=6:=by simp [eb];omega
theorem qU {ms:List Nat} (h:ms.length<5) (m:Nat):(eb ms).set (1 + ms.length) (m:Int)=eb (ms ++ [m]):=by
 unfold eb;rw [show 1 + ms.length=ms.length + 1 by omega,List.set_cons_succ,List.set_append_right _ _ (by simp)];rw [show 5 - ms.length=(5 - (ms.length + 1)) + 1 by omega,List.replicate_succ];simp
theorem vC {ms:List Nat} (h:ms.length=5):eb ms=0 :: ms.map Int.ofNat:=by simp [eb,h]
theorem g9 (l:List UInt8) (s:St):(aY l s).2≤1048577:=Nat.min_le_right _ _
end Go.Proofs.YtaafkokfdgfabaaGreat
namespace Go.Proofs.YtaafkokfdgfabaaGreat
open Go.RowKit
set_option linter.unusedVariables false
set_option linter.unusedSimpArgs false
def qV (vs:List ct) (m1 m2:Nat) (ms:List Nat) (m8 m9:Nat) (x1 x2 x3:List UInt8) (k1 k2 k3:Nat):bc :=
 { vips:=vs,size:=(m1:Int),room:=(m2:Int),idle:=eb ms,rise:=(m8:Int),fall:=(m9:Int),mac:=dR x1 6,four:=(false,dR x2 16),six:=(true,dR x3 16),most:=(k1:Int),keep:=(k2:Int),batch:=(k3:Int) }
theorem Bk {l:List UInt8} {s t1 t2 t3 t4 t5:St} {m1 m2 m8 m9:Nat} {ms:List Nat} (h1:aY l s=(t1,m1)) (h2:aY l t1=(t2,m2)) (h3:cU l 5 t2=(t3,ms)) (h4:aY l t3=(t4,m8)) (h5:aY l t4=(t5,m9)) :
  cU l 9 s=(t5,m1 :: m2 :: (ms ++ [m8,m9])):=by
 have e:cU l (5 + 2) t2=(t5,ms ++ [m8,m9]):=by
  rw [pp,h3];simp only [cU,h4,h5]
 rw [show (9:Nat)=(5 + 2) + 1 + 1 from rfl];simp only [cU,h1,h2];rw [show (5:Nat) + 2=7 from rfl] at e;simp only [cU] at e;obtain ⟨e1,e2⟩:=Prod.mk.inj e;rw [e1,←e2]
theorem FR {l:List UInt8} {s1 s t1 t2 t3 t4 t5 u1 u2 u3 v1 v2 v3:St} {many m1 m2 m8 m9 k1 k2 k3:Nat} {ms:List Nat} {vs:List ct} {x1 x2 x3:List UInt8}
  (hm:aY l (0,0,0)=(s1,many)) (hmv:pB l (s1,many)=some (s,vs)) (h1:aY l s=(t1,m1)) (h2:aY l t1=(t2,m2)) (h3:cU l 5 t2=(t3,ms)) (h4:aY l t3=(t4,m8)) (h5:aY l t4=(t5,m9))
  (a1:a8 l t5 6=(u1,x1)) (a2:a8 l u1 4=(u2,x2)) (a3:a8 l u2 16=(u3,x3)) (b1:aY l u3=(v1,k1)) (b2:aY l v1=(v2,k2)) (b3:aY l v2=(v3,k3)) :
  bL l=if (iZ l v3).2.1=0∧(iZ l v3).2.2=0∧vs.length=many∧bH (qV vs m1 m2 ms m8 m9 x1 x2 x3 k1 k2 k3)=true then some (qV vs m1 m2 ms m8 m9 x1 x2 x3 k1 k2 k3) else none:=by
 have hl5:ms.length=5:=by have:=my l 5 t2;rw [h3] at this;exact this
 have hz:cU l 3 u3=(v3,[k1,k2,k3]):=by simp only [cU,b1,b2,b3]
 have hb:dA l s vs=(v3,qV vs m1 m2 ms m8 m9 x1 x2 x3 k1 k2 k3):=by
  unfold dA;rw [Bk h1 h2 h3 h4 h5];simp only;rw [a1];simp only;rw [a2];simp only;rw [a3];simp only;rw [hz];simp only [qV,ki,vC hl5];obtain ⟨z1,z2,z3,z4,z5,rfl⟩:∃ z1 z2 z3 z4 z5,ms=[z1,z2,z3,z4,z5]:=by
   match ms,hl5 with
   | [z1,z2,z3,z4,z5],_=>exact ⟨z1,z2,z3,z4,z5,rfl⟩
  rfl
 unfold bL jE;rw [hm];simp only;rw [hmv];simp only;rw [hb];rfl
theorem tO {l:List UInt8} {s u:St} {n:Nat} {x:List UInt8} (h:a8 l s n=(u,x)):x.length≤n:=by
 have:(a8 l s n).2.length≤n:=by
  unfold a8;split
  ·exact Nat.zero_le _
  ·have:=iI l s 0 n
   simpa using this
 rw [h] at this;exact this
theorem yj (base g:Nat) (l:List UInt8) (s:St) (w:World) (h:ey w base g l s) :
  Calls Tryz.prog 93 #[.pointer (some ⟨g,0,none⟩)] w fun e w'=>e=.returned (.agg #[.int .i64 (s.2.1:Int),.int .i64 (s.2.2:Int)])∧Below w.heap.size w w':=by
 obtain ⟨A,c,hr,_⟩:=h;exact ec g A l.length c s.1 s.2.1 s.2.2 w hr
section
variable {w wr:World} {base g:Nat} {l:List UInt8} {s:St} {A:Option Addr} {c:Nat} {f:bc}
theorem ko.thereR (h:ko w wr base g l s A c f):wr.there w.heap.size 0 54:=h.res.there (by decide)
theorem ko.thereF (h:ko w wr base g l s A c f):wr.there w.heap.size 0 (aj A f.vips.length c f).toArray.size:=by
 have e:(aj A f.vips.length c f).toArray.size=54:=by simpa using dH (A:=A) (n:=f.vips.length) (c:=c) h.shape
 rw [e];exact h.thereR
theorem ko.badBlk (h:ko w wr base g l s A c f):ah (wr.setCells w.heap.size 0 (aj none 0 0 bn)) w.heap.size 29 (aj none 0 0 bn).toArray:=by
 have:=ah.setCells (aj none 0 0 bn) 0 h.res;rw [aW rfl] at this;exact this
theorem ko.bad (h:ko w wr base g l s A c f) (hno:bL l=none):tM w l (.returned (.tuple #[.agg (aj none 0 0 bn).toArray,.int .i64 3])) (wr.setCells w.heap.size 0 (aj none 0 0 bn)) :=
 ⟨ba (Nat.le_refl _) _ _ h.bel,fun _=>rfl,fun f hf=>by rw [hno] at hf;cases hf⟩
theorem ko.goodBlk (h:ko w wr base g l s A c f):ah (wr.setCells w.heap.size 0 (aj A f.vips.length c f)) w.heap.size 29 (aj A f.vips.length c f).toArray:=by
 have:=ah.setCells (aj A f.vips.length c f) 0 h.res;rw [aW (by rw [dH h.shape,dH gW])] at this;exact this
theorem ko.good (h:ko w wr base g l s A c f) (hyes:bL l=some f):tM w l (.returned (.tuple #[.agg (aj A f.vips.length c f).toArray,.int .i64 0])) (wr.setCells w.heap.size 0 (aj A f.vips.length c f)):=by
 refine ⟨ba (Nat.le_refl _) _ _ h.bel,(fun e=>by rw [hyes] at e;cases e),?_⟩;intro f' hf;rw [hyes] at hf;injection hf with hf
 subst hf;exact ⟨A,c,rfl,h.row.grown h.res (by decide) (aT _ w.heap.size 0 _ 0 (World.grownBy.refl _ _)),gI h.row.1,h.shape⟩
end
theorem tP {f:bc} (h:ak f) (x:List UInt8) (hx:x.length≤6):ak { f with mac:=dR x 6 }:=Bg h _ (ew hx)
theorem rB {f:bc} (h:ak f) (x:List UInt8) (hx:x.length≤16):ak { f with four:=(f.four.1,dR x 16) }:=xZ h _ (ew hx)
theorem tQ {f:bc} (h:ak f) (x:List UInt8) (hx:x.length≤16):ak { f with six:=(f.six.1,dR x 16) }:=Bh h _ (ew hx)
end Go.Proofs.YtaafkokfdgfabaaGreat
namespace Go.Proofs.YtaafkokfdgfabaaGreat
open Go.RowKit
set_option linter.unusedVariables false
set_option linter.unusedSimpArgs false
def pZ (w wr:World) (g:Nat) (cfg:Array Value) (A:Option Addr) (c:Nat) (m:List UInt8):Prop :=
 ah wr g 29 cfg∧wr.ownsRow w.heap.size 5 1 (.slice A m.length c) m.length (ab m)∧Below w.heap.size w wr
section
variable {w wr w':World} {g:Nat} {cfg:Array Value} {A A':Option Addr} {c c':Nat} {m m':List UInt8}
theorem pZ.below (h:pZ w wr g cfg A c m) (hb:Below wr.heap.size wr w'):pZ w w' g cfg A c m :=
 ⟨ah.below h.1 hb h.1.lt,ay h.2.1 hb,h.2.2.trans (hb.mono h.2.2.size)⟩
theorem pZ.alloc (h:pZ w wr g cfg A c m) (o:Obj):pZ w (wr.alloc o) g cfg A c m:=h.below ((Below.refl _ _).alloc (Nat.le_refl _) o)
theorem pZ.ne (h:pZ w wr g cfg A c m):some g≠(Value.slice A m.length c).ownBlock:=by
 rcases aK h.2.1 h.1 (by decide) with h1 | h1
 ·rw [h1];simp
 ·exact fun e=>h1 e.symm
theorem pZ.ne0 (h:pZ w wr g cfg A c m):(Value.slice A 0 0).ownBlock≠some g:=by
 rw [←jl A m.length c];exact fun e=>h.ne e.symm
theorem pZ.neNew (h:pZ w wr g cfg A c m):(Value.slice A 0 0).ownBlock≠some wr.heap.size:=by
 rw [←jl A m.length c];intro e;have:=(h.2.1.lt _ e).2;omega
theorem pZ.grow (h:pZ w wr g cfg A c m) (hg:wr.grownBy w' (Value.slice A m.length c).ownBlock) (hown:w'.ownsRow w.heap.size 5 1 (.slice A' m'.length c') m'.length (ab m')):pZ w w' g cfg A' c' m' :=
 ⟨ah.grown h.1 hg h.ne,hown,h.2.2.grown hg h.2.2.size (fun k hk=>(h.2.1.lt k hk).1)⟩
theorem pZ.grow0 (h:pZ w wr g cfg A c m) (hg:wr.grownBy w' (Value.slice A 0 0).ownBlock) (hown:w'.ownsRow w.heap.size 5 1 (.slice A' m'.length c') m'.length (ab m')):pZ w w' g cfg A' c' m' :=
 h.grow (by rw [jl];exact hg) hown
end
theorem NS.lit (w:World) (ns:List Nat) (cs:Array Value) (h:cs=(ns.map fun n:Nat=>Value.int .i64 (n:Int)).toArray) (t:TypeId):NS (w.alloc (.cells cs t)) ⟨w.heap.size,0,none⟩ ns:=fun j n hj=>by
 subst h;rw [show (⟨w.heap.size,0,none⟩:Addr).add j=⟨w.heap.size,j,none⟩ by unfold Addr.add;split <;> simp_all,cell_of_row _ _ j _ t (0,0) (heap_alloc_new w _)];simp [hj]
theorem Bn:(Tryz.prog.info? 29).map (·.size)=some 54:=by kernel_rfl
theorem EH {v:ct} (h:aS v.1):(bU v).length≤21:=by
 have hl:v.1.2.length=16:=h;unfold bU bD;split <;> simp <;> omega
theorem oH:∀ (vs:List ct),(∀ v ∈ vs,aS v.1)→(vs.flatMap bU).length≤21 * vs.length
 | [],_=>by simp
 | v :: vs,h=>by
  have h1:=EH (h v (by simp));have h2:=oH vs (fun u hu=>h u (by simp [hu]));rw [List.flatMap_cons,List.length_append,List.length_cons];omega
theorem Bo (vs:List ct) (k:Nat) (v:ct) (h:vs[k]?=some v):(vs.take (k + 1)).flatMap bU=(vs.take k).flatMap bU ++ bU v:=by
 rw [List.take_add_one,h];simp
set_option maxRecDepth 100000 in
theorem Dv (A:Option Addr) (n c:Nat) (f:bc) (hf:ak f) (w:World) (hn:n=f.vips.length) (hnc:n≤c) (hb:VS w w.heap.size A f.vips) (hl:n≤1000000) :
  Calls Tryz.prog 30 #[jx A n c f] w fun e w'=>Below w.heap.size w w' ∧
   (bH f=false→e=.returned (.tuple #[.slice none 0 0,.int .i64 1])) ∧
   (bH f=true→∃ A' c',e=.returned (.tuple #[.slice A' (bK f).length c',.int .i64 0])∧w'.ownsRow w.heap.size 5 1 (.slice A' (bK f).length c') (bK f).length (ab (bK f))):=by
 subst hn;unfold jx;obtain ⟨i0,hi0,hz0,hz1,hz2⟩:=info_parts cC;obtain ⟨W,hW⟩:∃ W,W=w.alloc (.cells (aj A f.vips.length c f).toArray 29):=⟨_,rfl⟩
 have hX:ah W w.heap.size 29 (aj A f.vips.length c f).toArray:=by rw [hW];exact ah.new w _ _ _ rfl
 have hB:Below w.heap.size w W:=by rw [hW];exact (Below.refl _ _).alloc (Nat.le_refl _) _
 have hright:=pl A _ c f hf W rfl hnc ((hb.below hB).more hB.size) hl;unfold jx at hright;have Hright:=Lib.hid hright;have HRc:=Lib.hid (ae hX);have HW:=Lib.hid hW;have HX:=Lib.hid hX;have HB:=Lib.hid hB;have HV:=Lib.hid hb;have Hcsz:Hid ((Tryz.prog.info? 29).map (·.size)=some (aj A f.vips.length c f).length):=by show _=_;rw [dH hf];exact Bn
 clear hW hX hB hb hright;rcases hr:bH f with _ | _
 ·rw [hr] at Hright
  clear hr;go_enter Tryz.func30,Tryz.ntmps30
  go_upto_region 1 with fail
  rw [←HW.out]
  go_wp2_with (first
   | ((with_reducible refine aE 29 ?_);refine aa (by rfl) 29 (.tmp 1) rfl w.heap.size 0 rfl (aj A f.vips.length c f) _ HRc.out Tryz.underlying29 rfl Hcsz.out ?_))
  refine Hright.out.mono ?_;rintro e w2 ⟨rfl,hb2⟩
  go_wp2
  go_ret2
  exact ⟨HB.out.trans (hb2.mono HB.out.size),fun _=>rfl,fun h=>by cases h⟩
 ·rw [hr] at Hright
  have hrc:=fQ.1 hr;have Hrc:=Lib.hid hrc;have hv64:=(kH hrc.vips).1;have hvR:Hid (∀ v ∈ f.vips,n0 v=true):=(kH hrc.vips).2;have Hr:=Lib.hid hr;clear hr hrc;go_enter Tryz.func30,Tryz.ntmps30
  go_upto_region 1 with fail
  rw [←HW.out]
  go_wp2_with (first
   | ((with_reducible refine aE 29 ?_);refine aa (by rfl) 29 (.tmp 1) rfl w.heap.size 0 rfl (aj A f.vips.length c f) _ HRc.out Tryz.underlying29 rfl Hcsz.out ?_))
  refine Hright.out.mono ?_;rintro e w2 ⟨rfl,hb2⟩;have h0:pZ w w2 w.heap.size (aj A f.vips.length c f).toArray none 0 []:=⟨ah.below HX.out hb2 HX.out.lt,World.ownsRow_nil _ _ _ _,HB.out.trans (hb2.mono HB.out.size)⟩
  have c0:=lH h0.1;have H0:=Lib.hid h0;clear h0 hb2 Hright HRc HX HB HW
  go_wp2_with fail
  obtain ⟨W3,hW3⟩:∃ W3,W3=w2.alloc (.cells #[.int .i64 (f.vips.length:Int)] 3):=⟨_,rfl⟩
  rw [←hW3];have h3:pZ w W3 w.heap.size (aj A f.vips.length c f).toArray none 0 []:=by rw [hW3];exact H0.out.alloc _
  have hns:NS W3 ⟨w2.heap.size,0,none⟩ [f.vips.length]:=by rw [hW3];exact NS.lit w2 _ _ rfl _
  have hlt:w2.heap.size<W3.heap.size:=by rw [hW3];simp
  refine (iS w.heap.size none 0 [] ⟨w2.heap.size,0,none⟩ 1 1 [f.vips.length] W3 rfl h3.2.1 hns hlt (by simp [Value.ownBlock]) (by intro n hn;simp at hn;omega) (by simp) (by simp) h3.2.2.size).mono ?_;rintro e w4 ⟨A4,c4,rfl,hown4,_,hg4⟩;have h4:=h3.grow0 hg4 hown4;obtain ⟨m0,hm0⟩:∃ m0,m0=([]:List UInt8) ++ aN [f.vips.length]:=⟨_,rfl⟩
  rw [←hm0] at h4 ⊢;have hm0l:m0.length≤10:=by
   rw [hm0];have:=ii (ns:=[f.vips.length]) (by intro n hn;simp at hn;omega);simpa using this
  have Hm0:Hid (m0=aI f.vips.length):=by show _=_;rw [hm0];simp [aN]
  have H4:=Lib.hid h4;have c4':=lH h4.1;clear h3 hns hlt hown4 hg4 h4 hW3 H0 c0 hm0
  go_wp2_with fail
  clear c4';go_loopw [4,19] (fun v i wr=>∃ (k:Nat) (A':Option Addr) (c':Nat),k≤f.vips.length∧i=.int .i64 (k:Int)∧v=.slice A' (m0 ++ (f.vips.take k).flatMap bU).length c'∧Hid (pZ w wr w.heap.size (aj A f.vips.length c f).toArray A' c' (m0 ++ (f.vips.take k).flatMap bU))) (fun _ i _=>f.vips.length - (intOf i).toNat)
  case atStart=>exact ⟨0,A4,c4,by omega,rfl,by simp,by have:=H4;simpa using this⟩
  case round =>
   obtain ⟨k,A',c',hk,rfl,rfl,hat⟩:=hrel;by_cases hlt:k<f.vips.length
   ·have hltI:(k:Int)<(f.vips.length:Int):=by omega
    have hk0:(0:Int)≤(k:Int):=by omega
    obtain ⟨b,o,hA,hbB,hc⟩:=(HV.out.below hat.out.2.2) (by omega);subst hA;obtain ⟨x,hx⟩:∃ x,x=f.vips[k]:=⟨_,rfl⟩
    have hx?:f.vips[k]?=some x:=by rw [List.getElem?_eq_getElem hlt,hx]
    have hrg:=hc k x hx?;have hxo:aS x.1:=hf.vips x (by rw [hx];exact List.getElem_mem hlt);have hxr:n0 x=true:=hvR.out x (by rw [hx];exact List.getElem_mem hlt);obtain ⟨m,hm⟩:∃ m,m=m0 ++ (f.vips.take k).flatMap bU:=⟨_,rfl⟩
    have hm2:m0 ++ (f.vips.take (k + 1)).flatMap bU=m ++ bU x:=by rw [Bo _ _ _ hx?,←List.append_assoc,←hm]
    have hml:m.length≤1400:=by
     have:=oH (f.vips.take k) (fun v hv=>hf.vips v (List.mem_of_mem_take hv));rw [hm,List.length_append];rw [List.length_take] at this;omega
    rw [←hm] at hat ⊢;have Hm2:=Lib.hid hm2;have Hrg:=Lib.hid hrg;have Hsz:=Lib.hid (kV hxo);have Hasz:=Lib.hid (fX hxo);have Hxr:=Lib.hid hxr;clear hc hrg hx hx? hm hm2 hxr;have hszr:w.heap.size≤wr.heap.size:=hat.out.2.2.size;obtain ⟨W0,hW0⟩:∃ W0,W0=wr.alloc (.cells (aQ jN).toArray 108):=⟨_,rfl⟩
    have hX0:ah W0 wr.heap.size 108 (aQ jN).toArray:=by rw [hW0];exact ah.new _ _ _ _ rfl
    have Hth:Hid (W0.there wr.heap.size 0 (aQ x).toArray.size):=hX0.there (by rw [jv,List.size_toArray,dw hxo];decide);have HW0:=Lib.hid hW0;have HX0:=Lib.hid hX0;clear hW0 hX0;rw [jv] at HW0;go_upto_region 7 with (first
     | ((with_reducible refine aE 108 ?_);refine aa (by rfl) 108 (.tmp 21) rfl b (o + k * 20) rfl (aQ x) _ Hrg.out Tryz.underlying108 rfl Hsz.out ?_)
     | (rw [←HW0.out]
        (with_reducible refine aM 108 ?_)
        refine wpList_store_mid rfl 108 (.tmp 6) (.tmp 22) rfl wr.heap.size 0 (aQ x).toArray rfl rfl Hth.out Hsz.out (iK x) ?_))
    obtain ⟨W1,hW1⟩:∃ W1,W1=W0.setCells wr.heap.size 0 (aQ x):=⟨_,rfl⟩
    have hX1:ah W1 wr.heap.size 108 (aQ x).toArray:=by
     rw [hW1];have:=ah.setCells (aQ x) 0 HX0.out;rw [aW (by rw [dw hxo];rfl)] at this;exact this
    have hbW:Below wr.heap.size wr W1:=by rw [hW1,HW0.out];exact ba (Nat.le_refl _) _ _ ((Below.refl _ _).alloc (Nat.le_refl _) _)
    have h1:=hat.out.below hbW;rw [←hW1];have c17:W1.cell? ⟨wr.heap.size,17,none⟩=some (.int .i64 x.2.1):=em hxo hX1 0;have c18:W1.cell? ⟨wr.heap.size,18,none⟩=some (.int .i64 x.2.2.1):=em hxo hX1 1;have c19:W1.cell? ⟨wr.heap.size,19,none⟩=some (.bool x.2.2.2):=em hxo hX1 2;have hput:=um x.1 hxo W1;unfold lN at hput;have Hput:=Lib.hid hput;have H1:=Lib.hid h1;have HX1:=Lib.hid hX1;have HR1:=Lib.hid (iJ hX1);clear hW1 hX1 hbW h1 hput Hth HX0 HW0 Hrg hat;rcases htun:x.2.2.2 with _ | _
    all_goals
     rw [htun] at c19;have Htun:=Lib.hid htun;clear htun
     go_wp2_with (first
      | ((with_reducible refine aE 27 ?_);refine aa (by rfl) 27 (.tmp 26) rfl wr.heap.size 0 rfl (ai x.1) _ HR1.out Tryz.underlying27 rfl Hasz.out ?_))
     refine Hput.out.mono ?_;rintro e w5 ⟨A2,c2,rfl,hown2,hb2⟩;have h2:=H1.out.below hb2;have hX2:=ah.below HX1.out hb2 HX1.out.lt;have hsz2:=h2.2.2.size;have hml2:m.length + (bD x.1).length≤1440:=by
      have hl16:x.1.2.length=16:=hxo;unfold bD;split <;> simp <;> omega
     have Hown:=Lib.hid h2.2.1;have HB2:=Lib.hid (BS.of_own hown2).1;have H2:=Lib.hid h2;have HX2:=Lib.hid hX2;clear hown2 hb2 h2 hX2 c17 c18 c19 Hput H1 HX1 HR1;go_upto_region 11 with (at_builtin;refine av _ rfl _ _ 43 rfl w.heap.size 5 i0 (.int .u8 0) 1 Tryz.underlying43 hi0 hz0 hz1 hz2 rfl (.slice A' m.length c') m rfl Hown.out _ A2 _ c2 (bD x.1) rfl rfl HB2.out (by unfold maxLen;omega) (by omega) hsz2 ?_;intro A6 c6 w6 hown6 hg6 hob6)
     have h3:=H2.out.grow hg6 hown6;have hX3:=ah.grown HX2.out hg6 (by
      rcases aK H2.out.2.1 HX2.out (by decide) with h | h
      ·rw [h];simp
      ·exact fun e=>h e.symm)
     have c17:w6.cell? ⟨wr.heap.size,17,none⟩=some (.int .i64 x.2.1):=em hxo hX3 0;have c18:w6.cell? ⟨wr.heap.size,18,none⟩=some (.int .i64 x.2.2.1):=em hxo hX3 1;have H3:=Lib.hid h3;have hsz3:=h3.2.2.size;clear h3 hX3 hown6 hg6 hob6 H2 HX2 Hown HB2;obtain ⟨m1,hm1⟩:∃ m1,m1=m ++ bD x.1:=⟨_,rfl⟩
     have hm1l:m1.length≤1440:=by rw [hm1,List.length_append];exact hml2
     rw [←hm1] at H3;rw [←List.length_append,←hm1];have hp0:0≤x.2.1∧x.2.1≤17:=by
      have:=Hxr.out;simp only [n0,Bool.and_eq_true,Bool.or_eq_true,beq_iff_eq] at this;omega
     have hq0:1≤x.2.2.1∧x.2.2.1≤65535:=by
      have:=Hxr.out;simp only [n0,Bool.and_eq_true,n9] at this;exact this.2
     have hu1:x.2.1 % 256=((UInt8.ofNat x.2.1.toNat).toNat:Int):=by rw [UInt8.toNat_ofNat'];omega
     have hu2:x.2.2.1 / 256 % 256=((UInt8.ofNat (x.2.2.1.toNat / 256)).toNat:Int):=by rw [UInt8.toNat_ofNat'];omega
     have hu3:x.2.2.1 % 256=((UInt8.ofNat x.2.2.1.toNat).toNat:Int):=by rw [UInt8.toNat_ofNat'];omega
     obtain ⟨L4,hL4⟩:∃ L4,L4=[UInt8.ofNat x.2.1.toNat,UInt8.ofNat (x.2.2.1.toNat / 256),UInt8.ofNat x.2.2.1.toNat,if x.2.2.2 then 1 else 0]:=⟨_,rfl⟩
     have hL4l:L4.length=4:=by rw [hL4];rfl
     have Hcs:Hid (#[.int .u8 (x.2.1 % 256),.int .u8 (x.2.2.1 / 256 % 256),.int .u8 (x.2.2.1 % 256),.int .u8 (if x.2.2.2 then 1 else 0)]=(ab L4).toArray):=by
      show _=_
      rw [hu1,hu2,hu3,hL4,Htun.out];rfl
     rw [Htun.out] at Hcs;simp only [reduceIte,Bool.false_eq_true] at Hcs;have HM:Hid (m ++ bU x=m1 ++ L4):=by show _=_;rw [hm1,hL4,List.append_assoc];rfl
     have HL4l:=Lib.hid hL4l;clear hu1 hu2 hu3 hL4 hm1 hL4l hp0 hq0
     go_wp2_with (at_builtin;refine av _ rfl _ _ 43 rfl w.heap.size 5 i0 (.int .u8 0) 1 Tryz.underlying43 hi0 hz0 hz1 hz2 rfl (.slice A6 m1.length c6) m1 rfl (ay H3.out.2.1 ((Below.refl _ _).alloc (Nat.le_refl _) _)) _ (some ⟨w6.heap.size,0,none⟩) 4 4 L4 rfl HL4l.out.symm (BS.lit w6 L4 _ Hcs.out _ _) (by rw [HL4l.out];unfold maxLen;omega) (by rw [HL4l.out];omega) (by rw [show (w6.alloc _).heap.size=w6.heap.size + 1 by simp];omega) ?_;intro A7 c7 w7 hown7 hg7 hob7)
     have h7:=(H3.out.alloc _).grow hg7 hown7;rw [←HM.out,←Hm2.out] at h7;have H7:=Lib.hid h7;have Hlen:Hid ((m0 ++ (f.vips.take (k + 1)).flatMap bU).length=m1.length + L4.length):=by show _=_;rw [Hm2.out,HM.out,List.length_append]
     clear h7 hown7 hg7 hob7 H3 c17 c18;go_roundw
     case rel=>exact ⟨k + 1,A7,c7,by omega,by go_num,by rw [Hlen.out],H7⟩
     case measure=>simp [intOf];omega
   ·have hltI:¬ (k:Int)<(f.vips.length:Int):=by omega
    have hkn:f.vips.take k=f.vips:=List.take_of_length_le (by omega);rw [hkn] at hat ⊢;obtain ⟨m,hm⟩:∃ m,m=m0 ++ f.vips.flatMap bU:=⟨_,rfl⟩
    have hml:m.length≤1400:=by
     have:=oH f.vips hf.vips;rw [hm,List.length_append];omega
    rw [←hm] at hat ⊢;have Hm:Hid (m=aI f.vips.length ++ f.vips.flatMap bU):=by show _=_;rw [hm,Hm0.out]
    clear hm hkn;obtain ⟨x4,hx4⟩:∃ x4,x4=f.four.2.take 4:=⟨_,rfl⟩
    have hx4l:x4.length=4:=by have:f.four.2.length=16:=hf.four;rw [hx4];simp [this]
    have h6l:f.six.2.length=16:=hf.six;have hmac6:f.mac.length=6:=hf.mac;obtain ⟨is,his⟩:∃ is,is=(f.idle.drop 1).map Int.toNat:=⟨_,rfl⟩
    have hisl:is.length=5:=by rw [his];simp [hf.idle]
    obtain ⟨n1,hn1⟩:∃ n1,n1=f.size.toNat:=⟨_,rfl⟩
    obtain ⟨n2,hn2⟩:∃ n2,n2=f.room.toNat:=⟨_,rfl⟩
    obtain ⟨n3,hn3⟩:∃ n3,n3=f.rise.toNat:=⟨_,rfl⟩
    obtain ⟨n4,hn4⟩:∃ n4,n4=f.fall.toNat:=⟨_,rfl⟩
    obtain ⟨n5,hn5⟩:∃ n5,n5=f.most.toNat:=⟨_,rfl⟩
    obtain ⟨n6,hn6⟩:∃ n6,n6=f.keep.toNat:=⟨_,rfl⟩
    obtain ⟨n7,hn7⟩:∃ n7,n7=f.batch.toNat:=⟨_,rfl⟩
    have hr:=Hrc.out;have hr1:=hr.size;have hr2:=hr.room;have hr3:=hr.rise;have hr4:=hr.fall;have hr5:=hr.most;have hr6:=hr.keep;have hr7:=hr.batch;have hb1:n1≤1048577:=by omega
    have hb2:n2≤1048577:=by omega
    have hb3:n3≤1048577:=by omega
    have hb4:n4≤1048577:=by omega
    have hb5:n5≤1048577:=by omega
    have hb6:n6≤1048577:=by omega
    have hb7:n7≤1048577:=by omega
    have his64:Hid (∀ n ∈ is,n<9223372036854775808):=fun n hn=>by
     rw [his,List.mem_map] at hn;obtain ⟨z,hz,rfl⟩:=hn;have:=(jn hr.idle).2 z (List.mem_of_mem_drop hz);omega
    have HI:Hid (∀ w',ah w' w.heap.size 29 (aj A f.vips.length c f).toArray→NS w' ⟨w.heap.size,4,none⟩ is):=fun w' h j n hj=>by
     rw [show (⟨w.heap.size,4,none⟩:Addr).add j=⟨w.heap.size,3 + (1 + j),none⟩ by unfold Addr.add;split <;> simp_all <;> omega];have hj5:j<5:=by rw [←hisl];exact (List.getElem?_eq_some_iff.1 hj).1
     rw [sS h hf (by omega)];rw [his,List.getElem?_map,List.getElem?_drop] at hj;rcases hz:f.idle[1 + j]? with _ | z
     ·rw [hz] at hj;cases hj
     ·rw [hz] at hj
      simp only [Option.map_some,Option.some.injEq] at hj ⊢;have:=(jn hr.idle).2 z (List.mem_of_getElem? hz);rw [←hj,iv,Int.toNat_of_nonneg this.1]
    have HC:Hid (∀ w',ah w' w.heap.size 29 (aj A f.vips.length c f).toArray→w'.cell? ⟨w.heap.size,1,none⟩=some (.int .i64 (n1:Int))∧w'.cell? ⟨w.heap.size,2,none⟩=some (.int .i64 (n2:Int))∧w'.cell? ⟨w.heap.size,9,none⟩=some (.int .i64 (n3:Int))∧w'.cell? ⟨w.heap.size,10,none⟩=some (.int .i64 (n4:Int))∧w'.cell? ⟨w.heap.size,51,none⟩=some (.int .i64 (n5:Int))∧w'.cell? ⟨w.heap.size,52,none⟩=some (.int .i64 (n6:Int))∧w'.cell? ⟨w.heap.size,53,none⟩=some (.int .i64 (n7:Int))):=fun w' h=>by
     have e1:((n1:Nat):Int)=f.size:=by omega
     have e2:((n2:Nat):Int)=f.room:=by omega
     have e3:((n3:Nat):Int)=f.rise:=by omega
     have e4:((n4:Nat):Int)=f.fall:=by omega
     have e5:((n5:Nat):Int)=f.most:=by omega
     have e6:((n6:Nat):Int)=f.keep:=by omega
     have e7:((n7:Nat):Int)=f.batch:=by omega
     rw [e1,e2,e3,e4,e5,e6,e7];exact ⟨nT h,nU h,nV h hf,nW h hf,nY h hf,nZ h hf,lR h hf⟩
    have HBs:Hid (∀ w',ah w' w.heap.size 29 (aj A f.vips.length c f).toArray→BS w' w'.heap.size (some ⟨w.heap.size,11,none⟩) f.mac∧BS w' w'.heap.size (some ⟨w.heap.size,18,none⟩) x4∧BS w' w'.heap.size (some ⟨w.heap.size,35,none⟩) f.six.2):=fun w' h=>by
     have hadd:∀ (o j:Nat),(⟨w.heap.size,o,none⟩:Addr).add j=⟨w.heap.size,o + j,none⟩:=fun o j=>by unfold Addr.add;split <;> simp_all
     refine ⟨fun hp=>⟨_,rfl,h.lt,fun j u hj=>?_⟩,?_,fun hp=>⟨_,rfl,h.lt,fun j u hj=>?_⟩⟩
     ·rw [hadd]
      have:=sU h hf j (rm u) (by rw [ab,List.getElem?_map,hj];rfl);exact this
     ·rw [hx4]
      refine BS.take (fun hp=>⟨_,rfl,h.lt,fun j u hj=>?_⟩) 4;rw [hadd];have:=nX h hf (1 + j) (rm u) (by rw [ai,show 1 + j=j + 1 by omega,List.getElem?_cons_succ,ab,List.getElem?_map,hj];rfl);rw [show 18 + j=17 + (1 + j) by omega];exact this
     ·rw [hadd]
      have:=sV h hf (1 + j) (rm u) (by rw [ai,show 1 + j=j + 1 by omega,List.getElem?_cons_succ,ab,List.getElem?_map,hj];rfl);rw [show 35 + j=34 + (1 + j) by omega];exact this
    have HCN:Hid (dy f=[n1,n2] ++ (is ++ [n3,n4])):=by show _=_;unfold dy;rw [hn1,hn2,hn3,hn4,his];rfl
    have HCL:Hid (dP f=[n5,n6,n7]):=by show _=_;unfold dP;rw [hn5,hn6,hn7]
    have Hx4:=Lib.hid hx4;have Hr4:=Lib.hid hx4l;have Hr6:=Lib.hid h6l;have Hrm:=Lib.hid hmac6;have Hisl:=Lib.hid hisl;clear hr hr1 hr2 hr3 hr4 hr5 hr6 hr7 hn1 hn2 hn3 hn4 hn5 hn6 hn7 his hx4 hx4l h6l hmac6 hisl;have hlen:m.length≤1400:=hml;obtain ⟨d1,d2,d3,d4,d5,d6,d7⟩:=HC.out _ hat.out.1
    go_wp2_with fail
    obtain ⟨W20,hW20⟩:∃ W,W=wr.alloc (.cells #[.int .i64 (n1:Int),.int .i64 (n2:Int)] 3):=⟨_,rfl⟩
    rw [←hW20];have h1:pZ w W20 w.heap.size (aj A f.vips.length c f).toArray A' c' m:=by rw [hW20];exact hat.out.alloc _
    have hns:NS W20 ⟨wr.heap.size,0,none⟩ [n1,n2]:=by rw [hW20];exact NS.lit wr _ _ rfl _
    have hlt:wr.heap.size<W20.heap.size:=by rw [hW20];simp
    refine (iS w.heap.size A' c' m ⟨wr.heap.size,0,none⟩ 2 2 [n1,n2] W20 rfl h1.2.1 hns hlt hat.out.neNew (by intro n hn;simp only [List.mem_cons,List.mem_nil_iff,or_false] at hn;omega) (by omega) (by simp) h1.2.2.size).mono ?_;rintro e w20 ⟨A20,c20,rfl,hown,_,hg⟩;have h2:=h1.grow0 hg hown;obtain ⟨m20,hm20⟩:∃ m',m'=m ++ aN [n1,n2]:=⟨_,rfl⟩
    rw [←hm20] at h2 ⊢;have hlen20:m20.length≤m.length + 30:=by
     rw [hm20,List.length_append];have:=ii (ns:=[n1,n2]) (by intro n hn;simp only [List.mem_cons,List.mem_nil_iff,or_false] at hn;omega);simp only [List.length_cons,List.length_nil] at this;omega
    have Hm20:=Lib.hid hm20;have Hs20:=Lib.hid h2;clear h1 hns hlt hown hg h2 hW20 d1 d2 d3 d4 d5 d6 d7 hat hm20
    go_wp2_with fail
    refine (iS w.heap.size A20 c20 m20 ⟨w.heap.size,4,none⟩ 5 5 is w20 Hisl.out.symm Hs20.out.2.1 (HI.out _ Hs20.out.1) Hs20.out.1.lt Hs20.out.ne0 his64.out (by omega) (by rw [Hisl.out];decide) Hs20.out.2.2.size).mono ?_;rintro e w21 ⟨A21,c21,rfl,hown,_,hg⟩;have h2:=Hs20.out.grow0 hg hown;obtain ⟨m21,hm21⟩:∃ m',m'=m20 ++ aN is:=⟨_,rfl⟩
    rw [←hm21] at h2 ⊢;have hlen21:m21.length≤m20.length + 50:=by
     rw [hm21,List.length_append];have:=ii (ns:=is) (fun n hn=>by have:=his64.out n hn;omega);rw [Hisl.out] at this;omega
    have Hm21:=Lib.hid hm21;have Hs21:=Lib.hid h2;clear hown hg h2 Hs20 hm21;obtain ⟨d1,d2,d3,d4,d5,d6,d7⟩:=HC.out _ Hs21.out.1
    go_wp2_with fail
    obtain ⟨W22,hW22⟩:∃ W,W=w21.alloc (.cells #[.int .i64 (n3:Int),.int .i64 (n4:Int)] 3):=⟨_,rfl⟩
    rw [←hW22];have h1:pZ w W22 w.heap.size (aj A f.vips.length c f).toArray A21 c21 m21:=by rw [hW22];exact Hs21.out.alloc _
    have hns:NS W22 ⟨w21.heap.size,0,none⟩ [n3,n4]:=by rw [hW22];exact NS.lit w21 _ _ rfl _
    have hlt:w21.heap.size<W22.heap.size:=by rw [hW22];simp
    refine (iS w.heap.size A21 c21 m21 ⟨w21.heap.size,0,none⟩ 2 2 [n3,n4] W22 rfl h1.2.1 hns hlt Hs21.out.neNew (by intro n hn;simp only [List.mem_cons,List.mem_nil_iff,or_false] at hn;omega) (by omega) (by simp) h1.2.2.size).mono ?_;rintro e w22 ⟨A22,c22,rfl,hown,_,hg⟩;have h2:=h1.grow0 hg hown;obtain ⟨m22,hm22⟩:∃ m',m'=m21 ++ aN [n3,n4]:=⟨_,rfl⟩
    rw [←hm22] at h2 ⊢;have hlen22:m22.length≤m21.length + 30:=by
     rw [hm22,List.length_append];have:=ii (ns:=[n3,n4]) (by intro n hn;simp only [List.mem_cons,List.mem_nil_iff,or_false] at hn;omega);simp only [List.length_cons,List.length_nil] at this;omega
    have Hm22:=Lib.hid hm22;have Hs22:=Lib.hid h2;clear h1 hns hlt hown hg h2 hW22 d1 d2 d3 d4 d5 d6 d7 Hs21 hm22;go_upto_region 17 with ((with_reducible refine qf .append ?_);refine av _ rfl _ _ 43 rfl w.heap.size 5 i0 (.int .u8 0) 1 Tryz.underlying43 hi0 hz0 hz1 hz2 rfl (.slice A22 m22.length c22) m22 rfl Hs22.out.2.1 _ (some ⟨w.heap.size,11,none⟩) 6 6 (f.mac) rfl Hrm.out.symm (HBs.out _ Hs22.out.1).1 (by rw [Hrm.out];unfold maxLen;omega) (by rw [Hrm.out];omega) Hs22.out.2.2.size ?_;intro A23 c23 w23 hown hg hob)
    have h2:=Hs22.out.grow hg hown;obtain ⟨m23,hm23⟩:∃ m',m'=m22 ++ f.mac:=⟨_,rfl⟩
    rw [←hm23] at h2;rw [←List.length_append,←hm23];have hlen23:m23.length≤m22.length + 16:=by rw [hm23,List.length_append,Hrm.out];omega
    have Hm23:=Lib.hid hm23;have Hs23:=Lib.hid h2;clear hown hg hob h2 Hs22 hm23;go_upto_region 18 with ((with_reducible refine qf .append ?_);refine av _ rfl _ _ 43 rfl w.heap.size 5 i0 (.int .u8 0) 1 Tryz.underlying43 hi0 hz0 hz1 hz2 rfl (.slice A23 m23.length c23) m23 rfl Hs23.out.2.1 _ (some ⟨w.heap.size,18,none⟩) 4 16 (x4) rfl Hr4.out.symm (HBs.out _ Hs23.out.1).2.1 (by rw [Hr4.out];unfold maxLen;omega) (by rw [Hr4.out];omega) Hs23.out.2.2.size ?_;intro A24 c24 w24 hown hg hob)
    have h2:=Hs23.out.grow hg hown;obtain ⟨m24,hm24⟩:∃ m',m'=m23 ++ x4:=⟨_,rfl⟩
    rw [←hm24] at h2;rw [←List.length_append,←hm24];have hlen24:m24.length≤m23.length + 16:=by rw [hm24,List.length_append,Hr4.out];omega
    have Hm24:=Lib.hid hm24;have Hs24:=Lib.hid h2;clear hown hg hob h2 Hs23 hm24;go_upto_region 19 with ((with_reducible refine qf .append ?_);refine av _ rfl _ _ 43 rfl w.heap.size 5 i0 (.int .u8 0) 1 Tryz.underlying43 hi0 hz0 hz1 hz2 rfl (.slice A24 m24.length c24) m24 rfl Hs24.out.2.1 _ (some ⟨w.heap.size,35,none⟩) 16 16 (f.six.2) rfl Hr6.out.symm (HBs.out _ Hs24.out.1).2.2 (by rw [Hr6.out];unfold maxLen;omega) (by rw [Hr6.out];omega) Hs24.out.2.2.size ?_;intro A25 c25 w25 hown hg hob)
    have h2:=Hs24.out.grow hg hown;obtain ⟨m25,hm25⟩:∃ m',m'=m24 ++ f.six.2:=⟨_,rfl⟩
    rw [←hm25] at h2;rw [←List.length_append,←hm25];have hlen25:m25.length≤m24.length + 16:=by rw [hm25,List.length_append,Hr6.out];omega
    have Hm25:=Lib.hid hm25;have Hs25:=Lib.hid h2;clear hown hg hob h2 Hs24 hm25;obtain ⟨d1,d2,d3,d4,d5,d6,d7⟩:=HC.out _ Hs25.out.1
    go_wp2_with fail
    obtain ⟨W26,hW26⟩:∃ W,W=w25.alloc (.cells #[.int .i64 (n5:Int),.int .i64 (n6:Int),.int .i64 (n7:Int)] 3):=⟨_,rfl⟩
    rw [←hW26];have h1:pZ w W26 w.heap.size (aj A f.vips.length c f).toArray A25 c25 m25:=by rw [hW26];exact Hs25.out.alloc _
    have hns:NS W26 ⟨w25.heap.size,0,none⟩ [n5,n6,n7]:=by rw [hW26];exact NS.lit w25 _ _ rfl _
    have hlt:w25.heap.size<W26.heap.size:=by rw [hW26];simp
    refine (iS w.heap.size A25 c25 m25 ⟨w25.heap.size,0,none⟩ 3 3 [n5,n6,n7] W26 rfl h1.2.1 hns hlt Hs25.out.neNew (by intro n hn;simp only [List.mem_cons,List.mem_nil_iff,or_false] at hn;omega) (by omega) (by simp) h1.2.2.size).mono ?_;rintro e w26 ⟨A26,c26,rfl,hown,_,hg⟩;have h2:=h1.grow0 hg hown;obtain ⟨m26,hm26⟩:∃ m',m'=m25 ++ aN [n5,n6,n7]:=⟨_,rfl⟩
    rw [←hm26] at h2 ⊢;have hlen26:m26.length≤m25.length + 30:=by
     rw [hm26,List.length_append];have:=ii (ns:=[n5,n6,n7]) (by intro n hn;simp only [List.mem_cons,List.mem_nil_iff,or_false] at hn;omega);simp only [List.length_cons,List.length_nil] at this;omega
    have Hm26:=Lib.hid hm26;have Hs26:=Lib.hid h2;clear h1 hns hlt hown hg h2 hW26 d1 d2 d3 d4 d5 d6 d7 Hs25 hm26;have HF:Hid (m26=bK f):=by
     show _=_
     rw [Hm26.out,Hm25.out,Hm24.out,Hm23.out,Hm22.out,Hm21.out,Hm20.out,Hm.out];unfold bK;rw [HCN.out,HCL.out,Hx4.out];simp only [je,List.append_assoc]
    go_wp2
    go_ret2
    refine ⟨Hs26.out.2.2,(fun h=>by cases h),fun _=>⟨A26,c26,?_,?_⟩⟩
    ·rw [←HF.out];rfl
    ·rw [←HF.out];exact Hs26.out.2.1
end Go.Proofs.YtaafkokfdgfabaaGreat
namespace Go.Proofs.YtaafkokfdgfabaaGreat
open Go.RowKit
set_option linter.unusedVariables false
set_option linter.unusedSimpArgs false
section
variable {P:Program} (w:World)
theorem mV:∀ (xs ys:List Int),xs.length=ys.length→((List.range xs.length).all fun i=>xs.getD i 0 == ys.getD i 0)=(xs == ys)
 | [],[],_=>rfl
 | x :: xs,y :: ys,h=>by
  have ih:=mV xs ys (by simpa using h);rw [List.length_cons,List.range_succ_eq_map,List.all_cons,List.all_map];simp only [List.getD_cons_zero,Function.comp_def,List.getD_cons_succ,ih];simp [List.cons_beq_cons]
 | [],_ :: _,h=>by simp at h
 | _ :: _,[],h=>by simp at h
theorem kM (d:Nat) (t e:TypeId) (n:Nat) (ht:P.underlying t=some (.array n e)) (he:P.underlying e=some (.int .i64)) (hsz:∀ w,(sizeOf e).run P w=.ok 1 w)
  (xs ys:List Int) (hx:xs.length=n) (hy:ys.length=n) :
  (Op.equalIn (d + 2) t (.agg (xs.map iv).toArray) (.agg (ys.map iv).toArray)).run P w=.ok (xs == ys) w:=by
 rw [←mV xs ys (hx.trans hy.symm),hx,List.range_eq_range',Op.equalIn];simp only [Sem.run_bind,run_underlying ht,Result.andThen_ok,hsz,Std.Legacy.Range.forIn_eq_forIn_range',Std.Legacy.Range.size,Nat.sub_zero,Nat.add_sub_cancel,Nat.div_one];have hl:∀ i ∈ List.range' 0 n 1,i<n:=fun i hi=>by simpa using (List.mem_range'_1.1 hi).2
 generalize List.range' 0 n 1=l at hl ⊢
 induction l with
 | nil=>simp
 | cons i l ih =>
  have hi:i<n:=hl i (by simp);have px:(part e (xs.map iv).toArray (i * 1)).run P w=.ok (iv (xs.getD i 0)) w:=by
   simp [part,isAgg,run_underlying he,List.getD,List.getElem?_eq_getElem (show i<xs.length by omega)]
  have py:(part e (ys.map iv).toArray (i * 1)).run P w=.ok (iv (ys.getD i 0)) w:=by
   simp [part,isAgg,run_underlying he,List.getD,List.getElem?_eq_getElem (show i<ys.length by omega)]
  have pe:(Op.equalIn (d + 1) e (iv (xs.getD i 0)) (iv (ys.getD i 0))).run P w=.ok (xs.getD i 0 == ys.getD i 0) w:=by
   rw [iv,iv,run_equalIn_int w d e .i64 .i64 _ _ he]
  simp only [List.forIn_cons,Sem.run_bind,px,py,pe,Result.andThen_ok,List.all_cons];cases hb:(xs.getD i 0 == ys.getD i 0)
  ·simp
  ·simp only [Bool.not_true,Bool.false_eq_true,if_false,Sem.run_pure,Result.andThen_ok,Bool.true_and]
   exact ih fun j hj=>hl j (by simp [hj])
end
theorem ym:Tryz.prog.eqGuardType Tryz.prog.depth 23=false:=by kernel_rfl
theorem Bq:Tryz.prog.eqGuardType Tryz.prog.depth 24=false:=by kernel_rfl
theorem Dw:(Tryz.prog.info? 24).map (·.size)=some 6:=by kernel_rfl
theorem Dx {f:bc} (h:ak f):(Tryz.prog.info? 24).map (·.size)=some (ab f.mac).length:=by rw [ao,h.mac];exact Dw
end Go.Proofs.YtaafkokfdgfabaaGreat
namespace Go.Proofs.YtaafkokfdgfabaaGreat
open Go.RowKit
set_option linter.unusedVariables false
set_option linter.unusedSimpArgs false
set_option maxRecDepth 100000 in
theorem vD (A:Option Addr) (n c:Nat) (f:bc) (A':Option Addr) (n' c':Nat) (g:bc) (hf:ak f) (hg:ak g) (w:World) (hn:n=f.vips.length) (hn':n'=g.vips.length) (hb:VS w w.heap.size A f.vips) (hb':VS w w.heap.size A' g.vips) (hl:n≤1000000) (hl':n'≤1000000) :
  Calls Tryz.prog 47 #[jx A n c f,jx A' n' c' g] w fun e w'=>e=.returned (.bool (mN f g))∧Below w.heap.size w w':=by
 subst hn hn';unfold jx;obtain ⟨W1,W,HW1,HW,Hs1,HX,HY,HB⟩:=k7 w 29 29 (aj A f.vips.length c f).toArray (aj A' g.vips.length c' g).toArray;have l0:w.heap.size<W.heap.size:=HX.out.lt;have l1:w.heap.size + 1<W.heap.size:=HY.out.lt;have HV:=Lib.hid ((hb.below HB.out).more HB.out.size);have HU:=Lib.hid ((hb'.below HB.out).more HB.out.size);have hF:=Lib.hid hf;have hG:=Lib.hid hg;have a0:=lH HX.out;have b0:=lH HY.out;obtain ⟨n,hn⟩:∃ n,n=f.vips.length:=⟨_,rfl⟩
 obtain ⟨n',hn'⟩:∃ n,n=g.vips.length:=⟨_,rfl⟩
 rw [←hn] at a0 hl;rw [←hn'] at b0 hl';obtain ⟨r,hr⟩:∃ r,r=mN f g:=⟨_,rfl⟩
 rw [←hr];have Hn:=Lib.hid hn;have Hn':=Lib.hid hn';have Hr:=Lib.hid hr;clear hb hb' hf hg hn hn' hr;go_enter Tryz.func47,Tryz.ntmps47
 go_upto_region 1 with fail
 rw [←HW1.out,←HW.out];by_cases hlen:n=n'
 rotate_left
 ·have hI:¬ (n:Int)=(n':Int):=by omega
  have hf:Hid (r=false):=by
   show _=_
   rw [Hr.out];rcases hv:(f.vips == g.vips) with _ | _
   ·simp [mN,hv]
   ·rw [Hn.out,Hn'.out,eq_of_beq hv] at hlen
    exact absurd rfl hlen
  go_wp2
  go_ret
  exact ⟨by rw [hf.out];rfl,HB.out⟩
 subst hlen
 go_wp2
 go_loopw [5] (fun i wr=>∃ k:Nat,k≤n∧i=.int .i64 (k:Int)∧Hid (Below W.heap.size W wr)∧Hid (∀ j,j<k→f.vips[j]?=g.vips[j]?)) (fun i _=>n - (intOf i).toNat)
 case atStart=>exact ⟨0,by omega,rfl,Below.refl _ _,fun j hj=>by omega⟩
 case round =>
  obtain ⟨k,hk,rfl,hbel,hat⟩:=hrel;rename World=>wr
  have r0:=(dc hbel.out _ 0 l0).trans a0;have s0:=(dc hbel.out _ 0 l1).trans b0;have m0:w.heap.size<wr.heap.size:=Nat.lt_of_lt_of_le l0 hbel.out.size;have m1:w.heap.size + 1<wr.heap.size:=Nat.lt_of_lt_of_le l1 hbel.out.size;by_cases hlt:k<n
  ·have hltI:(k:Int)<(n:Int):=by omega
   have hk0:(0:Int)≤(k:Int):=by omega
   obtain ⟨b1,o1,hA,hbB,hc⟩:=(HV.out.below hbel.out) (by rw [←Hn.out];omega);obtain ⟨b2,o2,hA',hbB',hc'⟩:=(HU.out.below hbel.out) (by rw [←Hn'.out];omega);rw [hA] at r0;rw [hA'] at s0;obtain ⟨x,hx⟩:∃ x,f.vips[k]?=some x:=⟨_,List.getElem?_eq_getElem (by rw [←Hn.out];exact hlt)⟩
   obtain ⟨y,hy⟩:∃ y,g.vips[k]?=some y:=⟨_,List.getElem?_eq_getElem (by rw [←Hn'.out];exact hlt)⟩
   have hxo:=Lib.hid (hF.out.vips x (List.mem_of_getElem? hx));have hyo:=Lib.hid (hG.out.vips y (List.mem_of_getElem? hy));have Hx:=Lib.hid (hc k x hx);have Hy:=Lib.hid (hc' k y hy);have q1:b1<wr.heap.size:=Nat.lt_of_lt_of_le hbB hbel.out.size;have q2:b2<wr.heap.size:=Nat.lt_of_lt_of_le hbB' hbel.out.size;have Hno:Hid ((x == y)=false→r=false):=fun h=>by
    rw [Hr.out];rcases hv:(f.vips == g.vips) with _ | _
    ·simp [mN,hv]
    ·rw [eq_of_beq hv,hy] at hx
     injection hx with e
     simp [e] at h
   have Hyes:Hid ((x == y)=true→∀ j,j<k + 1→f.vips[j]?=g.vips[j]?):=fun h j hj=>by
    rcases Nat.lt_or_ge j k with h1 | h1
    ·exact hat.out j h1
    ·obtain rfl:j=k:=by omega
     rw [hx,hy,eq_of_beq h]
   clear hc hc' hx hy hat a0 b0 hA hA';go_upto_region 6 with fail
   refine Sd.start ?_
   repeat ((first | refine sl Hx.out q1 ky (kV hxo.out) ?_ | refine sl Hy.out q2 ky (kV hyo.out) ?_ | refine en (Co 9996 x y hxo.out hyo.out) Bp ?_ | refine pt ?_);simp only [ld,lg,lf,Nat.reduceAdd])
   refine Sd.done fun w3 hb3=>?_
   have Hb3:=Lib.hid (hbel.out.trans (hb3.mono hbel.out.size));clear hb3 hbel r0 s0;rcases hv:(x == y) with _ | _
   ·have hf:=Lib.hid (Hno.out hv)
    simp only [hv,Bool.not_false];clear hv
    go_wp2
    go_ret
    exact ⟨by rw [hf.out];rfl,HB.out.trans (Hb3.out.mono HB.out.size)⟩
   ·have hf:=Lib.hid (Hyes.out hv)
    simp only [hv,Bool.not_true];clear hv
    go_wp2
    go_roundw
    case rel=>exact ⟨k + 1,by omega,by go_num,Hb3,hf⟩
    case measure=>simp [intOf];omega
  ·have hltI:¬ (k:Int)<(n:Int):=by omega
   have hv:f.vips=g.vips:=List.ext_getElem? fun j=>by
    rcases Nat.lt_or_ge j k with h1 | h1
    ·exact hat.out j h1
    ·rw [List.getElem?_eq_none (by rw [←Hn.out];omega),List.getElem?_eq_none (by rw [←Hn'.out];omega)]
   obtain ⟨T,hT⟩:∃ T,T=(f.size == g.size && f.room == g.room && f.idle == g.idle && f.rise == g.rise && f.fall == g.fall && f.mac == g.mac && f.four == g.four && f.six == g.six && f.most == g.most && f.keep == g.keep && f.batch == g.batch):=⟨_,rfl⟩
   have HT:Hid (r=T):=by show _=_;rw [hT,Hr.out];unfold mN;rw [hv,beq_self_eq_true,Bool.true_and];simp only [Bool.and_assoc]
   have HX2:=Lib.hid (ah.below HX.out hbel.out l0);have HY2:=Lib.hid (ah.below HY.out hbel.out l1);have c1:=nT HX2.out;have d1:=nT HY2.out;have c2:=nU HX2.out;have d2:=nU HY2.out;have c3:=nV HX2.out hF.out;have d3:=nV HY2.out hG.out;have c4:=nW HX2.out hF.out;have d4:=nW HY2.out hG.out;have c5:=nY HX2.out hF.out;have d5:=nY HY2.out hG.out;have c6:=nZ HX2.out hF.out;have d6:=nZ HY2.out hG.out;have c7:=lR HX2.out hF.out;have d7:=lR HY2.out hG.out;have z1:(Tryz.prog.info? 23).map (·.size)=some (f.idle.map iv).length:=by rw [List.length_map,hF.out.idle];kernel_rfl
   have z2:(Tryz.prog.info? 23).map (·.size)=some (g.idle.map iv).length:=by rw [List.length_map,hG.out.idle];kernel_rfl
   have e1:=Lib.hid (fun w=>run_equalIn_bytes (P:=Tryz.prog) w 9998 24 5 6 Tryz.underlying24 Tryz.underlying5 nP f.mac g.mac hF.out.mac hG.out.mac);have e2:=Lib.hid (fun w=>kM (P:=Tryz.prog) w 9998 23 3 6 Tryz.underlying23 Tryz.underlying3 gZ f.idle g.idle hF.out.idle hG.out.idle);have z3:=Lib.hid z1;have z4:=Lib.hid z2;clear hv hat z1 z2 a0 b0;go_upto_region 8 with fail
   try simp only [List.append_eq,List.cons_append,List.nil_append]
   refine Sd.plain ?_
   repeat ((first
    | refine pa ?_
    | refine gs (ql HX2.out hF.out) m0 Tryz.underlying23 z3.out ?_ | refine gs (ql HY2.out hG.out) m1 Tryz.underlying23 z4.out ?_
    | refine gs (sU HX2.out hF.out) m0 Tryz.underlying24 (Dx hF.out) ?_ | refine gs (sU HY2.out hG.out) m1 Tryz.underlying24 (Dx hG.out) ?_
    | refine gs (nX HX2.out hF.out) m0 du (fX hF.out.four) ?_ | refine gs (nX HY2.out hG.out) m1 du (fX hG.out.four) ?_
    | refine gs (sV HX2.out hF.out) m0 du (fX hF.out.six) ?_ | refine gs (sV HY2.out hG.out) m1 du (fX hG.out.six) ?_
    | refine ge (gR 9997 f.four g.four hF.out.four hG.out.four) gJ ?_ | refine ge (gR 9997 f.six g.six hF.out.six hG.out.six) gJ ?_
    | refine ge e1.out Bq ?_ | refine ge e2.out ym ?_ | refine gp ?_ | refine pt ?_);simp only [ld,lg,lf,Nat.reduceAdd])
   rw [←hT];refine Sd.done fun w2 hb2=>?_
   have Hb2:=Lib.hid (HB.out.trans ((hbel.out.trans (hb2.mono hbel.out.size)).mono HB.out.size));clear hb2 hT
   go_wp2
   go_ret
   exact ⟨by rw [HT.out];rfl,Hb2.out⟩
end Go.Proofs.YtaafkokfdgfabaaGreat
