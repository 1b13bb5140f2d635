import Derived.Test.YtaafkokfdgfabaaGreatP7
import Derived.Test.YtaafkokfdgfabaaGreatP15
import Derived.Test.YtaafkokfdgfabaaGreatP17
import Derived.Test.YtaafkokfdgfabaaGreatP18
set_option maxHeartbeats 8000000
set_option maxRecDepth 100000
set_option linter.unusedVariables false
set_option linter.unusedSimpArgs false
open List renaming size_toArray→Iy
open Nat renaming lt_of_lt_of_le→IA,le_refl→IB
namespace Go.Proofs.YtaafkokfdgfabaaGreat
open Go.RowKit
open Lib (hid)
open IntWalk renaming i64_in→Iz
open Tryz renaming prog→qq
open Value renaming slice→ID
open World renaming grownBy→IC
theorem tm:∀(vs:List Value) (off k:Nat) (cs:Array Value),(vs.zipIdx k).foldl (fun (cs:Array Value) (x:Value×Nat)=>cs.setIfInBounds (off+x.2) x.1) cs=nI cs (off+k) vs
 |[],_,_,_=>rfl
 |v::r,off,k,cs=>by
  rw[List.zipIdx_cons,List.foldl_cons,nI,tm r off (k+1)];rfl
theorem Bq(vs:List Value)(off:Nat)(cs:Array Value):vs.toArray.zipIdx.foldl (fun (cs:Array Value) (x:Value×Nat)=>cs.setIfInBounds (off+x.2) x.1) cs=nI cs off vs:=by
 have:=tm vs off 0 cs;simpa using this
theorem rK(place:Nat→Option (Nat×Nat))(cells:Array Value)(i off:Nat)(xs:List Value)(rest:List (Nat×Value))(hp:place i=some (off,xs.length))(hb:off+xs.length≤cells.size) :
  Instr.fill place cells ((i,.agg xs.toArray)::rest)=Instr.fill place (nI cells off xs) rest:=by
 have hc:(Value.agg xs.toArray).cells=xs.toArray:=rfl;have e:=Bq xs off cells;rw[Instr.fill,hp];simp only[hc,Iy,ne_eq,not_true_eq_false,decide_false,Bool.false_or,decide_eq_true_eq,Nat.not_lt.2 hb,gt_iff_lt,if_false,Bool.false_eq_true];rw[←e]
section
variable {P:Program}
theorem G9(ty:TypeId){ps:Array (Nat×Operand)}{d:Option Tmp}{t:TypeId}{p:String}{af:Array Edge}{gd:Option (Nat×Bool)}{ops:Array Oper}{rest:List Oper}{a:Act}{w:World}{Q:Exit→Act→World→Prop}(k:wpList P ops Q (⟨d,.build ty ps,t,p,af,gd⟩::rest) a w):wpList P ops Q (⟨d,.build ty ps,t,p,af,gd⟩::rest) a w:=k
theorem rL{ops:Array Oper}{rest:List Oper}{op:Oper}{a:Act}{w:World}{Q:Exit→Act→World→Prop}(hw:Region.wanted op (yielded ops a.tmps)=true)(ty:TypeId)(ps:Array (Nat×Operand))(ho:op.op=.build ty ps)
  (cells:Array Value) (hc:P.built ty (ps.map fun (i,x)=>(i,a.eval x)).toList=some cells)
  (h:wpList P ops Q rest (a.put op.dst (.agg cells)) w):wpList P ops Q (op::rest) a w :=
 wpList_step fun K hK=>by
  rw[if_pos hw];unfold Oper.wp execOp;simp only[ho,Sem.run_bind,run_build w ty _ cells hc,Result.andThen_ok,Sem.run_pure];exact hK _ _ h
end
theorem kL:(bh none 0 0 none 0 0 mZ).toArray=(#[.int .i64 0,.slice none 0 0,.int .i64 0,.string ⟨#[]⟩,.bool false,.int .u8 0,.int .u8 0,.int .u8 0,.int .u8 0,.int .u8 0,.int .u8 0,.int .u8 0,.int .u8 0,.int .u8 0,.int .u8 0,.int .u8 0,.int .u8 0,.int .u8 0,.int .u8 0,.int .u8 0,.int .u8 0,.int .i64 0,.int .u8 0,.int .u8 0,.int .u8 0,.int .u8 0,.int .u8 0,.int .u8 0,.float .f64 0,.bool false,.string ⟨#[]⟩,.float .f64 0,.string ⟨#[]⟩,.bool false,.int .i64 0,.int .i64 0,.bool false,.int .i64 0,.string ⟨#[]⟩,.slice none 0 0,.int .i64 0,.int .u32 0]:Array Value):=rfl
theorem sM(parts:List (Nat×Value)):qq.built 65 parts=Instr.fill (fun i=>(#[(0,34),(34,6),(40,1),(41,1)]:Array (Nat×Nat))[i]?) (bh none 0 0 none 0 0 mZ).toArray parts:=by kernel_rfl
theorem eh:qq.underlying 65=some (.struct (qq.fieldsOf 65)):=by kernel_rfl
section
variable {A A' A2 A2':Option Addr} {n n' c c' n2 n2' c2 c2':Nat} {e:dI} {w:World} {g:Nat} {t:TypeId}
theorem ml(h:aP e)(i:Nat)(v:Value):(bh A n c A2 n2 c2 e).toArray.setIfInBounds (34+i) v=(ak A n c e.act++[zv e.o.err,zv e.o.reason,.bool e.o.hit,zv e.o.version,sv e.o.name,.slice A2 n2 c2,zv e.len,.int .u32 (e.sum:Int)].set i v).toArray:=by
 have h1:=aX (A:=A) (n:=n) (c:=c) h.act;rw[List.setIfInBounds_toArray,bh,List.set_append_right _ _ (by omega),h1,Nat.add_sub_cancel_left];rfl
theorem DB(h:aP e)(x:Nat):(bh A n c A2 n2 c2 e).toArray.setIfInBounds 41 (.int .u32 (x:Int))=(bh A n c A2 n2 c2 { e with sum:=x }).toArray:=ml h 7 _
end
structure EL(w wr:World)(A:Option Addr)(fl c:Nat)(A2:Option Addr)(ol c2:Nat)(a:ca)(o:sJ)(B1:Option Addr)(n1 c1:Nat)(B2:Option Addr)(n2 k2:Nat)(b:dI):Prop where
 src:aj wr w.heap.size 60 (ak A fl c a).toArray
 out:aj wr (w.heap.size+1) 62 (cD A2 ol c2 o).toArray
 res:aj wr (w.heap.size+2) 65 (bh none 0 0 none 0 0 mZ).toArray
 box:aj wr (w.heap.size+3) 65 (bh B1 n1 c1 B2 n2 k2 b).toArray
 bel:Below w.heap.size w wr
 shape:aP b
section
variable {w wr w':World} {A A2 B1 B2 B1' B2':Option Addr} {fl c ol c2 n1 c1 n2 k2 n1' c1' n2' k2':Nat} {a:ca} {o:sJ} {b b':dI}
theorem EL.below(h:EL w wr A fl c A2 ol c2 a o B1 n1 c1 B2 n2 k2 b)(hb:Below wr.heap.size wr w'):EL w w' A fl c A2 ol c2 a o B1 n1 c1 B2 n2 k2 b :=
 ⟨aj.below h.src hb h.src.lt,aj.below h.out hb h.out.lt,aj.below h.res hb h.res.lt,aj.below h.box hb h.box.lt,h.bel.trans (hb.mono h.bel.size),h.shape⟩
theorem EL.set_(h:EL w wr A fl c A2 ol c2 a o B1 n1 c1 B2 n2 k2 b)(k:Nat)(u:Value)(e:(bh B1 n1 c1 B2 n2 k2 b).toArray.setIfInBounds k u=(bh B1' n1' c1' B2' n2' k2' b').toArray)(hs:aP b'):EL w (wr.setCell ⟨w.heap.size+3,k,none⟩ u) A fl c A2 ol c2 a o B1' n1' c1' B2' n2' k2' b':=by
 have hg:wr.grownBy (wr.setCell ⟨w.heap.size+3,k,none⟩ u) (some (w.heap.size+3)):=a8 _ ⟨w.heap.size+3,k,none⟩ u;refine⟨aj.grown h.src hg (fun e=>by injection e with e;omega),aj.grown h.out hg (fun e=>by injection e with e;omega),aj.grown h.res hg (fun e=>by injection e with e;omega),?_,h.bel.grown hg h.bel.size (fun k hk=>by injection hk with hk;omega),hs⟩;have:=aj.set_ h.box k u;rw[e] at this;exact this
theorem EL.goodBlk(h:EL w wr A fl c A2 ol c2 a o B1 n1 c1 B2 n2 k2 b):aj (wr.setCells (w.heap.size+2) 0 (bh B1 n1 c1 B2 n2 k2 b)) (w.heap.size+2) 65 (bh B1 n1 c1 B2 n2 k2 b).toArray:=by
 have:=aj.setCells (bh B1 n1 c1 B2 n2 k2 b) 0 h.res;rw[bn (by rw[km h.shape,km fJ])] at this;exact this
theorem EL.goodOwn(h:EL w wr A fl c A2 ol c2 a o B1 n1 c1 B2 n2 k2 b){m cc:Nat}{D:Option Addr}{l:List Value}(ho:wr.ownsRow w.heap.size 5 1 (.slice D m cc) m l):(wr.setCells (w.heap.size+2) 0 (bh B1 n1 c1 B2 n2 k2 b)).ownsRow w.heap.size 5 1 (.slice D m cc) m l :=
 ho.kept (aY _ (w.heap.size+2) 0 _ 0 (IC.refl _ _)) (aK ho h.res (by decide))
end
def EM(l:List UInt8):St×Bool×dI :=
 let t0:=hJ l (0,0,0) false
 let t1:=aT l t0.1 1 true
 let t2:=aT l t1.1 1 true
 let t3:=ep l t2.1 t0.2.1
 let t4:=g9 l t3.1
 let t5:=cF l t4.1 255
 let t6:=g9 l t5.1
 let t7:=aT l t6.1 4 false
 (jM l t7.1,t3.2.1,{ act:=t0.2.2,o:={ err:=(t1.2:Int),reason:=(t2.2:Int),hit:=t3.2.2,version:=((min t4.2 1099511627777:Nat):Int),name:=t5.2,out:=[] },len:=((min t6.2 262145:Nat):Int),sum:=t7.2 })
theorem zV:∀(l:List UInt8),pF l<256^l.length
 |[]=>by simp[pF]
 |c::l=>by
  have:=c.toNat_lt;have ih:=zV l;rw[pF,List.length_cons,Nat.pow_succ];omega
theorem zW(l:List UInt8)(s:St):(aT l s 4 false).2<4294967296:=by
 have h:=ju l s 0 4;unfold aT;rw[if_neg (by decide)];show pF (fd l s 0 4).2<4294967296
 have:=zV (fd l s 0 4).2;have h2:256^(fd l s 0 4).2.length≤256^4:=Nat.pow_le_pow_right (by decide) h;omega
theorem Br(A:Option Addr)(n c:Nat)(a:ca)(ha:aA a) :
  qq.built 65 [(0,.agg (ak A n c a).toArray)]=some (bh A n c none 0 0 { mZ with act:=a }).toArray:=by
 have h1:=aX (A:=A) (n:=n) (c:=c) ha;have h0:(bh none 0 0 none 0 0 mZ).length=42:=rfl;rw[sM,rK _ _ _ 0 _ _ (by rw[h1];rfl) (by rw[h1,Iy,h0];decide)];rw[iC _ _ _ (by rw[h1,h0];decide),h1];rfl
section
variable {A A2:Option Addr} {n c n2 c2:Nat} {e:dI}
theorem DC(h:aP e)(x:Int):(bh A n c A2 n2 c2 e).toArray.setIfInBounds 34 (.int .i64 x)=(bh A n c A2 n2 c2 { e with o:={ e.o with err:=x } }).toArray:=ml h 0 _
theorem vL(h:aP e)(x:Int):(bh A n c A2 n2 c2 e).toArray.setIfInBounds 35 (.int .i64 x)=(bh A n c A2 n2 c2 { e with o:={ e.o with reason:=x } }).toArray:=ml h 1 _
theorem DD(h:aP e)(x:Bool):(bh A n c A2 n2 c2 e).toArray.setIfInBounds 36 (.bool x)=(bh A n c A2 n2 c2 { e with o:={ e.o with hit:=x } }).toArray:=ml h 2 _
theorem uq(h:aP e)(x:Int):(bh A n c A2 n2 c2 e).toArray.setIfInBounds 37 (.int .i64 x)=(bh A n c A2 n2 c2 { e with o:={ e.o with version:=x } }).toArray:=ml h 3 _
theorem Bt(h:aP e)(x:List UInt8):(bh A n c A2 n2 c2 e).toArray.setIfInBounds 38 (.string ⟨x.toArray⟩)=(bh A n c A2 n2 c2 { e with o:={ e.o with name:=x } }).toArray:=ml h 4 _
theorem DE(h:aP e)(x:Int):(bh A n c A2 n2 c2 e).toArray.setIfInBounds 40 (.int .i64 x)=(bh A n c A2 n2 c2 { e with len:=x }).toArray:=ml h 6 _
end
structure EN(w wr:World)(base g r bx:Nat)(l:List UInt8)(s:St)(bad:Bool)(A:Option Addr)(n c:Nat)(b:dI):Prop where
 rs:RS wr base g r l s bad
 res:aj wr w.heap.size 65 (bh none 0 0 none 0 0 mZ).toArray
 box:aj wr bx 65 (bh A n c none 0 0 b).toArray
 own:wr.ownsRow w.heap.size 5 1 (.slice A n c) n (ab b.act.frame)
 bel:Below w.heap.size w wr
 shape:aP b
 gt:w.heap.size<bx
 rl:w.heap.size<r
 gl:w.heap.size<g
 rb:r<bx
 gb:g<bx
section
variable {w wr w':World} {base g r bx:Nat} {l:List UInt8} {s s':St} {bad bad':Bool} {A:Option Addr} {n c:Nat} {b b':dI}
theorem EN.after(h:EN w wr base g r bx l s bad A n c b)(hR:RS w' base g r l s' bad')(ho:cY wr w' g (some r)):EN w w' base g r bx l s' bad' A n c b:=by
 have h1:=h.gl;have h2:=h.rl;have h3:=h.rb;have h4:=h.gb;obtain⟨cs,hgb⟩:=h.rs.rd.blkE;have e1:(ID A n c).ownBlock≠some g:=by
  rcases aK h.own hgb (by decide) with e|e
  ·rw[e];simp
  ·exact e
 have e2:(ID A n c).ownBlock≠some r:=by
  rcases aK h.own h.rs.box (by decide) with e|e
  ·rw[e];simp
  ·exact e
 exact⟨hR,ho.blk h.res (by omega) (fun e=>by injection e with e;omega),ho.blk h.box (by omega) (fun e=>by injection e with e;omega),ho.own h.own e1 (.inr e2),
  h.bel.trans (ho.below (by omega) (fun k hk=>by injection hk with hk;omega) h.bel.size),h.shape,h.gt,h.rl,h.gl,h.rb,h.gb⟩
theorem EN.below(h:EN w wr base g r bx l s bad A n c b)(hb:Below wr.heap.size wr w'):EN w w' base g r bx l s bad A n c b:=h.after (h.rs.below hb) (cY.of_below hb)
theorem EN.set_(h:EN w wr base g r bx l s bad A n c b)(k:Nat)(u:Value)(e:(bh A n c none 0 0 b).toArray.setIfInBounds k u=(bh A n c none 0 0 b').toArray)(hs:aP b')(hf:b'.act.frame=b.act.frame):EN w (wr.setCell ⟨bx,k,none⟩ u) base g r bx l s bad A n c b':=by
 have h1:=h.gl;have h2:=h.rl;have h3:=h.rb;have h4:=h.gb;have h5:=h.gt;have hg:wr.grownBy (wr.setCell ⟨bx,k,none⟩ u) (some bx):=a8 _ ⟨bx,k,none⟩ u;have hb:=aj.set_ h.box k u;rw[e] at hb;refine⟨⟨eY.off h.rs.rd hg h.box (by decide) (by decide),h.rs.ok,aj.grown h.rs.box hg (fun e=>by injection e with e;omega)⟩,aj.grown h.res hg (fun e=>by injection e with e;omega),hb,?_,h.bel.grown hg h.bel.size (fun k hk=>by injection hk with hk;omega),hs,h5,h2,h1,h3,h4⟩;rw[hf];exact h.own.kept hg (aK h.own h.box (by decide))
end
def fg(l:List UInt8):Option dI:=if rJ (EM l).1 (EM l).2.1&&aG (EM l).2.2 then some (EM l).2.2 else none
def DF(w:World)(l:List UInt8)(e:Ending)(w':World):Prop :=
 Below w.heap.size w w'∧(fg l=none→e=.returned (.tuple #[.agg (bh none 0 0 none 0 0 mZ).toArray,.int .i64 3])) ∧
 (∀f,fg l=some f→∃A c,e=.returned (.tuple #[.agg (bh A f.act.frame.length c none 0 0 f).toArray,.int .i64 0])∧aP f∧w'.ownsRow w.heap.size 5 1 (.slice A f.act.frame.length c) f.act.frame.length (ab f.act.frame))
theorem DG(A:Option Addr)(n c:Nat)(l:List UInt8)(w:World)(hn0:n=l.length)(hb0:BS w w.heap.size A l)(hl:l.length≤1000000000) :
  Calls qq 46 #[.slice A n c] w (DF w l):=by
 have Hn:=hid hn0;have HbA:=hid hb0;obtain⟨R,hR0⟩:∃R,R=EM l:=⟨_,rfl⟩;have HR:=hid hR0;unfold EM at hR0;rcases h0:hJ l (0,0,0) false with ⟨s0,b0,ac⟩
 rcases h1:aT l s0 1 true with ⟨s1,q1⟩
 rcases h2:aT l s1 1 true with ⟨s2,q2⟩
 rcases h3:ep l s2 b0 with ⟨s3,b3,hit⟩
 rcases h4:g9 l s3 with ⟨s4,v4⟩
 rcases h5:cF l s4 255 with ⟨s5,nm⟩
 rcases h6:g9 l s5 with ⟨s6,v6⟩
 rcases h7:aT l s6 4 false with ⟨s7,q7⟩
 simp only[h0,h1,h2,h3,h4,h5,h6,h7] at hR0;obtain⟨m4,hm4⟩:∃z,z=min v4 1099511627777:=⟨_,rfl⟩;obtain⟨m6,hm6⟩:∃z,z=min v6 262145:=⟨_,rfl⟩;rw[←hm4,←hm6] at hR0;have l1:q1≤255:=by have:=oY l s0;rw[h1] at this;exact this
 have l2:q2≤255:=by have:=oY l s1;rw[h2] at this;exact this
 have l7:q7<4294967296:=by have:=zW l s6;rw[h7] at this;exact this
 have hw1:IntKind.i64.wrap (q1:Int)=(q1:Int):=Iz _ (by omega);have hw2:IntKind.i64.wrap (q2:Int)=(q2:Int):=Iz _ (by omega);have hw7:IntKind.u32.wrap (q7:Int)=(q7:Int):=IntWalk.u32_in _ (by omega);have hw4:IntKind.i64.wrap (m4:Int)=(m4:Int):=Iz _ (by omega);have hw6:IntKind.i64.wrap (m6:Int)=(m6:Int):=Iz _ (by omega);have hi4:min (v4:Int) 1099511627777=(m4:Int):=by omega
 have hi6:min (v6:Int) 262145=(m6:Int):=by omega
 have L7:=hid l7;have H0:=hid h0;have H1:=hid h1;have H2:=hid h2;have H3:=hid h3;have H4:=hid h4;have H5:=hid h5;have H6:=hid h6;have H7:=hid h7;have Hw1:=hid hw1;have Hw2:=hid hw2;have Hw4:=hid hw4;have Hw6:=hid hw6;have Hw7:=hid hw7;have Hi4:=hid hi4;have Hi6:=hid hi6;have HRl:=hid hR0;obtain⟨W0,hW0⟩:∃W,W=w.alloc (.cells (bh none 0 0 none 0 0 mZ).toArray 65):=⟨_,rfl⟩;have hb:Below w.heap.size w W0:=by rw[hW0];exact (Below.refl _ _).alloc (IB _) _
 have hX0:aj W0 w.heap.size 65 (bh none 0 0 none 0 0 mZ).toArray:=by rw[hW0];exact aj.new w _ _ _ rfl
 have HX0:=hid hX0;have HB0:=hid hb;rw[kL] at hW0;have HW0:=hid hW0;clear h0 h1 h2 h3 h4 h5 h6 h7 hR0 hm4 hm6 l1 l2 l7 hw1 hw2 hw7 hw4 hw6 hi4 hi6 hb hX0 hW0 hn0 hb0;go_enter Tryz.func46,Tryz.ntmps46
 go_upto_region 1 with fail
 rw[←HW0.out];clear HW0
 go_wp2_with fail
 refine (mX A n c l W0 Hn.out ((HbA.out.below HB0.out).more HB0.out.size) (by rw[Hn.out];exact hl)).mono ?_;rintro e w1 ⟨g,rfl,hg1,hg2,hRd,hb1⟩;obtain⟨base,hbase⟩:∃z,z=W0.heap.size:=⟨_,rfl⟩;rw[←hbase] at hRd;obtain⟨W2,hW2⟩:∃W,W=w1.alloc (.cells #[.pointer (some ⟨g,0,none⟩),.bool false] 157):=⟨_,rfl⟩;have hb2:Below w1.heap.size w1 W2:=by rw[hW2];exact (Below.refl _ _).alloc (IB _) _
 have hrs:RS W2 base g w1.heap.size l (0,0,0) false:=⟨hRd.below hb2,by unfold em;simp,by rw[hW2];exact aj.new w1 _ _ _ rfl⟩;have hX2:=aj.below (aj.below HX0.out hb1 HX0.out.lt) hb2 (IA HX0.out.lt hb1.size);have hB2:Below w.heap.size w W2:=HB0.out.trans ((hb1.mono HB0.out.size).trans (hb2.mono (Nat.le_trans HB0.out.size hb1.size)));have hrl:w.heap.size<w1.heap.size:=IA HX0.out.lt hb1.size;have hgl:w.heap.size<g:=IA HX0.out.lt hg1;have Hrs:=hid hrs;have HX2:=hid hX2;have HB2:=hid hB2;have Hrl:=hid hrl;have Hgl:=hid hgl;have HW2:=hid hW2;clear hg1 hg2 hRd hb1 hW2 hb2 hrs hX2 hB2 hrl hgl hbase HX0 HB0;go_upto_region 2 with fail
 rw[←HW2.out];clear HW2;obtain⟨r,hr⟩:∃b,b=w1.heap.size:=⟨_,rfl⟩;rw[←hr] at Hrs Hrl ⊢;clear hr
 go_wp2_with fail
 refine (Dx base g r l (0,0,0) false W2 Hrs.out hl).mono ?_;rw[H0.out];rintro e w3 ⟨A1,c1,he,hown,hsh,hc⟩;obtain⟨hR3,hO3⟩:=hc;have he':e=.returned (.agg (ak A1 ac.frame.length c1 ac).toArray):=he;subst he';have hown':w3.ownsRow W2.heap.size 5 1 (.slice A1 ac.frame.length c1) ac.frame.length (ab ac.frame):=hown;have hsh':aA ac:=hsh;have hR3':RS w3 base g r l s0 b0:=hR3;clear he hown hsh hR3;obtain⟨e1,he1⟩:∃b:dI,b={ mZ with act:=ac }:=⟨_,rfl⟩;have hS1:aP e1:=by rw[he1];exact⟨hsh',by show (0:Nat)<_;decide⟩
 have hfr:e1.act.frame=ac.frame:=by rw[he1]
 obtain⟨fl,hfl⟩:∃z,z=ac.frame.length:=⟨_,rfl⟩;rw[←hfl] at hown' ⊢;obtain⟨W4,hW4⟩:∃W,W=w3.alloc (.cells (bh none 0 0 none 0 0 mZ).toArray 65):=⟨_,rfl⟩;obtain⟨W5,hW5⟩:∃W,W=W4.setCells w3.heap.size 0 (bh A1 fl c1 none 0 0 e1):=⟨_,rfl⟩;obtain⟨hth,hbx,hbe⟩:=jE w3 W4 W5 65 (bh none 0 0 none 0 0 mZ) (bh A1 fl c1 none 0 0 e1) (by rw[km hS1,km fJ]) hW4 hW5;have hX3:aj w3 w.heap.size 65 (bh none 0 0 none 0 0 mZ).toArray:=hO3.blk HX2.out (by have:=Hgl.out;omega) (fun e=>by injection e with e;have:=Hrl.out;omega);have hB3:Below w.heap.size w w3:=HB2.out.trans (hO3.below (Nat.le_of_lt Hgl.out) (fun k hk=>by injection hk with hk;have:=Hrl.out;omega) HB2.out.size);have hst:EN w W5 base g r w3.heap.size l s0 b0 A1 fl c1 e1:=⟨hR3'.below hbe,aj.below hX3 hbe hX3.lt,hbx,by rw[hfr];exact an (bP hown' HB2.out.size) hbe,hB3.trans (hbe.mono hB3.size),hS1,hX3.lt,Hrl.out,Hgl.out,hR3'.box.lt,hR3'.rd.lt⟩;have Hst:=hid hst;have Hbuilt:=hid (Br A1 fl c1 ac hsh');rw[←he1] at Hbuilt;have He1:=hid he1;have Hfl:=hid hfl;rw[kL] at hW4;have HW4:=hid hW4;have HW5:=hid hW5;have Hth:=hid hth;have Hsz:Hid ((qq.info? 65).map (·.size)=some (bh A1 fl c1 none 0 0 e1).toArray.size):=ll hS1;clear hO3 hown' hsh' hR3' he1 hS1 hfr hfl hW4 hW5 hth hbx hbe hX3 hB3 hst Hrs HX2 HB2;go_upto_region 3 with (first
  |((with_reducible refine G9 65 ?_);refine rL (by rfl) 65 _ rfl (bh A1 fl c1 none 0 0 e1).toArray (by simp only[List.map_toArray,List.map_cons,List.map_nil];exact Hbuilt.out) ?_)
  |(rw[←HW4.out];(with_reducible refine aR 65 ?_);refine wpList_store_mid rfl 65 (.tmp 5) (.tmp 13) rfl w3.heap.size 0 (bh A1 fl c1 none 0 0 e1).toArray rfl rfl Hth.out Hsz.out (pT _ _ _ _ _ _ _) ?_))
 rw[←HW5.out];clear HW4 HW5 Hth Hsz Hbuilt;obtain⟨bx,hbx⟩:∃b,b=w3.heap.size:=⟨_,rfl⟩;rw[←hbx] at Hst ⊢;clear hbx;go_upto_region 4 with fail
 have ok_:=cK Hst.out.rs.ok 1 true;rw[H1.out] at ok_;have Ok:=hid ok_;have d0:=Hst.out.rs.d0;clear ok_
 go_wp2_with fail
 refine (cV base g l s0 W5 1 true Hst.out.rs.rd Hst.out.rs.ok hl).mono ?_;rw[H1.out];rintro e w6 ⟨rfl,hR,hg⟩;have Hm:=hid (Hst.out.after (Hst.out.rs.after hR Ok.out hg) (cY.of_g hg));clear hR hg d0 Hst Ok;obtain⟨e2,he2⟩:∃b:dI,b={ e1 with o:={ e1.o with err:=(q1:Int) } }:=⟨_,rfl⟩;have hS:aP e2:=by rw[he2];exact⟨Hm.out.shape.act,Hm.out.shape.sum⟩
 have hst:=Hm.out.set_ (b':=e2) 34 (.int .i64 (q1:Int)) (by rw[DC Hm.out.shape,he2]) hS (by rw[he2]);have dx:=(show w6.cell? ⟨bx,34,none⟩=some (.int .i64 e1.o.err) from mz Hm.out.box Hm.out.shape 0);have df:=Hm.out.box.frozen 34;have fHw1:=Hw1.out;obtain⟨W6,hW6⟩:∃W,W=w6.setCell ⟨bx,34,none⟩ (.int .i64 (q1:Int)):=⟨_,rfl⟩;rw[←hW6] at hst;have HW6:=hid hW6;have Hst:=hid hst;have Hb_e2:=hid he2;clear hS hst hW6 he2;go_upto_region 5 with fail
 rw[←HW6.out];clear dx df HW6 Hm fHw1;have ok_:=cK Hst.out.rs.ok 1 true;rw[H2.out] at ok_;have Ok:=hid ok_;have d0:=Hst.out.rs.d0;clear ok_
 go_wp2_with fail
 refine (cV base g l s1 W6 1 true Hst.out.rs.rd Hst.out.rs.ok hl).mono ?_;rw[H2.out];rintro e w7 ⟨rfl,hR,hg⟩;have Hm:=hid (Hst.out.after (Hst.out.rs.after hR Ok.out hg) (cY.of_g hg));clear hR hg d0 Hst Ok;obtain⟨e3,he3⟩:∃b:dI,b={ e2 with o:={ e2.o with reason:=(q2:Int) } }:=⟨_,rfl⟩;have hS:aP e3:=by rw[he3];exact⟨Hm.out.shape.act,Hm.out.shape.sum⟩
 have hst:=Hm.out.set_ (b':=e3) 35 (.int .i64 (q2:Int)) (by rw[vL Hm.out.shape,he3]) hS (by rw[he3]);have dx:=(show w7.cell? ⟨bx,35,none⟩=some (.int .i64 e2.o.reason) from mz Hm.out.box Hm.out.shape 1);have df:=Hm.out.box.frozen 35;have fHw2:=Hw2.out;obtain⟨W7,hW7⟩:∃W,W=w7.setCell ⟨bx,35,none⟩ (.int .i64 (q2:Int)):=⟨_,rfl⟩;rw[←hW7] at hst;have HW7:=hid hW7;have Hst:=hid hst;have Hb_e3:=hid he3;clear hS hst hW7 he3;go_upto_region 6 with fail
 rw[←HW7.out];clear dx df HW7 Hm fHw2
 go_wp2_with fail
 refine (nk base g r l s2 b0 W7 Hst.out.rs hl).mono ?_;rw[H3.out];rintro e w8 ⟨rfl,hR,hO⟩;have Hm:=hid (Hst.out.after hR hO);clear hR hO Hst;obtain⟨e4,he4⟩:∃b:dI,b={ e3 with o:={ e3.o with hit:=hit } }:=⟨_,rfl⟩;have hS:aP e4:=by rw[he4];exact⟨Hm.out.shape.act,Hm.out.shape.sum⟩
 have hst:=Hm.out.set_ (b':=e4) 36 (.bool hit) (by rw[DD Hm.out.shape,he4]) hS (by rw[he4]);have dx:=(show w8.cell? ⟨bx,36,none⟩=some (.bool e3.o.hit) from mz Hm.out.box Hm.out.shape 2);have df:=Hm.out.box.frozen 36;obtain⟨W8,hW8⟩:∃W,W=w8.setCell ⟨bx,36,none⟩ (.bool hit):=⟨_,rfl⟩;rw[←hW8] at hst;have HW8:=hid hW8;have Hst:=hid hst;have Hb_e4:=hid he4;clear hS hst hW8 he4;go_upto_region 7 with fail
 rw[←HW8.out];clear dx df HW8 Hm;have ok_:=n0 Hst.out.rs.ok;rw[H4.out] at ok_;have Ok:=hid ok_;have d0:=Hst.out.rs.d0;clear ok_
 go_wp2_with fail
 refine (j8 base g l s3 W8 Hst.out.rs.rd Hst.out.rs.ok hl).mono ?_;rw[H4.out];rintro e w9 ⟨rfl,hR,hg⟩;have Hm:=hid (Hst.out.after (Hst.out.rs.after hR Ok.out hg) (cY.of_g hg));clear hR hg d0 Hst Ok;obtain⟨e5,he5⟩:∃b:dI,b={ e4 with o:={ e4.o with version:=(m4:Int) } }:=⟨_,rfl⟩;have hS:aP e5:=by rw[he5];exact⟨Hm.out.shape.act,Hm.out.shape.sum⟩
 have hst:=Hm.out.set_ (b':=e5) 37 (.int .i64 (m4:Int)) (by rw[uq Hm.out.shape,he5]) hS (by rw[he5]);have dx:=(show w9.cell? ⟨bx,37,none⟩=some (.int .i64 e4.o.version) from mz Hm.out.box Hm.out.shape 3);have df:=Hm.out.box.frozen 37;have fHw4:=Hw4.out;have fHi4:=Hi4.out;obtain⟨W9,hW9⟩:∃W,W=w9.setCell ⟨bx,37,none⟩ (.int .i64 (m4:Int)):=⟨_,rfl⟩;rw[←hW9] at hst;have HW9:=hid hW9;have Hst:=hid hst;have Hb_e5:=hid he5;clear hS hst hW9 he5;go_upto_region 8 with fail
 rw[←HW9.out];clear dx df HW9 Hm fHw4 fHi4
 go_wp2_with fail
 refine (np base g r l s4 b3 W9 Hst.out.rs hl).mono ?_;rw[H5.out];rintro e w10 ⟨rfl,hR,hO⟩;have Hm:=hid (Hst.out.after hR hO);clear hR hO Hst;obtain⟨e6,he6⟩:∃b:dI,b={ e5 with o:={ e5.o with name:=nm } }:=⟨_,rfl⟩;have hS:aP e6:=by rw[he6];exact⟨Hm.out.shape.act,Hm.out.shape.sum⟩
 have hst:=Hm.out.set_ (b':=e6) 38 (.string ⟨nm.toArray⟩) (by rw[Bt Hm.out.shape,he6]) hS (by rw[he6]);have dx:=(show w10.cell? ⟨bx,38,none⟩=some (.string ⟨e5.o.name.toArray⟩) from mz Hm.out.box Hm.out.shape 4);have df:=Hm.out.box.frozen 38;obtain⟨W10,hW10⟩:∃W,W=w10.setCell ⟨bx,38,none⟩ (.string ⟨nm.toArray⟩):=⟨_,rfl⟩;rw[←hW10] at hst;have HW10:=hid hW10;have Hst:=hid hst;have Hb_e6:=hid he6;clear hS hst hW10 he6;go_upto_region 9 with fail
 rw[←HW10.out];clear dx df HW10 Hm;have ok_:=n0 Hst.out.rs.ok;rw[H6.out] at ok_;have Ok:=hid ok_;have d0:=Hst.out.rs.d0;clear ok_
 go_wp2_with fail
 refine (j8 base g l s5 W10 Hst.out.rs.rd Hst.out.rs.ok hl).mono ?_;rw[H6.out];rintro e w11 ⟨rfl,hR,hg⟩;have Hm:=hid (Hst.out.after (Hst.out.rs.after hR Ok.out hg) (cY.of_g hg));clear hR hg d0 Hst Ok;obtain⟨e7,he7⟩:∃b:dI,b={ e6 with len:=(m6:Int) }:=⟨_,rfl⟩;have hS:aP e7:=by rw[he7];exact⟨Hm.out.shape.act,Hm.out.shape.sum⟩
 have hst:=Hm.out.set_ (b':=e7) 40 (.int .i64 (m6:Int)) (by rw[DE Hm.out.shape,he7]) hS (by rw[he7]);have dx:=(show w11.cell? ⟨bx,40,none⟩=some (.int .i64 e6.len) from mz Hm.out.box Hm.out.shape 6);have df:=Hm.out.box.frozen 40;have fHw6:=Hw6.out;have fHi6:=Hi6.out;obtain⟨W11,hW11⟩:∃W,W=w11.setCell ⟨bx,40,none⟩ (.int .i64 (m6:Int)):=⟨_,rfl⟩;rw[←hW11] at hst;have HW11:=hid hW11;have Hst:=hid hst;have Hb_e7:=hid he7;clear hS hst hW11 he7;go_upto_region 10 with fail
 rw[←HW11.out];clear dx df HW11 Hm fHw6 fHi6;have ok_:=cK Hst.out.rs.ok 4 false;rw[H7.out] at ok_;have Ok:=hid ok_;have d0:=Hst.out.rs.d0;clear ok_
 go_wp2_with fail
 refine (cV base g l s6 W11 4 false Hst.out.rs.rd Hst.out.rs.ok hl).mono ?_;rw[H7.out];rintro e w12 ⟨rfl,hR,hg⟩;have Hm:=hid (Hst.out.after (Hst.out.rs.after hR Ok.out hg) (cY.of_g hg));clear hR hg d0 Hst Ok;obtain⟨e8,he8⟩:∃b:dI,b={ e7 with sum:=q7 }:=⟨_,rfl⟩;have hS:aP e8:=by rw[he8];exact⟨Hm.out.shape.act,L7.out⟩
 have hst:=Hm.out.set_ (b':=e8) 41 (.int .u32 (q7:Int)) (by rw[DB Hm.out.shape,he8]) hS (by rw[he8]);have dx:=(show w12.cell? ⟨bx,41,none⟩=some (.int .u32 (e7.sum:Int)) from mz Hm.out.box Hm.out.shape 7);have df:=Hm.out.box.frozen 41;have fHw7:=Hw7.out;obtain⟨W12,hW12⟩:∃W,W=w12.setCell ⟨bx,41,none⟩ (.int .u32 (q7:Int)):=⟨_,rfl⟩;rw[←hW12] at hst;have HW12:=hid hW12;have Hst:=hid hst;have Hb_e8:=hid he8;clear hS hst hW12 he8;go_upto_region 11 with fail
 rw[←HW12.out];clear dx df HW12 Hm fHw7;have d0:=Hst.out.rs.d0
 go_wp2_with fail
 refine (pQ base g l s7 W12 Hst.out.rs.rd Hst.out.rs.ok hl).mono ?_;rintro e w13 ⟨rfl,hR,hg⟩;have Hm:=hid (Hst.out.after (Hst.out.rs.after hR (xS Hst.out.rs.ok) hg) (cY.of_g hg));clear hR hg d0 Hst;obtain⟨z,hz⟩:∃z,z=rJ (jM l s7) b3:=⟨_,rfl⟩
 go_wp2_with fail
 refine (th base g r l (jM l s7) b3 w13 Hm.out.rs).mono ?_;rw[show (!b3&&(decide ((jM l s7).2.1=0)&&decide ((jM l s7).2.2=0)))=z from hz.symm];rintro e w14 ⟨rfl,hb14⟩;have Hst:=hid (Hm.out.below hb14);have Hz:=hid hz;clear hz hb14 Hm;have Hfin:Hid (EM l=(jM l s7,b3,e8)):=by show _=_;rw[←HR.out,HRl.out,Hb_e8.out,Hb_e7.out,Hb_e6.out,Hb_e5.out,Hb_e4.out,Hb_e3.out,Hb_e2.out,He1.out];rfl
 have Hlen:Hid (fl=e8.act.frame.length):=by show _=_;rw[Hfl.out,Hb_e8.out,Hb_e7.out,Hb_e6.out,Hb_e5.out,Hb_e4.out,Hb_e3.out,Hb_e2.out,He1.out]
 rcases z with _|_
 ·skip
  have Hno:Hid (fg l=none):=by show _=_;unfold fg;rw[Hfin.out];simp only[←Hz.out];first|rfl|(rw[Ht.out];rfl)
  have Hthr:Hid (w14.there w.heap.size 0 (bh none 0 0 none 0 0 mZ).toArray.size):=Hst.out.res.there (by decide);have hG:aj (w14.setCells w.heap.size 0 (bh none 0 0 none 0 0 mZ)) w.heap.size 65 (bh none 0 0 none 0 0 mZ).toArray:=by
   have:=aj.setCells (bh none 0 0 none 0 0 mZ) 0 Hst.out.res;rw[bn rfl] at this;exact this
  have HG:=hid hG;clear hG
  go_wp2_with (first
   |((with_reducible refine aR 65 ?_);rw[←kL];refine wpList_store_mid rfl 65 (.tmp 2) (.tmp 81) rfl w.heap.size 0 (bh none 0 0 none 0 0 mZ).toArray rfl rfl Hthr.out (ll fJ) (pT _ _ _ _ _ _ _) ?_))
  refine bodyPost_ret (v:=.tuple #[.agg (bh none 0 0 none 0 0 mZ).toArray,.int .i64 3]) (fI (P:=qq) (p:=2) (u:=3) rfl _ _ w.heap.size _ _ _ _ rfl HG.out eh rfl (ll fJ)) rfl ?_;exact⟨bq (IB _) _ _ Hst.out.bel,fun _=>rfl,fun f hf=>by rw[Hno.out] at hf;cases hf⟩
 ·have RF:=hid (ag Hst.out.box)
  go_wp2_with (first
   |((with_reducible refine aB 65 ?_);refine aa (by rfl) 65 (.tmp 5) rfl bx 0 rfl (bh A1 fl c1 none 0 0 e8) _ RF.out Tryz.underlying65 rfl (ll Hst.out.shape) ?_))
  rw[Hlen.out];have hoz:=Hst.out.own;have hoe:(bh A1 e8.act.frame.length c1 none 0 0 e8)=bh A1 e8.act.frame.length c1 none e8.o.out.length 0 e8:=by rw[show e8.o.out=[] by rw[Hb_e8.out,Hb_e7.out,Hb_e6.out,Hb_e5.out,Hb_e4.out,Hb_e3.out,Hb_e2.out,He1.out];rfl];rfl
  have hri:=og A1 c1 none 0 e8 Hst.out.shape w14 (BS.of_own hoz).1;rw[←hoe] at hri;refine hri.mono ?_;rintro e w15 ⟨rfl,hb15⟩;have Hst2:=hid (Hst.out.below hb15);clear hoz hoe hri hb15 Hst RF;have Hst:=Hst2;clear Hst2;rcases ht:aG e8 with _|_
  ·have Ht:=hid ht
   clear ht;have Hno:Hid (fg l=none):=by show _=_;unfold fg;rw[Hfin.out];simp only[←Hz.out];first|rfl|(rw[Ht.out];rfl)
   have Hthr:Hid (w15.there w.heap.size 0 (bh none 0 0 none 0 0 mZ).toArray.size):=Hst.out.res.there (by decide);have hG:aj (w15.setCells w.heap.size 0 (bh none 0 0 none 0 0 mZ)) w.heap.size 65 (bh none 0 0 none 0 0 mZ).toArray:=by
    have:=aj.setCells (bh none 0 0 none 0 0 mZ) 0 Hst.out.res;rw[bn rfl] at this;exact this
   have HG:=hid hG;clear hG
   go_wp2_with (first
    |((with_reducible refine aR 65 ?_);rw[←kL];refine wpList_store_mid rfl 65 (.tmp 2) (.tmp 81) rfl w.heap.size 0 (bh none 0 0 none 0 0 mZ).toArray rfl rfl Hthr.out (ll fJ) (pT _ _ _ _ _ _ _) ?_))
   refine bodyPost_ret (v:=.tuple #[.agg (bh none 0 0 none 0 0 mZ).toArray,.int .i64 3]) (fI (P:=qq) (p:=2) (u:=3) rfl _ _ w.heap.size _ _ _ _ rfl HG.out eh rfl (ll fJ)) rfl ?_;exact⟨bq (IB _) _ _ Hst.out.bel,fun _=>rfl,fun f hf=>by rw[Hno.out] at hf;cases hf⟩
  ·have Hyes:Hid (fg l=some e8):=by show _=_;unfold fg;rw[Hfin.out];simp only[←Hz.out,ht];rfl
   clear ht;rw[Hlen.out] at Hst;have RF:=hid (ag Hst.out.box);have Hthr:Hid (w15.there w.heap.size 0 (bh A1 e8.act.frame.length c1 none 0 0 e8).toArray.size):=Hst.out.res.there (by rw[Iy,Iy,km Hst.out.shape,km fJ];decide);have Hszr:Hid ((qq.info? 65).map (·.size)=some (bh A1 e8.act.frame.length c1 none 0 0 e8).toArray.size):=ll Hst.out.shape;have hG:aj (w15.setCells w.heap.size 0 (bh A1 e8.act.frame.length c1 none 0 0 e8)) w.heap.size 65 (bh A1 e8.act.frame.length c1 none 0 0 e8).toArray:=by
    have:=aj.setCells (bh A1 e8.act.frame.length c1 none 0 0 e8) 0 Hst.out.res;rw[bn (by rw[km Hst.out.shape,km fJ])] at this;exact this
   have HG:=hid hG;have HO:=hid (Hst.out.own.kept (aY w15 w.heap.size 0 (bh A1 e8.act.frame.length c1 none 0 0 e8) 0 (IC.refl _ _)) (aK Hst.out.own Hst.out.res (by decide)));clear hG
   go_wp2_with (first
    |((with_reducible refine aB 65 ?_);refine aa (by rfl) 65 (.tmp 5) rfl bx 0 rfl (bh A1 e8.act.frame.length c1 none 0 0 e8) _ RF.out Tryz.underlying65 rfl (ll Hst.out.shape) ?_)
    |((with_reducible refine aR 65 ?_);refine wpList_store_mid rfl 65 (.tmp 2) (.tmp 82) rfl w.heap.size 0 (bh A1 e8.act.frame.length c1 none 0 0 e8).toArray rfl rfl Hthr.out Hszr.out (pT _ _ _ _ _ _ _) ?_))
   refine bodyPost_ret (v:=.tuple #[.agg (bh A1 e8.act.frame.length c1 none 0 0 e8).toArray,.int .i64 0]) (fI (P:=qq) (p:=2) (u:=3) rfl _ _ w.heap.size _ _ _ _ rfl HG.out eh rfl Hszr.out) rfl ?_;unfold DF;rw[Hyes.out];refine⟨bq (IB _) _ _ Hst.out.bel,(fun hf=>by cases hf),fun f hf=>?_⟩;injection hf with hf
   subst hf;exact⟨A1,c1,rfl,Hst.out.shape,HO.out⟩
