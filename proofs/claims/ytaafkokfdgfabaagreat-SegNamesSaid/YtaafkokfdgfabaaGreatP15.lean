import Derived.Test.YtaafkokfdgfabaaGreatP13
set_option maxHeartbeats 8000000
namespace Go.Proofs.YtaafkokfdgfabaaGreat
open Go.RowKit
set_option linter.unusedVariables false
set_option linter.unusedSimpArgs false
theorem ee:Tryz.prog.underlying 60=some (.struct (Tryz.prog.fieldsOf 60)):=by kernel_rfl
theorem CC:(Tryz.prog.info? 58).map (·.size)=some 30:=by kernel_rfl
def qe (k:Int) (b:aR) (n:List UInt8) (u:Nat):List Value:=zv k :: (ae b ++ [sv n,.float .f64 u])
theorem uR {k:Int} {b:aR} {n:List UInt8} {u:Nat} (h:ar b):(qe k b n u).length=30:=by
 have:=bn h;simp [qe,this]
theorem DJ (k:Int) (b:aR) (n:List UInt8) (u:Nat):(qe k b n u).toArray.all (·.oneCell')=true:=all_oneCell_toArray (by
 intro v hv;simp only [qe,List.mem_cons,List.mem_append,List.not_mem_nil,or_false] at hv;rcases hv with rfl | hv | rfl | rfl
 ·rfl
 ·exact Array.all_eq_true_iff_forall_mem.1 (eC b) v (by simpa using hv)
 ·rfl
 ·rfl)
theorem bV {P:Program} {fn:Func} {p:Tmp} {ty:TypeId} (h:fn.results=#[.cell p ty]) (tmps:Array Value) (w:World) (g:Nat) (t:TypeId) (cs:Array Value) (d:TypeDesc)
  (hp:tmps.getD p undef=.pointer (some ⟨g,0,none⟩)) (hg:ah w g t cs)
  (hu:P.underlying ty=some d) (hd:(match d with | .struct _ | .array _ _=>true | _=>false)=true) (hi:(P.info? ty).map (·.size)=some cs.size) :
  (results fn tmps).run P w=.ok (.agg cs) w:=by
 exact results_cell_row h tmps w g t cs (0,0) d hp hg hu hd hi
section
variable {A:Option Addr} {n c:Nat} {a:bY}
theorem pm (A':Option Addr) (n' c':Nat) (fr:List UInt8):(aq A n c a).toArray.setIfInBounds 1 (.slice A' n' c')=(aq A' n' c' { a with frame:=fr }).toArray:=by
 rw [List.setIfInBounds_toArray];rfl
theorem oG (h:az a) (i:Nat) (v:Value):(aq A n c a).toArray.setIfInBounds (30 + i) v=(zv a.kind :: .slice A n c :: zv a.op :: (ae a.back ++ [sv a.oname,.float .f64 a.owt,sv a.name,.bool a.well].set i v)).toArray:=by
 have h1:=bn h.back;rw [List.setIfInBounds_toArray,show 30 + i=(27 + i + 2) + 1 by omega];simp only [aq,List.set_cons_succ];rw [List.set_append_right _ _ (by omega),h1,Nat.add_sub_cancel_left]
theorem ma (h:az a) (x:List UInt8):(aq A n c a).toArray.setIfInBounds 30 (.string ⟨x.toArray⟩)=(aq A n c { a with oname:=x }).toArray:=oG h 0 _
theorem sQ (h:az a) (x:Nat):(aq A n c a).toArray.setIfInBounds 31 (.float .f64 x)=(aq A n c { a with owt:=x }).toArray:=oG h 1 _
theorem qt (h:az a) (x:List UInt8):(aq A n c a).toArray.setIfInBounds 32 (.string ⟨x.toArray⟩)=(aq A n c { a with name:=x }).toArray:=oG h 2 _
theorem qu (h:az a) (x:Bool):(aq A n c a).toArray.setIfInBounds 33 (.bool x)=(aq A n c { a with well:=x }).toArray:=oG h 3 _
theorem CD (h:az a) (k:Int) (b:aR) (hb:ar b) (x:List UInt8) (u:Nat):lW (aq A n c a).toArray 2 (qe k b x u)=(aq A n c { a with op:=k,back:=b,oname:=x,owt:=u }).toArray:=by
 have h1:=bn h.back;have h2:=uR (k:=k) (n:=x) (u:=u) hb;rw [f9 _ _ _ (by rw [aY h,h2];decide)];congr 1
 have hd:(aq A n c a).drop (2 + (qe k b x u).length)=[sv a.name,.bool a.well]:=by
  rw [h2,aq,show 2 + 30=29 + 3 from rfl];simp only [List.drop_succ_cons];rw [show 29=27 + 2 from rfl,←List.drop_drop,List.drop_left' h1];rfl
 rw [hd];simp [aq,qe]
theorem qv (h:az a) (b:aR) (hb:ar b):lW (aq A n c a).toArray 3 (ae b)=(aq A n c { a with back:=b }).toArray:=by
 have h1:=bn h.back;have h2:=bn hb;rw [f9 _ _ _ (by rw [aY h,h2];decide)];congr 1
 have hd:(aq A n c a).drop (3 + (ae b).length)=[sv a.oname,.float .f64 a.owt,sv a.name,.bool a.well]:=by
  rw [h2,aq,show 3 + 27=27 + 3 from rfl];simp only [List.drop_succ_cons];rw [List.drop_left' h1]
 rw [hd];simp [aq]
end
def AB (A:Option Addr) (a:bY):Option Addr:=bif a.kind == 1 then A else none
def CE (c:Nat) (a:bY):Nat:=bif a.kind == 1 then c else 0
theorem Ei {A:Option Addr} {a:bY} {w:World} {B:Nat} (h:BS w B A a.frame):BS w B (AB A a) (dv a).frame:=by
 unfold AB dv;by_cases hk:a.kind=1
 ·simpa [hk] using h
 ·have e:(a.kind == 1)=false:=by simpa using hk
  rw [e,if_neg hk];split
  ·split
   ·exact BS.nil _ _ _
   ·split <;> exact BS.nil _ _ _
  ·split <;> exact BS.nil _ _ _
def AC (w:World) (A:Option Addr) (c:Nat) (a:bY) (e:Ending) (w':World):Prop :=
 e=.returned (.agg (aq (AB A a) (dv a).frame.length (CE c a) (dv a)).toArray)∧Below w.heap.size w w'
structure pn (w wr:World) (A:Option Addr) (c:Nat) (a:bY) (A':Option Addr) (c':Nat) (b:bY):Prop where
 src:ah wr w.heap.size 60 (aq A a.frame.length c a).toArray
 res:ah wr (w.heap.size + 1) 60 (aq none 0 0 da).toArray
 box:ah wr (w.heap.size + 2) 60 (aq A' b.frame.length c' b).toArray
 bel:Below w.heap.size w wr
 shape:az b
section
variable {w wr w':World} {A A' A2:Option Addr} {c c' c2:Nat} {a b b':bY}
theorem pn.boxed (h:pn w wr A c a A' c' b) (hb:ah w' (w.heap.size + 2) 60 (aq A2 b'.frame.length c2 b').toArray) (hg:wr.grownBy w' (some (w.heap.size + 2))) (hs:az b'):pn w w' A c a A2 c2 b' :=
 ⟨ah.grown h.src hg (fun e=>by injection e with e;omega),ah.grown h.res hg (fun e=>by injection e with e;omega),hb,h.bel.grown hg h.bel.size (fun k hk=>by injection hk with hk;omega),hs⟩
theorem pn.set_ (h:pn w wr A c a A' c' b) (k:Nat) (u:Value) (e:(aq A' b.frame.length c' b).toArray.setIfInBounds k u=(aq A2 b'.frame.length c2 b').toArray) (hs:az b'):pn w (wr.setCell ⟨w.heap.size + 2,k,none⟩ u) A c a A2 c2 b':=by
 refine h.boxed ?_ (aT _ ⟨w.heap.size + 2,k,none⟩ u) hs;have:=ah.set_ h.box k u;rw [e] at this;exact this
theorem pn.sets (h:pn w wr A c a A' c' b) (k:Nat) (vs:List Value) (e:lW (aq A' b.frame.length c' b).toArray k vs=(aq A2 b'.frame.length c2 b').toArray) (hs:az b'):pn w (wr.setCells (w.heap.size + 2) k vs) A c a A2 c2 b':=by
 refine h.boxed ?_ (aN _ (w.heap.size + 2) k vs k (World.grownBy.refl _ _)) hs;have:=ah.setCells vs k h.box;rw [e] at this;exact this
theorem pn.goodBlk (h:pn w wr A c a A' c' b):ah (wr.setCells (w.heap.size + 1) 0 (aq A' b.frame.length c' b)) (w.heap.size + 1) 60 (aq A' b.frame.length c' b).toArray:=by
 have:=ah.setCells (aq A' b.frame.length c' b) 0 h.res;rw [aX (by rw [aY h.shape,aY bK])] at this;exact this
theorem pn.good (h:pn w wr A c a A' c' b) (hb:b=dv a) (hA:A'=AB A a) (hc:c'=CE c a):AC w A c a (.returned (.agg (aq A' b.frame.length c' b).toArray)) (wr.setCells (w.heap.size + 1) 0 (aq A' b.frame.length c' b)):=by
 subst hb hA hc;exact ⟨rfl,aZ (by omega) _ _ h.bel⟩
end
set_option maxRecDepth 100000 in
theorem AD (A:Option Addr) (c:Nat) (a:bY) (ha0:az a) (w:World) :
  Calls Tryz.prog 134 #[.agg (aq A a.frame.length c a).toArray] w (AC w A c a):=by
 have ha:=Lib.hid ha0;clear ha0;obtain ⟨W0,hW0⟩:∃ W,W=w.alloc (.cells (aq A a.frame.length c a).toArray 60):=⟨_,rfl⟩
 obtain ⟨W1,hW1⟩:∃ W,W=W0.alloc (.cells (aq none 0 0 da).toArray 60):=⟨_,rfl⟩
 obtain ⟨W2,hW2⟩:∃ W,W=W1.alloc (.cells (aq none 0 0 da).toArray 60):=⟨_,rfl⟩
 obtain ⟨a1,ha1⟩:∃ b:bY,b={ da with kind:=a.kind }:=⟨_,rfl⟩
 obtain ⟨W3,hW3⟩:∃ W,W=W2.setCells W1.heap.size 0 (aq none 0 0 a1):=⟨_,rfl⟩
 have hs0:W0.heap.size=w.heap.size + 1:=by rw [hW0];simp
 have hs1:W1.heap.size=w.heap.size + 2:=by rw [hW1];simp [hs0]
 have hS1:az a1:=by rw [ha1];exact ⟨aA,by show (0:Nat)<_;decide⟩
 have hX0:ah W0 w.heap.size 60 (aq A a.frame.length c a).toArray:=by rw [hW0];exact ah.new w _ _ _ rfl
 have hX1:ah W1 w.heap.size 60 (aq A a.frame.length c a).toArray:=by rw [hW1];exact ah.alloc hX0 _
 have hR1:ah W1 (w.heap.size + 1) 60 (aq none 0 0 da).toArray:=by rw [hW1,←hs0];exact ah.new W0 _ _ _ rfl
 have hB1:Below w.heap.size w W1:=by rw [hW1,hW0];exact ((Below.refl _ _).alloc (Nat.le_refl _) _).alloc (by simp) _
 obtain ⟨hth,hbx,hbe⟩:=my W1 W2 W3 60 (aq none 0 0 da) (aq none 0 0 a1) (by rw [aY hS1,aY bK]) hW2 hW3;have h3:pn w W3 A c a none 0 a1:=⟨ah.below hX1 hbe hX1.lt,ah.below hR1 hbe hR1.lt,by rw [←hs1,show a1.frame.length=0 by rw [ha1];rfl];exact hbx,hB1.trans (hbe.mono hB1.size),hS1⟩
 have d0:=hU hX1;have H3:=Lib.hid h3;have Ha1:=Lib.hid ha1;have HW0:=Lib.hid hW0;rw [pc] at hW1 hW2;have HW1:=Lib.hid hW1;have HW2:=Lib.hid hW2;have HW3:=Lib.hid hW3;have Hs1:=Lib.hid hs1;have Hth:=Lib.hid hth;have Hlit:Hid ((aq none 0 0 a1).toArray=#[.int .i64 a.kind,.slice none 0 0,.int .i64 0,.string ⟨#[]⟩,.bool false,.int .u8 0,.int .u8 0,.int .u8 0,.int .u8 0,.int .u8 0,.int .u8 0,.int .u8 0,.int .u8 0,.int .u8 0,.int .u8 0,.int .u8 0,.int .u8 0,.int .u8 0,.int .u8 0,.int .u8 0,.int .u8 0,.int .i64 0,.int .u8 0,.int .u8 0,.int .u8 0,.int .u8 0,.int .u8 0,.int .u8 0,.float .f64 0,.bool false,.string ⟨#[]⟩,.float .f64 0,.string ⟨#[]⟩,.bool false]):=by show _=_;rw [ha1];rfl
 have Hsz:Hid ((Tryz.prog.info? 60).map (·.size)=some (aq none 0 0 a1).toArray.size):=bP hS1;clear hW0 hW1 hW2 hW3 ha1 hs0 hs1 hS1 hX0 hX1 hR1 hB1 hth hbx hbe h3;go_enter Tryz.func134,Tryz.ntmps134
 go_upto_region 1 with fail
 rw [←HW0.out];rw [←HW1.out];go_upto_region 2 with (first
  | (rw [←HW2.out];(with_reducible refine aM 60 ?_);rw [←Hlit.out];refine wpList_store_mid rfl 60 (.tmp 3) (.tmp 6) rfl W1.heap.size 0 (aq none 0 0 a1).toArray rfl rfl Hth.out Hsz.out (eO _ _ _ _) ?_))
 rw [←HW3.out];rw [Hs1.out];clear HW0 HW1 HW2 HW3 Hth Hlit Hsz Hs1 d0;have d0:=hU H3.out.src;rcases k1:(a.kind == 1) with _ | _
 rotate_left
 ·have hk:a.kind=1:=by simpa using k1
  have Hk1:=Lib.hid k1;obtain ⟨b,hb⟩:∃ b:bY,b={ da with kind:=a.kind,frame:=a.frame }:=⟨_,rfl⟩
  have hbo:b=dv a:=by rw [hb];unfold dv;rw [if_pos hk]
  have hbf:b.frame=a.frame:=by rw [hb]
  have hS:az b:=by rw [hb];exact ⟨aA,by show (0:Nat)<_;decide⟩
  have d1:=gH H3.out.src;have dx:=gH H3.out.box;have df:=H3.out.box.frozen 1;have h4:pn w (W3.setCell ⟨w.heap.size + 2,1,none⟩ (.slice A a.frame.length c)) A c a A c b:=H3.out.set_ 1 (.slice A a.frame.length c) (by rw [hbf,pm A a.frame.length c a.frame,Ha1.out,hb]) hS;obtain ⟨W4,hW4⟩:∃ W,W=W3.setCell ⟨w.heap.size + 2,1,none⟩ (.slice A a.frame.length c):=⟨_,rfl⟩
  rw [←hW4] at h4;have H4:=Lib.hid h4;have HW4:=Lib.hid hW4;have Hbo:=Lib.hid hbo;have Hbf:=Lib.hid hbf;clear hk hb hbo hbf hS h4 hW4;go_upto_region 15 with fail
  rw [←HW4.out];clear HW4 d0 d1 dx df;have RF:=Lib.hid (aj H4.out.box);have Hthr:Hid (W4.there (w.heap.size + 1) 0 (aq A b.frame.length c b).toArray.size):=H4.out.res.there (by rw [List.size_toArray,List.size_toArray,aY H4.out.shape,aY bK];decide);have Hszr:Hid ((Tryz.prog.info? 60).map (·.size)=some (aq A b.frame.length c b).toArray.size):=bP H4.out.shape;have HG:=Lib.hid H4.out.goodBlk;have Hpost:=Lib.hid (H4.out.good Hbo.out (by rw [AB,Hk1.out];rfl) (by rw [CE,Hk1.out];rfl))
  go_wp2_with (first
   | ((with_reducible refine aI 60 ?_);refine aa (by rfl) 60 (.tmp 3) rfl (w.heap.size + 2) 0 rfl (aq A b.frame.length c b) _ RF.out Tryz.underlying60 rfl (bP H4.out.shape) ?_)
   | ((with_reducible refine aM 60 ?_);refine wpList_store_mid rfl 60 (.tmp 2) (.tmp 51) rfl (w.heap.size + 1) 0 (aq A b.frame.length c b).toArray rfl rfl Hthr.out Hszr.out (eO _ _ _ _) ?_))
  refine bodyPost_ret (v:=.agg (aq A b.frame.length c b).toArray) (bV (P:=Tryz.prog) (p:=2) rfl _ _ (w.heap.size + 1) _ _ _ rfl HG.out ee rfl Hszr.out) rfl Hpost.out
 have Hk1:=Lib.hid k1;rcases k2:(a.kind == 2) with _ | _
 rotate_left
 ·have hk:a.kind=2:=by simpa using k2
  have Hk:=Lib.hid hk;clear hk;have d2:=jO H3.out.src;obtain ⟨b,hb⟩:∃ b:bY,b={ da with kind:=a.kind,op:=a.op }:=⟨_,rfl⟩
  have hS:az b:=by rw [hb];exact ⟨aA,by show (0:Nat)<_;decide⟩
  obtain ⟨W4,hW4⟩:∃ W,W=W3.setCells (w.heap.size + 2) 2 (qe a.op dt [] 0):=⟨_,rfl⟩
  have hth:W3.there (w.heap.size + 2) 2 (qe a.op dt [] 0).toArray.size:=H3.out.box.there (by rw [List.size_toArray,List.size_toArray,uR aA,aY H3.out.shape];decide);have h4:pn w W4 A c a none 0 b:=by
   rw [hW4];refine H3.out.sets 2 _ ?_ hS;rw [CD H3.out.shape a.op dt aA [] 0,Ha1.out,hb];rfl
  have H4:=Lib.hid h4;have HW4:=Lib.hid hW4;have Hb:=Lib.hid hb;have Hth:=Lib.hid hth;clear hS h4 hW4 hth hb;go_upto_region 7 with (first
   | ((with_reducible refine aM 58 ?_);refine wpList_store_mid rfl 58 (.tmp 20) (.tmp 19) rfl (w.heap.size + 2) 2 (qe a.op dt [] 0).toArray rfl rfl Hth.out (CC.trans (by rw [List.size_toArray,uR aA])) (DJ _ _ _ _) ?_))
  rw [←HW4.out];clear HW4 Hth d0 d2;have d2:=jO H4.out.src;rcases k3:(a.op == 1) with _ | _
  rotate_left
  ·obtain ⟨b2,hb2⟩:∃ b:bY,b={ da with kind:=a.kind,op:=a.op,back:=a.back }:=⟨_,rfl⟩
   have hS2:az b2:=by rw [hb2];exact ⟨ha.out.back,by show (0:Nat)<_;decide⟩
   have hbo:b2=dv a:=by
    rw [hb2];unfold dv;rw [if_neg (by have:=Hk.out;omega),if_pos Hk.out,if_pos (by simpa using k3)]
   obtain ⟨W5,hW5⟩:∃ W,W=W4.setCells (w.heap.size + 2) 3 (ae a.back):=⟨_,rfl⟩
   have hth:W4.there (w.heap.size + 2) 3 (ae a.back).toArray.size:=H4.out.box.there (by rw [List.size_toArray,List.size_toArray,bn ha.out.back,aY H4.out.shape];decide);have h5:pn w W5 A c a none 0 b2:=by
    rw [hW5];refine H4.out.sets 3 _ ?_ hS2;rw [qv H4.out.shape a.back ha.out.back,Hb.out,hb2]
   have hbf:b2.frame=[]:=by rw [hb2];rfl
   have H5:=Lib.hid h5;have HW5:=Lib.hid hW5;have Hth:=Lib.hid hth;have Hbo:=Lib.hid hbo;have Hbf:=Lib.hid hbf;have RB:=Lib.hid (ke H4.out.src ha.out);clear hS2 h5 hW5 hth hb2 hbo hbf;go_upto_region 15 with (first
    | ((with_reducible refine aI 56 ?_);refine aa (by rfl) 56 (.tmp 29) rfl w.heap.size 3 rfl (ae a.back) _ RB.out Tryz.underlying56 rfl (cQ ha.out.back) ?_)
    | ((with_reducible refine aM 56 ?_);refine wpList_store_mid rfl 56 (.tmp 32) (.tmp 30) rfl (w.heap.size + 2) 3 (ae a.back).toArray rfl rfl Hth.out (cQ ha.out.back) (eC _) ?_))
   rw [←HW5.out];clear HW5 Hth RB d2;have RF:=Lib.hid (aj H5.out.box);have Hthr:Hid (W5.there (w.heap.size + 1) 0 (aq none b2.frame.length 0 b2).toArray.size):=H5.out.res.there (by rw [List.size_toArray,List.size_toArray,aY H5.out.shape,aY bK];decide);have Hszr:Hid ((Tryz.prog.info? 60).map (·.size)=some (aq none b2.frame.length 0 b2).toArray.size):=bP H5.out.shape;have HG:=Lib.hid H5.out.goodBlk;have Hpost:=Lib.hid (H5.out.good Hbo.out (by rw [AB,Hk1.out];rfl) (by rw [CE,Hk1.out];rfl))
   go_wp2_with (first
    | ((with_reducible refine aI 60 ?_);refine aa (by rfl) 60 (.tmp 3) rfl (w.heap.size + 2) 0 rfl (aq none b2.frame.length 0 b2) _ RF.out Tryz.underlying60 rfl (bP H5.out.shape) ?_)
    | ((with_reducible refine aM 60 ?_);refine wpList_store_mid rfl 60 (.tmp 2) (.tmp 51) rfl (w.heap.size + 1) 0 (aq none b2.frame.length 0 b2).toArray rfl rfl Hthr.out Hszr.out (eO _ _ _ _) ?_))
   refine bodyPost_ret (v:=.agg (aq none b2.frame.length 0 b2).toArray) (bV (P:=Tryz.prog) (p:=2) rfl _ _ (w.heap.size + 1) _ _ _ rfl HG.out ee rfl Hszr.out) rfl Hpost.out
  rcases k4:(a.op == 3) with _ | _
  rotate_left
  ·obtain ⟨b2,hb2⟩:∃ b:bY,b={ da with kind:=a.kind,op:=a.op,owt:=a.owt }:=⟨_,rfl⟩
   have hSb2:az b2:=by rw [hb2];exact ⟨aA,ha.out.owt⟩
   have s31:=kP H4.out.src ha.out;have dx:=kP H4.out.box H4.out.shape;have df:=H4.out.box.frozen 31;obtain ⟨W5,hW5⟩:∃ W,W=W4.setCell ⟨w.heap.size + 2,31,none⟩ (.float .f64 a.owt):=⟨_,rfl⟩
   have H50:pn w W5 A c a none 0 b2:=by
    rw [hW5];refine H4.out.set_ 31 (.float .f64 a.owt) ?_ hSb2;rw [sQ H4.out.shape a.owt,Hb.out,hb2]
   have H5:=Lib.hid H50;have QW5:=Lib.hid hW5;have Pb2:=Lib.hid hb2;have hsf:=fun (a:Addr) (m:Mode) (n:Nat) (w:World)=>ib a n m w
   clear H50 hW5 hb2 hSb2;go_upto_region 12 with fail
   rw [←QW5.out];clear QW5 s31 dx df;obtain ⟨b3,hb3⟩:∃ b:bY,b={ da with kind:=a.kind,op:=a.op,oname:=a.oname,owt:=a.owt }:=⟨_,rfl⟩
   have hSb3:az b3:=by rw [hb3];exact ⟨aA,ha.out.owt⟩
   have s30:=fh H5.out.src ha.out;have dx:=fh H5.out.box H5.out.shape;have df:=H5.out.box.frozen 30;obtain ⟨W6,hW6⟩:∃ W,W=W5.setCell ⟨w.heap.size + 2,30,none⟩ (.string ⟨a.oname.toArray⟩):=⟨_,rfl⟩
   have H60:pn w W6 A c a none 0 b3:=by
    rw [hW6];refine H5.out.set_ 30 (.string ⟨a.oname.toArray⟩) ?_ hSb3;rw [ma H5.out.shape a.oname,Pb2.out,hb3]
   have H6:=Lib.hid H60;have QW6:=Lib.hid hW6;have Pb3:=Lib.hid hb3;clear H60 hW6 hb3 hSb3;go_upto_region 15 with fail
   rw [←QW6.out];clear QW6 s30 dx df;have Hbo:Hid (b3=dv a):=by
    show _=_
    rw [Pb3.out];unfold dv;rw [if_neg (by have:=Hk.out;omega),if_pos Hk.out,if_neg (by simpa using k3),if_pos (by simpa using k4)]
   have Hbf:Hid (b3.frame=[]):=by show _=_;rw [Pb3.out];rfl
   have RF:=Lib.hid (aj H6.out.box);have Hthr:Hid (W6.there (w.heap.size + 1) 0 (aq none b3.frame.length 0 b3).toArray.size):=H6.out.res.there (by rw [List.size_toArray,List.size_toArray,aY H6.out.shape,aY bK];decide);have Hszr:Hid ((Tryz.prog.info? 60).map (·.size)=some (aq none b3.frame.length 0 b3).toArray.size):=bP H6.out.shape;have HG:=Lib.hid H6.out.goodBlk;have Hpost:=Lib.hid (H6.out.good Hbo.out (by rw [AB,Hk1.out];rfl) (by rw [CE,Hk1.out];rfl))
   go_wp2_with (first
    | ((with_reducible refine aI 60 ?_);refine aa (by rfl) 60 (.tmp 3) rfl (w.heap.size + 2) 0 rfl (aq none b3.frame.length 0 b3) _ RF.out Tryz.underlying60 rfl (bP H6.out.shape) ?_)
    | ((with_reducible refine aM 60 ?_);refine wpList_store_mid rfl 60 (.tmp 2) (.tmp 51) rfl (w.heap.size + 1) 0 (aq none b3.frame.length 0 b3).toArray rfl rfl Hthr.out Hszr.out (eO _ _ _ _) ?_))
   refine bodyPost_ret (v:=.agg (aq none b3.frame.length 0 b3).toArray) (bV (P:=Tryz.prog) (p:=2) rfl _ _ (w.heap.size + 1) _ _ _ rfl HG.out ee rfl Hszr.out) rfl Hpost.out
  ·obtain ⟨b3,hb3⟩:∃ b:bY,b={ da with kind:=a.kind,op:=a.op,oname:=a.oname }:=⟨_,rfl⟩
   have hSb3:az b3:=by rw [hb3];exact ⟨aA,by show (0:Nat)<_;decide⟩
   have s30:=fh H4.out.src ha.out;have dx:=fh H4.out.box H4.out.shape;have df:=H4.out.box.frozen 30;obtain ⟨W6,hW6⟩:∃ W,W=W4.setCell ⟨w.heap.size + 2,30,none⟩ (.string ⟨a.oname.toArray⟩):=⟨_,rfl⟩
   have H60:pn w W6 A c a none 0 b3:=by
    rw [hW6];refine H4.out.set_ 30 (.string ⟨a.oname.toArray⟩) ?_ hSb3;rw [ma H4.out.shape a.oname,Hb.out,hb3]
   have H6:=Lib.hid H60;have QW6:=Lib.hid hW6;have Pb3:=Lib.hid hb3;clear H60 hW6 hb3 hSb3;go_upto_region 15 with fail
   rw [←QW6.out];clear QW6 s30 dx df;have Hbo:Hid (b3=dv a):=by
    show _=_
    rw [Pb3.out];unfold dv;rw [if_neg (by have:=Hk.out;omega),if_pos Hk.out,if_neg (by simpa using k3),if_neg (by simpa using k4)]
   have Hbf:Hid (b3.frame=[]):=by show _=_;rw [Pb3.out];rfl
   have RF:=Lib.hid (aj H6.out.box);have Hthr:Hid (W6.there (w.heap.size + 1) 0 (aq none b3.frame.length 0 b3).toArray.size):=H6.out.res.there (by rw [List.size_toArray,List.size_toArray,aY H6.out.shape,aY bK];decide);have Hszr:Hid ((Tryz.prog.info? 60).map (·.size)=some (aq none b3.frame.length 0 b3).toArray.size):=bP H6.out.shape;have HG:=Lib.hid H6.out.goodBlk;have Hpost:=Lib.hid (H6.out.good Hbo.out (by rw [AB,Hk1.out];rfl) (by rw [CE,Hk1.out];rfl))
   go_wp2_with (first
    | ((with_reducible refine aI 60 ?_);refine aa (by rfl) 60 (.tmp 3) rfl (w.heap.size + 2) 0 rfl (aq none b3.frame.length 0 b3) _ RF.out Tryz.underlying60 rfl (bP H6.out.shape) ?_)
    | ((with_reducible refine aM 60 ?_);refine wpList_store_mid rfl 60 (.tmp 2) (.tmp 51) rfl (w.heap.size + 1) 0 (aq none b3.frame.length 0 b3).toArray rfl rfl Hthr.out Hszr.out (eO _ _ _ _) ?_))
   refine bodyPost_ret (v:=.agg (aq none b3.frame.length 0 b3).toArray) (bV (P:=Tryz.prog) (p:=2) rfl _ _ (w.heap.size + 1) _ _ _ rfl HG.out ee rfl Hszr.out) rfl Hpost.out
 rcases k5:(a.kind == 3) with _ | _
 rotate_left
 ·have Hk:Hid (a.kind=3):=by show _=_;simpa using k5
  go_upto_region 14 with fail
  clear d0;have s32:=ia H3.out.src ha.out;have s33:=iJ H3.out.src ha.out;obtain ⟨b2,hb2⟩:∃ b:bY,b={ da with kind:=a.kind,name:=a.name }:=⟨_,rfl⟩
  obtain ⟨b3,hb3⟩:∃ b:bY,b={ da with kind:=a.kind,name:=a.name,well:=a.well }:=⟨_,rfl⟩
  have hS2:az b2:=by rw [hb2];exact ⟨aA,by show (0:Nat)<_;decide⟩
  have hS3:az b3:=by rw [hb3];exact ⟨aA,by show (0:Nat)<_;decide⟩
  refine wp_region_noPanic ?_;refine wp_region_held_drew (S:=fun w'=>ah w' w.heap.size 60 (aq A a.frame.length c a).toArray) (by kernel_rfl) (ah.drew H3.out.src) (fun hHeld=>?_);refine wpAnyH_take (i:=0) (v:=?_) rfl (by kernel_rfl) (by kernel_rfl) (by kernel_rfl) (fun _ _ _ h=>h) (Or.inl ⟨by rfl,?_⟩) hHeld ?_;rotate_left
  ·intro w' hSw
   skip
   go_simp
   try with_reducible rfl
  try (simp only [Act.put,List.getElem_toArray,List.getElem_cons_succ,List.getElem_cons_zero,List.setIfInBounds_toArray,List.set_cons_zero,List.set_cons_succ])
  refine wpAnyH_take (i:=1) (v:=?_) rfl (by kernel_rfl) (by kernel_rfl) (by kernel_rfl) (fun _ _ _ h=>h) (Or.inl ⟨by rfl,?_⟩) hHeld ?_;rotate_left
  ·intro w' hSw
   have e1:=ia hSw ha.out;go_simp
   try with_reducible rfl
  try (simp only [Act.put,List.getElem_toArray,List.getElem_cons_succ,List.getElem_cons_zero,List.setIfInBounds_toArray,List.set_cons_zero,List.set_cons_succ])
  refine wpAnyH_take (i:=2) (v:=?_) rfl (by kernel_rfl) (by kernel_rfl) (by kernel_rfl) (fun _ _ _ h=>h) (Or.inl ⟨by rfl,?_⟩) hHeld ?_;rotate_left
  ·intro w' hSw
   skip
   go_simp
   try with_reducible rfl
  try (simp only [Act.put,List.getElem_toArray,List.getElem_cons_succ,List.getElem_cons_zero,List.setIfInBounds_toArray,List.set_cons_zero,List.set_cons_succ])
  refine wpAnyH_take (i:=3) (v:=?_) rfl (by kernel_rfl) (by kernel_rfl) (by kernel_rfl) (fun _ _ _ h=>h) (Or.inl ⟨by rfl,?_⟩) hHeld ?_;rotate_left
  ·intro w' hSw
   have e1:=iJ hSw ha.out;go_simp
   try with_reducible rfl
  try (simp only [Act.put,List.getElem_toArray,List.getElem_cons_succ,List.getElem_cons_zero,List.setIfInBounds_toArray,List.set_cons_zero,List.set_cons_succ])
  refine wpAnyH_take (i:=4) (v:=?_) rfl (by kernel_rfl) (by kernel_rfl) (by kernel_rfl) (fun _ _ _ h=>h) (Or.inl ⟨by rfl,?_⟩) hHeld ?_;rotate_left
  ·intro w' hSw
   skip
   go_simp
   try with_reducible rfl
  try (simp only [Act.put,List.getElem_toArray,List.getElem_cons_succ,List.getElem_cons_zero,List.setIfInBounds_toArray,List.set_cons_zero,List.set_cons_succ])
  generalize hWd:W3.drew=Wd at hHeld ⊢
  have hd3:pn w Wd A c a none 0 a1:=by rw [←hWd];exact ⟨ah.drew H3.out.src,ah.drew H3.out.res,ah.drew H3.out.box,H3.out.bel.drew,H3.out.shape⟩
  clear hWd;refine wpAnyH_ready (rs:=[5]) (by kernel_rfl) (by simp) ?_;refine AllReadyH.cons (i:=5) rfl (fun K hK=>?_) AllReadyH.nil;have dx:=ia hd3.box hd3.shape;have df:=hd3.box.frozen 32;obtain ⟨W5,hW5⟩:∃ W,W=Wd.setCell ⟨w.heap.size + 2,32,none⟩ (.string ⟨a.name.toArray⟩):=⟨_,rfl⟩
  have h5:pn w W5 A c a none 0 b2:=by
   rw [hW5];refine hd3.set_ 32 _ ?_ hS2;rw [qt hd3.shape a.name,Ha1.out,hb2]
  go_simp
  rw [←hW5];clear hW5;refine hK.out _ _ h5.src (fun hHeld=>?_);clear hK K dx df
  try (simp only [Act.put,List.getElem_toArray,List.getElem_cons_succ,List.getElem_cons_zero,List.setIfInBounds_toArray,List.set_cons_zero,List.set_cons_succ])
  refine wpAnyH_take (i:=6) (v:=?_) rfl (by kernel_rfl) (by kernel_rfl) (by kernel_rfl) (fun _ _ _ h=>h) (Or.inl ⟨by rfl,?_⟩) hHeld ?_;rotate_left
  ·intro w' hSw
   skip
   go_simp
   try with_reducible rfl
  try (simp only [Act.put,List.getElem_toArray,List.getElem_cons_succ,List.getElem_cons_zero,List.setIfInBounds_toArray,List.set_cons_zero,List.set_cons_succ])
  refine wpAnyH_ready (rs:=[7]) (by kernel_rfl) (by simp) ?_;refine AllReadyH.cons (i:=7) rfl (fun K hK=>?_) AllReadyH.nil;have dx:=iJ h5.box h5.shape;have df:=h5.box.frozen 33;obtain ⟨W6,hW6⟩:∃ W,W=W5.setCell ⟨w.heap.size + 2,33,none⟩ (.bool a.well):=⟨_,rfl⟩
  have h6:pn w W6 A c a none 0 b3:=by
   rw [hW6];refine h5.set_ 33 _ ?_ hS3;rw [qu h5.shape a.well,hb2,hb3]
  go_simp
  rw [←hW6];clear hW6;refine hK.out _ _ h6.src (fun hHeld=>?_);clear hK K dx df
  try (simp only [Act.put,List.getElem_toArray,List.getElem_cons_succ,List.getElem_cons_zero,List.setIfInBounds_toArray,List.set_cons_zero,List.set_cons_succ])
  refine wpAnyH_done (by kernel_rfl) ?_ _;refine NoPanic.normal ?_;have H6:=Lib.hid h6;have Hbo:Hid (b3=dv a):=by
   show _=_
   rw [hb3];unfold dv;rw [if_neg (by have:=Hk.out;omega),if_neg (by have:=Hk.out;omega),if_pos Hk.out]
  have Hbf:Hid (b3.frame=[]):=by show _=_;rw [hb3];rfl
  clear h5 h6 hd3 hb2 hb3 hS2 hS3 hHeld s32 s33;have RF:=Lib.hid (aj H6.out.box);have Hthr:Hid (W6.there (w.heap.size + 1) 0 (aq none b3.frame.length 0 b3).toArray.size):=H6.out.res.there (by rw [List.size_toArray,List.size_toArray,aY H6.out.shape,aY bK];decide);have Hszr:Hid ((Tryz.prog.info? 60).map (·.size)=some (aq none b3.frame.length 0 b3).toArray.size):=bP H6.out.shape;have HG:=Lib.hid H6.out.goodBlk;have Hpost:=Lib.hid (H6.out.good Hbo.out (by rw [AB,Hk1.out];rfl) (by rw [CE,Hk1.out];rfl))
  go_wp2_with (first
   | ((with_reducible refine aI 60 ?_);refine aa (by rfl) 60 (.tmp 3) rfl (w.heap.size + 2) 0 rfl (aq none b3.frame.length 0 b3) _ RF.out Tryz.underlying60 rfl (bP H6.out.shape) ?_)
   | ((with_reducible refine aM 60 ?_);refine wpList_store_mid rfl 60 (.tmp 2) (.tmp 51) rfl (w.heap.size + 1) 0 (aq none b3.frame.length 0 b3).toArray rfl rfl Hthr.out Hszr.out (eO _ _ _ _) ?_))
  refine bodyPost_ret (v:=.agg (aq none b3.frame.length 0 b3).toArray) (bV (P:=Tryz.prog) (p:=2) rfl _ _ (w.heap.size + 1) _ _ _ rfl HG.out ee rfl Hszr.out) rfl Hpost.out
 have Hbo:Hid (a1=dv a):=by
  show _=_
  rw [Ha1.out];unfold dv;rw [if_neg (by simpa using k1),if_neg (by simpa using k2),if_neg (by simpa using k5)]
 have Hbf:Hid (a1.frame=[]):=by show _=_;rw [Ha1.out];rfl
 go_upto_region 15 with fail
 clear d0;have RF:=Lib.hid (aj H3.out.box);have Hthr:Hid (W3.there (w.heap.size + 1) 0 (aq none a1.frame.length 0 a1).toArray.size):=H3.out.res.there (by rw [List.size_toArray,List.size_toArray,aY H3.out.shape,aY bK];decide);have Hszr:Hid ((Tryz.prog.info? 60).map (·.size)=some (aq none a1.frame.length 0 a1).toArray.size):=bP H3.out.shape;have HG:=Lib.hid H3.out.goodBlk;have Hpost:=Lib.hid (H3.out.good Hbo.out (by rw [AB,Hk1.out];rfl) (by rw [CE,Hk1.out];rfl))
 go_wp2_with (first
  | ((with_reducible refine aI 60 ?_);refine aa (by rfl) 60 (.tmp 3) rfl (w.heap.size + 2) 0 rfl (aq none a1.frame.length 0 a1) _ RF.out Tryz.underlying60 rfl (bP H3.out.shape) ?_)
  | ((with_reducible refine aM 60 ?_);refine wpList_store_mid rfl 60 (.tmp 2) (.tmp 51) rfl (w.heap.size + 1) 0 (aq none a1.frame.length 0 a1).toArray rfl rfl Hthr.out Hszr.out (eO _ _ _ _) ?_))
 refine bodyPost_ret (v:=.agg (aq none a1.frame.length 0 a1).toArray) (bV (P:=Tryz.prog) (p:=2) rfl _ _ (w.heap.size + 1) _ _ _ rfl HG.out ee rfl Hszr.out) rfl Hpost.out
end Go.Proofs.YtaafkokfdgfabaaGreat
namespace Go.Proofs.YtaafkokfdgfabaaGreat
open Go.RowKit
set_option linter.unusedVariables false
set_option linter.unusedSimpArgs false
set_option maxRecDepth 100000 in
theorem sR (b:aR) (hb:ar b) (w:World) :
  Calls Tryz.prog 135 #[.agg (ae b).toArray] w fun e w'=>e=.returned (.bool (ff b))∧Below w.heap.size w w':=by
 obtain ⟨W,hW⟩:∃ W,W=w.alloc (.cells (ae b).toArray 56):=⟨_,rfl⟩
 have hX:ah W w.heap.size 56 (ae b).toArray:=by rw [hW];exact ah.new w _ _ _ rfl
 have HB:Hid (Below w.heap.size w W):=by rw [hW];exact (Below.refl _ _).alloc (Nat.le_refl _) _
 have d0:=ll hX;have d1:=kb hX hb;have HW:=Lib.hid hW;clear hW hX;go_enter Tryz.func135,Tryz.ntmps135
 go_upto_region 1 with fail
 rw [←HW.out];clear HW;by_cases h:b.name.length≤255
 ·have hI:(b.name.length:Int)≤255:=by omega
  have Hr:Hid (ff b=d9 b.port 0 65535):=by show _=_;unfold ff;rw [decide_eq_true h];rfl
  go_wp2_with fail
  refine (br b.port 65535 W).mono ?_;rintro e w2 ⟨rfl,rfl⟩
  go_wp2
  go_ret
  exact ⟨by rw [Hr.out];rfl,HB.out⟩
 ·have hI:¬ (b.name.length:Int)≤255:=by omega
  have Hr:Hid (ff b=false):=by show _=_;unfold ff;rw [decide_eq_false h];rfl
  go_wp2
  go_ret
  exact ⟨by rw [Hr.out];rfl,HB.out⟩
set_option maxRecDepth 100000 in
theorem go (A:Option Addr) (c:Nat) (a:bY) (ha0:az a) (w:World) (hf:BS w w.heap.size A a.frame) :
  Calls Tryz.prog 67 #[.agg (aq A a.frame.length c a).toArray] w fun e w'=>e=.returned (.bool (dS a))∧Below w.heap.size w w':=by
 have ha:=Lib.hid ha0;clear ha0;obtain ⟨W,hW⟩:∃ W,W=w.alloc (.cells (aq A a.frame.length c a).toArray 60):=⟨_,rfl⟩
 have HX:Hid (ah W w.heap.size 60 (aq A a.frame.length c a).toArray):=by rw [hW];exact ah.new w _ _ _ rfl
 have HB:Hid (Below w.heap.size w W):=by rw [hW];exact (Below.refl _ _).alloc (Nat.le_refl _) _
 have HF:=Lib.hid ((hf.below HB.out).more HB.out.size);have d0:=hU HX.out;have d1:=jO HX.out;have HW:=Lib.hid hW;clear hW hf;go_enter Tryz.func67,Tryz.ntmps67
 go_upto_region 1 with fail
 rw [←HW.out];clear HW;by_cases k1:a.kind<1
 ·have Hr:Hid (dS a=false):=by show _=_;unfold dS;rw [show d9 a.kind 1 4=false by unfold d9;rw [decide_eq_false (by omega)];rfl];rfl
  skip
  go_wp2
  go_ret
  exact ⟨by rw [Hr.out];rfl,HB.out⟩
 by_cases k2:4<a.kind
 ·have Hr:Hid (dS a=false):=by show _=_;unfold dS;rw [show d9 a.kind 1 4=false by unfold d9;rw [decide_eq_false (show ¬ a.kind≤4 by omega),Bool.and_false]];rfl
  skip
  go_wp2
  go_ret
  exact ⟨by rw [Hr.out];rfl,HB.out⟩
 have Hz:Hid (d9 a.kind 1 4=true):=bF.2 ⟨by omega,by omega⟩;by_cases k4:a.kind=2∧a.op<1
 ·have Hr:Hid (dS a=false):=by show _=_;unfold dS;rw [Hz.out,show (a.kind != 2)=false by simp [k4.1],show d9 a.op 1 5=false by unfold d9;rw [decide_eq_false (by omega)];rfl];rfl
  obtain ⟨kq,kr⟩:=k4
  go_wp2
  go_ret
  exact ⟨by rw [Hr.out];rfl,HB.out⟩
 by_cases k5:a.kind=2∧5<a.op
 ·have Hr:Hid (dS a=false):=by show _=_;unfold dS;rw [Hz.out,show (a.kind != 2)=false by simp [k5.1],show d9 a.op 1 5=false by unfold d9;rw [decide_eq_false (show ¬ a.op≤5 by omega),Bool.and_false]];rfl
  obtain ⟨kq,kr⟩:=k5;have ks:¬ a.op<1:=by omega
  clear k4
  go_wp2
  go_ret
  exact ⟨by rw [Hr.out];rfl,HB.out⟩
 have Hp:Hid (dS a=(cF a (dv a) && (decide (a.frame.length≤131072) && (decide (a.oname.length≤255) && (decide (a.name.length≤255) && ff a.back))))):=by
  show _=_
  unfold dS;rw [Hz.out,show (a.kind != 2 || d9 a.op 1 5)=true by
   by_cases h:a.kind=2
   ·rw [show d9 a.op 1 5=true from bF.2 ⟨by omega,by omega⟩,Bool.or_true]
   ·simp [h]]
  rfl
 go_cut [27] from 3 (fun v27 wc=>v27=.bool false∧wc=W)
 case first =>
  by_cases h:a.kind=2
  ·have kr:¬ a.op<1:=by omega
   have ks:¬ 5<a.op:=by omega
   clear k4 k5
   go_wp2_with fail
   go_meet
   case rel=>exact ⟨rfl,rfl⟩
  ·clear k4 k5
   go_wp2_with fail
   go_meet
   case rel=>exact ⟨rfl,rfl⟩
 case rest =>
  obtain ⟨rfl,hwc⟩:=hcut;rw [hwc];clear hwc;clear d0 d1 k1 k2 k4 k5;go_upto_region 3 with fail
  have l0:w.heap.size<W.heap.size:=HX.out.lt;have d1:=gH HX.out;have d2:=fh HX.out ha.out;have d3:=ia HX.out ha.out;obtain ⟨T,hT⟩:∃ T,T=(cF a (dv a) && decide ((a.frame.length:Int)≤131072) && decide ((a.oname.length:Int)≤255) && decide ((a.name.length:Int)≤255) && ff a.back):=⟨_,rfl⟩
  have HT:Hid (dS a=T):=by show _=_;rw [hT,Hp.out,show decide ((a.frame.length:Int)≤131072)=decide (a.frame.length≤131072) from decide_eq_decide.2 (by omega),show decide ((a.oname.length:Int)≤255)=decide (a.oname.length≤255) from decide_eq_decide.2 (by omega),show decide ((a.name.length:Int)≤255)=decide (a.name.length≤255) from decide_eq_decide.2 (by omega)];simp only [Bool.and_assoc]
  refine Sd.start ?_
  repeat ((first | refine pa ?_ | refine sl (aj HX.out) l0 Tryz.underlying60 (bP ha.out) ?_ | refine cl (fun u hu=>AD A c a ha.out u) ?_ | refine cl (fun u hu=>sO A c a (AB A a) (CE c a) (dv a) ha.out (uE ha.out) u (HF.out.on hu) (Ei (HF.out.on hu))) ?_ | refine gs (ke HX.out ha.out) l0 bL (cQ ha.out.back) ?_ | refine gc (fun u hu=>sR a.back ha.out.back u) ?_ | refine gp ?_ | refine pt ?_);simp only [ld,lg,lf,Nat.reduceAdd])
  rw [←hT];refine Sd.done fun w2 hb2=>?_
  have Hb2:=Lib.hid (HB.out.trans (hb2.mono HB.out.size));clear hb2 hT
  go_wp2
  go_ret
  exact ⟨by rw [HT.out];rfl,Hb2.out⟩
end Go.Proofs.YtaafkokfdgfabaaGreat
namespace Go.Proofs.YtaafkokfdgfabaaGreat
open Go.RowKit
set_option linter.unusedVariables false
set_option linter.unusedSimpArgs false
set_option maxRecDepth 100000 in
theorem md (A:Option Addr) (c:Nat) (A2:Option Addr) (c2:Nat) (a:dR) (ha0:aH a) (w:World) (hf:BS w w.heap.size A a.act.frame) :
  Calls Tryz.prog 34 #[.agg (bm A a.act.frame.length c A2 a.o.out.length c2 a).toArray] w fun e w'=>e=.returned (.bool (aO a))∧Below w.heap.size w w':=by
 have ha:=Lib.hid ha0;clear ha0;obtain ⟨W,hW⟩:∃ W,W=w.alloc (.cells (bm A a.act.frame.length c A2 a.o.out.length c2 a).toArray 65):=⟨_,rfl⟩
 have HX:Hid (ah W w.heap.size 65 (bm A a.act.frame.length c A2 a.o.out.length c2 a).toArray):=by rw [hW];exact ah.new w _ _ _ rfl
 have HB:Hid (Below w.heap.size w W):=by rw [hW];exact (Below.refl _ _).alloc (Nat.le_refl _) _
 have HF:=Lib.hid ((hf.below HB.out).more HB.out.size);have HW:=Lib.hid hW;clear hW hf;go_enter Tryz.func34,Tryz.ntmps34
 go_upto_region 1 with fail
 rw [←HW.out];clear HW;have RXo:=Lib.hid (ru HX.out ha.out);obtain ⟨x1,hx1⟩:∃ Z,Z=W.alloc (.cells (du none 0 0 sH).toArray 62):=⟨_,rfl⟩
 obtain ⟨y1,hy1⟩:∃ Z,Z=x1.setCells W.heap.size 0 (du A2 a.o.out.length c2 a.o):=⟨_,rfl⟩
 obtain ⟨htx1,hbx1,hex1⟩:=my W x1 y1 62 (du none 0 0 sH) (du A2 a.o.out.length c2 a.o) rfl hx1 hy1;rw [pi] at hx1;have Qx1:=Lib.hid hx1;have Qy1:=Lib.hid hy1;have Tx1:=Lib.hid htx1;have Bx1:=Lib.hid hbx1;have Ex1:=Lib.hid hex1;clear hx1 hy1 htx1 hbx1 hex1;go_upto_region 2 with (first
   | ((with_reducible refine aI 62 ?_);refine aa (by rfl) 62 (.tmp 4) rfl w.heap.size 34 rfl (du A2 a.o.out.length c2 a.o) _ RXo.out Tryz.underlying62 rfl kK ?_)
   | (rw [←Qx1.out];(with_reducible refine aM 62 ?_);refine wpList_store_mid rfl 62 (.tmp 3) (.tmp 5) rfl W.heap.size 0 (du A2 a.o.out.length c2 a.o).toArray rfl rfl Tx1.out kK (mA _ _ _ _) ?_))
 rw [←Qy1.out];clear Qx1 Qy1 Tx1;have HP:=Bx1;have HXn:=Lib.hid (ah.below HX.out Ex1.out HX.out.lt);have HB0:Hid (Below w.heap.size w y1):=HB.out.trans (Ex1.out.mono HB.out.size);have HF1:=Lib.hid ((HF.out.below Ex1.out).more Ex1.out.size);clear HX HF HB Ex1 Bx1 RXo;have HX:=HXn;clear HXn;have RXa:=Lib.hid (rt HX.out ha.out);rcases h0:(dS a.act) with _ | _
 ·have Hr:Hid (aO a=false):=by show _=_;simp only [aO,h0,Bool.false_and,Bool.and_false]
  skip
  go_wp2_with (first
    | ((with_reducible refine aI 60 ?_);refine aa (by rfl) 60 (.tmp 6) rfl w.heap.size 0 rfl (aq A a.act.frame.length c a.act) _ RXa.out Tryz.underlying60 rfl (bP ha.out.act) ?_))
  refine (go A c a.act ha.out.act y1 HF1.out).mono ?_;rintro e w5 ⟨rfl,hb5⟩;have HX5:=Lib.hid (ah.below HX.out hb5 HX.out.lt);have HP5:=Lib.hid (ah.below HP.out hb5 HP.out.lt);have HB:Hid (Below w.heap.size w w5):=HB0.out.trans (hb5.mono HB0.out.size);clear HX HP hb5;have HX:=HX5;have HP:=HP5;clear HX5 HP5;rw [h0];have d0:=iZ HP.out;have d1:=eD HP.out;have d3:=dX HP.out;have d4:=gI HP.out;have d5:=jy HP.out;have d6:=iY HX.out ha.out
  go_wp2
  go_ret
  exact ⟨by rw [Hr.out];rfl,HB.out⟩
 ·have K0:=Lib.hid h0
  clear h0;rcases h1:(d9 a.o.err 0 9) with _ | _
  ·have Hr:Hid (aO a=false):=by show _=_;simp only [aO,h1,Bool.false_and,Bool.and_false]
   skip
   go_wp2_with (first
     | ((with_reducible refine aI 60 ?_);refine aa (by rfl) 60 (.tmp 6) rfl w.heap.size 0 rfl (aq A a.act.frame.length c a.act) _ RXa.out Tryz.underlying60 rfl (bP ha.out.act) ?_))
   refine (go A c a.act ha.out.act y1 HF1.out).mono ?_;rintro e w5 ⟨rfl,hb5⟩;have HX5:=Lib.hid (ah.below HX.out hb5 HX.out.lt);have HP5:=Lib.hid (ah.below HP.out hb5 HP.out.lt);have HB:Hid (Below w.heap.size w w5):=HB0.out.trans (hb5.mono HB0.out.size);clear HX HP hb5;have HX:=HX5;have HP:=HP5;clear HX5 HP5;rw [K0.out];have d0:=iZ HP.out;have d1:=eD HP.out;have d3:=dX HP.out;have d4:=gI HP.out;have d5:=jy HP.out;have d6:=iY HX.out ha.out
   go_wp2_with fail
   refine (br a.o.err 9 w5).mono ?_;rintro e w6 ⟨rfl,rfl⟩;rw [h1]
   go_wp2
   go_ret
   exact ⟨by rw [Hr.out];rfl,HB.out⟩
  ·have K1:=Lib.hid h1
   clear h1;rcases h2:(d9 a.o.reason 0 10) with _ | _
   ·have Hr:Hid (aO a=false):=by show _=_;simp only [aO,h2,Bool.false_and,Bool.and_false]
    skip
    go_wp2_with (first
      | ((with_reducible refine aI 60 ?_);refine aa (by rfl) 60 (.tmp 6) rfl w.heap.size 0 rfl (aq A a.act.frame.length c a.act) _ RXa.out Tryz.underlying60 rfl (bP ha.out.act) ?_))
    refine (go A c a.act ha.out.act y1 HF1.out).mono ?_;rintro e w5 ⟨rfl,hb5⟩;have HX5:=Lib.hid (ah.below HX.out hb5 HX.out.lt);have HP5:=Lib.hid (ah.below HP.out hb5 HP.out.lt);have HB:Hid (Below w.heap.size w w5):=HB0.out.trans (hb5.mono HB0.out.size);clear HX HP hb5;have HX:=HX5;have HP:=HP5;clear HX5 HP5;rw [K0.out];have d0:=iZ HP.out;have d1:=eD HP.out;have d3:=dX HP.out;have d4:=gI HP.out;have d5:=jy HP.out;have d6:=iY HX.out ha.out
    go_wp2_with fail
    refine (br a.o.err 9 w5).mono ?_;rintro e w6 ⟨rfl,rfl⟩;rw [K1.out]
    go_wp2_with fail
    refine (br a.o.reason 10 w5).mono ?_;rintro e w6 ⟨rfl,rfl⟩;rw [h2]
    go_wp2
    go_ret
    exact ⟨by rw [Hr.out];rfl,HB.out⟩
   ·have K2:=Lib.hid h2
    clear h2;rcases h3:(d9 a.o.version 0 1099511627776) with _ | _
    ·have Hr:Hid (aO a=false):=by show _=_;simp only [aO,h3,Bool.false_and,Bool.and_false]
     skip
     go_wp2_with (first
       | ((with_reducible refine aI 60 ?_);refine aa (by rfl) 60 (.tmp 6) rfl w.heap.size 0 rfl (aq A a.act.frame.length c a.act) _ RXa.out Tryz.underlying60 rfl (bP ha.out.act) ?_))
     refine (go A c a.act ha.out.act y1 HF1.out).mono ?_;rintro e w5 ⟨rfl,hb5⟩;have HX5:=Lib.hid (ah.below HX.out hb5 HX.out.lt);have HP5:=Lib.hid (ah.below HP.out hb5 HP.out.lt);have HB:Hid (Below w.heap.size w w5):=HB0.out.trans (hb5.mono HB0.out.size);clear HX HP hb5;have HX:=HX5;have HP:=HP5;clear HX5 HP5;rw [K0.out];have d0:=iZ HP.out;have d1:=eD HP.out;have d3:=dX HP.out;have d4:=gI HP.out;have d5:=jy HP.out;have d6:=iY HX.out ha.out
     go_wp2_with fail
     refine (br a.o.err 9 w5).mono ?_;rintro e w6 ⟨rfl,rfl⟩;rw [K1.out]
     go_wp2_with fail
     refine (br a.o.reason 10 w5).mono ?_;rintro e w6 ⟨rfl,rfl⟩;rw [K2.out]
     go_wp2_with fail
     refine (br a.o.version 1099511627776 w5).mono ?_;rintro e w6 ⟨rfl,rfl⟩;rw [h3]
     go_wp2
     go_ret
     exact ⟨by rw [Hr.out];rfl,HB.out⟩
    ·have K3:=Lib.hid h3
     clear h3;rcases h4:(decide (a.o.name.length≤255)) with _ | _
     ·have Hr:Hid (aO a=false):=by show _=_;simp only [aO,h4,Bool.false_and,Bool.and_false]
      skip
      have q4:¬ (a.o.name.length:Int)≤255:=by have:=h4;have:=of_decide_eq_false this;omega
      go_wp2_with (first
        | ((with_reducible refine aI 60 ?_);refine aa (by rfl) 60 (.tmp 6) rfl w.heap.size 0 rfl (aq A a.act.frame.length c a.act) _ RXa.out Tryz.underlying60 rfl (bP ha.out.act) ?_))
      refine (go A c a.act ha.out.act y1 HF1.out).mono ?_;rintro e w5 ⟨rfl,hb5⟩;have HX5:=Lib.hid (ah.below HX.out hb5 HX.out.lt);have HP5:=Lib.hid (ah.below HP.out hb5 HP.out.lt);have HB:Hid (Below w.heap.size w w5):=HB0.out.trans (hb5.mono HB0.out.size);clear HX HP hb5;have HX:=HX5;have HP:=HP5;clear HX5 HP5;rw [K0.out];have d0:=iZ HP.out;have d1:=eD HP.out;have d3:=dX HP.out;have d4:=gI HP.out;have d5:=jy HP.out;have d6:=iY HX.out ha.out
      go_wp2_with fail
      refine (br a.o.err 9 w5).mono ?_;rintro e w6 ⟨rfl,rfl⟩;rw [K1.out]
      go_wp2_with fail
      refine (br a.o.reason 10 w5).mono ?_;rintro e w6 ⟨rfl,rfl⟩;rw [K2.out]
      go_wp2_with fail
      refine (br a.o.version 1099511627776 w5).mono ?_;rintro e w6 ⟨rfl,rfl⟩;rw [K3.out]
      go_wp2
      go_ret
      exact ⟨by rw [Hr.out];rfl,HB.out⟩
     ·have K4:=Lib.hid h4
      clear h4;rcases h5:(decide (a.o.out.length=0)) with _ | _
      ·have Hr:Hid (aO a=false):=by show _=_;simp only [aO,h5,Bool.false_and,Bool.and_false]
       skip
       have q4:(a.o.name.length:Int)≤255:=by have:=K4.out;have:=of_decide_eq_true this;omega
       have q5:¬ (a.o.out.length:Int)=0:=by have:=h5;have:=of_decide_eq_false this;omega
       have qb5:((a.o.out.length:Int) == 0)=false:=beq_eq_false_iff_ne.2 (by omega)
       go_wp2_with (first
         | ((with_reducible refine aI 60 ?_);refine aa (by rfl) 60 (.tmp 6) rfl w.heap.size 0 rfl (aq A a.act.frame.length c a.act) _ RXa.out Tryz.underlying60 rfl (bP ha.out.act) ?_))
       refine (go A c a.act ha.out.act y1 HF1.out).mono ?_;rintro e w5 ⟨rfl,hb5⟩;have HX5:=Lib.hid (ah.below HX.out hb5 HX.out.lt);have HP5:=Lib.hid (ah.below HP.out hb5 HP.out.lt);have HB:Hid (Below w.heap.size w w5):=HB0.out.trans (hb5.mono HB0.out.size);clear HX HP hb5;have HX:=HX5;have HP:=HP5;clear HX5 HP5;rw [K0.out];have d0:=iZ HP.out;have d1:=eD HP.out;have d3:=dX HP.out;have d4:=gI HP.out;have d5:=jy HP.out;have d6:=iY HX.out ha.out
       go_wp2_with fail
       refine (br a.o.err 9 w5).mono ?_;rintro e w6 ⟨rfl,rfl⟩;rw [K1.out]
       go_wp2_with fail
       refine (br a.o.reason 10 w5).mono ?_;rintro e w6 ⟨rfl,rfl⟩;rw [K2.out]
       go_wp2_with fail
       refine (br a.o.version 1099511627776 w5).mono ?_;rintro e w6 ⟨rfl,rfl⟩;rw [K3.out]
       go_wp2
       go_ret
       exact ⟨by rw [Hr.out];rfl,HB.out⟩
      ·have K5:=Lib.hid h5
       clear h5;rcases h6:(d9 a.len 0 262144) with _ | _
       ·have Hr:Hid (aO a=false):=by show _=_;simp only [aO,h6,Bool.false_and,Bool.and_false]
        skip
        have q4:(a.o.name.length:Int)≤255:=by have:=K4.out;have:=of_decide_eq_true this;omega
        have q5:(a.o.out.length:Int)=0:=by have:=K5.out;have:=of_decide_eq_true this;omega
        have qb5:((a.o.out.length:Int) == 0)=true:=by rw [q5];rfl
        go_wp2_with (first
          | ((with_reducible refine aI 60 ?_);refine aa (by rfl) 60 (.tmp 6) rfl w.heap.size 0 rfl (aq A a.act.frame.length c a.act) _ RXa.out Tryz.underlying60 rfl (bP ha.out.act) ?_))
        refine (go A c a.act ha.out.act y1 HF1.out).mono ?_;rintro e w5 ⟨rfl,hb5⟩;have HX5:=Lib.hid (ah.below HX.out hb5 HX.out.lt);have HP5:=Lib.hid (ah.below HP.out hb5 HP.out.lt);have HB:Hid (Below w.heap.size w w5):=HB0.out.trans (hb5.mono HB0.out.size);clear HX HP hb5;have HX:=HX5;have HP:=HP5;clear HX5 HP5;rw [K0.out];have d0:=iZ HP.out;have d1:=eD HP.out;have d3:=dX HP.out;have d4:=gI HP.out;have d5:=jy HP.out;have d6:=iY HX.out ha.out
        go_wp2_with fail
        refine (br a.o.err 9 w5).mono ?_;rintro e w6 ⟨rfl,rfl⟩;rw [K1.out]
        go_wp2_with fail
        refine (br a.o.reason 10 w5).mono ?_;rintro e w6 ⟨rfl,rfl⟩;rw [K2.out]
        go_wp2_with fail
        refine (br a.o.version 1099511627776 w5).mono ?_;rintro e w6 ⟨rfl,rfl⟩;rw [K3.out]
        go_wp2_with fail
        refine (br a.len 262144 w5).mono ?_;rintro e w6 ⟨rfl,rfl⟩;rw [h6]
        go_wp2
        go_ret
        exact ⟨by rw [Hr.out];rfl,HB.out⟩
       ·have K6:=Lib.hid h6
        clear h6;have Hr:Hid (aO a=true):=by show _=_;simp only [aO,K0.out,K1.out,K2.out,K3.out,K4.out,K5.out,K6.out,Bool.and_true]
        skip
        have q4:(a.o.name.length:Int)≤255:=by have:=K4.out;have:=of_decide_eq_true this;omega
        have q5:(a.o.out.length:Int)=0:=by have:=K5.out;have:=of_decide_eq_true this;omega
        have qb5:((a.o.out.length:Int) == 0)=true:=by rw [q5];rfl
        go_wp2_with (first
          | ((with_reducible refine aI 60 ?_);refine aa (by rfl) 60 (.tmp 6) rfl w.heap.size 0 rfl (aq A a.act.frame.length c a.act) _ RXa.out Tryz.underlying60 rfl (bP ha.out.act) ?_))
        refine (go A c a.act ha.out.act y1 HF1.out).mono ?_;rintro e w5 ⟨rfl,hb5⟩;have HX5:=Lib.hid (ah.below HX.out hb5 HX.out.lt);have HP5:=Lib.hid (ah.below HP.out hb5 HP.out.lt);have HB:Hid (Below w.heap.size w w5):=HB0.out.trans (hb5.mono HB0.out.size);clear HX HP hb5;have HX:=HX5;have HP:=HP5;clear HX5 HP5;rw [K0.out];have d0:=iZ HP.out;have d1:=eD HP.out;have d3:=dX HP.out;have d4:=gI HP.out;have d5:=jy HP.out;have d6:=iY HX.out ha.out
        go_wp2_with fail
        refine (br a.o.err 9 w5).mono ?_;rintro e w6 ⟨rfl,rfl⟩;rw [K1.out]
        go_wp2_with fail
        refine (br a.o.reason 10 w5).mono ?_;rintro e w6 ⟨rfl,rfl⟩;rw [K2.out]
        go_wp2_with fail
        refine (br a.o.version 1099511627776 w5).mono ?_;rintro e w6 ⟨rfl,rfl⟩;rw [K3.out]
        go_wp2_with fail
        refine (br a.len 262144 w5).mono ?_;rintro e w6 ⟨rfl,rfl⟩;rw [K6.out]
        go_wp2
        go_ret
        exact ⟨by rw [Hr.out];rfl,HB.out⟩
end Go.Proofs.YtaafkokfdgfabaaGreat
