import Derived.Test.YtaafkokfdgfabaaGreatP13
set_option maxHeartbeats 8000000
namespace Go.Proofs.YtaafkokfdgfabaaGreat
open Go.RowKit
set_option linter.unusedVariables false
set_option linter.unusedSimpArgs false
theorem eg:Tryz.prog.underlying 60=some (.struct (Tryz.prog.fieldsOf 60)):=by kernel_rfl
theorem Ec:(Tryz.prog.info? 58).map (·.size)=some 30:=by kernel_rfl
def rv (k:Int) (b:aU) (n:List UInt8) (u:Nat):List Value:=zv k :: (ag b ++ [sv n,.float .f64 u])
theorem wT {k:Int} {b:aU} {n:List UInt8} {u:Nat} (h:au b):(rv k b n u).length=30:=by
 have:=bq h;simp [rv,this]
theorem Ft (k:Int) (b:aU) (n:List UInt8) (u:Nat):(rv k b n u).toArray.all (·.oneCell')=true:=all_oneCell_toArray (by
 intro v hv;simp only [rv,List.mem_cons,List.mem_append,List.not_mem_nil,or_false] at hv;rcases hv with rfl | hv | rfl | rfl
 ·rfl
 ·exact Array.all_eq_true_iff_forall_mem.1 (eZ b) v (by simpa using hv)
 ·rfl
 ·rfl)
theorem cw {P:Program} {fn:Func} {p:Tmp} {ty:TypeId} (h:fn.results=#[.cell p ty]) (tmps:Array Value) (w:World) (g:Nat) (t:TypeId) (cs:Array Value) (d:TypeDesc)
  (hp:tmps.getD p undef=.pointer (some ⟨g,0,none⟩)) (hg:ah w g t cs)
  (hu:P.underlying ty=some d) (hd:(match d with | .struct _ | .array _ _=>true | _=>false)=true) (hi:(P.info? ty).map (·.size)=some cs.size) :
  (results fn tmps).run P w=.ok (.agg cs) w:=by
 exact results_cell_row h tmps w g t cs (0,0) d hp hg hu hd hi
section
variable {A:Option Addr} {n c:Nat} {a:cz}
theorem qs (A':Option Addr) (n' c':Nat) (fr:List UInt8):(aq A n c a).toArray.setIfInBounds 1 (.slice A' n' c')=(aq A' n' c' { a with frame:=fr }).toArray:=by
 rw [List.setIfInBounds_toArray];rfl
theorem pQ (h:aA a) (i:Nat) (v:Value):(aq A n c a).toArray.setIfInBounds (30 + i) v=(zv a.kind :: .slice A n c :: zv a.op :: (ag a.back ++ [sv a.oname,.float .f64 a.owt,sv a.name,.bool a.well].set i v)).toArray:=by
 have h1:=bq h.back;rw [List.setIfInBounds_toArray,show 30 + i=(27 + i + 2) + 1 by omega];simp only [aq,List.set_cons_succ];rw [List.set_append_right _ _ (by omega),h1,Nat.add_sub_cancel_left]
theorem nj (h:aA a) (x:List UInt8):(aq A n c a).toArray.setIfInBounds 30 (.string ⟨x.toArray⟩)=(aq A n c { a with oname:=x }).toArray:=pQ h 0 _
theorem uw (h:aA a) (x:Nat):(aq A n c a).toArray.setIfInBounds 31 (.float .f64 x)=(aq A n c { a with owt:=x }).toArray:=pQ h 1 _
theorem rO (h:aA a) (x:List UInt8):(aq A n c a).toArray.setIfInBounds 32 (.string ⟨x.toArray⟩)=(aq A n c { a with name:=x }).toArray:=pQ h 2 _
theorem rP (h:aA a) (x:Bool):(aq A n c a).toArray.setIfInBounds 33 (.bool x)=(aq A n c { a with well:=x }).toArray:=pQ h 3 _
theorem Ed (h:aA a) (k:Int) (b:aU) (hb:au b) (x:List UInt8) (u:Nat):mY (aq A n c a).toArray 2 (rv k b x u)=(aq A n c { a with op:=k,back:=b,oname:=x,owt:=u }).toArray:=by
 have h1:=bq h.back;have h2:=wT (k:=k) (n:=x) (u:=u) hb;rw [gQ _ _ _ (by rw [aX h,h2];decide)];congr 1
 have hd:(aq A n c a).drop (2 + (rv k b x u).length)=[sv a.name,.bool a.well]:=by
  rw [h2,aq,show 2 + 30=29 + 3 from rfl];simp only [List.drop_succ_cons];rw [show 29=27 + 2 from rfl,←List.drop_drop,List.drop_left' h1];rfl
 rw [hd];simp [aq,rv]
theorem rQ (h:aA a) (b:aU) (hb:au b):mY (aq A n c a).toArray 3 (ag b)=(aq A n c { a with back:=b }).toArray:=by
 have h1:=bq h.back;have h2:=bq hb;rw [gQ _ _ _ (by rw [aX h,h2];decide)];congr 1
 have hd:(aq A n c a).drop (3 + (ag b).length)=[sv a.oname,.float .f64 a.owt,sv a.name,.bool a.well]:=by
  rw [h2,aq,show 3 + 27=27 + 3 from rfl];simp only [List.drop_succ_cons];rw [List.drop_left' h1]
 rw [hd];simp [aq]
end
def CA (A:Option Addr) (a:cz):Option Addr:=bif a.kind == 1 then A else none
def Ee (c:Nat) (a:cz):Nat:=bif a.kind == 1 then c else 0
theorem Ge {A:Option Addr} {a:cz} {w:World} {B:Nat} (h:BS w B A a.frame):BS w B (CA A a) (dO a).frame:=by
 unfold CA dO;by_cases hk:a.kind=1
 ·simpa [hk] using h
 ·have e:(a.kind == 1)=false:=by simpa using hk
  rw [e,if_neg hk];split
  ·split
   ·exact BS.nil _ _ _
   ·split <;> exact BS.nil _ _ _
  ·split <;> exact BS.nil _ _ _
def CB (w:World) (A:Option Addr) (c:Nat) (a:cz) (e:Ending) (w':World):Prop :=
 e=.returned (.agg (aq (CA A a) (dO a).frame.length (Ee c a) (dO a)).toArray)∧Below w.heap.size w w'
structure qt (w wr:World) (A:Option Addr) (c:Nat) (a:cz) (A':Option Addr) (c':Nat) (b:cz):Prop where
 src:ah wr w.heap.size 60 (aq A a.frame.length c a).toArray
 res:ah wr (w.heap.size + 1) 60 (aq none 0 0 dC).toArray
 box:ah wr (w.heap.size + 2) 60 (aq A' b.frame.length c' b).toArray
 bel:Below w.heap.size w wr
 shape:aA b
section
variable {w wr w':World} {A A' A2:Option Addr} {c c' c2:Nat} {a b b':cz}
theorem qt.boxed (h:qt w wr A c a A' c' b) (hb:ah w' (w.heap.size + 2) 60 (aq A2 b'.frame.length c2 b').toArray) (hg:wr.grownBy w' (some (w.heap.size + 2))) (hs:aA b'):qt w w' A c a A2 c2 b' :=
 ⟨ah.grown h.src hg (fun e=>by injection e with e;omega),ah.grown h.res hg (fun e=>by injection e with e;omega),hb,h.bel.grown hg h.bel.size (fun k hk=>by injection hk with hk;omega),hs⟩
theorem qt.set_ (h:qt w wr A c a A' c' b) (k:Nat) (u:Value) (e:(aq A' b.frame.length c' b).toArray.setIfInBounds k u=(aq A2 b'.frame.length c2 b').toArray) (hs:aA b'):qt w (wr.setCell ⟨w.heap.size + 2,k,none⟩ u) A c a A2 c2 b':=by
 refine h.boxed ?_ (aV _ ⟨w.heap.size + 2,k,none⟩ u) hs;have:=ah.set_ h.box k u;rw [e] at this;exact this
theorem qt.sets (h:qt w wr A c a A' c' b) (k:Nat) (vs:List Value) (e:mY (aq A' b.frame.length c' b).toArray k vs=(aq A2 b'.frame.length c2 b').toArray) (hs:aA b'):qt w (wr.setCells (w.heap.size + 2) k vs) A c a A2 c2 b':=by
 refine h.boxed ?_ (aT _ (w.heap.size + 2) k vs k (World.grownBy.refl _ _)) hs;have:=ah.setCells vs k h.box;rw [e] at this;exact this
theorem qt.goodBlk (h:qt w wr A c a A' c' b):ah (wr.setCells (w.heap.size + 1) 0 (aq A' b.frame.length c' b)) (w.heap.size + 1) 60 (aq A' b.frame.length c' b).toArray:=by
 have:=ah.setCells (aq A' b.frame.length c' b) 0 h.res;rw [aW (by rw [aX h.shape,aX bJ])] at this;exact this
theorem qt.good (h:qt w wr A c a A' c' b) (hb:b=dO a) (hA:A'=CA A a) (hc:c'=Ee c a):CB w A c a (.returned (.agg (aq A' b.frame.length c' b).toArray)) (wr.setCells (w.heap.size + 1) 0 (aq A' b.frame.length c' b)):=by
 subst hb hA hc;exact ⟨rfl,ba (by omega) _ _ h.bel⟩
end
set_option maxRecDepth 100000 in
theorem CC (A:Option Addr) (c:Nat) (a:cz) (ha0:aA a) (w:World) :
  Calls Tryz.prog 134 #[.agg (aq A a.frame.length c a).toArray] w (CB w A c a):=by
 have ha:=Lib.hid ha0;clear ha0;obtain ⟨W0,hW0⟩:∃ W,W=w.alloc (.cells (aq A a.frame.length c a).toArray 60):=⟨_,rfl⟩
 obtain ⟨W1,hW1⟩:∃ W,W=W0.alloc (.cells (aq none 0 0 dC).toArray 60):=⟨_,rfl⟩
 obtain ⟨W2,hW2⟩:∃ W,W=W1.alloc (.cells (aq none 0 0 dC).toArray 60):=⟨_,rfl⟩
 obtain ⟨a1,ha1⟩:∃ b:cz,b={ dC with kind:=a.kind }:=⟨_,rfl⟩
 obtain ⟨W3,hW3⟩:∃ W,W=W2.setCells W1.heap.size 0 (aq none 0 0 a1):=⟨_,rfl⟩
 have hs0:W0.heap.size=w.heap.size + 1:=by rw [hW0];simp
 have hs1:W1.heap.size=w.heap.size + 2:=by rw [hW1];simp [hs0]
 have hS1:aA a1:=by rw [ha1];exact ⟨aF,by show (0:Nat)<_;decide⟩
 have hX0:ah W0 w.heap.size 60 (aq A a.frame.length c a).toArray:=by rw [hW0];exact ah.new w _ _ _ rfl
 have hX1:ah W1 w.heap.size 60 (aq A a.frame.length c a).toArray:=by rw [hW1];exact ah.alloc hX0 _
 have hR1:ah W1 (w.heap.size + 1) 60 (aq none 0 0 dC).toArray:=by rw [hW1,←hs0];exact ah.new W0 _ _ _ rfl
 have hB1:Below w.heap.size w W1:=by rw [hW1,hW0];exact ((Below.refl _ _).alloc (Nat.le_refl _) _).alloc (by simp) _
 obtain ⟨hth,hbx,hbe⟩:=mL W1 W2 W3 60 (aq none 0 0 dC) (aq none 0 0 a1) (by rw [aX hS1,aX bJ]) hW2 hW3;have h3:qt w W3 A c a none 0 a1:=⟨ah.below hX1 hbe hX1.lt,ah.below hR1 hbe hR1.lt,by rw [←hs1,show a1.frame.length=0 by rw [ha1];rfl];exact hbx,hB1.trans (hbe.mono hB1.size),hS1⟩
 have d0:=iL hX1;have H3:=Lib.hid h3;have Ha1:=Lib.hid ha1;have HW0:=Lib.hid hW0;rw [nS] at hW1 hW2;have HW1:=Lib.hid hW1;have HW2:=Lib.hid hW2;have HW3:=Lib.hid hW3;have Hs1:=Lib.hid hs1;have Hth:=Lib.hid hth;have Hlit:Hid ((aq none 0 0 a1).toArray=#[.int .i64 a.kind,.slice none 0 0,.int .i64 0,.string ⟨#[]⟩,.bool false,.int .u8 0,.int .u8 0,.int .u8 0,.int .u8 0,.int .u8 0,.int .u8 0,.int .u8 0,.int .u8 0,.int .u8 0,.int .u8 0,.int .u8 0,.int .u8 0,.int .u8 0,.int .u8 0,.int .u8 0,.int .u8 0,.int .i64 0,.int .u8 0,.int .u8 0,.int .u8 0,.int .u8 0,.int .u8 0,.int .u8 0,.float .f64 0,.bool false,.string ⟨#[]⟩,.float .f64 0,.string ⟨#[]⟩,.bool false]):=by show _=_;rw [ha1];rfl
 have Hsz:Hid ((Tryz.prog.info? 60).map (·.size)=some (aq none 0 0 a1).toArray.size):=bR hS1;clear hW0 hW1 hW2 hW3 ha1 hs0 hs1 hS1 hX0 hX1 hR1 hB1 hth hbx hbe h3;go_enter Tryz.func134,Tryz.ntmps134
 go_upto_region 1 with fail
 rw [←HW0.out];rw [←HW1.out];go_upto_region 2 with (first
  | (rw [←HW2.out];(with_reducible refine aM 60 ?_);rw [←Hlit.out];refine wpList_store_mid rfl 60 (.tmp 3) (.tmp 6) rfl W1.heap.size 0 (aq none 0 0 a1).toArray rfl rfl Hth.out Hsz.out (eU _ _ _ _) ?_))
 rw [←HW3.out];rw [Hs1.out];clear HW0 HW1 HW2 HW3 Hth Hlit Hsz Hs1 d0;have d0:=iL H3.out.src;rcases k1:(a.kind == 1) with _ | _
 rotate_left
 ·have hk:a.kind=1:=by simpa using k1
  have Hk1:=Lib.hid k1;obtain ⟨b,hb⟩:∃ b:cz,b={ dC with kind:=a.kind,frame:=a.frame }:=⟨_,rfl⟩
  have hbo:b=dO a:=by rw [hb];unfold dO;rw [if_pos hk]
  have hbf:b.frame=a.frame:=by rw [hb]
  have hS:aA b:=by rw [hb];exact ⟨aF,by show (0:Nat)<_;decide⟩
  have d1:=go H3.out.src;have dx:=go H3.out.box;have df:=H3.out.box.frozen 1;have h4:qt w (W3.setCell ⟨w.heap.size + 2,1,none⟩ (.slice A a.frame.length c)) A c a A c b:=H3.out.set_ 1 (.slice A a.frame.length c) (by rw [hbf,qs A a.frame.length c a.frame,Ha1.out,hb]) hS;obtain ⟨W4,hW4⟩:∃ W,W=W3.setCell ⟨w.heap.size + 2,1,none⟩ (.slice A a.frame.length c):=⟨_,rfl⟩
  rw [←hW4] at h4;have H4:=Lib.hid h4;have HW4:=Lib.hid hW4;have Hbo:=Lib.hid hbo;have Hbf:=Lib.hid hbf;clear hk hb hbo hbf hS h4 hW4;go_upto_region 15 with fail
  rw [←HW4.out];clear HW4 d0 d1 dx df;have RF:=Lib.hid (ae H4.out.box);have Hthr:Hid (W4.there (w.heap.size + 1) 0 (aq A b.frame.length c b).toArray.size):=H4.out.res.there (by rw [List.size_toArray,List.size_toArray,aX H4.out.shape,aX bJ];decide);have Hszr:Hid ((Tryz.prog.info? 60).map (·.size)=some (aq A b.frame.length c b).toArray.size):=bR H4.out.shape;have HG:=Lib.hid H4.out.goodBlk;have Hpost:=Lib.hid (H4.out.good Hbo.out (by rw [CA,Hk1.out];rfl) (by rw [Ee,Hk1.out];rfl))
  go_wp2_with (first
   | ((with_reducible refine aE 60 ?_);refine aa (by rfl) 60 (.tmp 3) rfl (w.heap.size + 2) 0 rfl (aq A b.frame.length c b) _ RF.out Tryz.underlying60 rfl (bR H4.out.shape) ?_)
   | ((with_reducible refine aM 60 ?_);refine wpList_store_mid rfl 60 (.tmp 2) (.tmp 51) rfl (w.heap.size + 1) 0 (aq A b.frame.length c b).toArray rfl rfl Hthr.out Hszr.out (eU _ _ _ _) ?_))
  refine bodyPost_ret (v:=.agg (aq A b.frame.length c b).toArray) (cw (P:=Tryz.prog) (p:=2) rfl _ _ (w.heap.size + 1) _ _ _ rfl HG.out eg rfl Hszr.out) rfl Hpost.out
 have Hk1:=Lib.hid k1;rcases k2:(a.kind == 2) with _ | _
 rotate_left
 ·have hk:a.kind=2:=by simpa using k2
  have Hk:=Lib.hid hk;clear hk;have d2:=kz H3.out.src;obtain ⟨b,hb⟩:∃ b:cz,b={ dC with kind:=a.kind,op:=a.op }:=⟨_,rfl⟩
  have hS:aA b:=by rw [hb];exact ⟨aF,by show (0:Nat)<_;decide⟩
  obtain ⟨W4,hW4⟩:∃ W,W=W3.setCells (w.heap.size + 2) 2 (rv a.op dN [] 0):=⟨_,rfl⟩
  have hth:W3.there (w.heap.size + 2) 2 (rv a.op dN [] 0).toArray.size:=H3.out.box.there (by rw [List.size_toArray,List.size_toArray,wT aF,aX H3.out.shape];decide);have h4:qt w W4 A c a none 0 b:=by
   rw [hW4];refine H3.out.sets 2 _ ?_ hS;rw [Ed H3.out.shape a.op dN aF [] 0,Ha1.out,hb];rfl
  have H4:=Lib.hid h4;have HW4:=Lib.hid hW4;have Hb:=Lib.hid hb;have Hth:=Lib.hid hth;clear hS h4 hW4 hth hb;go_upto_region 7 with (first
   | ((with_reducible refine aM 58 ?_);refine wpList_store_mid rfl 58 (.tmp 20) (.tmp 19) rfl (w.heap.size + 2) 2 (rv a.op dN [] 0).toArray rfl rfl Hth.out (Ec.trans (by rw [List.size_toArray,wT aF])) (Ft _ _ _ _) ?_))
  rw [←HW4.out];clear HW4 Hth d0 d2;have d2:=kz H4.out.src;rcases k3:(a.op == 1) with _ | _
  rotate_left
  ·obtain ⟨b2,hb2⟩:∃ b:cz,b={ dC with kind:=a.kind,op:=a.op,back:=a.back }:=⟨_,rfl⟩
   have hS2:aA b2:=by rw [hb2];exact ⟨ha.out.back,by show (0:Nat)<_;decide⟩
   have hbo:b2=dO a:=by
    rw [hb2];unfold dO;rw [if_neg (by have:=Hk.out;omega),if_pos Hk.out,if_pos (by simpa using k3)]
   obtain ⟨W5,hW5⟩:∃ W,W=W4.setCells (w.heap.size + 2) 3 (ag a.back):=⟨_,rfl⟩
   have hth:W4.there (w.heap.size + 2) 3 (ag a.back).toArray.size:=H4.out.box.there (by rw [List.size_toArray,List.size_toArray,bq ha.out.back,aX H4.out.shape];decide);have h5:qt w W5 A c a none 0 b2:=by
    rw [hW5];refine H4.out.sets 3 _ ?_ hS2;rw [rQ H4.out.shape a.back ha.out.back,Hb.out,hb2]
   have hbf:b2.frame=[]:=by rw [hb2];rfl
   have H5:=Lib.hid h5;have HW5:=Lib.hid hW5;have Hth:=Lib.hid hth;have Hbo:=Lib.hid hbo;have Hbf:=Lib.hid hbf;have RB:=Lib.hid (jT H4.out.src ha.out);clear hS2 h5 hW5 hth hb2 hbo hbf;go_upto_region 15 with (first
    | ((with_reducible refine aE 56 ?_);refine aa (by rfl) 56 (.tmp 29) rfl w.heap.size 3 rfl (ag a.back) _ RB.out Tryz.underlying56 rfl (dv ha.out.back) ?_)
    | ((with_reducible refine aM 56 ?_);refine wpList_store_mid rfl 56 (.tmp 32) (.tmp 30) rfl (w.heap.size + 2) 3 (ag a.back).toArray rfl rfl Hth.out (dv ha.out.back) (eZ _) ?_))
   rw [←HW5.out];clear HW5 Hth RB d2;have RF:=Lib.hid (ae H5.out.box);have Hthr:Hid (W5.there (w.heap.size + 1) 0 (aq none b2.frame.length 0 b2).toArray.size):=H5.out.res.there (by rw [List.size_toArray,List.size_toArray,aX H5.out.shape,aX bJ];decide);have Hszr:Hid ((Tryz.prog.info? 60).map (·.size)=some (aq none b2.frame.length 0 b2).toArray.size):=bR H5.out.shape;have HG:=Lib.hid H5.out.goodBlk;have Hpost:=Lib.hid (H5.out.good Hbo.out (by rw [CA,Hk1.out];rfl) (by rw [Ee,Hk1.out];rfl))
   go_wp2_with (first
    | ((with_reducible refine aE 60 ?_);refine aa (by rfl) 60 (.tmp 3) rfl (w.heap.size + 2) 0 rfl (aq none b2.frame.length 0 b2) _ RF.out Tryz.underlying60 rfl (bR H5.out.shape) ?_)
    | ((with_reducible refine aM 60 ?_);refine wpList_store_mid rfl 60 (.tmp 2) (.tmp 51) rfl (w.heap.size + 1) 0 (aq none b2.frame.length 0 b2).toArray rfl rfl Hthr.out Hszr.out (eU _ _ _ _) ?_))
   refine bodyPost_ret (v:=.agg (aq none b2.frame.length 0 b2).toArray) (cw (P:=Tryz.prog) (p:=2) rfl _ _ (w.heap.size + 1) _ _ _ rfl HG.out eg rfl Hszr.out) rfl Hpost.out
  rcases k4:(a.op == 3) with _ | _
  rotate_left
  ·obtain ⟨b2,hb2⟩:∃ b:cz,b={ dC with kind:=a.kind,op:=a.op,owt:=a.owt }:=⟨_,rfl⟩
   have hSb2:aA b2:=by rw [hb2];exact ⟨aF,ha.out.owt⟩
   have s31:=lT H4.out.src ha.out;have dx:=lT H4.out.box H4.out.shape;have df:=H4.out.box.frozen 31;obtain ⟨W5,hW5⟩:∃ W,W=W4.setCell ⟨w.heap.size + 2,31,none⟩ (.float .f64 a.owt):=⟨_,rfl⟩
   have H50:qt w W5 A c a none 0 b2:=by
    rw [hW5];refine H4.out.set_ 31 (.float .f64 a.owt) ?_ hSb2;rw [uw H4.out.shape a.owt,Hb.out,hb2]
   have H5:=Lib.hid H50;have QW5:=Lib.hid hW5;have Pb2:=Lib.hid hb2;have hsf:=fun (a:Addr) (m:Mode) (n:Nat) (w:World)=>iM a n m w
   clear H50 hW5 hb2 hSb2;go_upto_region 12 with fail
   rw [←QW5.out];clear QW5 s31 dx df;obtain ⟨b3,hb3⟩:∃ b:cz,b={ dC with kind:=a.kind,op:=a.op,oname:=a.oname,owt:=a.owt }:=⟨_,rfl⟩
   have hSb3:aA b3:=by rw [hb3];exact ⟨aF,ha.out.owt⟩
   have s30:=fA H5.out.src ha.out;have dx:=fA H5.out.box H5.out.shape;have df:=H5.out.box.frozen 30;obtain ⟨W6,hW6⟩:∃ W,W=W5.setCell ⟨w.heap.size + 2,30,none⟩ (.string ⟨a.oname.toArray⟩):=⟨_,rfl⟩
   have H60:qt w W6 A c a none 0 b3:=by
    rw [hW6];refine H5.out.set_ 30 (.string ⟨a.oname.toArray⟩) ?_ hSb3;rw [nj H5.out.shape a.oname,Pb2.out,hb3]
   have H6:=Lib.hid H60;have QW6:=Lib.hid hW6;have Pb3:=Lib.hid hb3;clear H60 hW6 hb3 hSb3;go_upto_region 15 with fail
   rw [←QW6.out];clear QW6 s30 dx df;have Hbo:Hid (b3=dO a):=by
    show _=_
    rw [Pb3.out];unfold dO;rw [if_neg (by have:=Hk.out;omega),if_pos Hk.out,if_neg (by simpa using k3),if_pos (by simpa using k4)]
   have Hbf:Hid (b3.frame=[]):=by show _=_;rw [Pb3.out];rfl
   have RF:=Lib.hid (ae H6.out.box);have Hthr:Hid (W6.there (w.heap.size + 1) 0 (aq none b3.frame.length 0 b3).toArray.size):=H6.out.res.there (by rw [List.size_toArray,List.size_toArray,aX H6.out.shape,aX bJ];decide);have Hszr:Hid ((Tryz.prog.info? 60).map (·.size)=some (aq none b3.frame.length 0 b3).toArray.size):=bR H6.out.shape;have HG:=Lib.hid H6.out.goodBlk;have Hpost:=Lib.hid (H6.out.good Hbo.out (by rw [CA,Hk1.out];rfl) (by rw [Ee,Hk1.out];rfl))
   go_wp2_with (first
    | ((with_reducible refine aE 60 ?_);refine aa (by rfl) 60 (.tmp 3) rfl (w.heap.size + 2) 0 rfl (aq none b3.frame.length 0 b3) _ RF.out Tryz.underlying60 rfl (bR H6.out.shape) ?_)
    | ((with_reducible refine aM 60 ?_);refine wpList_store_mid rfl 60 (.tmp 2) (.tmp 51) rfl (w.heap.size + 1) 0 (aq none b3.frame.length 0 b3).toArray rfl rfl Hthr.out Hszr.out (eU _ _ _ _) ?_))
   refine bodyPost_ret (v:=.agg (aq none b3.frame.length 0 b3).toArray) (cw (P:=Tryz.prog) (p:=2) rfl _ _ (w.heap.size + 1) _ _ _ rfl HG.out eg rfl Hszr.out) rfl Hpost.out
  ·obtain ⟨b3,hb3⟩:∃ b:cz,b={ dC with kind:=a.kind,op:=a.op,oname:=a.oname }:=⟨_,rfl⟩
   have hSb3:aA b3:=by rw [hb3];exact ⟨aF,by show (0:Nat)<_;decide⟩
   have s30:=fA H4.out.src ha.out;have dx:=fA H4.out.box H4.out.shape;have df:=H4.out.box.frozen 30;obtain ⟨W6,hW6⟩:∃ W,W=W4.setCell ⟨w.heap.size + 2,30,none⟩ (.string ⟨a.oname.toArray⟩):=⟨_,rfl⟩
   have H60:qt w W6 A c a none 0 b3:=by
    rw [hW6];refine H4.out.set_ 30 (.string ⟨a.oname.toArray⟩) ?_ hSb3;rw [nj H4.out.shape a.oname,Hb.out,hb3]
   have H6:=Lib.hid H60;have QW6:=Lib.hid hW6;have Pb3:=Lib.hid hb3;clear H60 hW6 hb3 hSb3;go_upto_region 15 with fail
   rw [←QW6.out];clear QW6 s30 dx df;have Hbo:Hid (b3=dO a):=by
    show _=_
    rw [Pb3.out];unfold dO;rw [if_neg (by have:=Hk.out;omega),if_pos Hk.out,if_neg (by simpa using k3),if_neg (by simpa using k4)]
   have Hbf:Hid (b3.frame=[]):=by show _=_;rw [Pb3.out];rfl
   have RF:=Lib.hid (ae H6.out.box);have Hthr:Hid (W6.there (w.heap.size + 1) 0 (aq none b3.frame.length 0 b3).toArray.size):=H6.out.res.there (by rw [List.size_toArray,List.size_toArray,aX H6.out.shape,aX bJ];decide);have Hszr:Hid ((Tryz.prog.info? 60).map (·.size)=some (aq none b3.frame.length 0 b3).toArray.size):=bR H6.out.shape;have HG:=Lib.hid H6.out.goodBlk;have Hpost:=Lib.hid (H6.out.good Hbo.out (by rw [CA,Hk1.out];rfl) (by rw [Ee,Hk1.out];rfl))
   go_wp2_with (first
    | ((with_reducible refine aE 60 ?_);refine aa (by rfl) 60 (.tmp 3) rfl (w.heap.size + 2) 0 rfl (aq none b3.frame.length 0 b3) _ RF.out Tryz.underlying60 rfl (bR H6.out.shape) ?_)
    | ((with_reducible refine aM 60 ?_);refine wpList_store_mid rfl 60 (.tmp 2) (.tmp 51) rfl (w.heap.size + 1) 0 (aq none b3.frame.length 0 b3).toArray rfl rfl Hthr.out Hszr.out (eU _ _ _ _) ?_))
   refine bodyPost_ret (v:=.agg (aq none b3.frame.length 0 b3).toArray) (cw (P:=Tryz.prog) (p:=2) rfl _ _ (w.heap.size + 1) _ _ _ rfl HG.out eg rfl Hszr.out) rfl Hpost.out
 rcases k5:(a.kind == 3) with _ | _
 rotate_left
 ·have Hk:Hid (a.kind=3):=by show _=_;simpa using k5
  go_upto_region 14 with fail
  clear d0;have s32:=ij H3.out.src ha.out;have s33:=jf H3.out.src ha.out;obtain ⟨b2,hb2⟩:∃ b:cz,b={ dC with kind:=a.kind,name:=a.name }:=⟨_,rfl⟩
  obtain ⟨b3,hb3⟩:∃ b:cz,b={ dC with kind:=a.kind,name:=a.name,well:=a.well }:=⟨_,rfl⟩
  have hS2:aA b2:=by rw [hb2];exact ⟨aF,by show (0:Nat)<_;decide⟩
  have hS3:aA b3:=by rw [hb3];exact ⟨aF,by show (0:Nat)<_;decide⟩
  refine wp_region_noPanic ?_;refine wp_region_held_drew (S:=fun w'=>ah w' w.heap.size 60 (aq A a.frame.length c a).toArray) (by kernel_rfl) (ah.drew H3.out.src) (fun hHeld=>?_);refine wpAnyH_take (i:=0) (v:=?_) rfl (by kernel_rfl) (by kernel_rfl) (by kernel_rfl) (fun _ _ _ h=>h) (Or.inl ⟨by rfl,?_⟩) hHeld ?_;rotate_left
  ·intro w' hSw
   skip
   go_simp
   try with_reducible rfl
  try (simp only [Act.put,List.getElem_toArray,List.getElem_cons_succ,List.getElem_cons_zero,List.setIfInBounds_toArray,List.set_cons_zero,List.set_cons_succ])
  refine wpAnyH_take (i:=1) (v:=?_) rfl (by kernel_rfl) (by kernel_rfl) (by kernel_rfl) (fun _ _ _ h=>h) (Or.inl ⟨by rfl,?_⟩) hHeld ?_;rotate_left
  ·intro w' hSw
   have e1:=ij hSw ha.out;go_simp
   try with_reducible rfl
  try (simp only [Act.put,List.getElem_toArray,List.getElem_cons_succ,List.getElem_cons_zero,List.setIfInBounds_toArray,List.set_cons_zero,List.set_cons_succ])
  refine wpAnyH_take (i:=2) (v:=?_) rfl (by kernel_rfl) (by kernel_rfl) (by kernel_rfl) (fun _ _ _ h=>h) (Or.inl ⟨by rfl,?_⟩) hHeld ?_;rotate_left
  ·intro w' hSw
   skip
   go_simp
   try with_reducible rfl
  try (simp only [Act.put,List.getElem_toArray,List.getElem_cons_succ,List.getElem_cons_zero,List.setIfInBounds_toArray,List.set_cons_zero,List.set_cons_succ])
  refine wpAnyH_take (i:=3) (v:=?_) rfl (by kernel_rfl) (by kernel_rfl) (by kernel_rfl) (fun _ _ _ h=>h) (Or.inl ⟨by rfl,?_⟩) hHeld ?_;rotate_left
  ·intro w' hSw
   have e1:=jf hSw ha.out;go_simp
   try with_reducible rfl
  try (simp only [Act.put,List.getElem_toArray,List.getElem_cons_succ,List.getElem_cons_zero,List.setIfInBounds_toArray,List.set_cons_zero,List.set_cons_succ])
  refine wpAnyH_take (i:=4) (v:=?_) rfl (by kernel_rfl) (by kernel_rfl) (by kernel_rfl) (fun _ _ _ h=>h) (Or.inl ⟨by rfl,?_⟩) hHeld ?_;rotate_left
  ·intro w' hSw
   skip
   go_simp
   try with_reducible rfl
  try (simp only [Act.put,List.getElem_toArray,List.getElem_cons_succ,List.getElem_cons_zero,List.setIfInBounds_toArray,List.set_cons_zero,List.set_cons_succ])
  generalize hWd:W3.drew=Wd at hHeld ⊢
  have hd3:qt w Wd A c a none 0 a1:=by rw [←hWd];exact ⟨ah.drew H3.out.src,ah.drew H3.out.res,ah.drew H3.out.box,H3.out.bel.drew,H3.out.shape⟩
  clear hWd;refine wpAnyH_ready (rs:=[5]) (by kernel_rfl) (by simp) ?_;refine AllReadyH.cons (i:=5) rfl (fun K hK=>?_) AllReadyH.nil;have dx:=ij hd3.box hd3.shape;have df:=hd3.box.frozen 32;obtain ⟨W5,hW5⟩:∃ W,W=Wd.setCell ⟨w.heap.size + 2,32,none⟩ (.string ⟨a.name.toArray⟩):=⟨_,rfl⟩
  have h5:qt w W5 A c a none 0 b2:=by
   rw [hW5];refine hd3.set_ 32 _ ?_ hS2;rw [rO hd3.shape a.name,Ha1.out,hb2]
  go_simp
  rw [←hW5];clear hW5;refine hK.out _ _ h5.src (fun hHeld=>?_);clear hK K dx df
  try (simp only [Act.put,List.getElem_toArray,List.getElem_cons_succ,List.getElem_cons_zero,List.setIfInBounds_toArray,List.set_cons_zero,List.set_cons_succ])
  refine wpAnyH_take (i:=6) (v:=?_) rfl (by kernel_rfl) (by kernel_rfl) (by kernel_rfl) (fun _ _ _ h=>h) (Or.inl ⟨by rfl,?_⟩) hHeld ?_;rotate_left
  ·intro w' hSw
   skip
   go_simp
   try with_reducible rfl
  try (simp only [Act.put,List.getElem_toArray,List.getElem_cons_succ,List.getElem_cons_zero,List.setIfInBounds_toArray,List.set_cons_zero,List.set_cons_succ])
  refine wpAnyH_ready (rs:=[7]) (by kernel_rfl) (by simp) ?_;refine AllReadyH.cons (i:=7) rfl (fun K hK=>?_) AllReadyH.nil;have dx:=jf h5.box h5.shape;have df:=h5.box.frozen 33;obtain ⟨W6,hW6⟩:∃ W,W=W5.setCell ⟨w.heap.size + 2,33,none⟩ (.bool a.well):=⟨_,rfl⟩
  have h6:qt w W6 A c a none 0 b3:=by
   rw [hW6];refine h5.set_ 33 _ ?_ hS3;rw [rP h5.shape a.well,hb2,hb3]
  go_simp
  rw [←hW6];clear hW6;refine hK.out _ _ h6.src (fun hHeld=>?_);clear hK K dx df
  try (simp only [Act.put,List.getElem_toArray,List.getElem_cons_succ,List.getElem_cons_zero,List.setIfInBounds_toArray,List.set_cons_zero,List.set_cons_succ])
  refine wpAnyH_done (by kernel_rfl) ?_ _;refine NoPanic.normal ?_;have H6:=Lib.hid h6;have Hbo:Hid (b3=dO a):=by
   show _=_
   rw [hb3];unfold dO;rw [if_neg (by have:=Hk.out;omega),if_neg (by have:=Hk.out;omega),if_pos Hk.out]
  have Hbf:Hid (b3.frame=[]):=by show _=_;rw [hb3];rfl
  clear h5 h6 hd3 hb2 hb3 hS2 hS3 hHeld s32 s33;have RF:=Lib.hid (ae H6.out.box);have Hthr:Hid (W6.there (w.heap.size + 1) 0 (aq none b3.frame.length 0 b3).toArray.size):=H6.out.res.there (by rw [List.size_toArray,List.size_toArray,aX H6.out.shape,aX bJ];decide);have Hszr:Hid ((Tryz.prog.info? 60).map (·.size)=some (aq none b3.frame.length 0 b3).toArray.size):=bR H6.out.shape;have HG:=Lib.hid H6.out.goodBlk;have Hpost:=Lib.hid (H6.out.good Hbo.out (by rw [CA,Hk1.out];rfl) (by rw [Ee,Hk1.out];rfl))
  go_wp2_with (first
   | ((with_reducible refine aE 60 ?_);refine aa (by rfl) 60 (.tmp 3) rfl (w.heap.size + 2) 0 rfl (aq none b3.frame.length 0 b3) _ RF.out Tryz.underlying60 rfl (bR H6.out.shape) ?_)
   | ((with_reducible refine aM 60 ?_);refine wpList_store_mid rfl 60 (.tmp 2) (.tmp 51) rfl (w.heap.size + 1) 0 (aq none b3.frame.length 0 b3).toArray rfl rfl Hthr.out Hszr.out (eU _ _ _ _) ?_))
  refine bodyPost_ret (v:=.agg (aq none b3.frame.length 0 b3).toArray) (cw (P:=Tryz.prog) (p:=2) rfl _ _ (w.heap.size + 1) _ _ _ rfl HG.out eg rfl Hszr.out) rfl Hpost.out
 have Hbo:Hid (a1=dO a):=by
  show _=_
  rw [Ha1.out];unfold dO;rw [if_neg (by simpa using k1),if_neg (by simpa using k2),if_neg (by simpa using k5)]
 have Hbf:Hid (a1.frame=[]):=by show _=_;rw [Ha1.out];rfl
 go_upto_region 15 with fail
 clear d0;have RF:=Lib.hid (ae H3.out.box);have Hthr:Hid (W3.there (w.heap.size + 1) 0 (aq none a1.frame.length 0 a1).toArray.size):=H3.out.res.there (by rw [List.size_toArray,List.size_toArray,aX H3.out.shape,aX bJ];decide);have Hszr:Hid ((Tryz.prog.info? 60).map (·.size)=some (aq none a1.frame.length 0 a1).toArray.size):=bR H3.out.shape;have HG:=Lib.hid H3.out.goodBlk;have Hpost:=Lib.hid (H3.out.good Hbo.out (by rw [CA,Hk1.out];rfl) (by rw [Ee,Hk1.out];rfl))
 go_wp2_with (first
  | ((with_reducible refine aE 60 ?_);refine aa (by rfl) 60 (.tmp 3) rfl (w.heap.size + 2) 0 rfl (aq none a1.frame.length 0 a1) _ RF.out Tryz.underlying60 rfl (bR H3.out.shape) ?_)
  | ((with_reducible refine aM 60 ?_);refine wpList_store_mid rfl 60 (.tmp 2) (.tmp 51) rfl (w.heap.size + 1) 0 (aq none a1.frame.length 0 a1).toArray rfl rfl Hthr.out Hszr.out (eU _ _ _ _) ?_))
 refine bodyPost_ret (v:=.agg (aq none a1.frame.length 0 a1).toArray) (cw (P:=Tryz.prog) (p:=2) rfl _ _ (w.heap.size + 1) _ _ _ rfl HG.out eg rfl Hszr.out) rfl Hpost.out
end Go.Proofs.YtaafkokfdgfabaaGreat
namespace Go.Proofs.YtaafkokfdgfabaaGreat
open Go.RowKit
set_option linter.unusedVariables false
set_option linter.unusedSimpArgs false
set_option maxRecDepth 100000 in
theorem ux (b:aU) (hb:au b) (w:World) :
  Calls Tryz.prog 135 #[.agg (ag b).toArray] w fun e w'=>e=.returned (.bool (fL b))∧Below w.heap.size w w':=by
 obtain ⟨W,hW⟩:∃ W,W=w.alloc (.cells (ag b).toArray 56):=⟨_,rfl⟩
 have hX:ah W w.heap.size 56 (ag b).toArray:=by rw [hW];exact ah.new w _ _ _ rfl
 have HB:Hid (Below w.heap.size w W):=by rw [hW];exact (Below.refl _ _).alloc (Nat.le_refl _) _
 have d0:=mq hX;have d1:=kY hX hb;have HW:=Lib.hid hW;clear hW hX;go_enter Tryz.func135,Tryz.ntmps135
 go_upto_region 1 with fail
 rw [←HW.out];clear HW;by_cases h:b.name.length≤255
 ·have hI:(b.name.length:Int)≤255:=by omega
  have Hr:Hid (fL b=ez b.port 0 65535):=by show _=_;unfold fL;rw [decide_eq_true h];rfl
  go_wp2_with fail
  refine (bB b.port 65535 W).mono ?_;rintro e w2 ⟨rfl,rfl⟩
  go_wp2
  go_ret
  exact ⟨by rw [Hr.out];rfl,HB.out⟩
 ·have hI:¬ (b.name.length:Int)≤255:=by omega
  have Hr:Hid (fL b=false):=by show _=_;unfold fL;rw [decide_eq_false h];rfl
  go_wp2
  go_ret
  exact ⟨by rw [Hr.out];rfl,HB.out⟩
set_option maxRecDepth 100000 in
theorem gV (A:Option Addr) (c:Nat) (a:cz) (ha0:aA a) (w:World) (hf:BS w w.heap.size A a.frame) :
  Calls Tryz.prog 67 #[.agg (aq A a.frame.length c a).toArray] w fun e w'=>e=.returned (.bool (ek a))∧Below w.heap.size w w':=by
 have ha:=Lib.hid ha0;clear ha0;obtain ⟨W,hW⟩:∃ W,W=w.alloc (.cells (aq A a.frame.length c a).toArray 60):=⟨_,rfl⟩
 have HX:Hid (ah W w.heap.size 60 (aq A a.frame.length c a).toArray):=by rw [hW];exact ah.new w _ _ _ rfl
 have HB:Hid (Below w.heap.size w W):=by rw [hW];exact (Below.refl _ _).alloc (Nat.le_refl _) _
 have HF:=Lib.hid ((hf.below HB.out).more HB.out.size);have d0:=iL HX.out;have d1:=kz HX.out;have HW:=Lib.hid hW;clear hW hf;go_enter Tryz.func67,Tryz.ntmps67
 go_upto_region 1 with fail
 rw [←HW.out];clear HW;by_cases k1:a.kind<1
 ·have Hr:Hid (ek a=false):=by show _=_;unfold ek;rw [show ez a.kind 1 4=false by unfold ez;rw [decide_eq_false (by omega)];rfl];rfl
  skip
  go_wp2
  go_ret
  exact ⟨by rw [Hr.out];rfl,HB.out⟩
 by_cases k2:4<a.kind
 ·have Hr:Hid (ek a=false):=by show _=_;unfold ek;rw [show ez a.kind 1 4=false by unfold ez;rw [decide_eq_false (show ¬ a.kind≤4 by omega),Bool.and_false]];rfl
  skip
  go_wp2
  go_ret
  exact ⟨by rw [Hr.out];rfl,HB.out⟩
 have Hz:Hid (ez a.kind 1 4=true):=bE.2 ⟨by omega,by omega⟩;by_cases k4:a.kind=2∧a.op<1
 ·have Hr:Hid (ek a=false):=by show _=_;unfold ek;rw [Hz.out,show (a.kind != 2)=false by simp [k4.1],show ez a.op 1 5=false by unfold ez;rw [decide_eq_false (by omega)];rfl];rfl
  obtain ⟨kq,kr⟩:=k4
  go_wp2
  go_ret
  exact ⟨by rw [Hr.out];rfl,HB.out⟩
 by_cases k5:a.kind=2∧5<a.op
 ·have Hr:Hid (ek a=false):=by show _=_;unfold ek;rw [Hz.out,show (a.kind != 2)=false by simp [k5.1],show ez a.op 1 5=false by unfold ez;rw [decide_eq_false (show ¬ a.op≤5 by omega),Bool.and_false]];rfl
  obtain ⟨kq,kr⟩:=k5;have ks:¬ a.op<1:=by omega
  clear k4
  go_wp2
  go_ret
  exact ⟨by rw [Hr.out];rfl,HB.out⟩
 have Hp:Hid (ek a=(cK a (dO a) && (decide (a.frame.length≤131072) && (decide (a.oname.length≤255) && (decide (a.name.length≤255) && fL a.back))))):=by
  show _=_
  unfold ek;rw [Hz.out,show (a.kind != 2 || ez a.op 1 5)=true by
   by_cases h:a.kind=2
   ·rw [show ez a.op 1 5=true from bE.2 ⟨by omega,by omega⟩,Bool.or_true]
   ·simp [h]]
  rfl
 go_cut [27] from 3 (fun v27 wc=>v27=.bool false∧wc=W)
 case first =>
  by_cases h:a.kind=2
  ·have kr:¬ a.op<1:=by omega
   have ks:¬ 5<a.op:=by omega
   clear k4 k5
   go_wp2_with fail
   go_meet
   case rel=>exact ⟨rfl,rfl⟩
  ·clear k4 k5
   go_wp2_with fail
   go_meet
   case rel=>exact ⟨rfl,rfl⟩
 case rest =>
  obtain ⟨rfl,hwc⟩:=hcut;rw [hwc];clear hwc;clear d0 d1 k1 k2 k4 k5;go_upto_region 3 with fail
  have l0:w.heap.size<W.heap.size:=HX.out.lt;have d1:=go HX.out;have d2:=fA HX.out ha.out;have d3:=ij HX.out ha.out;obtain ⟨T,hT⟩:∃ T,T=(cK a (dO a) && decide ((a.frame.length:Int)≤131072) && decide ((a.oname.length:Int)≤255) && decide ((a.name.length:Int)≤255) && fL a.back):=⟨_,rfl⟩
  have HT:Hid (ek a=T):=by show _=_;rw [hT,Hp.out,show decide ((a.frame.length:Int)≤131072)=decide (a.frame.length≤131072) from decide_eq_decide.2 (by omega),show decide ((a.oname.length:Int)≤255)=decide (a.oname.length≤255) from decide_eq_decide.2 (by omega),show decide ((a.name.length:Int)≤255)=decide (a.name.length≤255) from decide_eq_decide.2 (by omega)];simp only [Bool.and_assoc]
  refine Sd.start ?_
  repeat ((first | refine pa ?_ | refine sl (ae HX.out) l0 Tryz.underlying60 (bR ha.out) ?_ | refine cl (fun u hu=>CC A c a ha.out u) ?_ | refine cl (fun u hu=>uu A c a (CA A a) (Ee c a) (dO a) ha.out (wE ha.out) u (HF.out.on hu) (Ge (HF.out.on hu))) ?_ | refine gs (jT HX.out ha.out) l0 bW (dv ha.out.back) ?_ | refine gc (fun u hu=>ux a.back ha.out.back u) ?_ | refine gp ?_ | refine pt ?_);simp only [ld,lg,lf,Nat.reduceAdd])
  rw [←hT];refine Sd.done fun w2 hb2=>?_
  have Hb2:=Lib.hid (HB.out.trans (hb2.mono HB.out.size));clear hb2 hT
  go_wp2
  go_ret
  exact ⟨by rw [HT.out];rfl,Hb2.out⟩
end Go.Proofs.YtaafkokfdgfabaaGreat
namespace Go.Proofs.YtaafkokfdgfabaaGreat
open Go.RowKit
set_option linter.unusedVariables false
set_option linter.unusedSimpArgs false
set_option maxRecDepth 100000 in
theorem nk (A:Option Addr) (c:Nat) (A2:Option Addr) (c2:Nat) (a:da) (ha0:aB a) (w:World) (hf:BS w w.heap.size A a.act.frame) :
  Calls Tryz.prog 34 #[.agg (bm A a.act.frame.length c A2 a.o.out.length c2 a).toArray] w fun e w'=>e=.returned (.bool (aL a))∧Below w.heap.size w w':=by
 have ha:=Lib.hid ha0;clear ha0;obtain ⟨W,hW⟩:∃ W,W=w.alloc (.cells (bm A a.act.frame.length c A2 a.o.out.length c2 a).toArray 65):=⟨_,rfl⟩
 have HX:Hid (ah W w.heap.size 65 (bm A a.act.frame.length c A2 a.o.out.length c2 a).toArray):=by rw [hW];exact ah.new w _ _ _ rfl
 have HB:Hid (Below w.heap.size w W):=by rw [hW];exact (Below.refl _ _).alloc (Nat.le_refl _) _
 have HF:=Lib.hid ((hf.below HB.out).more HB.out.size);have HW:=Lib.hid hW;clear hW hf;go_enter Tryz.func34,Tryz.ntmps34
 go_upto_region 1 with fail
 rw [←HW.out];clear HW;have RXo:=Lib.hid (sX HX.out ha.out);obtain ⟨x1,hx1⟩:∃ Z,Z=W.alloc (.cells (dG none 0 0 ul).toArray 62):=⟨_,rfl⟩
 obtain ⟨y1,hy1⟩:∃ Z,Z=x1.setCells W.heap.size 0 (dG A2 a.o.out.length c2 a.o):=⟨_,rfl⟩
 obtain ⟨htx1,hbx1,hex1⟩:=mL W x1 y1 62 (dG none 0 0 ul) (dG A2 a.o.out.length c2 a.o) rfl hx1 hy1;rw [qn] at hx1;have Qx1:=Lib.hid hx1;have Qy1:=Lib.hid hy1;have Tx1:=Lib.hid htx1;have Bx1:=Lib.hid hbx1;have Ex1:=Lib.hid hex1;clear hx1 hy1 htx1 hbx1 hex1;go_upto_region 2 with (first
   | ((with_reducible refine aE 62 ?_);refine aa (by rfl) 62 (.tmp 4) rfl w.heap.size 34 rfl (dG A2 a.o.out.length c2 a.o) _ RXo.out Tryz.underlying62 rfl lQ ?_)
   | (rw [←Qx1.out];(with_reducible refine aM 62 ?_);refine wpList_store_mid rfl 62 (.tmp 3) (.tmp 5) rfl W.heap.size 0 (dG A2 a.o.out.length c2 a.o).toArray rfl rfl Tx1.out lQ (nR _ _ _ _) ?_))
 rw [←Qy1.out];clear Qx1 Qy1 Tx1;have HP:=Bx1;have HXn:=Lib.hid (ah.below HX.out Ex1.out HX.out.lt);have HB0:Hid (Below w.heap.size w y1):=HB.out.trans (Ex1.out.mono HB.out.size);have HF1:=Lib.hid ((HF.out.below Ex1.out).more Ex1.out.size);clear HX HF HB Ex1 Bx1 RXo;have HX:=HXn;clear HXn;have RXa:=Lib.hid (qm HX.out ha.out);rcases h0:(ek a.act) with _ | _
 ·have Hr:Hid (aL a=false):=by show _=_;simp only [aL,h0,Bool.false_and,Bool.and_false]
  skip
  go_wp2_with (first
    | ((with_reducible refine aE 60 ?_);refine aa (by rfl) 60 (.tmp 6) rfl w.heap.size 0 rfl (aq A a.act.frame.length c a.act) _ RXa.out Tryz.underlying60 rfl (bR ha.out.act) ?_))
  refine (gV A c a.act ha.out.act y1 HF1.out).mono ?_;rintro e w5 ⟨rfl,hb5⟩;have HX5:=Lib.hid (ah.below HX.out hb5 HX.out.lt);have HP5:=Lib.hid (ah.below HP.out hb5 HP.out.lt);have HB:Hid (Below w.heap.size w w5):=HB0.out.trans (hb5.mono HB0.out.size);clear HX HP hb5;have HX:=HX5;have HP:=HP5;clear HX5 HP5;rw [h0];have d0:=jz HP.out;have d1:=e9 HP.out;have d3:=eo HP.out;have d4:=ik HP.out;have d5:=ke HP.out;have d6:=jy HX.out ha.out
  go_wp2
  go_ret
  exact ⟨by rw [Hr.out];rfl,HB.out⟩
 ·have K0:=Lib.hid h0
  clear h0;rcases h1:(ez a.o.err 0 9) with _ | _
  ·have Hr:Hid (aL a=false):=by show _=_;simp only [aL,h1,Bool.false_and,Bool.and_false]
   skip
   go_wp2_with (first
     | ((with_reducible refine aE 60 ?_);refine aa (by rfl) 60 (.tmp 6) rfl w.heap.size 0 rfl (aq A a.act.frame.length c a.act) _ RXa.out Tryz.underlying60 rfl (bR ha.out.act) ?_))
   refine (gV A c a.act ha.out.act y1 HF1.out).mono ?_;rintro e w5 ⟨rfl,hb5⟩;have HX5:=Lib.hid (ah.below HX.out hb5 HX.out.lt);have HP5:=Lib.hid (ah.below HP.out hb5 HP.out.lt);have HB:Hid (Below w.heap.size w w5):=HB0.out.trans (hb5.mono HB0.out.size);clear HX HP hb5;have HX:=HX5;have HP:=HP5;clear HX5 HP5;rw [K0.out];have d0:=jz HP.out;have d1:=e9 HP.out;have d3:=eo HP.out;have d4:=ik HP.out;have d5:=ke HP.out;have d6:=jy HX.out ha.out
   go_wp2_with fail
   refine (bB a.o.err 9 w5).mono ?_;rintro e w6 ⟨rfl,rfl⟩;rw [h1]
   go_wp2
   go_ret
   exact ⟨by rw [Hr.out];rfl,HB.out⟩
  ·have K1:=Lib.hid h1
   clear h1;rcases h2:(ez a.o.reason 0 10) with _ | _
   ·have Hr:Hid (aL a=false):=by show _=_;simp only [aL,h2,Bool.false_and,Bool.and_false]
    skip
    go_wp2_with (first
      | ((with_reducible refine aE 60 ?_);refine aa (by rfl) 60 (.tmp 6) rfl w.heap.size 0 rfl (aq A a.act.frame.length c a.act) _ RXa.out Tryz.underlying60 rfl (bR ha.out.act) ?_))
    refine (gV A c a.act ha.out.act y1 HF1.out).mono ?_;rintro e w5 ⟨rfl,hb5⟩;have HX5:=Lib.hid (ah.below HX.out hb5 HX.out.lt);have HP5:=Lib.hid (ah.below HP.out hb5 HP.out.lt);have HB:Hid (Below w.heap.size w w5):=HB0.out.trans (hb5.mono HB0.out.size);clear HX HP hb5;have HX:=HX5;have HP:=HP5;clear HX5 HP5;rw [K0.out];have d0:=jz HP.out;have d1:=e9 HP.out;have d3:=eo HP.out;have d4:=ik HP.out;have d5:=ke HP.out;have d6:=jy HX.out ha.out
    go_wp2_with fail
    refine (bB a.o.err 9 w5).mono ?_;rintro e w6 ⟨rfl,rfl⟩;rw [K1.out]
    go_wp2_with fail
    refine (bB a.o.reason 10 w5).mono ?_;rintro e w6 ⟨rfl,rfl⟩;rw [h2]
    go_wp2
    go_ret
    exact ⟨by rw [Hr.out];rfl,HB.out⟩
   ·have K2:=Lib.hid h2
    clear h2;rcases h3:(ez a.o.version 0 1099511627776) with _ | _
    ·have Hr:Hid (aL a=false):=by show _=_;simp only [aL,h3,Bool.false_and,Bool.and_false]
     skip
     go_wp2_with (first
       | ((with_reducible refine aE 60 ?_);refine aa (by rfl) 60 (.tmp 6) rfl w.heap.size 0 rfl (aq A a.act.frame.length c a.act) _ RXa.out Tryz.underlying60 rfl (bR ha.out.act) ?_))
     refine (gV A c a.act ha.out.act y1 HF1.out).mono ?_;rintro e w5 ⟨rfl,hb5⟩;have HX5:=Lib.hid (ah.below HX.out hb5 HX.out.lt);have HP5:=Lib.hid (ah.below HP.out hb5 HP.out.lt);have HB:Hid (Below w.heap.size w w5):=HB0.out.trans (hb5.mono HB0.out.size);clear HX HP hb5;have HX:=HX5;have HP:=HP5;clear HX5 HP5;rw [K0.out];have d0:=jz HP.out;have d1:=e9 HP.out;have d3:=eo HP.out;have d4:=ik HP.out;have d5:=ke HP.out;have d6:=jy HX.out ha.out
     go_wp2_with fail
     refine (bB a.o.err 9 w5).mono ?_;rintro e w6 ⟨rfl,rfl⟩;rw [K1.out]
     go_wp2_with fail
     refine (bB a.o.reason 10 w5).mono ?_;rintro e w6 ⟨rfl,rfl⟩;rw [K2.out]
     go_wp2_with fail
     refine (bB a.o.version 1099511627776 w5).mono ?_;rintro e w6 ⟨rfl,rfl⟩;rw [h3]
     go_wp2
     go_ret
     exact ⟨by rw [Hr.out];rfl,HB.out⟩
    ·have K3:=Lib.hid h3
     clear h3;rcases h4:(decide (a.o.name.length≤255)) with _ | _
     ·have Hr:Hid (aL a=false):=by show _=_;simp only [aL,h4,Bool.false_and,Bool.and_false]
      skip
      have q4:¬ (a.o.name.length:Int)≤255:=by have:=h4;have:=of_decide_eq_false this;omega
      go_wp2_with (first
        | ((with_reducible refine aE 60 ?_);refine aa (by rfl) 60 (.tmp 6) rfl w.heap.size 0 rfl (aq A a.act.frame.length c a.act) _ RXa.out Tryz.underlying60 rfl (bR ha.out.act) ?_))
      refine (gV A c a.act ha.out.act y1 HF1.out).mono ?_;rintro e w5 ⟨rfl,hb5⟩;have HX5:=Lib.hid (ah.below HX.out hb5 HX.out.lt);have HP5:=Lib.hid (ah.below HP.out hb5 HP.out.lt);have HB:Hid (Below w.heap.size w w5):=HB0.out.trans (hb5.mono HB0.out.size);clear HX HP hb5;have HX:=HX5;have HP:=HP5;clear HX5 HP5;rw [K0.out];have d0:=jz HP.out;have d1:=e9 HP.out;have d3:=eo HP.out;have d4:=ik HP.out;have d5:=ke HP.out;have d6:=jy HX.out ha.out
      go_wp2_with fail
      refine (bB a.o.err 9 w5).mono ?_;rintro e w6 ⟨rfl,rfl⟩;rw [K1.out]
      go_wp2_with fail
      refine (bB a.o.reason 10 w5).mono ?_;rintro e w6 ⟨rfl,rfl⟩;rw [K2.out]
      go_wp2_with fail
      refine (bB a.o.version 1099511627776 w5).mono ?_;rintro e w6 ⟨rfl,rfl⟩;rw [K3.out]
      go_wp2
      go_ret
      exact ⟨by rw [Hr.out];rfl,HB.out⟩
     ·have K4:=Lib.hid h4
      clear h4;rcases h5:(decide (a.o.out.length=0)) with _ | _
      ·have Hr:Hid (aL a=false):=by show _=_;simp only [aL,h5,Bool.false_and,Bool.and_false]
       skip
       have q4:(a.o.name.length:Int)≤255:=by have:=K4.out;have:=of_decide_eq_true this;omega
       have q5:¬ (a.o.out.length:Int)=0:=by have:=h5;have:=of_decide_eq_false this;omega
       have qb5:((a.o.out.length:Int) == 0)=false:=beq_eq_false_iff_ne.2 (by omega)
       go_wp2_with (first
         | ((with_reducible refine aE 60 ?_);refine aa (by rfl) 60 (.tmp 6) rfl w.heap.size 0 rfl (aq A a.act.frame.length c a.act) _ RXa.out Tryz.underlying60 rfl (bR ha.out.act) ?_))
       refine (gV A c a.act ha.out.act y1 HF1.out).mono ?_;rintro e w5 ⟨rfl,hb5⟩;have HX5:=Lib.hid (ah.below HX.out hb5 HX.out.lt);have HP5:=Lib.hid (ah.below HP.out hb5 HP.out.lt);have HB:Hid (Below w.heap.size w w5):=HB0.out.trans (hb5.mono HB0.out.size);clear HX HP hb5;have HX:=HX5;have HP:=HP5;clear HX5 HP5;rw [K0.out];have d0:=jz HP.out;have d1:=e9 HP.out;have d3:=eo HP.out;have d4:=ik HP.out;have d5:=ke HP.out;have d6:=jy HX.out ha.out
       go_wp2_with fail
       refine (bB a.o.err 9 w5).mono ?_;rintro e w6 ⟨rfl,rfl⟩;rw [K1.out]
       go_wp2_with fail
       refine (bB a.o.reason 10 w5).mono ?_;rintro e w6 ⟨rfl,rfl⟩;rw [K2.out]
       go_wp2_with fail
       refine (bB a.o.version 1099511627776 w5).mono ?_;rintro e w6 ⟨rfl,rfl⟩;rw [K3.out]
       go_wp2
       go_ret
       exact ⟨by rw [Hr.out];rfl,HB.out⟩
      ·have K5:=Lib.hid h5
       clear h5;rcases h6:(ez a.len 0 262144) with _ | _
       ·have Hr:Hid (aL a=false):=by show _=_;simp only [aL,h6,Bool.false_and,Bool.and_false]
        skip
        have q4:(a.o.name.length:Int)≤255:=by have:=K4.out;have:=of_decide_eq_true this;omega
        have q5:(a.o.out.length:Int)=0:=by have:=K5.out;have:=of_decide_eq_true this;omega
        have qb5:((a.o.out.length:Int) == 0)=true:=by rw [q5];rfl
        go_wp2_with (first
          | ((with_reducible refine aE 60 ?_);refine aa (by rfl) 60 (.tmp 6) rfl w.heap.size 0 rfl (aq A a.act.frame.length c a.act) _ RXa.out Tryz.underlying60 rfl (bR ha.out.act) ?_))
        refine (gV A c a.act ha.out.act y1 HF1.out).mono ?_;rintro e w5 ⟨rfl,hb5⟩;have HX5:=Lib.hid (ah.below HX.out hb5 HX.out.lt);have HP5:=Lib.hid (ah.below HP.out hb5 HP.out.lt);have HB:Hid (Below w.heap.size w w5):=HB0.out.trans (hb5.mono HB0.out.size);clear HX HP hb5;have HX:=HX5;have HP:=HP5;clear HX5 HP5;rw [K0.out];have d0:=jz HP.out;have d1:=e9 HP.out;have d3:=eo HP.out;have d4:=ik HP.out;have d5:=ke HP.out;have d6:=jy HX.out ha.out
        go_wp2_with fail
        refine (bB a.o.err 9 w5).mono ?_;rintro e w6 ⟨rfl,rfl⟩;rw [K1.out]
        go_wp2_with fail
        refine (bB a.o.reason 10 w5).mono ?_;rintro e w6 ⟨rfl,rfl⟩;rw [K2.out]
        go_wp2_with fail
        refine (bB a.o.version 1099511627776 w5).mono ?_;rintro e w6 ⟨rfl,rfl⟩;rw [K3.out]
        go_wp2_with fail
        refine (bB a.len 262144 w5).mono ?_;rintro e w6 ⟨rfl,rfl⟩;rw [h6]
        go_wp2
        go_ret
        exact ⟨by rw [Hr.out];rfl,HB.out⟩
       ·have K6:=Lib.hid h6
        clear h6;have Hr:Hid (aL a=true):=by show _=_;simp only [aL,K0.out,K1.out,K2.out,K3.out,K4.out,K5.out,K6.out,Bool.and_true]
        skip
        have q4:(a.o.name.length:Int)≤255:=by have:=K4.out;have:=of_decide_eq_true this;omega
        have q5:(a.o.out.length:Int)=0:=by have:=K5.out;have:=of_decide_eq_true this;omega
        have qb5:((a.o.out.length:Int) == 0)=true:=by rw [q5];rfl
        go_wp2_with (first
          | ((with_reducible refine aE 60 ?_);refine aa (by rfl) 60 (.tmp 6) rfl w.heap.size 0 rfl (aq A a.act.frame.length c a.act) _ RXa.out Tryz.underlying60 rfl (bR ha.out.act) ?_))
        refine (gV A c a.act ha.out.act y1 HF1.out).mono ?_;rintro e w5 ⟨rfl,hb5⟩;have HX5:=Lib.hid (ah.below HX.out hb5 HX.out.lt);have HP5:=Lib.hid (ah.below HP.out hb5 HP.out.lt);have HB:Hid (Below w.heap.size w w5):=HB0.out.trans (hb5.mono HB0.out.size);clear HX HP hb5;have HX:=HX5;have HP:=HP5;clear HX5 HP5;rw [K0.out];have d0:=jz HP.out;have d1:=e9 HP.out;have d3:=eo HP.out;have d4:=ik HP.out;have d5:=ke HP.out;have d6:=jy HX.out ha.out
        go_wp2_with fail
        refine (bB a.o.err 9 w5).mono ?_;rintro e w6 ⟨rfl,rfl⟩;rw [K1.out]
        go_wp2_with fail
        refine (bB a.o.reason 10 w5).mono ?_;rintro e w6 ⟨rfl,rfl⟩;rw [K2.out]
        go_wp2_with fail
        refine (bB a.o.version 1099511627776 w5).mono ?_;rintro e w6 ⟨rfl,rfl⟩;rw [K3.out]
        go_wp2_with fail
        refine (bB a.len 262144 w5).mono ?_;rintro e w6 ⟨rfl,rfl⟩;rw [K6.out]
        go_wp2
        go_ret
        exact ⟨by rw [Hr.out];rfl,HB.out⟩
end Go.Proofs.YtaafkokfdgfabaaGreat
namespace Go.Proofs.YtaafkokfdgfabaaGreat
open Go.RowKit
set_option linter.unusedVariables false
set_option linter.unusedSimpArgs false
def fI (e:da):Bool:=decide (e.act.frame.length≤140000) && (decide (e.act.name.length≤400) && (decide (e.act.oname.length≤400) && (decide (e.act.back.name.length≤400) && (decide (e.o.name.length≤400) && decide (e.o.out.length≤3000)))))
set_option maxRecDepth 100000 in
theorem vM (A:Option Addr) (n c:Nat) (A2:Option Addr) (n2 c2:Nat) (e:da) (hs0:aB e) (hn:n=e.act.frame.length) (hn2:n2=e.o.out.length) (w:World) :
  Calls Tryz.prog 26 #[.agg (bm A n c A2 n2 c2 e).toArray] w fun x w'=>x=.returned (.bool (fI e))∧Below w.heap.size w w':=by
 subst hn hn2;have hs:=Lib.hid hs0;clear hs0;obtain ⟨W0,hW⟩:∃ W,W=w.alloc (.cells (bm A e.act.frame.length c A2 e.o.out.length c2 e).toArray 65):=⟨_,rfl⟩
 have H1:Hid (ah W0 w.heap.size 65 (bm A e.act.frame.length c A2 e.o.out.length c2 e).toArray):=by rw [hW];exact ah.new w _ _ _ rfl
 have Bw:Hid (Below w.heap.size w W0):=by rw [hW];exact (Below.refl _ _).alloc (Nat.le_refl _) _
 have HW:=Lib.hid hW;clear hW;go_enter Tryz.func26,Tryz.ntmps26
 go_upto_region 1 with fail
 rw [←HW.out];clear HW;have RA:=Lib.hid (qm H1.out hs.out);obtain ⟨x1,hx1⟩:∃ W,W=W0.alloc (.cells (aq none 0 0 dC).toArray 60):=⟨_,rfl⟩
 obtain ⟨y1,hy1⟩:∃ W,W=x1.setCells W0.heap.size 0 (aq A e.act.frame.length c e.act):=⟨_,rfl⟩
 obtain ⟨hth1,hbx1,hbe1⟩:=mL W0 x1 y1 60 (aq none 0 0 dC) (aq A e.act.frame.length c e.act) (by rw [aX hs.out.act,aX bJ]) hx1 hy1;rw [nS] at hx1;have HX1:=Lib.hid hx1;have HY1:=Lib.hid hy1;have Hth1:=Lib.hid hth1;have Hbe1:=Lib.hid hbe1;have H3n:=Lib.hid hbx1;clear hx1 hy1 hth1 hbx1 hbe1;have R1:=Lib.hid (ae H1.out);go_upto_region 2 with (first
  | ((with_reducible refine aE 65 ?_);refine aa (by rfl) 65 (.tmp 1) rfl w.heap.size 0 rfl (bm A e.act.frame.length c A2 e.o.out.length c2 e) _ R1.out dz rfl (lG hs.out) ?_)
  | (rw [←HX1.out];(with_reducible refine aM 60 ?_);refine wpList_store_mid rfl 60 (.tmp 3) (.tmp 5) rfl W0.heap.size 0 (aq A e.act.frame.length c e.act).toArray rfl rfl Hth1.out (bR hs.out.act) (eU _ _ _ _) ?_)
  | ((with_reducible refine aE 60 ?_);refine aa (by rfl) 60 (.tmp 4) rfl w.heap.size 0 rfl (aq A e.act.frame.length c e.act) _ RA.out eg rfl (bR hs.out.act) ?_))
 clear R1;rw [←HY1.out];clear HX1 HY1 Hth1;have H1':=Lib.hid (ah.below H1.out Hbe1.out H1.out.lt);clear H1;have H1:=H1';clear H1';have Bw':Hid (Below w.heap.size w y1):=Bw.out.trans (Hbe1.out.mono Bw.out.size);clear Bw;have Bw:=Bw';clear Bw';have H3:=H3n;clear H3n Hbe1;have d0:=go H3.out;have d1:=ij H3.out hs.out.act;have d2:=fA H3.out hs.out.act;have d3:y1.cell? ⟨W0.heap.size,3,none⟩=some (.string ⟨e.act.back.name.toArray⟩):=jT H3.out hs.out.act 0 _ rfl;have d4:=lJ H1.out hs.out 4;have d4':y1.cell? ⟨w.heap.size,38,none⟩=some (.string ⟨e.o.name.toArray⟩):=d4;have d5:y1.cell? ⟨w.heap.size,39,none⟩=some (.slice A2 e.o.out.length c2):=lJ H1.out hs.out 5;have HB:=Bw;clear RA d4;by_cases h0:e.act.frame.length≤140000
 rotate_left
 ·have q0:¬ ((e.act.frame.length:Int)≤140000):=by omega
  have Hr:Hid (fI e=false):=by show _=_;unfold fI;simp only [decide_eq_false h0,Bool.false_and,Bool.and_false,Bool.true_and]
  clear h0
  go_wp2
  go_ret
  exact ⟨by rw [Hr.out];first | done | rfl | (rw [decide_eq_false (show ¬ ((e.act.frame.length:Int)≤140000) by omega)];rfl),HB.out⟩
 have q0:(e.act.frame.length:Int)≤140000:=by omega
 by_cases h1:e.act.name.length≤400
 rotate_left
 ·have q1:¬ ((e.act.name.length:Int)≤400):=by omega
  have Hr:Hid (fI e=false):=by show _=_;unfold fI;simp only [decide_eq_true h0,decide_eq_false h1,Bool.false_and,Bool.and_false,Bool.true_and]
  clear h0 h1
  go_wp2
  go_ret
  exact ⟨by rw [Hr.out];first | done | rfl | (rw [decide_eq_false (show ¬ ((e.act.name.length:Int)≤400) by omega)];rfl),HB.out⟩
 have q1:(e.act.name.length:Int)≤400:=by omega
 by_cases h2:e.act.oname.length≤400
 rotate_left
 ·have q2:¬ ((e.act.oname.length:Int)≤400):=by omega
  have Hr:Hid (fI e=false):=by show _=_;unfold fI;simp only [decide_eq_true h0,decide_eq_true h1,decide_eq_false h2,Bool.false_and,Bool.and_false,Bool.true_and]
  clear h0 h1 h2
  go_wp2
  go_ret
  exact ⟨by rw [Hr.out];first | done | rfl | (rw [decide_eq_false (show ¬ ((e.act.oname.length:Int)≤400) by omega)];rfl),HB.out⟩
 have q2:(e.act.oname.length:Int)≤400:=by omega
 by_cases h3:e.act.back.name.length≤400
 rotate_left
 ·have q3:¬ ((e.act.back.name.length:Int)≤400):=by omega
  have Hr:Hid (fI e=false):=by show _=_;unfold fI;simp only [decide_eq_true h0,decide_eq_true h1,decide_eq_true h2,decide_eq_false h3,Bool.false_and,Bool.and_false,Bool.true_and]
  clear h0 h1 h2 h3
  go_wp2
  go_ret
  exact ⟨by rw [Hr.out];first | done | rfl | (rw [decide_eq_false (show ¬ ((e.act.back.name.length:Int)≤400) by omega)];rfl),HB.out⟩
 have q3:(e.act.back.name.length:Int)≤400:=by omega
 by_cases h4:e.o.name.length≤400
 rotate_left
 ·have q4:¬ ((e.o.name.length:Int)≤400):=by omega
  have Hr:Hid (fI e=false):=by show _=_;unfold fI;simp only [decide_eq_true h0,decide_eq_true h1,decide_eq_true h2,decide_eq_true h3,decide_eq_false h4,Bool.false_and,Bool.and_false,Bool.true_and]
  clear h0 h1 h2 h3 h4
  go_wp2
  go_ret
  exact ⟨by rw [Hr.out];first | done | rfl | (rw [decide_eq_false (show ¬ ((e.o.name.length:Int)≤400) by omega)];rfl),HB.out⟩
 have q4:(e.o.name.length:Int)≤400:=by omega
 by_cases h5:e.o.out.length≤3000
 rotate_left
 ·have q5:¬ ((e.o.out.length:Int)≤3000):=by omega
  have Hr:Hid (fI e=false):=by show _=_;unfold fI;simp only [decide_eq_true h0,decide_eq_true h1,decide_eq_true h2,decide_eq_true h3,decide_eq_true h4,decide_eq_false h5,Bool.false_and,Bool.and_false,Bool.true_and]
  clear h0 h1 h2 h3 h4 h5
  go_wp2
  go_ret
  exact ⟨by rw [Hr.out];first | done | rfl | (rw [decide_eq_false (show ¬ ((e.o.out.length:Int)≤3000) by omega)];rfl),HB.out⟩
 have q5:(e.o.out.length:Int)≤3000:=by omega
 have Hr:Hid (fI e=true):=by show _=_;unfold fI;simp only [decide_eq_true h0,decide_eq_true h1,decide_eq_true h2,decide_eq_true h3,decide_eq_true h4,decide_eq_true h5,Bool.and_true]
 clear h0 h1 h2 h3 h4 h5
 go_wp2
 go_ret
 exact ⟨by rw [Hr.out];first | done | rfl | (rw [decide_eq_true (show (e.o.out.length:Int)≤3000 by omega)];rfl),HB.out⟩
end Go.Proofs.YtaafkokfdgfabaaGreat
