import Derived.Test.YtaafkokfdgfabaaGreatP23
import Derived.Test.YtaafkokfdgfabaaGreatP25
import Derived.Test.YtaafkokfdgfabaaGreatP26
import Derived.Test.YtaafkokfdgfabaaGreatP27
import Derived.Test.YtaafkokfdgfabaaGreatP28
set_option maxHeartbeats 8000000
set_option maxRecDepth 100000
set_option linter.unusedVariables false
set_option linter.unusedSimpArgs false
open Bool renaming and_eq_true→ID,or_eq_false_iff→IQ,not_eq_false'→IS,false_eq→I3,not_true→I4
open List renaming getElem?_eq_getElem→qq,getElem_mem→Iz,getElem?_toArray→IA,length_append→IB,size_toArray→IF,take_add_one→IG,take_of_length_le→IH,mem_of_getElem?→II,getElem?_map→IJ,append_assoc→IM,append_nil→IP,mem_of_mem_take→IR,all_eq_true→IW,not_mem_nil→IX,length_cons→IY,length_take→IZ,mem_cons→I2
open Nat renaming reduceAdd→IC,le_trans→IE,le_refl→IK,lt_of_lt_of_le→IT,lt_or_ge→IV
namespace Go.Proofs.YtaafkokfdgfabaaGreat
open Go.RowKit
open Lib (hid)
open Act renaming put→I5
open GU renaming of_below→I0,of_grown→I1
open Sd renaming done→IL,plain→IU
open Tryz renaming prog→Iy,underlying43→IN
theorem D8(n:Int)(w:World):Calls Iy 122 #[.int .i64 n] w fun e w'=>e=.returned (.bool (!dh n 0 1152921504606846976))∧w=w':=by
 have Hr:Hid ((decide (n<0)||decide (1152921504606846976<n))=!dh n 0 1152921504606846976):=by
  show _=_
  unfold dh;by_cases h1:n<0
  ·rw[decide_eq_true h1,decide_eq_false (show ¬0≤n by omega)];rfl
  ·rw[decide_eq_false h1,decide_eq_true (show 0≤n by omega)]
   by_cases h2:1152921504606846976<n
   ·rw[decide_eq_true h2,decide_eq_false (by omega)];rfl
   ·rw[decide_eq_false h2,decide_eq_true (by omega)];rfl
 rw[←Hr.out];clear Hr;by_cases h1:n<0
 ·go_enter Tryz.func122,Tryz.ntmps122
  go_wp2
  go_ret
  exact⟨by rw[decide_eq_true h1];rfl,rfl⟩
 ·have h1b:decide (n<0)=false:=decide_eq_false h1
  go_enter Tryz.func122,Tryz.ntmps122
  go_wp2
  go_ret
  exact⟨rfl,rfl⟩
theorem yQ(g o c:Nat)(l:List Int)(w:World)(hb:w.rangeAt g o (l.map zv))(hl:l.length≤1000000) :
  Calls Iy 167 #[.slice (some ⟨g,o,none⟩) l.length c,.func (.func 122) #[] #[]] w fun e w'=>(∃z:Int,e=.returned (.int .i64 z)∧(decide (0≤z)=!(l.all fun n=>dh n 0 1152921504606846976)))∧w=w':=by
 have HB:=hid hb;clear hb;go_enter Tryz.func167,Tryz.ntmps167
 go_wp2
 go_loopw [8] (fun i wr=>∃k:Nat,k≤l.length∧i=.int .i64 (k:Int)∧w=wr∧Hid ((l.take k).all (fun n=>dh n 0 1152921504606846976)=true)) (fun i _=>l.length-(intOf i).toNat)
 case atStart=>exact⟨0,by omega,rfl,rfl,rfl⟩
 case round =>
  obtain⟨k,hk,rfl,rfl,hat⟩:=hrel;by_cases hlt:k<l.length
  ·have hltI:(k:Int)<(l.length:Int):=by omega
   have hk0:(0:Int)≤(k:Int):=by omega
   obtain⟨x,hx⟩:∃x,x=l[k]:=⟨_,rfl⟩;have hcell:w.cell? ⟨g,o+k,none⟩=some (.int .i64 x):=HB.out k _ (by rw[IJ,qq hlt,hx];rfl);have Hsplit:Hid (l.take (k+1)=l.take k++[x]):=by
    show _=_
    rw[IG,qq hlt,hx];rfl
   have Hx:=hid hx;clear hx
   go_wp2_with fail
   refine (D8 x _).mono ?_;rintro e w1 ⟨rfl,rfl⟩;rcases hz:dh x 0 1152921504606846976 with _|_
   ·have Hno:Hid (l.all (fun n=>dh n 0 1152921504606846976)=false):=by
     show _=_
     rw[List.all_eq_false];exact⟨x,by rw[Hx.out];exact Iz hlt,by rw[hz];simp⟩
    clear hz Hsplit
    go_wp2
    go_ret
    exact⟨⟨(k:Int),rfl,by rw[Hno.out];simp⟩,rfl⟩
   ·have Hat2:Hid ((l.take (k+1)).all (fun n=>dh n 0 1152921504606846976)=true):=by
     show _=_
     rw[Hsplit.out,List.all_append,hat.out];simp[hz]
    clear hz Hsplit
    go_wp2
    go_roundw
    case rel=>exact⟨k+1,by omega,by go_num,trivial,Hat2⟩
    case measure=>simp[intOf];omega
  ·have hltI:¬(k:Int)<(l.length:Int):=by omega
   have Hall:Hid (l.all (fun n=>dh n 0 1152921504606846976)=true):=by
    have h:=hat.out;rw[IH (by omega)] at h;exact h
   go_wp2
   go_ret
   exact⟨⟨-1,rfl,by rw[Hall.out];rfl⟩,rfl⟩
theorem qC(g o c:Nat)(l:List Int)(n:Nat)(w:World)(hn:n=l.length)(hb:w.rangeAt g o (l.map zv))(hl:l.length≤1000000) :
  Calls Iy 121 #[.slice (some ⟨g,o,none⟩) n c,.func (.func 122) #[] #[]] w fun e w'=>e=.returned (.bool (!(l.all fun n=>dh n 0 1152921504606846976)))∧w=w':=by
 subst hn;have H:=hid (yQ g o c l w hb hl);clear hb;go_enter Tryz.func121,Tryz.ntmps121
 go_wp2_with fail
 refine H.out.mono ?_;rintro e w1 ⟨⟨z,rfl,hz⟩,rfl⟩;have Hz:=hid hz;clear hz
 go_wp2
 go_ret
 exact⟨by rw[←Hz.out];rfl,rfl⟩
structure Ib(c:bf)(s:bA):Prop where
 conf:aQ c=true
 pool:bU s.pool=true
 hlen:s.healths.length=s.pool.backs.length
 flen:(s.flows.length:Int)≤c.room
 tick:0≤s.tick∧s.tick≤1099511627776
 no:0≤s.no∧s.no≤1152921504606846976
 count:s.count.all (fun n=>dh n 0 1152921504606846976)=true
 hs:∀i,i<s.healths.length→dY c s i=true
 fs:∀i,i<s.flows.length→fh s i=true
theorem mn{c:bf}{s:bA}:k7 c s=true↔Ib c s:=by
 simp only[k7,ID,decide_eq_true_eq,bF,IW (l:=List.range _),List.mem_range];exact⟨fun ⟨a,b,c,d,e,f,g,h,i⟩=>⟨a,b,c,d,e,f,g,h,i⟩,fun ⟨a,b,c,d,e,f,g,h,i⟩=>⟨a,b,c,d,e,f,g,h,i⟩⟩
theorem mo{c:bf}{s:bA}(h:Ib c s→False):Hid (k7 c s=false):=by
 show _=_
 rcases e:k7 c s with _|_
 ·rfl
 ·exact (h (mn.1 e)).elim
theorem lG{s:bA}{w:World}{g:Nat}{t:TypeId}{x:nJ}(hb:aj w g t (cU x s).toArray):w.rangeAt g 6 (s.count.map zv):=fun j v hj=>by
 rw[hb.cell,IA,cU,show 6+j=j+6 by omega];exact hj
theorem nz{s:bA}{w:World}{g:Nat}{t:TypeId}{x:nJ}(hb:aj w g t (cU x s).toArray):w.rangeAt g 0 (fM x.b s.pool.backs.length x.cb s.pool):=fun j v hj=>by
 rw[hb.cell,IA,cU];match j,hj with
 |0,hj=>exact hj
 |1,hj=>exact hj
theorem dV:Iy.underlying 29=some (.struct (Iy.fieldsOf 29)):=by kernel_rfl
theorem jn:Iy.underlying 32=some (.struct (Iy.fieldsOf 32)):=by kernel_rfl
theorem ka:(Iy.info? 32).map (·.size)=some 2:=by kernel_rfl
theorem cB:(Iy.info? 29).map (·.size)=some 54:=by kernel_rfl
theorem dQ:Iy.underlying 115=some (.struct (Iy.fieldsOf 115)):=by kernel_rfl
theorem dG(h:dq):(Iy.info? 115).map (·.size)=some (aF h).length:=by
 show _=some 3
 kernel_rfl
theorem gL(h:dq):(aF h).toArray.all (·.oneCell')=true:=all_oneCell_toArray (by
 intro u hu;simp only[aF,I2,IX,or_false] at hu;rcases hu with rfl|rfl|rfl<;>rfl)
def j5:dq:=⟨[],false,0⟩
theorem iJ:(aF j5).toArray=(#[.string ⟨#[]⟩,.bool false,.int .i64 0]:Array Value):=rfl
def jX:dE:=⟨⟨dy,dy,0,0,0⟩,[],0,0,0⟩
theorem jo:(aw jX).toArray=(#[.bool false,.int .u8 0,.int .u8 0,.int .u8 0,.int .u8 0,.int .u8 0,.int .u8 0,.int .u8 0,.int .u8 0,.int .u8 0,.int .u8 0,.int .u8 0,.int .u8 0,.int .u8 0,.int .u8 0,.int .u8 0,.int .u8 0,.bool false,.int .u8 0,.int .u8 0,.int .u8 0,.int .u8 0,.int .u8 0,.int .u8 0,.int .u8 0,.int .u8 0,.int .u8 0,.int .u8 0,.int .u8 0,.int .u8 0,.int .u8 0,.int .u8 0,.int .u8 0,.int .u8 0,.int .i64 0,.int .i64 0,.int .i64 0,.string ⟨#[]⟩,.int .i64 0,.int .i64 0,.int .i64 0]:Array Value):=rfl
theorem ij(f:dE):(aw f).toArray.all (·.oneCell')=true:=all_oneCell_toArray (by
 intro u hu;simp only[aw,aM,ai,I2,List.mem_append,List.cons_append,IX,or_false] at hu;rcases hu with rfl|(hu|rfl|hu|rfl|rfl|rfl)|rfl|rfl|rfl|rfl
 all_goals first|rfl|exact eP _ u hu)
theorem wJ{ops:Array Oper}{rest:List Oper}{o:Oper}{a:Act}{w:World}{Q:Exit→Act→World→Prop}(hg:o.guard=none)(m x v:Operand)(hop:o.op=.mapUpdate 179 m x v){b n:Nat}{ks:List fL}{k:fL}(hm:a.eval m=.map (some b))(hs:oy w b n ks)(hn:n<maxLen)
  (hk:cy k) (hkn:dC k=true) (hx:a.eval x=.agg (aM k).toArray) (hv:a.eval v=.bool true) (hK:∀w',oy w' b (n+1) (ks++[k])→w.grownBy w' (some b)→wpList Iy ops Q rest (a.put o.dst undef) w'):wpList Iy ops Q (o::rest) a w:=by
 refine wpList_plain hg fun K' hK'=>?_
 obtain⟨w',hrun,r1,r2⟩:=hs.store hn hk hkn;unfold Oper.wp;simp[execOp,hop,hm,hx,hv,hrun,Result.andThen];exact hK' _ _ (hK w' r1 r2)
theorem Ic(d e:Bool)(x y p q n m:Int):(decide (x<y)||decide (p<q)||decide (n<m)||d||e)=!(decide (y≤x)&&(decide (q≤p)&&(decide (m≤n)&&(!d&&!e)))):=by
 have h1:decide (x<y)=!decide (y≤x):=by rw[←decide_not];exact decide_eq_decide.2 (by omega)
 have h2:decide (p<q)=!decide (q≤p):=by rw[←decide_not];exact decide_eq_decide.2 (by omega)
 have h3:decide (n<m)=!decide (m≤n):=by rw[←decide_not];exact decide_eq_decide.2 (by omega)
 rw[h1,h2,h3];cases decide (y≤x)<;>cases decide (q≤p)<;>cases decide (m≤n)<;>cases d<;>cases e<;>rfl
theorem Ie(a:Bool)(r nd:Int):(!a||decide (r<0)||decide (nd≤r))=!(a&&(decide (0≤r)&&decide (r<nd))):=by
 have h1:decide (r<0)=!decide (0≤r):=by rw[←decide_not];exact decide_eq_decide.2 (by omega)
 have h2:decide (nd≤r)=!decide (r<nd):=by rw[←decide_not];exact decide_eq_decide.2 (by omega)
 rw[h1,h2];cases a<;>cases decide (0≤r)<;>cases decide (r<nd)<;>rfl
theorem BV(n:Nat)(w:World):(Instr.makeMap 179 (some (.int .i64 (n:Int)))).run Iy w=.ok (.map (some w.heap.size)) (w.alloc (.map #[] 0)):=by
 simp[Instr.makeMap,asInt,asIntOf]
theorem uD(A:Option Addr)(n c:Nat)(f:bf)(x:nJ)(s:bA)(hf:ao f)(w:World)(hn:n=f.vips.length)(hnc:n≤c)(hv:VS w w.heap.size A f.vips)(hl:n≤1000000)(hst:md w w.heap.size x s) :
  Calls Iy 57 #[iT A n c f,.agg (cU x s).toArray] w fun e w'=>e=.returned (.bool (k7 f s))∧Below w.heap.size w w':=by
 subst hn;unfold iT;obtain⟨xb,cb,xh,ch,xf,cf⟩:=x;obtain⟨W1,hW1⟩:∃W,W=w.alloc (.cells (am A f.vips.length c f).toArray 29):=⟨_,rfl⟩;obtain⟨W,hW⟩:∃W,W=W1.alloc (.cells (cU ⟨xb,cb,xh,ch,xf,cf⟩ s).toArray 37):=⟨_,rfl⟩;have X1:aj W1 w.heap.size 29 (am A f.vips.length c f).toArray:=by rw[hW1];exact aj.new w _ _ _ rfl
 have B1:Below W1.heap.size W1 W:=by rw[hW];exact (Below.refl _ _).alloc (IK _) _
 have HX:=hid (X1.below B1 X1.lt);have HY:Hid (aj W (w.heap.size+1) 37 (cU ⟨xb,cb,xh,ch,xf,cf⟩ s).toArray):=by rw[hW];exact aj.new W1 _ _ _ (by rw[hW1];simp)
 have HB:Hid (Below w.heap.size w W):=by
  have:Below w.heap.size w W1:=by rw[hW1];exact (Below.refl _ _).alloc (IK _) _
  exact this.trans (B1.mono this.size)
 have HV:=hid ((hv.below HB.out).more HB.out.size);have HS:=hid (hst.on HB.out);have Hf:=hid hf;have a1:W.cell? ⟨w.heap.size,2,none⟩=some (.int .i64 f.room):=HX.out.cell 2;have b0:W.cell? ⟨w.heap.size+1,1,none⟩=some (.slice xb s.pool.backs.length cb):=HY.out.cell 1;have b1:W.cell? ⟨w.heap.size+1,2,none⟩=some (.slice xh s.healths.length ch):=HY.out.cell 2;have b2:W.cell? ⟨w.heap.size+1,3,none⟩=some (.slice xf s.flows.length cf):=HY.out.cell 3;have b3:W.cell? ⟨w.heap.size+1,4,none⟩=some (.int .i64 s.tick):=HY.out.cell 4;have b4:W.cell? ⟨w.heap.size+1,5,none⟩=some (.int .i64 s.no):=HY.out.cell 5;have HW1:=hid hW1;have HW:=hid hW;have l0:w.heap.size<W.heap.size:=HX.out.lt;have l1:w.heap.size+1<W.heap.size:=HY.out.lt;have Hcz:Hid ((Iy.info? 29).map (·.size)=some (am A f.vips.length c f).length):=by show _=_;rw[dD Hf.out];exact cB
 have HPool:=hid (fun w h=>nV xb s.pool.backs.length cb s.pool HS.out.ok.backs HS.out.nb w rfl HS.out.cb.1 ((HS.out.held.backs.below h).more h.size) HS.out.cb.2);have Hcnt:=hid HS.out.ok.count;clear hW hW1 X1 B1 hv hst hf;go_enter Tryz.func57,Tryz.ntmps57
 go_upto_region 1 with fail
 rw[←HW1.out,←HW.out];clear HW HW1;obtain⟨T1,hT1⟩:∃T,T=(!aQ f||!bU s.pool||((s.healths.length:Int) != (s.pool.backs.length:Int))||decide (f.room<(s.flows.length:Int))):=⟨_,rfl⟩;refine IU ?_
 repeat ((first|refine po ?_|refine sl (ag HX.out) l0 dV Hcz.out ?_|refine gs (nz HY.out) l1 jn ka ?_|refine cl (fun w h=>p9 A f.vips.length c f Hf.out w rfl hnc ((HV.out.below h).more h.size) hl) ?_|refine gc (fun w h=>HPool.out w h) ?_|refine gp ?_|refine pt ?_);simp only[ld,lg,lf,IC])
 refine IL fun w2 hb2=>?_
 have Hb2:=hid hb2;have Hw2:=hid (HB.out.trans (hb2.mono HB.out.size));rw[←hT1];have HT1:=hid hT1;clear hb2 hT1;rcases T1 with _|_
 rotate_left
 ·have Hr:Hid (k7 f s=false):=mo fun h=>by
   have:=HT1.out;rw[h.conf,h.pool,h.hlen,decide_eq_false (by have:=h.flen;omega)] at this;simp at this
  go_wp2
  go_ret
  exact⟨by rw[Hr.out];rfl,Hw2.out⟩
 have Hq1:Hid (aQ f=true∧bU s.pool=true∧s.healths.length=s.pool.backs.length∧(s.flows.length:Int)≤f.room):=by
  have:=HT1.out;simp at this;exact⟨this.1.1.1,this.1.1.2,by have:=this.1.2;omega,this.2⟩
 clear HT1 HPool;go_upto_region 3 with fail
 obtain⟨T2,hT2⟩:∃T,T=(decide (s.tick<0)||decide (1099511627776<s.tick)||decide (s.no<0)||decide (1152921504606846976<s.no)||!(s.count.all fun n=>dh n 0 1152921504606846976)):=⟨_,rfl⟩;refine Sd.plain' Hb2.out ?_
 repeat ((first|refine po ?_|refine gq (fun w' h=>qC (w.heap.size+1) 6 11 s.count 11 w' Hcnt.out.symm (fun j v hj=>(bg h _ _ l1).trans (lG HY.out j v hj)) (by rw[Hcnt.out];decide)) ?_|refine gp ?_|refine pt ?_);simp only[ld,lg,lf,IC])
 refine IL fun w3 hb3=>?_
 clear Hb2 Hw2;have Hb3:=hid hb3;have Hw3:=hid (HB.out.trans (hb3.mono HB.out.size));rw[←hT2];have HT2:=hid hT2;clear hb3 hT2;rcases T2 with _|_
 rotate_left
 ·have Hr:Hid (k7 f s=false):=mo fun h=>by
   have:=HT2.out;rw[h.count,decide_eq_false (by have:=h.tick;omega),decide_eq_false (by have:=h.tick;omega),decide_eq_false (by have:=h.no;omega),decide_eq_false (by have:=h.no;omega)] at this;simp at this
  go_wp2
  go_ret
  exact⟨by rw[Hr.out];rfl,Hw3.out⟩
 have Hq2:Hid ((0≤s.tick∧s.tick≤1099511627776)∧(0≤s.no∧s.no≤1152921504606846976)∧s.count.all (fun n=>dh n 0 1152921504606846976)=true):=by
  have:=HT2.out;simp only[I3,IQ,decide_eq_false_iff_not,IS] at this;exact⟨by omega,by omega,this.2⟩
 clear HT2;have r1:=(bg Hb3.out _ 2 l1).trans b1
 go_wp2
 go_loopw [64] (fun i wr=>∃k:Nat,k≤s.healths.length∧i=.int .i64 (k:Int)∧Hid (Below W.heap.size W wr)∧Hid (∀j,j<k→dY f s j=true)) (fun i _=>s.healths.length-(intOf i).toNat)
 case atStart=>exact⟨0,by omega,rfl,Hb3,fun j hj=>by omega⟩
 case round =>
  obtain⟨k,hk,rfl,hbel,hat⟩:=hrel;rename World=>wr
  have hl1:=HS.out.ch.2;by_cases hlt:k<s.healths.length
  ·have hltI:(k:Int)<(s.healths.length:Int):=by omega
   have hk0:(0:Int)≤(k:Int):=by omega
   have hkb:k<s.pool.backs.length:=by have:=Hq1.out.2.2.1;omega
   have hkbI:(k:Int)<(s.pool.backs.length:Int):=by omega
   obtain⟨hb,ho,hA,hbB,hc⟩:=(HS.out.held.healths.below hbel.out) (by omega);obtain⟨bb,bo,hA2,hbB2,hc2⟩:=(HS.out.held.backs) (by omega);simp only at hA hA2;subst hA hA2;obtain⟨y,hy⟩:∃y,y=s.healths[k]:=⟨_,rfl⟩;obtain⟨z,hz⟩:∃z,z=s.pool.backs[k]:=⟨_,rfl⟩;have Hrg:=hid (hc k y (by rw[qq hlt,hy]));have Hnm:=hid (hc2 k z (by rw[qq hkb,hz]) 0 _ rfl);have Hat0:Hid (dY f s k=(y.name==z.name&&(decide (0≤y.run)&&decide (y.run<(if y.down then f.rise else f.fall))))):=by
    show _=_
    unfold dY;rw[qq hlt,qq hkb,←hy,←hz]
   have Hyes:Hid (dY f s k=true→∀j,j<k+1→dY f s j=true):=fun h j hj=>by
    rcases IV j k with h1|h1
    ·exact hat.out j h1
    ·obtain rfl:j=k:=by omega
     exact h
   have Hno:dY f s k=false→Hid (k7 f s=false):=fun h=>mo fun g=>by have:=g.hs k hlt;rw[h] at this;cases this
   clear hc hc2 hy hz hat;obtain⟨x1,y1,X1,Y1,T1,B1,L1⟩:=ei wr 115 (aF j5) (aF y) rfl;rw[iJ] at X1;have HB1:Hid (Below W.heap.size W y1):=hbel.out.trans (L1.out.mono hbel.out.size);go_upto_region 8 with (first
    |((with_reducible refine aB 115 ?_);refine aa (by rfl) 115 (.tmp 67) rfl hb (ho+k*3) rfl (aF y) _ Hrg.out dQ rfl (dG y) ?_)
    |(rw[←X1.out];(with_reducible refine aR 115 ?_);refine wpList_store_mid rfl 115 (.tmp 6) (.tmp 68) rfl wr.heap.size 0 (aF y).toArray rfl rfl T1.out (by rw[IF];exact dG y) (gL _) ?_))
   rw[←Y1.out];have HXy:=hid (HX.out.below HB1.out HX.out.lt);have HYy:=hid (HY.out.below HB1.out HY.out.lt);have e1:y1.cell? ⟨w.heap.size,9,none⟩=some (.int .i64 f.rise):=by rw[HXy.out.cell,IA];exact iE Hf.out 0
   have e2:y1.cell? ⟨w.heap.size,10,none⟩=some (.int .i64 f.fall):=by rw[HXy.out.cell,IA];exact iE Hf.out 1
   have e3:y1.cell? ⟨wr.heap.size,0,none⟩=some (.string ⟨y.name.toArray⟩):=B1.out.cell 0;have e4:y1.cell? ⟨wr.heap.size,1,none⟩=some (.bool y.down):=B1.out.cell 1;have e5:y1.cell? ⟨wr.heap.size,2,none⟩=some (.int .i64 y.run):=B1.out.cell 2;have e6:y1.cell? ⟨w.heap.size+1,1,none⟩=some (.slice (some ⟨bb,bo,none⟩) s.pool.backs.length cb):=HYy.out.cell 1;have e7:y1.cell? ⟨bb,bo+k*27,none⟩=some (.string ⟨z.name.toArray⟩):=(bg HB1.out _ _ hbB2).trans Hnm.out;have m0:w.heap.size<y1.heap.size:=HXy.out.lt;have m1:w.heap.size+1<y1.heap.size:=HYy.out.lt;have m2:wr.heap.size<y1.heap.size:=B1.out.lt;have m3:bb<y1.heap.size:=IT hbB2 HB1.out.size;have Hsz:=hid HB1.out.size;have Hll:=hid HS.out.cb.2;clear X1 Y1 T1 Hrg hbel Hnm b0 b1 b2 b3 b4 r1 a1;rcases hdn:y.down with _|_
   all_goals
    rw[hdn] at e4 Hat0;simp only[if_true,Bool.false_eq_true,if_false] at Hat0;clear hdn;go_upto_region 11 with fail
    refine Sd.start ?_
    repeat ((first|refine po ?_|refine gp ?_|refine pt ?_);simp only[ld,lg,lf,IC])
    first
     |(obtain⟨T3,hT3⟩:∃T,T=(!(y.name==z.name)||decide (y.run<0)||decide (f.fall≤y.run)):=⟨_,rfl⟩;rw[←hT3])
     |(obtain⟨T3,hT3⟩:∃T,T=(!(y.name==z.name)||decide (y.run<0)||decide (f.rise≤y.run)):=⟨_,rfl⟩;rw[←hT3])
    rw[Ie,←Hat0.out] at hT3;refine IL fun w4 hb4=>?_
    have Hb4:=hid (HB1.out.trans (hb4.mono HB1.out.size));have Hw4:=hid (HB.out.trans (Hb4.out.mono HB.out.size));clear hb4;rcases hv:dY f s k with _|_
    ·rw[hv] at hT3
     subst hT3;have Hr:=Hno hv;clear hv
     go_wp2
     go_ret
     exact⟨by rw[Hr.out];rfl,Hw4.out⟩
    ·rw[hv] at hT3
     subst hT3;have Hy:=hid (Hyes.out hv);clear hv
     go_wp2
     go_roundw
     case rel=>exact⟨k+1,by omega,by go_num,Hb4,Hy⟩
     case measure=>simp[intOf];omega
  ·have hltI:¬(k:Int)<(s.healths.length:Int):=by omega
   have Hhs:Hid (∀j,j<s.healths.length→dY f s j=true):=fun j hj=>hat.out j (by omega)
   have r2b:=hid b2;have r2:=(bg hbel.out _ 3 l1).trans b2;have hmm:=BV s.flows.length;clear hat r1 b0 b1 b2 b3 b4 a1;go_upto_region 15 with fail
   obtain⟨W5,hW5⟩:∃V,V=wr.alloc (.map #[] 0):=⟨_,rfl⟩;have HSeen:Hid (oy W5 wr.heap.size 0 []):=by rw[hW5];exact BR wr
   have HB5:Hid (Below W.heap.size W W5):=by rw[hW5];exact hbel.out.alloc hbel.out.size _
   have Hmp:Hid (W.heap.size≤wr.heap.size):=hbel.out.size;obtain⟨mb,hmb⟩:∃mb,mb=wr.heap.size:=⟨_,rfl⟩;rw[←hW5,←hmb];rw[←hmb] at HSeen Hmp;have r3:=(bg HB5.out _ 3 l1).trans (r2b.out);clear hmm hW5 hmb hbel r2
   go_wp2
   go_loopw [104] (fun i wr=>∃k:Nat,k≤s.flows.length∧i=.int .i64 (k:Int)∧Hid (Below W.heap.size W wr)∧Hid (oy wr mb k ((s.flows.take k).map (·.key)))∧Hid (∀j,j<k→fh s j=true)) (fun i _=>s.flows.length-(intOf i).toNat)
   case atStart=>exact⟨0,by omega,rfl,HB5,HSeen,fun j hj=>by omega⟩
   case round =>
    obtain⟨k,hk,rfl,hbel,hseen,hat⟩:=hrel;rename World=>wr
    have hl1:=HS.out.cf.2;by_cases hlt:k<s.flows.length
    ·have hltI:(k:Int)<(s.flows.length:Int):=by omega
     have hk0:(0:Int)≤(k:Int):=by omega
     obtain⟨fb,fo,hA,hbB,hc⟩:=(HS.out.held.flows) (by omega);simp only at hA;subst hA;obtain⟨y,hy⟩:∃y,y=s.flows[k]:=⟨_,rfl⟩;have hyk:s.flows[k]?=some y:=by rw[qq hlt,hy]
     have Hyo:=hid (HS.out.ok.flows y (by rw[hy];exact Iz hlt));have Hyn:=hid (HS.out.nf y (by rw[hy];exact Iz hlt));have Hrg:Hid (wr.rangeAt fb (fo+k*41) (aw y)):=fun i c hi=>(bg hbel.out _ _ hbB).trans (hc k y hyk i c hi)
     have Hc:=hid hc;have Hat0:Hid (fh s k=(du y&&(decide (y.seen≤s.tick)&&(decide (1≤y.no)&&(decide (y.no≤s.no)&&(!((s.flows.take k).any fun g=>fD g.key y.key)&&(decide (k=0)||(match s.flows[k-1]? with|some g=>fQ g y|none=>true)))))))):=by
      show _=_
      unfold fh;rw[hyk];rfl
     have Hyes:Hid (fh s k=true→∀j,j<k+1→fh s j=true):=fun h j hj=>by
      rcases IV j k with h1|h1
      ·exact hat.out j h1
      ·obtain rfl:j=k:=by omega
       exact h
     have Hno:fh s k=false→Hid (k7 f s=false):=fun h=>mo fun g=>by have:=g.fs k hlt;rw[h] at this;cases this
     have Htk:Hid (s.flows.take (k+1)=s.flows.take k++[y]):=by show _=_;rw[IG,hyk];rfl
     have hmw:=hseen.out.lt;obtain⟨x1,y1,X1,Y1,T1,B1,L1⟩:=ei wr 120 (aw jX) (aw y) (by rw[ib Hyo.out];rfl);rw[jo] at X1;have HB1:Hid (Below W.heap.size W y1):=hbel.out.trans (L1.out.mono hbel.out.size);have Hsn:=hid (hseen.out.below L1.out hmw);have Hfz:=hid (iu Hyo.out);clear hc hy hyk hmw hseen;go_upto_region 18 with (first
      |((with_reducible refine aB 120 ?_);refine aa (by rfl) 120 (.tmp 107) rfl fb (fo+k*41) rfl (aw y) _ Hrg.out bI rfl Hfz.out ?_)
      |(rw[←X1.out];(with_reducible refine aR 120 ?_);refine wpList_store_mid rfl 120 (.tmp 10) (.tmp 108) rfl wr.heap.size 0 (aw y).toArray rfl rfl T1.out (by rw[IF];exact Hfz.out) (ij _) ?_))
     rw[←Y1.out];have HYy:=hid (HY.out.below HB1.out HY.out.lt);have e1:y1.cell? ⟨wr.heap.size,39,none⟩=some (.int .i64 y.seen):=cj Hyo.out B1.out 2;have e2:y1.cell? ⟨wr.heap.size,40,none⟩=some (.int .i64 y.no):=cj Hyo.out B1.out 3;have e3:y1.cell? ⟨w.heap.size+1,3,none⟩=some (.slice (some ⟨fb,fo,none⟩) s.flows.length cf):=HYy.out.cell 3;have e4:y1.cell? ⟨w.heap.size+1,4,none⟩=some (.int .i64 s.tick):=HYy.out.cell 4;have e5:y1.cell? ⟨w.heap.size+1,5,none⟩=some (.int .i64 s.no):=HYy.out.cell 5;have m1:w.heap.size+1<y1.heap.size:=HYy.out.lt;have m2:wr.heap.size<y1.heap.size:=B1.out.lt;have m3:fb<y1.heap.size:=IT hbB HB1.out.size;have m4:mb<y1.heap.size:=Hsn.out.lt;clear X1 Y1 T1 Hrg hbel r3;refine Sd.start ?_;simp only[I5];rcases hf:du y with _|_
     ·have Hr:=Hno (by rw[Hat0.out,hf];rfl)
      repeat ((first|refine sk ?_|refine sl (ag B1.out) m2 bI Hfz.out ?_|refine cl (fun w _=>jz y Hyo.out Hyn.out w) ?_|refine pt ?_);simp only[ld,lg,lf,IC,hf,Bool.not_false])
      refine IL fun w4 hb4=>?_
      have Hw4:=hid (HB.out.trans ((HB1.out.trans (hb4.mono HB1.out.size)).mono HB.out.size));clear hb4 hf
      go_wp2
      go_ret
      exact⟨by rw[Hr.out];rfl,Hw4.out⟩
     ·have Hfl:=hid hf
      have Hkn:Hid (dC y.key=true):=by show _=_;simp only[du,ID] at hf;exact hf.1
      have Hna:Hid (((s.flows.take k).map (·.key)).any (fun g=>fD g y.key)=(s.flows.take k).any fun g=>fD g.key y.key):=by show _=_;rw[List.any_map];rfl
      obtain⟨D,hD⟩:∃D,D=((s.flows.take k).map (·.key)).any (fun g=>fD g y.key):=⟨_,rfl⟩;have HD:=hid hD;clear hD;obtain⟨E,T4,hT4,hE⟩:∃E T4:Bool,T4=(decide (s.tick<y.seen)||decide (y.no<1)||decide (s.no<y.no)||D||E)∧(!E)=(decide (k=0)||(match s.flows[k-1]? with|some g=>fQ g y|none=>true)):=⟨!(decide (k=0)||(match s.flows[k-1]? with|some g=>fQ g y|none=>true)),_,rfl,by rw[Bool.not_not]⟩;have Hfin:Hid (T4=!fh s k):=by
       show _=_
       rw[hT4,Ic,Hat0.out,hf,HD.out,Hna.out,hE];rfl
      have HT4:=hid hT4;have HE:=hid hE;clear hT4 hE;rcases k with _|j
      obtain rfl:E=false:=by have:=HE.out;simp at this;exact this
      repeat ((first|refine sk ?_|refine po ?_|refine sl (ag B1.out) m2 bI Hfz.out ?_|refine cl (fun w _=>jz y Hyo.out Hyn.out w) ?_|refine gs (fR Hyo.out B1.out) m2 cI (gK Hyo.out) ?_|refine gk (fun w' h=>(Hsn.out.below h m4).look Hyo.out Hkn.out) ?_|refine pt ?_|refine gp ?_);simp only[ld,lg,lf,IC,hf,I4,←HD.out])
      rotate_left
      obtain⟨z,hz⟩:∃z,s.flows[j]?=some z:=⟨_,qq (by omega)⟩;obtain rfl:E=!fQ z y:=by have:=HE.out;simp[hz] at this;rw[←this]
      have hzm:z∈s.flows:=II hz;have Hzo:=hid (HS.out.ok.flows z hzm);have hzf:du z=true:=by
       have:=hat.out j (by omega);unfold fh at this;rw[hz] at this;simp only[ID] at this;exact this.1
      have Hz1:Hid (dC z.key=true∧(0≤z.no∧z.no≤1152921504606846976)):=by show _∧_;simp only[du,ID,bF] at hzf;exact⟨hzf.1,hzf.2.2.2.2⟩
      have Hy1:Hid (0≤y.no∧y.no≤1152921504606846976):=by show _∧_;have:=Hfl.out;simp only[du,ID,bF] at this;exact this.2.2.2.2
      have Hzr:Hid (y1.rangeAt fb (fo+j*41) (aw z)):=fun i c hi=>(bg HB1.out _ _ hbB).trans (Hc.out j z hz i c hi)
      have Hold:=hid (BP z y Hzo.out Hyo.out Hz1.out.1 Hkn.out Hz1.out.2 Hy1.out);have j1:(0:Int)≤(j:Int):=by omega
      have j2:(j:Int)<(s.flows.length:Int):=by omega
      have jw:IntKind.i64.wrap (j:Int)=(j:Int):=IntWalk.i64_in _ (by omega);clear hz hzm hzf
      repeat ((first|refine sk ?_|refine po ?_|refine sl (ag B1.out) m2 bI Hfz.out ?_|refine cl (fun w _=>jz y Hyo.out Hyn.out w) ?_|refine gs (fR Hyo.out B1.out) m2 cI (gK Hyo.out) ?_|refine gk (fun w' h=>(Hsn.out.below h m4).look Hyo.out Hkn.out) ?_|refine gs Hzr.out m3 bI (iu Hzo.out) ?_|refine gs (ag B1.out) m2 bI Hfz.out ?_|refine gc (fun w _=>Hold.out w) ?_|refine pt ?_|refine gp ?_);simp only[ld,lg,lf,IC,hf,I4,←HD.out,jw])
      clear jw
      all_goals
       refine IL fun w4 hb4=>?_
       rw[←HT4.out];have Hb4:=hid (HB1.out.trans (hb4.mono HB1.out.size));have Hw4:=hid (HB.out.trans (Hb4.out.mono HB.out.size));have Hx4:=hid (B1.out.below hb4 m2);have Hs4:=hid (Hsn.out.below hb4 m4);clear hb4 hf HT4 HE;rcases T4 with _|_
       ·have Hy:=hid (Hyes.out (by have:=Hfin.out;simpa using this.symm))
        clear Hfin
        go_wp2_with (first
         |((with_reducible refine aB 118 ?_);refine aa (by rfl) 118 (.tmp 153) rfl wr.heap.size 0 rfl (aM y.key) _ (fR Hyo.out Hx4.out) cI rfl (gK Hyo.out) ?_)
         |(refine wJ rfl (.tmp 152) (.tmp 154) (.const (.bool true)) rfl rfl Hs4.out (by unfold maxLen;omega) Hyo.out Hkn.out rfl rfl ?_;intro w7 hs7 hg7))
        have Hb7:Hid (Below W.heap.size W w7):=Hb4.out.grown hg7 Hb4.out.size (fun g hg=>by injection hg with hg;subst hg;exact Hmp.out);have Hs7:=hid hs7;rw[←List.map_singleton (f:=fun x:dE=>x.key),←List.map_append,←Htk.out] at Hs7;clear hs7 hg7;go_roundw
        case rel=>exact⟨_,by omega,by go_num,Hb7,Hs7,Hy⟩
        case measure=>simp[intOf];omega
       ·have Hr:=Hno (by have:=Hfin.out;simpa using this)
        clear Hfin
        go_wp2
        go_ret
        exact⟨by rw[Hr.out];rfl,Hw4.out⟩
    ·have hltI:¬(k:Int)<(s.flows.length:Int):=by omega
     have Hr:Hid (k7 f s=true):=mn.2 ⟨Hq1.out.1,Hq1.out.2.1,Hq1.out.2.2.1,Hq1.out.2.2.2,Hq2.out.1,Hq2.out.2.1,Hq2.out.2.2,Hhs.out,fun i hi=>hat.out i (by omega)⟩;have Hw:=hid (HB.out.trans (hbel.out.mono HB.out.size));clear hat hbel hseen
     go_wp2
     go_ret
     exact⟨by rw[Hr.out];rfl,Hw.out⟩
theorem kQ(n m:Int)(w:World):Calls Iy 125 #[.int .i64 n,.int .i64 m] w fun e w'=>e=.returned (.bool (dh n 0 m))∧Below w.heap.size w w':=by
 go_enter Tryz.func125,Tryz.ntmps125
 go_upto_region 1 with fail
 refine IU ?_
 repeat ((first|refine pa ?_|refine pt ?_|refine gp ?_);simp only[ld,lg,lf,IC])
 refine IL fun w2 hb2=>?_
 have Hb2:=hid hb2;clear hb2
 go_wp2
 go_ret
 exact⟨rfl,Hb2.out⟩
theorem wK:Iy.underlying 35=some (.array 11 3):=by kernel_rfl
theorem yR:(Iy.info? 35).map (·.size)=some 11:=by kernel_rfl
structure Gf(s:bA):Prop where
 pool:bU s.pool=true
 hl:s.healths.length≤1024
 fl:s.flows.length≤4096
 tick:dh s.tick 0 1099511627776=true
 no:dh s.no 0 1152921504606846976=true
 count:∀n∈s.count,dh n 0 1152921504606846976=true
 hs:∀h∈s.healths,dW h=true
 fs:∀f∈s.flows,du f=true
theorem pq{s:bA}:eM s=true↔Gf s:=by
 simp only[eM,ID,decide_eq_true_eq,IW];exact⟨fun ⟨a,b,c,d,e,f,g,h⟩=>⟨a,b,c,d,e,f,g,h⟩,fun ⟨a,b,c,d,e,f,g,h⟩=>⟨a,b,c,d,e,f,g,h⟩⟩
theorem kR{s:bA}(h:Gf s→False):Hid (eM s=false):=by
 show _=_
 rcases e:eM s with _|_
 ·rfl
 ·exact (h (pq.1 e)).elim
theorem lH{α:Type}{p:α→Prop}{l:List α}{k:Nat}(h:∀j (hj:j<l.length),j<k→p l[j]){x:α}(hk:k<l.length)(hx:x=l[k])(hp:p x):∀j (hj:j<l.length),j<k+1→p l[j]:=fun j hj hjk=>by
 rcases IV j k with h1|h1
 ·exact h j hj h1
 ·obtain rfl:j=k:=by omega
  rw[←hx];exact hp
theorem qa{α:Type}{p:α→Prop}{l:List α}{k:Nat}(h:∀j (hj:j<l.length),j<k→p l[j])(hk:l.length≤k):∀x∈l,p x:=fun x hx=>by
 obtain⟨j,hj,rfl⟩:=List.getElem_of_mem hx;exact h j hj (by omega)
theorem jA(x:nJ)(s:bA)(w:World)(hst:md w w.heap.size x s) :
  Calls Iy 58 #[.agg (cU x s).toArray] w fun e w'=>e=.returned (.bool (eM s))∧Below w.heap.size w w':=by
 obtain⟨xb,cb,xh,ch,xf,cf⟩:=x;obtain⟨W,hW⟩:∃W,W=w.alloc (.cells (cU ⟨xb,cb,xh,ch,xf,cf⟩ s).toArray 37):=⟨_,rfl⟩;have HY:Hid (aj W w.heap.size 37 (cU ⟨xb,cb,xh,ch,xf,cf⟩ s).toArray):=by rw[hW];exact aj.new w _ _ _ rfl
 have HB:Hid (Below w.heap.size w W):=by rw[hW];exact (Below.refl _ _).alloc (IK _) _
 have HS:=hid (hst.on HB.out);have b1:W.cell? ⟨w.heap.size,2,none⟩=some (.slice xh s.healths.length ch):=HY.out.cell 2;have b2:W.cell? ⟨w.heap.size,3,none⟩=some (.slice xf s.flows.length cf):=HY.out.cell 3;have b3:W.cell? ⟨w.heap.size,4,none⟩=some (.int .i64 s.tick):=HY.out.cell 4;have b4:W.cell? ⟨w.heap.size,5,none⟩=some (.int .i64 s.no):=HY.out.cell 5;have HW:=hid hW;have l1:w.heap.size<W.heap.size:=HY.out.lt;have HPool:=hid (fun w h=>nV xb s.pool.backs.length cb s.pool HS.out.ok.backs HS.out.nb w rfl HS.out.cb.1 ((HS.out.held.backs.below h).more h.size) HS.out.cb.2);have Hcnt:=hid HS.out.ok.count;clear hW hst;go_enter Tryz.func58,Tryz.ntmps58
 go_upto_region 1 with fail
 rw[←HW.out];clear HW;obtain⟨T1,hT1⟩:∃T,T=(!bU s.pool||decide (1024<(s.healths.length:Int))||decide (4096<(s.flows.length:Int))||!dh s.tick 0 1099511627776||!dh s.no 0 1152921504606846976):=⟨_,rfl⟩;refine IU ?_
 repeat ((first|refine po ?_|refine sl (nz HY.out) l1 jn ka ?_|refine cl (fun w h=>HPool.out w h) ?_|refine gc (fun w h=>kQ s.tick 1099511627776 w) ?_|refine gc (fun w h=>kQ s.no 1152921504606846976 w) ?_|refine pt ?_|refine gp ?_);simp only[ld,lg,lf,IC])
 refine IL fun w2 hb2=>?_
 have Hb2:=hid hb2;have Hw2:=hid (HB.out.trans (hb2.mono HB.out.size));rw[←hT1];have HT1:=hid hT1;clear hb2 hT1;rcases T1 with _|_
 rotate_left
 ·have Hr:=kR (s:=s) fun h=>by
   have:=HT1.out;rw[h.pool,h.tick,h.no,decide_eq_false (by have:=h.hl;omega),decide_eq_false (by have:=h.fl;omega)] at this;simp at this
  go_wp2
  go_ret
  exact⟨by rw[Hr.out];rfl,Hw2.out⟩
 have Hq1:Hid (bU s.pool=true∧s.healths.length≤1024∧s.flows.length≤4096∧dh s.tick 0 1099511627776=true∧dh s.no 0 1152921504606846976=true):=by
  have:=HT1.out;simp only[I3,IQ,decide_eq_false_iff_not,IS] at this;exact⟨this.1.1.1.1,by omega,by omega,this.1.2,this.2⟩
 clear HT1 HPool b3 b4;have Hcr:Hid (w2.rangeAt w.heap.size 6 (s.count.map zv)):=fun j v hj=>(bg Hb2.out _ _ l1).trans (lG HY.out j v hj)
 have Hcz:Hid ((Iy.info? 35).map (·.size)=some (s.count.map zv).length):=by show _=_;rw[List.length_map,Hcnt.out];exact yR
 go_upto_region 4 with ((with_reducible refine aB 35 ?_);refine aa (by rfl) 35 (.tmp 37) rfl w.heap.size 6 rfl (s.count.map zv) _ Hcr.out wK rfl Hcz.out ?_)
 go_loopw [39] (fun i wr=>∃k:Nat,k≤11∧i=.int .i64 (k:Int)∧Hid (Below W.heap.size W wr)∧Hid (∀j (hj:j<s.count.length),j<k→dh s.count[j] 0 1152921504606846976=true)) (fun i _=>11-(intOf i).toNat)
 case atStart=>exact⟨0,by omega,rfl,Hb2,fun j hj h=>by omega⟩
 case round =>
  obtain⟨k,hk,rfl,hbel,hat⟩:=hrel;rename World=>wr
  by_cases hlt:k<11
  ·have hltI:(k:Int)<11:=by omega
   have hkl:k<s.count.length:=by rw[Hcnt.out];exact hlt
   obtain⟨n,hn⟩:∃n,n=s.count[k]:=⟨_,rfl⟩;have Hcv:Hid ((s.count.map zv).toArray[k]?=some (.int .i64 n)):=by show _=_;rw[IA,IJ,qq hkl,hn];rfl
   have Hyes:=hid (fun h=>lH (p:=fun n=>dh n 0 1152921504606846976=true) hat.out hkl hn h);have Hno:dh n 0 1152921504606846976=false→Hid (eM s=false):=fun h=>kR fun g=>by have:=g.count n (by rw[hn];exact Iz hkl);rw[h] at this;cases this
   clear hn hkl hat
   go_wp2_with (refine fH (by rfl) 35 3 11 .i64 (.tmp 38) (.tmp 39) rfl _ k (.int .i64 n) rfl rfl Tryz.underlying35 Tryz.underlying3 (iI _) hlt Hcv.out ?_)
   refine (kQ n 1152921504606846976 wr).mono ?_;rintro e w4 ⟨rfl,hb4⟩;have Hb4:=hid (hbel.out.trans (hb4.mono hbel.out.size));have Hw4:=hid (HB.out.trans (Hb4.out.mono HB.out.size));clear hb4;rcases hv:dh n 0 1152921504606846976 with _|_
   ·have Hr:=Hno hv
    clear hv
    go_wp2
    go_ret
    exact⟨by rw[Hr.out];rfl,Hw4.out⟩
   ·have Hy:=hid (Hyes.out hv)
    clear hv
    go_wp2
    go_roundw
    case rel=>exact⟨k+1,by omega,by go_num,Hb4,Hy⟩
    case measure=>simp[intOf];omega
  ·have hltI:¬(k:Int)<11:=by omega
   have Hct:Hid (∀n∈s.count,dh n 0 1152921504606846976=true):=qa (p:=fun n=>dh n 0 1152921504606846976=true) hat.out (by rw[Hcnt.out];omega);have r1:=(bg hbel.out _ 2 l1).trans b1;have Hb1:=hid b1;have Hb2:=hid b2;clear hat b1 b2
   go_wp2
   go_loopw [49] (fun i wr=>∃k:Nat,k≤s.healths.length∧i=.int .i64 (k:Int)∧Hid (Below W.heap.size W wr)∧Hid (∀j (hj:j<s.healths.length),j<k→dW s.healths[j]=true)) (fun i _=>s.healths.length-(intOf i).toNat)
   case atStart=>exact⟨0,by omega,rfl,hbel,fun j hj h=>by omega⟩
   case round =>
    obtain⟨k,hk,rfl,hbel,hat⟩:=hrel;rename World=>wr
    have hl1:=HS.out.ch.2;by_cases hlt:k<s.healths.length
    ·have hltI:(k:Int)<(s.healths.length:Int):=by omega
     have hk0:(0:Int)≤(k:Int):=by omega
     obtain⟨hb,ho,hA,hbB,hc⟩:=(HS.out.held.healths.below hbel.out) (by omega);simp only at hA;subst hA;obtain⟨y,hy⟩:∃y,y=s.healths[k]:=⟨_,rfl⟩;have Hrg:=hid (hc k y (by rw[qq hlt,hy]));have Hnl:=hid (HS.out.nh y (by rw[hy];exact Iz hlt));have Hyes:=hid (fun h=>lH (p:=fun h=>dW h=true) hat.out hlt hy h);have Hno:dW y=false→Hid (eM s=false):=fun h=>kR fun g=>by have:=g.hs y (by rw[hy];exact Iz hlt);rw[h] at this;cases this
     clear hc hy hat;obtain⟨x1,y1,X1,Y1,T1,B1,L1⟩:=ei wr 115 (aF j5) (aF y) rfl;rw[iJ] at X1;have HB1:Hid (Below W.heap.size W y1):=hbel.out.trans (L1.out.mono hbel.out.size);go_upto_region 12 with (first
      |((with_reducible refine aB 115 ?_);refine aa (by rfl) 115 (.tmp 51) rfl hb (ho+k*3) rfl (aF y) _ Hrg.out dQ rfl (dG y) ?_)
      |(rw[←X1.out];(with_reducible refine aR 115 ?_);refine wpList_store_mid rfl 115 (.tmp 6) (.tmp 52) rfl wr.heap.size 0 (aF y).toArray rfl rfl T1.out (by rw[IF];exact dG y) (gL _) ?_))
     rw[←Y1.out];have e3:y1.cell? ⟨wr.heap.size,0,none⟩=some (.string ⟨y.name.toArray⟩):=B1.out.cell 0;have e5:y1.cell? ⟨wr.heap.size,2,none⟩=some (.int .i64 y.run):=B1.out.cell 2;have m2:wr.heap.size<y1.heap.size:=B1.out.lt;have Hfin:Hid ((decide (255<(y.name.length:Int))||!dh y.run 0 99)=!dW y):=by
      show _=_
      unfold dW;rw[show decide (255<(y.name.length:Int))=!decide (y.name.length≤255) by rw[←decide_not];exact decide_eq_decide.2 (by omega),Bool.not_and]
     clear X1 Y1 T1 Hrg hbel r1;refine IU ?_;simp only[I5]
     repeat ((first|refine po ?_|refine gc (fun w _=>kQ y.run 99 w) ?_|refine pt ?_|refine gp ?_);simp only[ld,lg,lf,IC])
     refine IL fun w4 hb4=>?_
     rw[Hfin.out];have Hb4:=hid (HB1.out.trans (hb4.mono HB1.out.size));have Hw4:=hid (HB.out.trans (Hb4.out.mono HB.out.size));clear hb4;rcases hv:dW y with _|_
     ·have Hr:=Hno hv
      clear hv
      go_wp2
      go_ret
      exact⟨by rw[Hr.out];rfl,Hw4.out⟩
     ·have Hy:=hid (Hyes.out hv)
      clear hv
      go_wp2
      go_roundw
      case rel=>exact⟨k+1,by omega,by go_num,Hb4,Hy⟩
      case measure=>simp[intOf];omega
    ·have hltI:¬(k:Int)<(s.healths.length:Int):=by omega
     have Hhs:Hid (∀h∈s.healths,dW h=true):=qa (p:=fun h=>dW h=true) hat.out (by omega);have r2:=(bg hbel.out _ 3 l1).trans Hb2.out;clear hat r1
     go_wp2
     go_loopw [67] (fun i wr=>∃k:Nat,k≤s.flows.length∧i=.int .i64 (k:Int)∧Hid (Below W.heap.size W wr)∧Hid (∀j (hj:j<s.flows.length),j<k→du s.flows[j]=true)) (fun i _=>s.flows.length-(intOf i).toNat)
     case atStart=>exact⟨0,by omega,rfl,hbel,fun j hj h=>by omega⟩
     case round =>
      obtain⟨k,hk,rfl,hbel,hat⟩:=hrel;rename World=>wr
      have hl2:=HS.out.cf.2;by_cases hlt:k<s.flows.length
      ·have hltI:(k:Int)<(s.flows.length:Int):=by omega
       have hk0:(0:Int)≤(k:Int):=by omega
       obtain⟨hb,ho,hA,hbB,hc⟩:=(HS.out.held.flows.below hbel.out) (by omega);simp only at hA;subst hA;obtain⟨y,hy⟩:∃y,y=s.flows[k]:=⟨_,rfl⟩;have Hrg:=hid (hc k y (by rw[qq hlt,hy]));have Hyo:=hid (HS.out.ok.flows y (by rw[hy];exact Iz hlt));have Hyn:=hid (HS.out.nf y (by rw[hy];exact Iz hlt));have Hyes:=hid (fun h=>lH (p:=fun h=>du h=true) hat.out hlt hy h);have Hno:du y=false→Hid (eM s=false):=fun h=>kR fun g=>by have:=g.fs y (by rw[hy];exact Iz hlt);rw[h] at this;cases this
       have Hfz:=hid (iu Hyo.out);clear hc hy hat;obtain⟨x1,y1,X1,Y1,T1,B1,L1⟩:=ei wr 120 (aw jX) (aw y) (by rw[ib Hyo.out];rfl);rw[jo] at X1;have HB1:Hid (Below W.heap.size W y1):=hbel.out.trans (L1.out.mono hbel.out.size);go_upto_region 18 with (first
        |((with_reducible refine aB 120 ?_);refine aa (by rfl) 120 (.tmp 69) rfl hb (ho+k*41) rfl (aw y) _ Hrg.out bI rfl Hfz.out ?_)
        |(rw[←X1.out];(with_reducible refine aR 120 ?_);refine wpList_store_mid rfl 120 (.tmp 8) (.tmp 70) rfl wr.heap.size 0 (aw y).toArray rfl rfl T1.out (by rw[IF];exact Hfz.out) (ij _) ?_))
       rw[←Y1.out];have m2:wr.heap.size<y1.heap.size:=B1.out.lt;clear X1 Y1 T1 Hrg hbel r2;refine IU ?_;simp only[I5]
       repeat ((first|refine sl (ag B1.out) m2 bI Hfz.out ?_|refine cl (fun w _=>jz y Hyo.out Hyn.out w) ?_|refine pt ?_);simp only[ld,lg,lf,IC])
       refine IL fun w4 hb4=>?_
       have Hb4:=hid (HB1.out.trans (hb4.mono HB1.out.size));have Hw4:=hid (HB.out.trans (Hb4.out.mono HB.out.size));clear hb4;rcases hv:du y with _|_
       ·have Hr:=Hno hv
        clear hv
        go_wp2
        go_ret
        exact⟨by rw[Hr.out];rfl,Hw4.out⟩
       ·have Hy:=hid (Hyes.out hv)
        clear hv
        go_wp2
        go_roundw
        case rel=>exact⟨k+1,by omega,by go_num,Hb4,Hy⟩
        case measure=>simp[intOf];omega
      ·have hltI:¬(k:Int)<(s.flows.length:Int):=by omega
       have Hr:Hid (eM s=true):=pq.2 ⟨Hq1.out.1,Hq1.out.2.1,Hq1.out.2.2.1,Hq1.out.2.2.2.1,Hq1.out.2.2.2.2,Hct.out,Hhs.out,qa (p:=fun h=>du h=true) hat.out (by omega)⟩;have Hw:=hid (HB.out.trans (hbel.out.mono HB.out.size));clear hat hbel
       go_wp2
       go_ret
       exact⟨by rw[Hr.out];rfl,Hw.out⟩
def NR(w:World)(g o:Nat)(ns:List Nat):Prop:=∃cs T,T≠5∧aj w g T cs∧∀(j n:Nat),ns[j]?=some n→cs[o+j]?=some (.int .i64 (n:Int))
theorem NR.gu{B:Nat}{w w':World}{g o:Nat}{ns:List Nat}(h:NR w g o ns)(hg:GU B w w'):NR w' g o ns:=by
 obtain⟨cs,T,hT,hb,hc⟩:=h;exact⟨cs,T,hT,hg.blk hb hT,hc⟩
theorem NR.cell{w:World}{g o:Nat}{ns:List Nat}(h:NR w g o ns){j n:Nat}(hj:ns[j]?=some n):w.cell? ⟨g,o+j,none⟩=some (.int .i64 (n:Int)):=by
 obtain⟨cs,T,hT,hb,hc⟩:=h;rw[hb.cell];exact hc j n hj
theorem rX(ns:List Nat){k n:Nat}(hk:ns[k]?=some n):aJ (ns.take (k+1))=aJ (ns.take k)++aC n:=by
 rw[IG,hk,fW];simp[aJ]
theorem gX:∀(ns:List Nat),(∀n∈ns,n<18446744073709551616)→(aJ ns).length≤ns.length*10
 |[],_=>by simp[aJ]
 |n::ns,h=>by
  have h1:=aO (h n (by simp));have h2:=gX ns fun x hx=>h x (by simp[hx])
  rw[aJ,IB,IY];omega
theorem fU(B:Nat)(A:Option Addr)(c:Nat)(m:List UInt8)(g o nn cc:Nat)(ns:List Nat)(w:World)(hB:B≤w.heap.size)(hown:w.ownsRow B 5 1 (.slice A m.length c) m.length (ab m))(hn:nn=ns.length)(hx:NR w g o ns)(hl:nn≤1000)(hns:∀n∈ns,n<9223372036854775808)(hm:m.length≤1000000000) :
  Calls Iy 63 #[.slice A m.length c,.slice (some ⟨g,o,none⟩) nn cc] w (pu B w (m++aJ ns)):=by
 subst hn;obtain⟨i0,hi0,hz0,hz1,hz2⟩:=info_parts bB;have Hown:=hid hown;have HX:=hid hx;have Hns:=hid hns;obtain⟨L,hL⟩:∃L,L=m.length:=⟨_,rfl⟩;have HL:=hid hL;have hLm:L≤1000000000:=by omega
 clear hown hx hns hL hm;go_enter Tryz.func63,Tryz.ntmps63
 go_wp2
 go_loopw [0,9] (fun v i wr=>∃(k:Nat) (l:List UInt8) (A':Option Addr) (c':Nat),k≤ns.length∧i=.int .i64 (k:Int)∧v=.slice A' l.length c'∧Hid (wr.ownsRow B 5 1 (.slice A' l.length c') l.length (ab l))∧Hid (GU B w wr)∧Hid (l=m++aJ (ns.take k))) (fun _ i _=>ns.length-(intOf i).toNat)
 case atStart=>exact⟨0,m,A,c,by omega,rfl,rfl,Hown,GU.refl _ _,by simp[Hid,aJ]⟩
 case round =>
  obtain⟨k,l,A',c',hk,rfl,rfl,hown,hg,hlv⟩:=hrel;rename World=>wr
  by_cases hlt:k<ns.length
  ·have hltI:(k:Int)<(ns.length:Int):=by omega
   have hk0:(0:Int)≤(k:Int):=by omega
   obtain⟨n,hn⟩:∃n,ns[k]?=some n:=⟨_,qq hlt⟩;have hcell:=(HX.out.gu hg.out).cell hn;have hn63:n<9223372036854775808:=Hns.out n (II hn);have hlb:l.length≤1000010000:=by
    have h1:=gX (ns.take k) fun x hx=>by have:=Hns.out x (IR hx);omega
    have h2:(ns.take k).length≤1000:=by rw[IZ];omega
    rw[hlv.out,IB,←HL.out];omega
   have Hst:Hid (l++aC n=m++aJ (ns.take (k+1))):=by show _=_;rw[rX ns hn,hlv.out,IM]
   have hw64:IntKind.u64.wrap (n:Int)=(n:Int):=IntWalk.u64_in _ (by omega);have hv:=aO (n:=n) (by omega);have hBw:B≤wr.heap.size:=IE hB hg.out.size;clear hn
   go_wp2_with fail
   refine (oV n wr (by omega)).mono ?_;rintro e w2 ⟨A2,c2,rfl,hown2,hb2⟩;have ho2:=hid (an hown.out hb2);have HB2:=hid (BS.of_own hown2).1;have Hg2:=hid (hg.out.trans (I0 (B:=B) hb2));have hB2:B≤w2.heap.size:=IE hBw hb2.size;clear hown2 hb2
   go_wp2_with (at_builtin;refine ae _ rfl _ _ 43 rfl B 5 i0 (.int .u8 0) 1 IN hi0 hz0 hz1 hz2 rfl (.slice A' l.length c') l rfl ho2.out _ A2 _ c2 (aC n) rfl rfl HB2.out (by unfold maxLen;omega) (by omega) hB2 ?_;intro A3 c3 w3 hown3 hg3 _)
   have Hg3:Hid (GU B w w3):=Hg2.out.trans (I1 ho2.out hg3);have Ho3:=hid hown3;clear hown3 hg3;go_roundw
   case rel=>exact⟨k+1,l++aC n,A3,c3,by omega,by go_num,by simp,Ho3,Hg3,Hst⟩
   case measure=>simp[intOf];omega
  ·have hltI:¬(k:Int)<(ns.length:Int):=by omega
   have He:Hid (l=m++aJ ns):=by show _=_;rw[hlv.out,IH (by omega)]
   go_wp2
   go_ret
   exact⟨A',c',by rw[←He.out];rfl,by rw[←He.out];exact hown.out,hg.out⟩
theorem NR.new(w:World)(ns:List Nat)(cs:Array Value)(h:cs=(ns.map fun (n:Nat)=>Value.int .i64 (n:Int)).toArray):NR (w.alloc (.cells cs 3)) w.heap.size 0 ns:=by
 subst h;refine⟨_,3,by decide,aj.new w _ _ _ rfl,fun j n hj=>?_⟩;rw[Nat.zero_add,IA,IJ,hj];rfl
theorem tF(B:Nat)(A:Option Addr)(c:Nat)(m x:List UInt8)(w:World)(hB:B≤w.heap.size)(hown:w.ownsRow B 5 1 (.slice A m.length c) m.length (ab m))(hx:x.length≤1000000)(hm:m.length≤900000000) :
  Calls Iy 65 #[.slice A m.length c,.string ⟨x.toArray⟩] w (pu B w (m++bw x)):=by
 obtain⟨i0,hi0,hz0,hz1,hz2⟩:=info_parts bB;obtain⟨W,hW⟩:∃W,W=w.alloc (.cells #[.int .i64 (x.length:Int)] 3):=⟨_,rfl⟩;have HN:Hid (NR W w.heap.size 0 [x.length]):=by rw[hW];exact NR.new w [x.length] _ rfl
 have HG:Hid (GU B w W):=by rw[hW];exact GU.alloc w _
 have HO:Hid (W.ownsRow B 5 1 (.slice A m.length c) m.length (ab m)):=an hown (by rw[hW];exact (Below.refl _ _).alloc (IK _) _);have hBW:B≤W.heap.size:=IE hB HG.out.size;have HW:=hid hW;clear hW hown;go_enter Tryz.func65,Tryz.ntmps65
 go_wp2_with fail
 rw[←HW.out];refine (fU B A c m w.heap.size 0 1 1 [x.length] W hBW HO.out rfl HN.out (by decide) (by simp;omega) (by omega)).mono ?_;rintro e w3 ⟨A3,c3,rfl,hown3,hg3⟩;obtain⟨m1,hm1⟩:∃m1,m1=m++aJ [x.length]:=⟨_,rfl⟩;have hv:=aO (n:=x.length) (by omega);have hm1l:m1.length≤900000010:=by rw[hm1,aJ,aJ,IP,IB];omega
 have hmt:m++bw x=m1++x:=by rw[hm1];unfold bw;rw[aJ,aJ,IP,IM]
 rw[←hm1] at hown3;rw[←hm1];have Hmt:=hid hmt;have Ho3:=hid hown3;have Hg3:=hid (HG.out.trans hg3);have hB3:B≤w3.heap.size:=IE hB Hg3.out.size;have Hsx:Hid ((⟨x.toArray⟩:ByteArray).size=x.length):=by show _=_;simp[ByteArray.size]
 clear hown3 hg3 hm1 hmt HW hv
 go_wp2_with (at_builtin;refine Lib.wpList_append_own_string _ rfl (.tmp 9) (.tmp 10) 43 9 rfl B 5 i0 IN Tryz.underlying9 hi0 hz0 hz1 hz2 (.slice A3 m1.length c3) m1.length (ab m1) rfl Ho3.out ⟨x.toArray⟩ rfl (by rw[Hsx.out];unfold maxLen;omega) (by rw[Hsx.out];omega) hB3 ?_;intro v4 w4 hown4 hg4 _)
 have Hg4:Hid (GU B w w4):=Hg3.out.trans (I1 Ho3.out hg4);rw[Hsx.out,qt,←IB,←dL,←Hmt.out] at hown4;obtain⟨A4,c4,hv4,_⟩:=cw hown4;subst hv4;go_ret
 exact⟨A4,c4,rfl,hown4,Hg4.out⟩
theorem wL(b:aU)(hb:au b)(ht:dM b=true)(w:World) :
  Calls Iy 131 #[.agg (ah b).toArray] w fun e w'=>∃A c,e=.returned (.tuple #[.slice A (aD b).length c,.int .i64 0])∧w'.ownsRow w.heap.size 5 1 (.slice A (aD b).length c) (aD b).length (ab (aD b))∧Below w.heap.size w w':=by
 refine (rG b hb w).mono ?_;intro e w' h;unfold ix at h;rw[ht] at h;obtain⟨A,c,h1,h2⟩:=h.2.2 rfl;exact⟨A,c,h1,h2,h.1⟩
theorem gM{α:Type}(enc:α→List UInt8)(l:List α){k:Nat}{x:α}(hk:l[k]?=some x):(l.take (k+1)).flatMap enc=(l.take k).flatMap enc++enc x:=by
 rw[IG,hk,List.flatMap_append];simp
theorem dR{α:Type}{enc:α→List UInt8}{N:Nat}:∀(l:List α),(∀x∈l,(enc x).length≤N)→(l.flatMap enc).length≤l.length*N
 |[],_=>by simp
 |x::l,h=>by
  have h1:=h x (by simp);have h2:=dR l fun y hy=>h y (by simp[hy])
  rw[List.flatMap_cons,IB,IY,Nat.add_mul];omega
theorem uE(B:Nat)(A:Option Addr)(c:Nat)(m:List UInt8)(X:Option Addr)(n cX:Nat)(bs:List aU)(w:World)(hB:B≤w.heap.size)(hown:w.ownsRow B 5 1 (.slice A m.length c) m.length (ab m))(hm:m.length≤900000000)(hn:n=bs.length)(hX:RW ah 27 w B X bs)(hnc:n≤cX)(hl:n≤1024)(hs:∀b∈bs,au b)(ht:∀b∈bs,dM b=true) :
  Calls Iy 64 #[.slice A m.length c,.slice X n cX] w (pu B w (m++eV aD bs)):=by
 subst hn;obtain⟨i0,hi0,hz0,hz1,hz2⟩:=info_parts bB;obtain⟨W,hW⟩:∃W,W=w.alloc (.cells #[.int .i64 (bs.length:Int)] 3):=⟨_,rfl⟩;have HN:Hid (NR W w.heap.size 0 [bs.length]):=by rw[hW];exact NR.new w [bs.length] _ rfl
 have HG:Hid (GU B w W):=by rw[hW];exact GU.alloc w _
 have HO:Hid (W.ownsRow B 5 1 (.slice A m.length c) m.length (ab m)):=an hown (by rw[hW];exact (Below.refl _ _).alloc (IK _) _);have hBW:B≤W.heap.size:=IE hB HG.out.size;have HW:=hid hW;have HX:=hid hX;have Hs:=hid hs;have Ht:=hid ht;have Htb:Hid (m++eV aD bs=m++aJ [bs.length]++bs.flatMap aD):=by show _=_;simp[eV,aJ]
 clear hW hown hX hs ht;go_enter Tryz.func64,Tryz.ntmps64
 go_wp2_with fail
 rw[←HW.out];refine (fU B A c m w.heap.size 0 1 1 [bs.length] W hBW HO.out rfl HN.out (by decide) (by simp;omega) (by omega)).mono ?_;rintro e w3 ⟨A3,c3,rfl,hown3,hg3⟩;have hv:=aO (n:=bs.length) (by omega);obtain⟨m1,hm1⟩:∃m1,m1=m++aJ [bs.length]:=⟨_,rfl⟩;have hm1l:m1.length≤900000010:=by rw[hm1,aJ,aJ,IP,IB];omega
 rw[←hm1] at hown3 Htb;rw[←hm1];have Ho3:=hid hown3;have Hg3:=hid (HG.out.trans hg3);obtain⟨L,hL⟩:∃L,L=m1.length:=⟨_,rfl⟩;have HL:=hid hL;rw[←hL] at hm1l;clear hown3 hg3 hm1 HW hv hL hm
 go_wp2
 go_loopw [0,16] (fun v i wr=>∃(k:Nat) (l:List UInt8) (A':Option Addr) (c':Nat),k≤bs.length∧i=.int .i64 (k:Int)∧v=.slice A' l.length c'∧Hid (wr.ownsRow B 5 1 (.slice A' l.length c') l.length (ab l))∧Hid (GU B w wr)∧Hid (l=m1++(bs.take k).flatMap aD)) (fun _ i _=>bs.length-(intOf i).toNat)
 case atStart=>exact⟨0,m1,A3,c3,by omega,rfl,rfl,Ho3,Hg3,by simp[Hid]⟩
 case round =>
  obtain⟨k,l,A',c',hk,rfl,rfl,hown,hg,hlv⟩:=hrel;rename World=>wr
  by_cases hlt:k<bs.length
  ·have hltI:(k:Int)<(bs.length:Int):=by omega
   have hk0:(0:Int)≤(k:Int):=by omega
   obtain⟨b,o,rfl,hbB,hc⟩:=(HX.out.below (hg.out.below hB)) (by omega);obtain⟨x,hx⟩:∃x,bs[k]?=some x:=⟨_,qq hlt⟩;have hxm:x∈bs:=II hx;have Hrg:=hid (hc k x hx);have Hxs:=hid (Hs.out x hxm);have Hxt:=hid (Ht.out x hxm);have hxb:∀x∈bs,(aD x).length≤2000:=fun x hx=>gx (Hs.out x hx) (by have:=Ht.out x hx;simp only[dM,ID,decide_eq_true_eq] at this;omega)
   have hbl:=hxb x hxm;have hlb:l.length≤910000000:=by
    have h1:=dR (enc:=aD) (bs.take k) fun x hx=>hxb x (IR hx)
    have h2:(bs.take k).length≤1024:=by rw[IZ];omega
    rw[hlv.out,IB,←HL.out];omega
   have Hst:Hid (l++aD x=m1++(bs.take (k+1)).flatMap aD):=by show _=_;rw[gM _ bs hx,hlv.out,IM]
   have hBw:B≤wr.heap.size:=IE hB hg.out.size;have Hsz:=hid (cM Hxs.out);clear hc hx hxm hxb;obtain⟨x1,y1,X1,Y1,T1,B1,L1⟩:=ei wr 56 (ah dU) (ah x) (by rw[bu Hxs.out,bu aE]);rw[gU] at X1;have Hgy:Hid (GU B w y1):=hg.out.trans (I0 L1.out);have Hoy:=hid (an hown.out L1.out);go_upto_region 5 with (first
    |((with_reducible refine aB 56 ?_);refine aa (by rfl) 56 (.tmp 18) rfl b (o+k*27) rfl (ah x) _ Hrg.out bL rfl Hsz.out ?_)
    |(rw[←X1.out];(with_reducible refine aR 56 ?_);refine wpList_store_mid rfl 56 (.tmp 6) (.tmp 19) rfl wr.heap.size 0 (ah x).toArray rfl rfl T1.out (by rw[IF];exact Hsz.out) (eS _) ?_))
   rw[←Y1.out];have hBy:B≤y1.heap.size:=IE hB Hgy.out.size;clear X1 Y1 T1 Hrg hown hg
   go_wp2_with ((with_reducible refine aB 56 ?_);refine aa (by rfl) 56 (.tmp 6) rfl wr.heap.size 0 rfl (ah x) _ (ag B1.out) bL rfl Hsz.out ?_)
   refine (wL x Hxs.out Hxt.out y1).mono ?_;rintro e w2 ⟨A2,c2,rfl,hown2,hb2⟩;have ho2:=hid (an Hoy.out hb2);have HB2:=hid (BS.of_own hown2).1;have Hg2:=hid (Hgy.out.trans (I0 (B:=B) hb2));have hB2:B≤w2.heap.size:=IE hBy hb2.size;clear hown2 hb2
   go_wp2_with (at_builtin;refine ae _ rfl _ _ 43 rfl B 5 i0 (.int .u8 0) 1 IN hi0 hz0 hz1 hz2 rfl (.slice A' l.length c') l rfl ho2.out _ A2 _ c2 (aD x) rfl rfl HB2.out (by unfold maxLen;omega) (by omega) hB2 ?_;intro A4 c4 w4 hown4 hg4 _)
   have Hg4:Hid (GU B w w4):=Hg2.out.trans (I1 ho2.out hg4);have Ho4:=hid hown4;clear hown4 hg4;go_roundw
   case rel=>exact⟨k+1,l++aD x,A4,c4,by omega,by go_num,by simp,Ho4,Hg4,Hst⟩
   case measure=>simp[intOf];omega
  ·have hltI:¬(k:Int)<(bs.length:Int):=by omega
   have He:Hid (l=m++eV aD bs):=by show _=_;rw[Htb.out,hlv.out,IH (by omega)]
   go_wp2
   go_ret
   exact⟨A',c',by rw[←He.out];rfl,by rw[←He.out];exact hown.out,hg.out⟩
