import Derived.Test.YtaafkokfdgfabaaGreatP9
import Derived.Test.YtaafkokfdgfabaaGreatP10
import Derived.Laws.CopyOwn
import Derived.Deep.Cut
import Derived.Deep.CutRange
import Derived.Deep.RegionHeld3
set_option maxHeartbeats 8000000
namespace Go.Proofs.YtaafkokfdgfabaaGreat
open Go.RowKit
set_option linter.unusedVariables false
set_option linter.unusedSimpArgs false
section
variable {l:List UInt8} {s:St}
theorem xB {f:bc} (hs:ak f) (hr:gM f) (h0:s.2.2=0) (hl:s.1≤l.length) {r:List UInt8}
  (e:l.drop s.1=aN (dy f) ++ (f.mac ++ (f.four.2.take 4 ++ (f.six.2 ++ (aN (dP f) ++ r))))) :
  dA l s f.vips=(ep s (aN (dy f) ++ (f.mac ++ (f.four.2.take 4 ++ (f.six.2 ++ aN (dP f))))).length,f):=by
 have hf:f.four.2.length=16:=hs.four;have h6:f.six.2.length=16:=hs.six;have hm:=hs.mac;have hf4:(f.four.2.take 4).length=4:=by simp [hf]
 have h1:=xq (dy f) s h0 hl (pD hs hr) e;rw [tm hs] at h1;have E1:=br.of h0 hl e;have e1:=E1.rest e;have h2:=i5 (n:=6) E1.ok' E1.le' (by rw [hm];rfl) e1;have E2:=br.of E1.ok' E1.le' e1;have e2:=E2.rest e1;have h3:=i5 (n:=4) E2.ok' E2.le' (by rw [hf4];rfl) e2;have E3:=br.of E2.ok' E2.le' e2;have e3:=E3.rest e2;have h4:=i5 (n:=16) E3.ok' E3.le' (by rw [h6];rfl) e3;have E4:=br.of E3.ok' E3.le' e3;have e4:=E4.rest e3;have h5:=xq (dP f) _ E4.ok' E4.le' (pE hr) e4;rw [show (dP f).length=3 from rfl] at h5;have ht:lF f.four.2=true:=by
  have:=hr.fours;unfold dZ at this;rw [hr.four6] at this;simpa using this
 unfold dA;simp only [h1,h2,h3,h4,h5];rw [iV hm,iV h6,uK hs.four ht,ry hs hr,ca,ca,ca,ca];simp only [List.length_append,Nat.add_assoc]
theorem nw {f:bc} (hs:ak f) (hr:gM f):f.vips.length≤64∧∀ v ∈ f.vips,aS v.1∧n0 v=true :=
 ⟨(kH hr.vips).1,fun v hv=>⟨hs.vips v hv,(kH hr.vips).2 v hv⟩⟩
theorem AD {f:bc} (hs:ak f) (hr:gM f) (r:List UInt8):jE (bK f ++ r)=some (ep (0,0,0) (bK f).length,f,f.vips.length):=by
 obtain ⟨hv64,hv⟩:=nw hs hr;obtain ⟨l,hl⟩:∃ l,l=bK f ++ r:=⟨_,rfl⟩
 have e0:l.drop ((0,0,0):St).1=aI f.vips.length ++ (f.vips.flatMap bU ++ (aN (dy f) ++ (f.mac ++ (f.four.2.take 4 ++ (f.six.2 ++ (aN (dP f) ++ r)))))):=by
  rw [hl];simp [bK,List.append_assoc]
 rw [←hl];have h1:=uL (s:=(0,0,0)) rfl (Nat.zero_le _) (by omega:f.vips.length≤1048577) e0;have E1:=br.of (s:=(0,0,0)) rfl (Nat.zero_le _) e0;have e1:=E1.rest e0;have h2:=CZ f.vips _ E1.ok' E1.le' hv e1;have E2:=br.of E1.ok' E1.le' e1;have e2:=E2.rest e1;have h3:=xB hs hr E2.ok' E2.le' e2;unfold jE pB;rw [h1];simp only;rw [if_pos hv64,h2];simp only;rw [h3,ca,ca];simp only [bK,List.length_append,Nat.add_assoc]
theorem uT {vs:List ct} {ns:List Nat} {mac four six:List UInt8} {ms:List Nat} (h:ns.length=9):dy (ki vs ns mac four six ms)=ns:=by
 match ns,h with
 | [a,b,c,d,e,f,g,i,j],_=>rfl
theorem uU {vs:List ct} {ns:List Nat} {mac four six:List UInt8} {ms:List Nat} (h:ms.length=3):dP (ki vs ns mac four six ms)=ms:=by
 match ms,h with
 | [a,b,c],_=>rfl
theorem xC {vs:List ct} (ok:bY l s) (h0:(dA l s vs).1.2.2=0) (hr:gM (dA l s vs).2) :
  br l s (aN (dy (dA l s vs).2) ++ ((dA l s vs).2.mac ++ ((dA l s vs).2.four.2.take 4 ++ ((dA l s vs).2.six.2 ++ aN (dP (dA l s vs).2))))) (dA l s vs).1∧((∀ v ∈ vs,aS v.1)→ak (dA l s vs).2):=by
 obtain ⟨s1,ns,h1⟩:∃ s1 ns,cU l 9 s=(s1,ns):=⟨_,_,rfl⟩
 obtain ⟨s2,mac,h2⟩:∃ s2 mac,a8 l s1 6=(s2,mac):=⟨_,_,rfl⟩
 obtain ⟨s3,four,h3⟩:∃ s3 four,a8 l s2 4=(s3,four):=⟨_,_,rfl⟩
 obtain ⟨s4,six,h4⟩:∃ s4 six,a8 l s3 16=(s4,six):=⟨_,_,rfl⟩
 obtain ⟨s5,ms,h5⟩:∃ s5 ms,cU l 3 s4=(s5,ms):=⟨_,_,rfl⟩
 have hb:dA l s vs=(s5,ki vs ns (dR mac 6) (dR four 16) (dR six 16) ms):=by
  unfold dA;simp only [h1,h2,h3,h4,h5]
 rw [hb] at h0 hr ⊢;simp only at h0 hr ⊢;have hns:ns.length=9:=by have:=my l 9 s;rw [h1] at this;exact this
 have hms:ms.length=3:=by have:=my l 3 s4;rw [h5] at this;exact this
 have e1:=uT (vs:=vs) (mac:=dR mac 6) (four:=dR four 16) (six:=dR six 16) (ms:=ms) hns;have e2:=uU (vs:=vs) (mac:=dR mac 6) (four:=dR four 16) (six:=dR six 16) (ns:=ns) hms;have ok1:bY l s1:=by have:=zb 9 s ok;rw [h1] at this;exact this
 have ok2:bY l s2:=by have:=dt ok1 6;rw [h2] at this;exact this
 have ok3:bY l s3:=by have:=dt ok2 4;rw [h3] at this;exact this
 have ok4:bY l s4:=by have:=dt ok3 16;rw [h4] at this;exact this
 have hlast:∀ n ∈ ms,n≤1048576:=by
  intro n hn;rw [←e2] at hn;have:=hr.most;have:=hr.keep;have:=hr.batch;simp only [dP,List.mem_cons,List.mem_nil_iff,or_false] at hn;rcases hn with rfl | rfl | rfl <;> omega
 have hnums:∀ n ∈ ns,n≤1048576:=by
  intro n hn;rw [←e1] at hn;have:=hr.size;have:=hr.room;have:=hr.rise;have:=hr.fall;simp only [dy,List.mem_cons,List.mem_append,List.mem_map,List.mem_nil_iff,or_false] at hn;rcases hn with rfl | rfl | ⟨z,hz,rfl⟩ | rfl | rfl
  ·omega
  ·omega
  ·have:=(jn hr.idle).2 z (List.mem_of_mem_drop hz);omega
  ·omega
  ·omega
 have E5:=xr 3 s4 ok4 (by rw [h5];exact h0) (by rw [h5];exact hlast);rw [h5] at E5;obtain ⟨x4,hx4,E4,y4⟩:=iB (l:=l) (s:=s3) (n:=16) (by decide) (by rw [h4];exact E5.ok);rw [h4] at E4 y4;obtain ⟨x3,hx3,E3,y3⟩:=iB (l:=l) (s:=s2) (n:=4) (by decide) (by rw [h3];exact E4.ok);rw [h3] at E3 y3;obtain ⟨x2,hx2,E2,y2⟩:=iB (l:=l) (s:=s1) (n:=6) (by decide) (by rw [h2];exact E3.ok);rw [h2] at E2 y2;have E1:=xr 9 s ok (by rw [h1];exact E2.ok) (by rw [h1];exact hnums);rw [h1] at E1;simp only at y2 y3 y4;subst y2 y3 y4;have hx2':mac.length=6:=hx2;have hx3':four.length=4:=hx3;have hx4':six.length=16:=hx4;have g1:(ki vs ns (dR mac 6) (dR four 16) (dR six 16) ms).mac=mac:=iV hx2';have g2:(ki vs ns (dR mac 6) (dR four 16) (dR six 16) ms).four.2.take 4=four:=(qC hx3').2;have g3:(ki vs ns (dR mac 6) (dR four 16) (dR six 16) ms).six.2=six:=iV hx4';rw [e1,e2,g1,g2,g3];refine ⟨E1.trans (E2.trans (E3.trans (E4.trans E5))),fun hv=>?_⟩;refine ⟨hv,?_,?_,?_,?_⟩
 ·match ns,hns with
  | [a,b,c,d,e,f,g,i,j],_=>rfl
 ·show (dR mac 6).length=6
  exact ew (by omega)
 ·show (dR four 16).length=16
  exact ew (by omega)
 ·show (dR six 16).length=16
  exact ew (by omega)
theorem AE {f:bc} {many:Nat} (h:jE l=some (s,f,many)) (h0:s.2.2=0) (hm:f.vips.length=many) (hr:gM f):br l (0,0,0) (bK f) s∧ak f:=by
 have ok0:bY l (0,0,0):=⟨Nat.zero_le _,Nat.zero_le _,Nat.zero_le _⟩
 unfold jE at h;split at h
 ·cases h
 ·rename_i p hp
  simp only [Option.some.injEq,Prod.mk.injEq] at h;obtain ⟨h1,h2,h3⟩:=h;have hv64:=(kH hr.vips).1;have hvs:(dA l p.1 p.2).2.vips=p.2:=rfl;have hn:(aY l (0,0,0)).2=p.2.length:=by rw [h3,←hm,←h2,hvs]
  unfold pB at hp;rw [if_pos (by rw [hn,←hvs,h2];exact hv64)] at hp;have okn:=eH ok0;have okp:∀ (k:Nat) (s s':St) (vs:List ct),bY l s→eK l k s=some (s',vs)→bY l s':=by
   intro k;induction k with
   | zero =>
    intro s s' vs ok h;simp only [eK,Option.some.injEq,Prod.mk.injEq] at h;rw [←h.1];exact ok
   | succ k ih =>
    intro s s' vs ok h;unfold eK at h;split at h
    ·cases h
    ·rcases hr:eK l k (kG l s) with _ | ⟨s2,ws⟩
     ·rw [hr] at h;cases h
     ·rw [hr] at h
      simp only [Option.map_some,Option.some.injEq,Prod.mk.injEq] at h;rw [←h.1];exact ih _ _ _ (za ok) hr
  have okp2:bY l p.1:=okp _ _ p.1 p.2 okn hp;rw [←h2] at hr;have hb0:(dA l p.1 p.2).1.2.2=0:=by rw [h1];exact h0
  obtain ⟨E3,hsh⟩:=xC okp2 hb0 hr;have hsz:p.1.2.2=0:=E3.ok;obtain ⟨_,E2,hv⟩:=C0 _ _ p.1 p.2 okn hp hsz;have hsh:=hsh hv;have E1:=uM (l:=l) (s:=(0,0,0)) E2.ok (Nat.zero_le _) (by rw [hn,←hvs,h2];omega);rw [hn] at E1;rw [h1,h2] at E3;rw [h2] at hsh;refine ⟨?_,hsh⟩;have hp2:p.2=f.vips:=by rw [←hvs,h2]
  rw [hp2] at E1 E2;exact E1.trans (E2.trans E3)
theorem AF {f:bc} (h:bL l=some f):l=bK f∧gM f∧ak f:=by
 unfold bL at h;split at h
 ·cases h
 ·rename_i p hp
  split at h
  ·rename_i hc
   injection h with h
   obtain ⟨h1,h2,h3,h4⟩:=hc;obtain ⟨h5,h6⟩:=wV h2;rw [h6] at h2;obtain ⟨s,d,many⟩:=p;simp only at h h2 h3 h4 h5;subst h;have hr:=fQ.1 h4;obtain ⟨E,hsh⟩:=AE hp h2 h3 hr;refine ⟨?_,hr,hsh⟩;have e:=E.eq;have hle:=E.le;rw [E.to] at h5;simp only [ep,Nat.zero_add] at h5 hle;simp only [List.drop_zero,Nat.zero_add] at e;rw [List.drop_of_length_le (by omega),List.append_nil] at e;exact e
  ·cases h
theorem AG {f:bc} (hs:ak f) (hr:gM f):bL (bK f)=some f:=by
 have h:=AD hs hr [];rw [List.append_nil] at h;unfold bL;rw [h];simp only;rw [wW (by simp [ep])];simp only [ep];rw [if_pos ⟨trivial,trivial,trivial,fQ.2 hr⟩]
theorem lZ {l:List UInt8} {f:bc}:bL l=some f↔l=bK f∧gM f∧ak f :=
 ⟨AF,fun ⟨h1,h2,h3⟩=>by rw [h1];exact AG h3 h2⟩
end
end Go.Proofs.YtaafkokfdgfabaaGreat
namespace Go.Proofs.YtaafkokfdgfabaaGreat
open Go.RowKit
set_option linter.unusedVariables false
set_option linter.unusedSimpArgs false
theorem l8:(Tryz.prog.info? 5).map (·.size)=some 1:=by kernel_rfl
theorem bZ {w w1 w2:World} {g k:Nat} (h:w.grownBy w1 (some g)) (hk:w.heap.size≤k) (h2:w1.grownBy w2 (some k)):w.grownBy w2 (some g) :=
 ⟨h2.os.trans h.os,h2.tape.trans h.tape,h2.output.trans h.output,Nat.le_trans h.size h2.size,fun j hj hne=>(h2.block j (Nat.lt_of_lt_of_le hj h.size) (fun e=>by injection e with e;omega)).trans (h.block j hj hne)⟩
theorem lK {P:Program} {w:World} {ops:Array Oper} {rest:List Oper} {o:Oper} {a:Act} {Q:Exit→Act→World→Prop} (hgd:o.guard=none) (d s:Operand) (dT sT:TypeId)
  (ho:o.op=.call { callee:=.builtin .copy,args:=#[d,s],argTypes:=#[dT,sT] }) (elem:TypeId) (hu:P.underlying dT=some (.slice elem)) (hsz:(P.info? elem).map (·.size)=some 1)
  (g off dLen dCap:Nat) (ad:Addr) (sLen sCap:Nat) (hd:a.eval d=.slice (some ⟨g,off,none⟩) dLen dCap) (hs:a.eval s=.slice (some ad) sLen sCap)
  (cur:List Value) (t:TypeId) (hg:ah w g t cur.toArray) (cs:List Value) (hn:cs.length=Nat.min sLen dLen)
  (hsrc:∀ j v,cs[j]?=some v→w.cell? (ad.add j)=some v) (hfit:off + cs.length≤cur.length) (h1:∀ v ∈ cs,v.oneCell'=true) (res:List Value) (hres:cur.take off ++ (cs ++ cur.drop (off + cs.length))=res)
  (h:wpList P ops Q rest (a.put o.dst (goInt cs.length)) (w.setRow g res.toArray)):wpList P ops Q (o :: rest) a w:=by
 refine wpList_copy_own hgd d s dT sT ho elem hu hsz g off dLen dCap ad sLen sCap hd hs cur.toArray t hg cs hn hsrc (by simpa using hfit) h1 ?_;simp only [List.toList_toArray,hres];exact h
def ja (l:List UInt8) (s:St):cS:=(bg l s).2.getD cT
def C9 (w:World) (base g:Nat) (l:List UInt8) (s:St) (x:Ending) (w':World):Prop :=
 x=.returned (.tuple #[.agg (ai (ja l s)).toArray,.bool (bg l s).2.isSome])∧ey w' base g l (bg l s).1∧w.grownBy w' (some g)
theorem Em {b:List UInt8} (h:b.length=16):((ai (true,cT.2)).take 1 ++ (ab b ++ (ai (true,cT.2)).drop (1 + (ab b).length)))=ai (true,b):=by
 rw [ao,h];show [Value.bool true] ++ (ab b ++ [])=_
 simp [ai]
theorem En {b:List UInt8} (h:b.length=4):((ai cT).take 1 ++ (ab b ++ (ai cT).drop (1 + (ab b).length)))=ai (false,dR b 16):=by
 rw [ao,h];show [Value.bool false] ++ (ab b ++ List.replicate 12 (.int .u8 0))=_
 rw [ai,dR,dK,h];rfl
set_option maxRecDepth 100000 in
theorem tt (base g:Nat) (l:List UInt8) (s:St) (w:World) (h:ey w base g l s) (hs:bY l s) (hl:l.length≤1000000000) :
  Calls Tryz.prog 152 #[.pointer (some ⟨g,0,none⟩)] w (C9 w base g l s):=by
 have hgl:g<w.heap.size:=h.lt;obtain ⟨W,hW⟩:∃ W,W=(w.alloc (.cells (ai cT).toArray 27)).alloc (.cells (ai cT).toArray 27):=⟨_,rfl⟩
 have hX2:ah W w.heap.size 27 (ai cT).toArray:=by rw [hW];exact ah.alloc (ah.new w _ _ _ rfl) _
 have hX4:ah W (w.heap.size + 1) 27 (ai cT).toArray:=by rw [hW];exact ah.new _ _ _ _ (by simp)
 have hB:Below w.heap.size w W:=by rw [hW];exact ((Below.refl _ _).alloc (Nat.le_refl _) _).alloc (by simp) _
 have Hnum:=Lib.hid (cF base g l s W 1 true (h.below hB) hs hl);have hok1:=bQ hs 1 true;rcases hn:aJ l s 1 true with ⟨s1,v⟩
 rw [hn] at Hnum hok1;have hT:bg l s=(if v=6 then ((a8 l s1 16).1,if (a8 l s1 16).2.length=16 then some (true,(a8 l s1 16).2) else none) else if v=4 then ((a8 l s1 4).1,if (a8 l s1 4).2.length=4 then some (false,dR (a8 l s1 4).2 16) else none) else (s1,none)):=by unfold bg;rw [hn]
 have HT:=Lib.hid hT;have HW:=Lib.hid hW;have HX2:=Lib.hid hX2;have HX4:=Lib.hid hX4;have HB:=Lib.hid hB;rw [gS] at HW;clear hT hW hX2 hX4 hB hn h;by_cases h6:v=6
 ·have h6I:(v:Int)=6:=by omega
  have hok2:=dt hok1 16;have Htk:=Lib.hid (fun w' h=>dW base g l s1 w' 16 h hok1 hl (by omega));rcases ht:a8 l s1 16 with ⟨s2,b⟩
  rw [ht] at Htk hok2;have hS1:(bg l s).1=s2:=by rw [HT.out,if_pos h6,ht]
  have HS1:=Lib.hid hS1;by_cases hb:b.length=16
  ·have hS2:(bg l s).2=some (true,b):=by rw [HT.out,if_pos h6,ht];simp [hb]
   have hR:ja l s=(true,b):=by unfold ja;rw [hS2];rfl
   have hbI:(b.length:Int)=16:=by omega
   have hao:aS (true,b):=hb;have HR:=Lib.hid hR;have HS2:=Lib.hid hS2;have Hb:=Lib.hid hb;have Hasz:=Lib.hid (fX hao);clear hR hS2 hS1 ht hb;go_enter Tryz.func152,Tryz.ntmps152
   go_upto_region 2 with fail
   rw [←HW.out]
   go_wp2_with fail
   refine Hnum.out.mono ?_;rintro e w1 ⟨rfl,hR1,hg1⟩;have hXa:=ah.grown HX2.out hg1 (fun e=>by injection e with e;omega);have hXb:=ah.grown HX4.out hg1 (fun e=>by injection e with e;omega);have c0:w1.cell? ⟨w.heap.size + 1,0,none⟩=some (.bool false):=nO hXb;have f0:w1.frozen? ⟨w.heap.size + 1,0,none⟩=false:=hXb.frozen 0;have hXc:ah (w1.setCell ⟨w.heap.size + 1,0,none⟩ (.bool true)) (w.heap.size + 1) 27 (ai (true,cT.2)).toArray:=ah.set_ hXb 0 (.bool true);have hXd:=ah.far hXa (p:=⟨w.heap.size + 1,0,none⟩) (by simp) (.bool true);have hgs:=aV w1 ⟨w.heap.size + 1,0,none⟩ (.bool true);have hR1':=ey.off hR1 hgs hXb (by decide) (by decide);have hg1':=bZ (am (bj HB.out) hg1) (Nat.le_succ _) hgs;have HXc:=Lib.hid hXc;have HXd:=Lib.hid hXd;have HR1:=Lib.hid hR1';have Hg1:=Lib.hid hg1';clear hXc hXd hR1 hR1' hg1 hg1' hXa hXb hgs
   go_wp2_with fail
   refine (Htk.out _ HR1.out).mono ?_;rintro e w2 ⟨A,c,rfl,hown,hR2,hg2⟩;simp only at hown hR2;have hY4:=ah.grown HXc.out hg2 (fun e=>by injection e with e;omega);have hY2:=ah.grown HXd.out hg2 (fun e=>by injection e with e;omega);have hgw2:w.grownBy w2 (some g):=am Hg1.out hg2;obtain ⟨ad,rfl,hadb,hcell⟩:=(BS.of_own hown).1 (by rw [Hb.out];decide);have Hsrc:Hid (∀ j u,(ab b)[j]?=some u→w2.cell? (ad.add j)=some u):=fun j u hj=>by
    rw [ab,List.getElem?_map] at hj;rcases hm:b[j]? with _ | y
    ·rw [hm] at hj;cases hj
    ·rw [hm] at hj
     simp only [Option.map_some,Option.some.injEq] at hj;rw [←hj];exact hcell j y hm
   have hZ4:ah (w2.setRow (w.heap.size + 1) (ai (true,b)).toArray) (w.heap.size + 1) 27 (ai (true,b)).toArray:=ah.row hY4 _;have hZ2:ah (w2.setRow (w.heap.size + 1) (ai (true,b)).toArray) w.heap.size 27 (ai cT).toArray:=ah.rowFar hY2 (by omega) _;have hgr:=nQ w2 (w.heap.size + 1) (ai (true,b)).toArray;have hR3:=ey.off hR2 hgr hY4 (by decide) (by decide);have hg3:=bZ hgw2 (Nat.le_succ _) hgr;have Hth:Hid ((w2.setRow (w.heap.size + 1) (ai (true,b)).toArray).there w.heap.size 0 (ai (true,b)).toArray.size):=hZ2.there (by rw [gS,List.size_toArray,ap hao];decide);have HY4:=Lib.hid hY4;have HZ2:=Lib.hid hZ2;have HRg:=Lib.hid (ae hZ4);have HR3:=Lib.hid hR3;have Hg3:=Lib.hid hg3;clear hown hR2 hg2 hY4 hY2 hgw2 hcell hZ4 hZ2 hgr hR3 hg3 HXc HXd HR1 Hg1
   go_wp2_with (first
    | ((with_reducible refine qf .copy ?_);refine lK rfl _ _ 43 43 rfl 5 Tryz.underlying43 l8 (w.heap.size + 1) 1 16 16 ad b.length c rfl rfl (ai (true,cT.2)) _ HY4.out (ab b) (by rw [ao,Hb.out];rfl) Hsrc.out (by rw [ao,Hb.out];decide) (ej b) (ai (true,b)) (Em Hb.out) ?_)
    | ((with_reducible refine aE 27 ?_);refine aa (by rfl) 27 (.tmp 4) rfl (w.heap.size + 1) 0 rfl (ai (true,b)) _ HRg.out Tryz.underlying27 rfl Hasz.out ?_)
    | ((with_reducible refine aM 27 ?_);refine wpList_store_mid rfl 27 (.tmp 2) (.tmp 26) rfl w.heap.size 0 (ai (true,b)).toArray rfl rfl Hth.out Hasz.out (kw _) ?_))
   have hX9:=ah.setCells (ai (true,b)) 0 HZ2.out;rw [aW (by rw [ap hao];rfl)] at hX9;refine bodyPost_ret (v:=.tuple #[.agg (ai (true,b)).toArray,.bool true]) (aG (P:=Tryz.prog) (p:=2) (u:=3) rfl _ _ w.heap.size _ _ _ _ rfl hX9 du rfl Hasz.out) rfl ⟨?_,?_,?_⟩
   ·rw [HR.out,HS2.out];rfl
   ·rw [HS1.out]
    exact ey.off HR3.out (aT _ _ 0 _ _ (bj (Below.refl _ _))) HZ2.out (by decide) (by decide)
   ·exact bZ Hg3.out (Nat.le_refl _) (aT _ _ 0 _ _ (bj (Below.refl _ _)))
  ·have hS2:(bg l s).2=none:=by rw [HT.out,if_pos h6,ht];simp [hb]
   have hR:ja l s=cT:=by unfold ja;rw [hS2];rfl
   have hbI:¬ (b.length:Int)=16:=by omega
   have HR:=Lib.hid hR;have HS2:=Lib.hid hS2;clear hR hS2 hS1 ht;go_enter Tryz.func152,Tryz.ntmps152
   go_upto_region 2 with fail
   rw [←HW.out]
   go_wp2_with fail
   refine Hnum.out.mono ?_;rintro e w1 ⟨rfl,hR1,hg1⟩;have hXa:=ah.grown HX2.out hg1 (fun e=>by injection e with e;omega);have hXb:=ah.grown HX4.out hg1 (fun e=>by injection e with e;omega);have c0:w1.cell? ⟨w.heap.size + 1,0,none⟩=some (.bool false):=nO hXb;have f0:w1.frozen? ⟨w.heap.size + 1,0,none⟩=false:=hXb.frozen 0;have hXc:ah (w1.setCell ⟨w.heap.size + 1,0,none⟩ (.bool true)) (w.heap.size + 1) 27 (ai (true,cT.2)).toArray:=ah.set_ hXb 0 (.bool true);have hXd:=ah.far hXa (p:=⟨w.heap.size + 1,0,none⟩) (by simp) (.bool true);have hgs:=aV w1 ⟨w.heap.size + 1,0,none⟩ (.bool true);have hR1':=ey.off hR1 hgs hXb (by decide) (by decide);have hg1':=bZ (am (bj HB.out) hg1) (Nat.le_succ _) hgs;have HXc:=Lib.hid hXc;have HXd:=Lib.hid hXd;have HR1:=Lib.hid hR1';have Hg1:=Lib.hid hg1';clear hXc hXd hR1 hR1' hg1 hg1' hXa hXb hgs
   go_wp2_with fail
   refine (Htk.out _ HR1.out).mono ?_;rintro e w2 ⟨A,c,rfl,hown,hR2,hg2⟩;simp only at hown hR2;have hY4:=ah.grown HXc.out hg2 (fun e=>by injection e with e;omega);have hY2:=ah.grown HXd.out hg2 (fun e=>by injection e with e;omega);have hgw2:w.grownBy w2 (some g):=am Hg1.out hg2;have Hth:Hid (w2.there w.heap.size 0 17):=hY2.there (by rw [gS];decide);have HY2:=Lib.hid hY2;have HR2:=Lib.hid hR2;have Hg2:=Lib.hid hgw2;clear hown hR2 hg2 hY4 hY2 hgw2 HXc HXd HR1 Hg1
   go_wp2_with (first
    | ((with_reducible refine aM 27 ?_);refine wpList_store_mid rfl 27 (.tmp 2) (.tmp 27) rfl w.heap.size 0 (ai cT).toArray rfl rfl Hth.out fC (kw cT) ?_))
   have hX9:=ah.setCells (ai cT) 0 HY2.out;rw [aW rfl] at hX9;refine bodyPost_ret (v:=.tuple #[.agg (ai cT).toArray,.bool false]) (aG (P:=Tryz.prog) (p:=2) (u:=3) rfl _ _ w.heap.size _ _ _ _ rfl hX9 du rfl fC) rfl ⟨?_,?_,?_⟩
   ·rw [HR.out,HS2.out];rfl
   ·rw [HS1.out]
    exact ey.off HR2.out (aT _ _ 0 _ _ (bj (Below.refl _ _))) HY2.out (by decide) (by decide)
   ·exact bZ Hg2.out (Nat.le_refl _) (aT _ _ 0 _ _ (bj (Below.refl _ _)))
 ·by_cases h4:v=4
  ·have h6I:¬ (v:Int)=6:=by omega
   have h4I:(v:Int)=4:=by omega
   have hok2:=dt hok1 4;have Htk:=Lib.hid (fun w' h=>dW base g l s1 w' 4 h hok1 hl (by omega));rcases ht:a8 l s1 4 with ⟨s2,b⟩
   rw [ht] at Htk hok2;have hS1:(bg l s).1=s2:=by rw [HT.out,if_neg h6,if_pos h4,ht]
   have HS1:=Lib.hid hS1;by_cases hb:b.length=4
   ·have hS2:(bg l s).2=some (false,dR b 16):=by rw [HT.out,if_neg h6,if_pos h4,ht];simp [hb]
    have hR:ja l s=(false,dR b 16):=by unfold ja;rw [hS2];rfl
    have hbI:(b.length:Int)=4:=by omega
    have hao:aS (false,dR b 16):=ew (by omega);have HR:=Lib.hid hR;have HS2:=Lib.hid hS2;have Hb:=Lib.hid hb;have Hasz:=Lib.hid (fX hao);clear hR hS2 hS1 ht hb;go_enter Tryz.func152,Tryz.ntmps152
    go_upto_region 2 with fail
    rw [←HW.out]
    go_wp2_with fail
    refine Hnum.out.mono ?_;rintro e w1 ⟨rfl,hR1,hg1⟩;have hXa:=ah.grown HX2.out hg1 (fun e=>by injection e with e;omega);have hXb:=ah.grown HX4.out hg1 (fun e=>by injection e with e;omega);have hXc:=hXb;have hXd:=hXa;have hR1':=hR1;have hg1':w.grownBy w1 (some g):=am (bj HB.out) hg1;have HXc:=Lib.hid hXc;have HXd:=Lib.hid hXd;have HR1:=Lib.hid hR1';have Hg1:=Lib.hid hg1';clear hXc hXd hR1 hR1' hg1 hg1' hXa hXb
    go_wp2_with fail
    refine (Htk.out _ HR1.out).mono ?_;rintro e w2 ⟨A,c,rfl,hown,hR2,hg2⟩;simp only at hown hR2;have hY4:=ah.grown HXc.out hg2 (fun e=>by injection e with e;omega);have hY2:=ah.grown HXd.out hg2 (fun e=>by injection e with e;omega);have hgw2:w.grownBy w2 (some g):=am Hg1.out hg2;obtain ⟨ad,rfl,hadb,hcell⟩:=(BS.of_own hown).1 (by rw [Hb.out];decide);have Hsrc:Hid (∀ j u,(ab b)[j]?=some u→w2.cell? (ad.add j)=some u):=fun j u hj=>by
     rw [ab,List.getElem?_map] at hj;rcases hm:b[j]? with _ | y
     ·rw [hm] at hj;cases hj
     ·rw [hm] at hj
      simp only [Option.map_some,Option.some.injEq] at hj;rw [←hj];exact hcell j y hm
    have hZ4:ah (w2.setRow (w.heap.size + 1) (ai (false,dR b 16)).toArray) (w.heap.size + 1) 27 (ai (false,dR b 16)).toArray:=ah.row hY4 _;have hZ2:ah (w2.setRow (w.heap.size + 1) (ai (false,dR b 16)).toArray) w.heap.size 27 (ai cT).toArray:=ah.rowFar hY2 (by omega) _;have hgr:=nQ w2 (w.heap.size + 1) (ai (false,dR b 16)).toArray;have hR3:=ey.off hR2 hgr hY4 (by decide) (by decide);have hg3:=bZ hgw2 (Nat.le_succ _) hgr;have Hth:Hid ((w2.setRow (w.heap.size + 1) (ai (false,dR b 16)).toArray).there w.heap.size 0 (ai (false,dR b 16)).toArray.size):=hZ2.there (by rw [gS,List.size_toArray,ap hao];decide);have HY4:=Lib.hid hY4;have HZ2:=Lib.hid hZ2;have HRg:=Lib.hid (ae hZ4);have HR3:=Lib.hid hR3;have Hg3:=Lib.hid hg3;clear hown hR2 hg2 hY4 hY2 hgw2 hcell hZ4 hZ2 hgr hR3 hg3 HXc HXd HR1 Hg1
    go_wp2_with (first
     | ((with_reducible refine qf .copy ?_);refine lK rfl _ _ 43 43 rfl 5 Tryz.underlying43 l8 (w.heap.size + 1) 1 16 16 ad b.length c rfl rfl (ai cT) _ HY4.out (ab b) (by rw [ao,Hb.out];rfl) Hsrc.out (by rw [ao,Hb.out];decide) (ej b) (ai (false,dR b 16)) (En Hb.out) ?_)
     | ((with_reducible refine aE 27 ?_);refine aa (by rfl) 27 (.tmp 4) rfl (w.heap.size + 1) 0 rfl (ai (false,dR b 16)) _ HRg.out Tryz.underlying27 rfl Hasz.out ?_)
     | ((with_reducible refine aM 27 ?_);refine wpList_store_mid rfl 27 (.tmp 2) (.tmp 26) rfl w.heap.size 0 (ai (false,dR b 16)).toArray rfl rfl Hth.out Hasz.out (kw _) ?_))
    have hX9:=ah.setCells (ai (false,dR b 16)) 0 HZ2.out;rw [aW (by rw [ap hao];rfl)] at hX9;refine bodyPost_ret (v:=.tuple #[.agg (ai (false,dR b 16)).toArray,.bool true]) (aG (P:=Tryz.prog) (p:=2) (u:=3) rfl _ _ w.heap.size _ _ _ _ rfl hX9 du rfl Hasz.out) rfl ⟨?_,?_,?_⟩
    ·rw [HR.out,HS2.out];rfl
    ·rw [HS1.out]
     exact ey.off HR3.out (aT _ _ 0 _ _ (bj (Below.refl _ _))) HZ2.out (by decide) (by decide)
    ·exact bZ Hg3.out (Nat.le_refl _) (aT _ _ 0 _ _ (bj (Below.refl _ _)))
   ·have hS2:(bg l s).2=none:=by rw [HT.out,if_neg h6,if_pos h4,ht];simp [hb]
    have hR:ja l s=cT:=by unfold ja;rw [hS2];rfl
    have hbI:¬ (b.length:Int)=4:=by omega
    have HR:=Lib.hid hR;have HS2:=Lib.hid hS2;clear hR hS2 hS1 ht;go_enter Tryz.func152,Tryz.ntmps152
    go_upto_region 2 with fail
    rw [←HW.out]
    go_wp2_with fail
    refine Hnum.out.mono ?_;rintro e w1 ⟨rfl,hR1,hg1⟩;have hXa:=ah.grown HX2.out hg1 (fun e=>by injection e with e;omega);have hXb:=ah.grown HX4.out hg1 (fun e=>by injection e with e;omega);have hXc:=hXb;have hXd:=hXa;have hR1':=hR1;have hg1':w.grownBy w1 (some g):=am (bj HB.out) hg1;have HXc:=Lib.hid hXc;have HXd:=Lib.hid hXd;have HR1:=Lib.hid hR1';have Hg1:=Lib.hid hg1';clear hXc hXd hR1 hR1' hg1 hg1' hXa hXb
    go_wp2_with fail
    refine (Htk.out _ HR1.out).mono ?_;rintro e w2 ⟨A,c,rfl,hown,hR2,hg2⟩;simp only at hown hR2;have hY4:=ah.grown HXc.out hg2 (fun e=>by injection e with e;omega);have hY2:=ah.grown HXd.out hg2 (fun e=>by injection e with e;omega);have hgw2:w.grownBy w2 (some g):=am Hg1.out hg2;have Hth:Hid (w2.there w.heap.size 0 17):=hY2.there (by rw [gS];decide);have HY2:=Lib.hid hY2;have HR2:=Lib.hid hR2;have Hg2:=Lib.hid hgw2;clear hown hR2 hg2 hY4 hY2 hgw2 HXc HXd HR1 Hg1
    go_wp2_with (first
     | ((with_reducible refine aM 27 ?_);refine wpList_store_mid rfl 27 (.tmp 2) (.tmp 27) rfl w.heap.size 0 (ai cT).toArray rfl rfl Hth.out fC (kw cT) ?_))
    have hX9:=ah.setCells (ai cT) 0 HY2.out;rw [aW rfl] at hX9;refine bodyPost_ret (v:=.tuple #[.agg (ai cT).toArray,.bool false]) (aG (P:=Tryz.prog) (p:=2) (u:=3) rfl _ _ w.heap.size _ _ _ _ rfl hX9 du rfl fC) rfl ⟨?_,?_,?_⟩
    ·rw [HR.out,HS2.out];rfl
    ·rw [HS1.out]
     exact ey.off HR2.out (aT _ _ 0 _ _ (bj (Below.refl _ _))) HY2.out (by decide) (by decide)
    ·exact bZ Hg2.out (Nat.le_refl _) (aT _ _ 0 _ _ (bj (Below.refl _ _)))
  ·have h6I:¬ (v:Int)=6:=by omega
   have h4I:¬ (v:Int)=4:=by omega
   have hR:ja l s=cT:=by unfold ja;rw [HT.out,if_neg h6,if_neg h4];rfl
   have hS:(bg l s)=(s1,none):=by rw [HT.out,if_neg h6,if_neg h4]
   have HR:=Lib.hid hR;have HS:=Lib.hid hS;clear hR hS;go_enter Tryz.func152,Tryz.ntmps152
   go_upto_region 2 with fail
   rw [←HW.out]
   go_wp2_with fail
   refine Hnum.out.mono ?_;rintro e w1 ⟨rfl,hR1,hg1⟩;have HXa:=Lib.hid (ah.grown HX2.out hg1 (fun e=>by injection e with e;omega));have Hth:Hid (w1.there w.heap.size 0 17):=ah.there (o:=0) (n:=17) HXa.out (by rw [gS];decide);have HR1:=Lib.hid hR1;have Hg1:=Lib.hid hg1;clear hR1 hg1
   go_wp2_with (first
    | ((with_reducible refine aM 27 ?_);refine wpList_store_mid rfl 27 (.tmp 2) (.tmp 9) rfl w.heap.size 0 (ai cT).toArray rfl rfl Hth.out fC (kw cT) ?_))
   have hX9:=ah.setCells (ai cT) 0 HXa.out;rw [aW rfl] at hX9;refine bodyPost_ret (v:=.tuple #[.agg (ai cT).toArray,.bool false]) (aG (P:=Tryz.prog) (p:=2) (u:=3) rfl _ _ w.heap.size _ _ _ _ rfl hX9 du rfl fC) rfl ⟨?_,?_,?_⟩
   ·rw [HR.out,HS.out];rfl
   ·rw [HS.out]
    exact ey.off HR1.out (aT _ _ 0 _ _ (bj (Below.refl _ _))) HXa.out (by decide) (by decide)
   ·exact bZ (am (bj HB.out) (by
     have:=Hg1.out;exact this)) (Nat.le_refl _) (aT _ _ 0 _ _ (bj (Below.refl _ _)))
end Go.Proofs.YtaafkokfdgfabaaGreat
namespace Go.Proofs.YtaafkokfdgfabaaGreat
open Go.RowKit
set_option linter.unusedVariables false
set_option linter.unusedSimpArgs false
def bn:bc:={ vips:=[],size:=0,room:=0,idle:=List.replicate 6 0,rise:=0,fall:=0,mac:=List.replicate 6 0,four:=cT,six:=cT,most:=0,keep:=0,batch:=0 }
theorem gW:ak bn:=⟨by simp [bn],rfl,rfl,rfl,rfl⟩
section
variable {A:Option Addr} {n c:Nat} {f:bc}
theorem Da (x:Int):(aj A n c f).toArray.setIfInBounds 1 (.int .i64 x)=(aj A n c { f with size:=x }).toArray:=by
 rw [List.setIfInBounds_toArray];rfl
theorem Db (x:Int):(aj A n c f).toArray.setIfInBounds 2 (.int .i64 x)=(aj A n c { f with room:=x }).toArray:=by
 rw [List.setIfInBounds_toArray];rfl
theorem AH (A':Option Addr) (n' c':Nat) (vs:List ct):(aj A n c f).toArray.setIfInBounds 0 (.slice A' n' c')=(aj A' n' c' { f with vips:=vs }).toArray:=by
 rw [List.setIfInBounds_toArray];rfl
theorem Dc (h:ak f) {k:Nat} (hk:k<6) (x:Int):(aj A n c f).toArray.setIfInBounds (3 + k) (.int .i64 x)=(aj A n c { f with idle:=f.idle.set k x }).toArray:=by
 have hi:=h.idle;rw [List.setIfInBounds_toArray,show 3 + k=(k + 2) + 1 by omega];simp only [aj,dY,List.set_cons_succ];rw [List.set_append_left _ _ (by simp;omega)];simp [List.map_set,iv]
theorem Dd (h:ak f) (x:Int):(aj A n c f).toArray.setIfInBounds 9 (.int .i64 x)=(aj A n c { f with rise:=x }).toArray:=by
 have hi:=h.idle;rw [List.setIfInBounds_toArray];simp [aj,dY,List.set_append,hi,iv]
theorem De (h:ak f) (x:Int):(aj A n c f).toArray.setIfInBounds 10 (.int .i64 x)=(aj A n c { f with fall:=x }).toArray:=by
 have hi:=h.idle;rw [List.setIfInBounds_toArray];simp [aj,dY,List.set_append,hi,iv]
theorem Df (h:ak f) (x:Bool):(aj A n c f).toArray.setIfInBounds 34 (.bool x)=(aj A n c { f with six:=(x,f.six.2) }).toArray:=by
 have hi:=h.idle;have hm:=h.mac;have h4:f.four.2.length=16:=h.four;rw [List.setIfInBounds_toArray];simp [aj,dY,List.set_append,hi,ao,hm,h4,ai]
theorem Dg (h:ak f) (x:Int):(aj A n c f).toArray.setIfInBounds 51 (.int .i64 x)=(aj A n c { f with most:=x }).toArray:=by
 have hi:=h.idle;have hm:=h.mac;have h4:=ap h.four;have h6:=ap h.six;rw [List.setIfInBounds_toArray];simp [aj,dY,List.set_append,hi,ao,hm,h4,h6,iv]
theorem Dh (h:ak f) (x:Int):(aj A n c f).toArray.setIfInBounds 52 (.int .i64 x)=(aj A n c { f with keep:=x }).toArray:=by
 have hi:=h.idle;have hm:=h.mac;have h4:=ap h.four;have h6:=ap h.six;rw [List.setIfInBounds_toArray];simp [aj,dY,List.set_append,hi,ao,hm,h4,h6,iv]
theorem AI (h:ak f) (x:Int):(aj A n c f).toArray.setIfInBounds 53 (.int .i64 x)=(aj A n c { f with batch:=x }).toArray:=by
 have hi:=h.idle;have hm:=h.mac;have h4:=ap h.four;have h6:=ap h.six;rw [List.setIfInBounds_toArray];simp [aj,dY,List.set_append,hi,ao,hm,h4,h6,iv]
theorem uV (h:ak f):∃ pre post,(∀ b:List UInt8,aj A n c { f with mac:=b }=pre ++ (ab b ++ post))∧pre.length=11:=by
 have hi:=h.idle;exact ⟨.slice A n c :: iv f.size :: iv f.room :: (f.idle.map iv ++ [iv f.rise,iv f.fall]),ai f.four ++ (ai f.six ++ [iv f.most,iv f.keep,iv f.batch]),fun b=>by simp [aj,dY],by simp [hi]⟩
theorem tu (h:ak f):∃ pre post,(∀ b:List UInt8,aj A n c { f with four:=(f.four.1,b) }=pre ++ (ab b ++ post))∧pre.length=18:=by
 have hi:=h.idle;have hm:=h.mac;exact ⟨.slice A n c :: iv f.size :: iv f.room :: (f.idle.map iv ++ (iv f.rise :: iv f.fall :: (ab f.mac ++ [.bool f.four.1]))),ai f.six ++ [iv f.most,iv f.keep,iv f.batch],fun b=>by simp [aj,dY,ai],by simp [hi,ao,hm]⟩
theorem uW (h:ak f):∃ pre post,(∀ b:List UInt8,aj A n c { f with six:=(f.six.1,b) }=pre ++ (ab b ++ post))∧pre.length=35:=by
 have hi:=h.idle;have hm:=h.mac;have h4:=ap h.four;exact ⟨.slice A n c :: iv f.size :: iv f.room :: (f.idle.map iv ++ (iv f.rise :: iv f.fall :: (ab f.mac ++ (ai f.four ++ [.bool f.six.1])))),[iv f.most,iv f.keep,iv f.batch],fun b=>by simp [aj,dY,ai],by simp [hi,ao,hm,h4]⟩
end
theorem xD {pre post:List Value} {x:List UInt8} {N:Nat} (hx:x.length≤N) (k:Nat) (hk:pre.length=k) :
  (pre ++ (ab (List.replicate N 0) ++ post)).take k ++ (ab x ++ (pre ++ (ab (List.replicate N 0) ++ post)).drop (k + (ab x).length))=pre ++ (ab (dR x N) ++ post):=by
 subst hk;rw [List.take_left,←List.drop_drop,List.drop_left,ao,List.drop_append_of_le_length (by rw [ao,List.length_replicate];exact hx)];simp only [dR,dK,List.append_assoc];rw [show (ab (List.replicate N 0)).drop x.length=ab (List.replicate (N - x.length) 0) by simp [ab,List.map_replicate]]
section
variable {P:Program}
theorem iW {w:World} {o:Oper} {a:Act} {K:Act→World→Prop} {Q:Exit→Act→World→Prop} (d s:Operand) (dT sT:TypeId)
  (ho:o.op=.call { callee:=.builtin .copy,args:=#[d,s],argTypes:=#[dT,sT] }) (elem:TypeId) (hu:P.underlying dT=some (.slice elem)) (hsz:(P.info? elem).map (·.size)=some 1)
  (g off N dCap:Nat) (A:Option Addr) (sCap:Nat) (x:List UInt8) (hd:a.eval d=.slice (some ⟨g,off,none⟩) N dCap) (hs:a.eval s=.slice A x.length sCap) (B:Nat) (hb:BS w B A x) (hx:x.length≤N)
  (t:TypeId) (cs:List UInt8→List Value) (pre post:List Value) (hcs:∀ b,cs b=pre ++ (ab b ++ post)) (hpre:pre.length=off) (hg:ah w g t (cs (List.replicate N 0)).toArray)
  (h:∀ w' z,ah w' g t (cs (dR x N)).toArray→w.grownBy w' (some g)→K (a.put o.dst z) w'):o.wp P a w K Q:=by
 rcases x with _ | ⟨x0,xs⟩
 ·have hrun:=run_copy_none (P:=P) w dT sT o.type elem (some ⟨g,off,none⟩) A N dCap 0 sCap hu hsz (by simp)
  unfold Oper.wp;simp [execOp,ho,resolve,invoke,builtin,hd,hs,hrun,Result.andThen];exact h w _ (by simpa [dR] using hg) (World.grownBy.refl _ _)
 ·obtain ⟨ad,rfl,_,hcell⟩:=hb (by simp)
  have hg':w.heap[g]?=some (.cells (cs (List.replicate N 0)).toArray t (0,0)):=hg;have hrun:=run_copy_row (P:=P) w dT sT o.type elem g off N dCap ad (x0 :: xs).length sCap (cs (List.replicate N 0)).toArray t (ab (x0 :: xs)) hu hsz hg' (by rw [ao];exact (Nat.min_eq_left hx).symm) (fun j v hj=>by
    rw [ab,List.getElem?_map] at hj;rcases hm:(x0 :: xs)[j]? with _ | y
    ·rw [hm] at hj;cases hj
    ·rw [hm] at hj
     simp only [Option.map_some,Option.some.injEq] at hj;rw [←hj];exact hcell j y hm) (by rw [hcs,List.size_toArray,List.length_append,hpre,List.length_append,ao,ao,List.length_replicate];omega) (ej _)
  unfold Oper.wp;simp only [execOp,ho,resolve,invoke,builtin,hd,hs,List.map_toArray,List.map_cons,List.map_nil,Sem.run_bind,Sem.run_pure,Result.andThen_ok,hrun];refine h _ _ ?_ (nQ w g _);rw [hcs (List.replicate N 0),List.append_assoc,xD hx off hpre,←hcs];exact ah.row hg _
end
end Go.Proofs.YtaafkokfdgfabaaGreat
namespace Go.Proofs.YtaafkokfdgfabaaGreat
open Go.RowKit
set_option linter.unusedVariables false
set_option linter.unusedSimpArgs false
theorem xH {addr:cS} {proto port:Int} {vs:List ct}:(ig addr proto port vs).2=vs.any (ic addr proto port):=by
 unfold ig;rcases h:vs.findIdx? (ic addr proto port) with _ | i
 ·rw [List.findIdx?_eq_none_iff] at h
  symm
  simp only [List.any_eq_false];intro x hx;simpa using h x hx
 ·obtain ⟨hi,hp,_⟩:=List.findIdx?_eq_some_iff_getElem.1 h
  symm
  simp only [List.any_eq_true];exact ⟨_,List.getElem_mem hi,hp⟩
theorem tB {addr:cS} {proto port:Int} {vs:List ct} (h:∀ v ∈ vs,aS v.1):aS (ig addr proto port vs).1.1:=by
 unfold ig;rcases h1:vs.findIdx? (ic addr proto port) with _ | i
 ·exact uh
 ·obtain ⟨hi,_⟩:=List.findIdx?_eq_some_iff_getElem.1 h1
  simp only [List.getElem?_eq_getElem hi,Option.getD_some];exact h _ (List.getElem_mem hi)
set_option maxRecDepth 100000 in
theorem Dk (A:Option Addr) (n c:Nat) (vs:List ct) (hv:∀ v ∈ vs,aS v.1) (w:World) (hn:n=vs.length) (hnc:n≤c) (hb:VS w w.heap.size A vs) (hl:n≤1000000) :
  Calls Tryz.prog 126 #[.slice A n c] w fun e w'=>e=.returned (.bool (lI vs))∧Below w.heap.size w w':=by
 subst hn;have HV:=Lib.hid hb;have Hok:=Lib.hid hv;clear hb hv;by_cases h64:64<vs.length
 ·have h64I:(64:Int)<(vs.length:Int):=by omega
  have hr:lI vs=false:=by
   rcases h:lI vs with _ | _
   ·rfl
   ·have:=(mp.1 h).1;omega
  rw [hr];clear hr h64;go_enter Tryz.func126,Tryz.ntmps126
  go_wp2
  go_ret
  exact ⟨rfl,Below.refl _ _⟩
 ·have h64I:¬ (64:Int)<(vs.length:Int):=by omega
  go_enter Tryz.func126,Tryz.ntmps126
  go_wp2
  go_loopw [12] (fun i wr=>∃ k:Nat,k≤vs.length∧i=.int .i64 (k:Int)∧Hid (Below w.heap.size w wr)∧Hid (∀ j,j<k→mM vs j=true)) (fun i _=>vs.length - (intOf i).toNat)
  case atStart=>exact ⟨0,by omega,rfl,Below.refl _ _,fun j hj=>by omega⟩
  case round =>
   obtain ⟨k,hk,rfl,hbel,hat⟩:=hrel;by_cases hlt:k<vs.length
   ·have hltI:(k:Int)<(vs.length:Int):=by omega
    have hk0:(0:Int)≤(k:Int):=by omega
    obtain ⟨b,o,hA,hbB,hc⟩:=(HV.out.below hbel.out) (by omega);subst hA;obtain ⟨x,hx⟩:∃ x,x=vs[k]:=⟨_,rfl⟩
    have hrg:=hc k x (by rw [List.getElem?_eq_getElem hlt,hx]);have hxo:aS x.1:=Hok.out x (by rw [hx];exact List.getElem_mem hlt);have hat2:mM vs k=(n0 x && !((vs.take k).any (ic x.1 x.2.1 x.2.2.1))):=by
     unfold mM;rw [List.getElem?_eq_getElem hlt,←hx]
    have Hno:mM vs k=false→Hid (lI vs=false):=fun h=>by
     show _=_
     rcases h2:lI vs with _ | _
     ·rfl
     ·rw [(mp.1 h2).2 k hlt] at h;cases h
    have Hrg:=Lib.hid hrg;have Hsz:=Lib.hid (kV hxo);have Hasz:=Lib.hid (fX hxo);have Hat2:=Lib.hid hat2;clear hc hrg hat2 hx;have hszr:w.heap.size≤wr.heap.size:=hbel.out.size;obtain ⟨W0,hW0⟩:∃ W0,W0=wr.alloc (.cells (aQ jN).toArray 108):=⟨_,rfl⟩
    have hX0:ah W0 wr.heap.size 108 (aQ jN).toArray:=by rw [hW0];exact ah.new _ _ _ _ rfl
    have Hth:Hid (W0.there wr.heap.size 0 (aQ x).toArray.size):=hX0.there (by rw [jv,List.size_toArray,dw hxo];decide);have HW0:=Lib.hid hW0;have HX0:=Lib.hid hX0;clear hW0 hX0;rw [jv] at HW0;go_upto_region 6 with (first
     | (refine aa (by rfl) 108 (.tmp 15) rfl b (o + k * 20) rfl (aQ x) _ Hrg.out Tryz.underlying108 rfl Hsz.out ?_)
     | (rw [←HW0.out]
        refine wpList_store_mid rfl 108 (.tmp 4) (.tmp 16) rfl wr.heap.size 0 (aQ x).toArray rfl rfl Hth.out Hsz.out (iK x) ?_))
    obtain ⟨W1,hW1⟩:∃ W1,W1=W0.setCells wr.heap.size 0 (aQ x):=⟨_,rfl⟩
    have hX1:ah W1 wr.heap.size 108 (aQ x).toArray:=by
     rw [hW1];have:=ah.setCells (aQ x) 0 HX0.out;rw [aW (by rw [dw hxo];rfl)] at this;exact this
    have hB1:Below w.heap.size w W1:=by rw [hW1,HW0.out];exact ba hszr _ _ (hbel.out.alloc hszr _)
    rw [←hW1];clear hW1 Hth HX0 HW0 Hrg;have hsz1:w.heap.size≤W1.heap.size:=hB1.size;have HX1:=Lib.hid hX1;have HB1:=Lib.hid hB1;have HR1:=Lib.hid (iJ hX1);have hs:=rM x.1 hxo W1;unfold lN at hs;have Hs:=Lib.hid hs;clear hX1 hB1 hs
    go_wp2_with (first
     | (refine aa (by rfl) 27 (.tmp 17) rfl wr.heap.size 0 rfl (ai x.1) _ HR1.out Tryz.underlying27 rfl Hasz.out ?_))
    refine Hs.out.mono ?_;rintro e w2 ⟨rfl,hb2⟩;have hX2:=ah.below HX1.out hb2 HX1.out.lt;have c17:w2.cell? ⟨wr.heap.size,17,none⟩=some (.int .i64 x.2.1):=em hxo hX2 0;have c18:w2.cell? ⟨wr.heap.size,18,none⟩=some (.int .i64 x.2.2.1):=em hxo hX2 1;have HX2:=Lib.hid hX2;have HB2:Hid (Below w.heap.size w w2):=HB1.out.trans (hb2.mono hsz1);clear hX2 hb2 Hs HR1 HX1 HB1;obtain ⟨⟨s6,l⟩,p,q,t⟩:=x;simp only at c17 c18;rcases hsh:dZ (s6,l) with _ | _
    ·have Hr:=Hno (by rw [Hat2.out];simp [n0,hsh])
     clear hsh Hno
     go_wp2
     go_ret
     exact ⟨by rw [Hr.out];rfl,HB2.out⟩
    ·by_cases hpp:¬ p=6∧¬ p=17
     ·have Hr:=Hno (by rw [Hat2.out];simp [n0,hsh,hpp.1,hpp.2])
      obtain ⟨hp6,hp17⟩:=hpp;have hp6b:(p != 6)=true:=by simp [hp6]
      have hp17b:(p != 17)=true:=by simp [hp17]
      clear hsh Hno
      go_wp2
      go_ret
      exact ⟨by rw [Hr.out];rfl,HB2.out⟩
     ·have hp:(p == 6 || p == 17)=true:=by
       by_cases h6:p=6
       ·simp [h6]
       ·by_cases h17:p=17
        ·simp [h17]
        ·exact absurd ⟨h6,h17⟩ hpp
      have hpn:(p != 6 && p != 17)=false:=by
       by_cases h6:p=6
       ·simp [h6]
       ·by_cases h17:p=17
        ·simp [h17]
        ·exact absurd ⟨h6,h17⟩ hpp
      have Hpp:=Lib.hid hpp;clear hpp;have Hp:=Lib.hid hp;clear hp hpn;have hcase:(p=6)∨(¬ p=6∧p=17):=by
       by_cases h6:p=6
       ·exact .inl h6
       ·by_cases h17:p=17
        ·exact .inr ⟨h6,h17⟩
        ·exact absurd ⟨h6,h17⟩ Hpp.out
      have Hsh:=Lib.hid hsh;clear hsh Hpp;have hsz2:w.heap.size≤w2.heap.size:=HB2.out.size;obtain ⟨F,hF⟩:∃ F,F=ig (s6,l) p q (vs.take k):=⟨_,rfl⟩
      have hFo:aS F.1.1:=by rw [hF];exact tB (fun v hv=>Hok.out v (List.mem_of_mem_take hv))
      have hFb:F.2=(vs.take k).any (ic (s6,l) p q):=by rw [hF];exact xH
      have HS:Hid (∀ w',Below w2.heap.size w2 w'→w'.cell? ⟨wr.heap.size,17,none⟩=some (.int .i64 p)∧w'.cell? ⟨wr.heap.size,18,none⟩=some (.int .i64 q)):=fun w' h=>by
       have hr:=ah.below HX2.out h HX2.out.lt;exact ⟨em (v:=((s6,l),p,q,t)) hxo hr 0,em (v:=((s6,l),p,q,t)) hxo hr 1⟩
      have HVF:Hid (∀ (cs:Array Value) w',cs[0]?=some (.slice (some ⟨b,o,none⟩) k c)→Below w2.heap.size w2 w'→Calls Tryz.prog 171 #[.agg cs,.agg (ai (s6,l)).toArray,.int .i64 p,.int .i64 q] w' fun e w''=>e=.returned (.tuple #[.agg (aQ F.1).toArray,.bool F.2])∧Below w'.heap.size w' w''):=fun cs w' hcs h=>by
       have:=Ea cs (some ⟨b,o,none⟩) k c hcs (vs.take k) (fun v hv=>Hok.out v (List.mem_of_mem_take hv)) (s6,l) hxo p q w' (by rw [List.length_take];omega) (((HV.out.below (HB2.out.trans (h.mono hsz2))).more (Nat.le_trans hsz2 h.size)).take k) (by omega);rw [←hF] at this;exact this
      have HRA:Hid (∀ w',Below w2.heap.size w2 w'→w'.rangeAt wr.heap.size 0 (ai (s6,l))):=fun w' h=>iJ (v:=((s6,l),p,q,t)) (ah.below HX2.out h HX2.out.lt)
      have HFsz:=Lib.hid (kV hFo);have HFl:Hid ((aQ F.1).toArray.size=20):=by show _=_;rw [List.size_toArray,dw hFo]
      have HFb:Hid (mM vs k=(qj q 1 65535 && !F.2)):=by
       show _=_
       rw [Hat2.out,hFb];simp only [n0,Hsh.out,Hp.out,Bool.true_and]
      have hkc:(k:Int)≤(c:Int):=by omega
      clear hF hFo hFb Hat2 Hp;rcases hcase with rfl | ⟨h6,rfl⟩
      all_goals
       go_wp2_with fail
       refine (fM q 1 65535 w2).mono ?_;rintro e w3 ⟨rfl,rfl⟩;rcases hq:qj q 1 65535 with _ | _
       ·have Hr:=Hno (by rw [HFb.out];simp [hq])
        clear Hno hq
        go_wp2
        go_ret
        exact ⟨by rw [Hr.out];rfl,HB2.out⟩
       ·have Hq:=Lib.hid hq
        clear hq
        go_wp2_with fail
        refine wp_region_noPanic ?_;refine wp_region_held_drew (S:=fun w'=>Below w2.heap.size w2 w') (by kernel_rfl) ((Below.refl _ _).drew) (fun hHeld=>?_);refine wpAnyH_take (i:=0) (v:=?_) rfl (by kernel_rfl) (by kernel_rfl) (by kernel_rfl) (fun _ _ _ h=>h) (Or.inl ⟨by rfl,?_⟩) hHeld ?_;rotate_left
        ·intro w' hSw
         skip
         go_simp
         try with_reducible rfl
        simp only [Act.put,List.getElem_toArray,List.getElem_cons_succ,List.getElem_cons_zero,List.setIfInBounds_toArray,List.set_cons_zero,List.set_cons_succ];refine wpAnyH_take (i:=1) (v:=?_) rfl (by kernel_rfl) (by kernel_rfl) (by kernel_rfl) (fun _ _ _ h=>h) (Or.inl ⟨by rfl,?_⟩) hHeld ?_;rotate_left
        ·intro w' hSw
         skip
         go_simp
         try with_reducible rfl
        simp only [Act.put,List.getElem_toArray,List.getElem_cons_succ,List.getElem_cons_zero,List.setIfInBounds_toArray,List.set_cons_zero,List.set_cons_succ];refine wpAnyH_take (i:=2) (v:=?_) rfl (by kernel_rfl) (by kernel_rfl) (by kernel_rfl) (fun _ _ _ h=>h) (Or.inl ⟨by rfl,?_⟩) hHeld ?_;rotate_left
        ·intro w' hSw
         skip
         go_simp
         try with_reducible rfl
        simp only [Act.put,List.getElem_toArray,List.getElem_cons_succ,List.getElem_cons_zero,List.setIfInBounds_toArray,List.set_cons_zero,List.set_cons_succ];refine wpAnyH_take (i:=3) (v:=?_) rfl (by kernel_rfl) (by kernel_rfl) (by kernel_rfl) (fun _ _ _ h=>h) (Or.inl ⟨by rfl,?_⟩) hHeld ?_;rotate_left
        ·intro w' hSw
         skip
         go_simp
         try with_reducible rfl
        simp only [Act.put,List.getElem_toArray,List.getElem_cons_succ,List.getElem_cons_zero,List.setIfInBounds_toArray,List.set_cons_zero,List.set_cons_succ];refine wpAnyH_take (i:=4) (v:=?_) rfl (by kernel_rfl) (by kernel_rfl) (by kernel_rfl) (fun _ _ _ h=>h) (Or.inl ⟨by rfl,?_⟩) hHeld ?_;rotate_left
        ·intro w' hSw
         skip
         go_simp
         try with_reducible rfl
        simp only [Act.put,List.getElem_toArray,List.getElem_cons_succ,List.getElem_cons_zero,List.setIfInBounds_toArray,List.set_cons_zero,List.set_cons_succ];refine wpAnyH_take (i:=5) rfl (by kernel_rfl) (by kernel_rfl) (by kernel_rfl) (fun _ _ _ h=>h) (yieldsIf_load_mid (by rfl) 27 (.tmp 42) rfl (wr.heap.size) (0) rfl (ai (s6,l)) _ (HRA.out) Tryz.underlying27 rfl Hasz.out) hHeld ?_;simp only [Act.put,List.getElem_toArray,List.getElem_cons_succ,List.getElem_cons_zero,List.setIfInBounds_toArray,List.set_cons_zero,List.set_cons_succ];refine wpAnyH_take (i:=6) (v:=?_) rfl (by kernel_rfl) (by kernel_rfl) (by kernel_rfl) (fun _ _ _ h=>h) (Or.inl ⟨by rfl,?_⟩) hHeld ?_;rotate_left
        ·intro w' hSw
         skip
         go_simp
         try with_reducible rfl
        simp only [Act.put,List.getElem_toArray,List.getElem_cons_succ,List.getElem_cons_zero,List.setIfInBounds_toArray,List.set_cons_zero,List.set_cons_succ];refine wpAnyH_take (i:=7) (v:=?_) rfl (by kernel_rfl) (by kernel_rfl) (by kernel_rfl) (fun _ _ _ h=>h) (Or.inl ⟨by rfl,?_⟩) hHeld ?_;rotate_left
        ·intro w' hSw
         obtain ⟨h17',h18'⟩:=HS.out w' hSw;go_simp
         try with_reducible rfl
        simp only [Act.put,List.getElem_toArray,List.getElem_cons_succ,List.getElem_cons_zero,List.setIfInBounds_toArray,List.set_cons_zero,List.set_cons_succ];refine wpAnyH_take (i:=8) (v:=?_) rfl (by kernel_rfl) (by kernel_rfl) (by kernel_rfl) (fun _ _ _ h=>h) (Or.inl ⟨by rfl,?_⟩) hHeld ?_;rotate_left
        ·intro w' hSw
         skip
         go_simp
         try with_reducible rfl
        simp only [Act.put,List.getElem_toArray,List.getElem_cons_succ,List.getElem_cons_zero,List.setIfInBounds_toArray,List.set_cons_zero,List.set_cons_succ];refine wpAnyH_take (i:=9) (v:=?_) rfl (by kernel_rfl) (by kernel_rfl) (by kernel_rfl) (fun _ _ _ h=>h) (Or.inl ⟨by rfl,?_⟩) hHeld ?_;rotate_left
        ·intro w' hSw
         obtain ⟨h17',h18'⟩:=HS.out w' hSw;go_simp
         try with_reducible rfl
        simp only [Act.put,List.getElem_toArray,List.getElem_cons_succ,List.getElem_cons_zero,List.setIfInBounds_toArray,List.set_cons_zero,List.set_cons_succ];refine wpAnyH_ready (rs:=[10,14]) (by kernel_rfl) (by simp) ?_;refine AllReadyH.cons (i:=10) rfl (fun K hK=>?_) ?_
        ·go_simp
         refine (HVF.out _ _ rfl hHeld).mono ?_;rintro e w3 ⟨rfl,hb3⟩;have hBehind:=hHeld.trans (hb3.mono hHeld.size)
         go_wp2_with fail
         refine hK.out _ _ hBehind (fun hHeld=>?_);clear hK K
         try simp only [Act.put,List.getElem_toArray,List.getElem_cons_succ,List.getElem_cons_zero,List.setIfInBounds_toArray,List.set_cons_zero,List.set_cons_succ]
         refine wpAnyH_take (i:=11) (v:=?_) rfl (by kernel_rfl) (by kernel_rfl) (by kernel_rfl) (fun _ _ _ h=>h) (Or.inl ⟨by rfl,?_⟩) hHeld ?_;rotate_left
         ·intro w' hSw
          skip
          go_simp
          try with_reducible rfl
         simp only [Act.put,List.getElem_toArray,List.getElem_cons_succ,List.getElem_cons_zero,List.setIfInBounds_toArray,List.set_cons_zero,List.set_cons_succ];refine wpAnyH_take (i:=12) (v:=?_) rfl (by kernel_rfl) (by kernel_rfl) (by kernel_rfl) (fun _ _ _ h=>h) (Or.inl ⟨by rfl,?_⟩) hHeld ?_;rotate_left
         ·intro w' hSw
          skip
          go_simp
          try with_reducible rfl
         simp only [Act.put,List.getElem_toArray,List.getElem_cons_succ,List.getElem_cons_zero,List.setIfInBounds_toArray,List.set_cons_zero,List.set_cons_succ];refine wpAnyH_take (i:=13) (v:=?_) rfl (by kernel_rfl) (by kernel_rfl) (by kernel_rfl) (fun _ _ _ h=>h) (Or.inl ⟨by rfl,?_⟩) hHeld ?_;rotate_left
         ·intro w' hSw
          skip
          go_simp
          try with_reducible rfl
         simp only [Act.put,List.getElem_toArray,List.getElem_cons_succ,List.getElem_cons_zero,List.setIfInBounds_toArray,List.set_cons_zero,List.set_cons_succ];refine wpAnyH_ready (rs:=[14]) (by kernel_rfl) (by simp) ?_;refine AllReadyH.cons (i:=14) rfl (fun K hK=>?_) ?_
         ·go_simp
          refine hK.out _ _ (hHeld.alloc (by have:=hHeld.size;omega) _) (fun hHeld=>?_);clear hK K
          try simp only [Act.put,List.getElem_toArray,List.getElem_cons_succ,List.getElem_cons_zero,List.setIfInBounds_toArray,List.set_cons_zero,List.set_cons_succ]
          refine wpAnyH_ready (rs:=[15]) (by kernel_rfl) (by simp) ?_;refine AllReadyH.cons (i:=15) rfl (fun K hK=>?_) ?_
          ·rw [if_pos (by rfl)]
           refine wp_store_mid _ _ _ rfl (w3.heap.size) (0) (aQ F.1).toArray rfl rfl (by rw [HFl.out];exact ah.there (o:=0) (n:=20) (ah.new w3 108 _ _ rfl) (by decide)) (HFsz.out) (iK _) ?_;refine hK.out _ _ (ba (by have:=hb3.size;simp at this ⊢;omega) _ _ hHeld) (fun hHeld=>?_);clear hK K
           try simp only [Act.put,List.getElem_toArray,List.getElem_cons_succ,List.getElem_cons_zero,List.setIfInBounds_toArray,List.set_cons_zero,List.set_cons_succ]
           refine wpAnyH_take (i:=16) (v:=?_) rfl (by kernel_rfl) (by kernel_rfl) (by kernel_rfl) (fun _ _ _ h=>h) (Or.inl ⟨by rfl,?_⟩) hHeld ?_;rotate_left
           ·intro w' hSw
            skip
            go_simp
            try with_reducible rfl
           simp only [Act.put,List.getElem_toArray,List.getElem_cons_succ,List.getElem_cons_zero,List.setIfInBounds_toArray,List.set_cons_zero,List.set_cons_succ];refine wpAnyH_done (by kernel_rfl) ?_ _;refine NoPanic.normal ?_;have HBe:Hid (Below w.heap.size w _):=HB2.out.trans (hHeld.mono hsz2);rcases hF2:F.2 with _ | _
           ·have Hat3:Hid (∀ j,j<k + 1→mM vs j=true):=fun j hj=>by
             rcases Nat.lt_or_ge j k with h1 | h1
             ·exact hat.out j h1
             ·obtain rfl:j=k:=by omega
              rw [HFb.out,hF2,Hq.out];rfl
            clear hF2 Hno hat hHeld HS HVF HRA HFb
            go_wp2
            go_roundw
            case rel=>exact ⟨k + 1,by omega,by go_num,HBe,Hat3⟩
            case measure=>simp [intOf];omega
           ·have Hr:=Hno (by rw [HFb.out,hF2];simp)
            clear hF2 Hno hat hHeld HS HVF HRA HFb
            go_wp2
            go_ret
            exact ⟨by rw [Hr.out];rfl,HBe.out⟩
          exact AllReadyH.nil
         exact AllReadyH.nil
        refine AllReadyH.cons (i:=14) rfl (fun K hK=>?_) ?_
        ·go_simp
         refine hK.out _ _ (hHeld.alloc (by have:=hHeld.size;omega) _) (fun hHeld=>?_);clear hK K
         try simp only [Act.put,List.getElem_toArray,List.getElem_cons_succ,List.getElem_cons_zero,List.setIfInBounds_toArray,List.set_cons_zero,List.set_cons_succ]
         have hN:=fun z=>ah.new w2.drew 108 z w2.heap.size rfl
         refine wpAnyH_ready (rs:=[10]) (by kernel_rfl) (by simp) ?_;refine AllReadyH.cons (i:=10) rfl (fun K hK=>?_) ?_
         ·go_simp
          refine (HVF.out _ _ rfl hHeld).mono ?_;rintro e w3 ⟨rfl,hb3⟩;have hBehind:=hHeld.trans (hb3.mono hHeld.size);have hN3:=ah.below (hN _) hb3 (ah.lt (hN _))
          go_wp2_with fail
          refine hK.out _ _ hBehind (fun hHeld=>?_);clear hK K
          try simp only [Act.put,List.getElem_toArray,List.getElem_cons_succ,List.getElem_cons_zero,List.setIfInBounds_toArray,List.set_cons_zero,List.set_cons_succ]
          refine wpAnyH_take (i:=11) (v:=?_) rfl (by kernel_rfl) (by kernel_rfl) (by kernel_rfl) (fun _ _ _ h=>h) (Or.inl ⟨by rfl,?_⟩) hHeld ?_;rotate_left
          ·intro w' hSw
           skip
           go_simp
           try with_reducible rfl
          simp only [Act.put,List.getElem_toArray,List.getElem_cons_succ,List.getElem_cons_zero,List.setIfInBounds_toArray,List.set_cons_zero,List.set_cons_succ];refine wpAnyH_take (i:=12) (v:=?_) rfl (by kernel_rfl) (by kernel_rfl) (by kernel_rfl) (fun _ _ _ h=>h) (Or.inl ⟨by rfl,?_⟩) hHeld ?_;rotate_left
          ·intro w' hSw
           skip
           go_simp
           try with_reducible rfl
          simp only [Act.put,List.getElem_toArray,List.getElem_cons_succ,List.getElem_cons_zero,List.setIfInBounds_toArray,List.set_cons_zero,List.set_cons_succ];refine wpAnyH_take (i:=13) (v:=?_) rfl (by kernel_rfl) (by kernel_rfl) (by kernel_rfl) (fun _ _ _ h=>h) (Or.inl ⟨by rfl,?_⟩) hHeld ?_;rotate_left
          ·intro w' hSw
           skip
           go_simp
           try with_reducible rfl
          simp only [Act.put,List.getElem_toArray,List.getElem_cons_succ,List.getElem_cons_zero,List.setIfInBounds_toArray,List.set_cons_zero,List.set_cons_succ];refine wpAnyH_ready (rs:=[15]) (by kernel_rfl) (by simp) ?_;refine AllReadyH.cons (i:=15) rfl (fun K hK=>?_) ?_
          ·rw [if_pos (by rfl)]
           refine wp_store_mid _ _ _ rfl (w2.heap.size) (0) (aQ F.1).toArray rfl rfl (by rw [HFl.out];exact hN3.there (by decide)) (HFsz.out) (iK _) ?_;refine hK.out _ _ (ba (Nat.le_refl _) _ _ hHeld) (fun hHeld=>?_);clear hK K
           try simp only [Act.put,List.getElem_toArray,List.getElem_cons_succ,List.getElem_cons_zero,List.setIfInBounds_toArray,List.set_cons_zero,List.set_cons_succ]
           refine wpAnyH_take (i:=16) (v:=?_) rfl (by kernel_rfl) (by kernel_rfl) (by kernel_rfl) (fun _ _ _ h=>h) (Or.inl ⟨by rfl,?_⟩) hHeld ?_;rotate_left
           ·intro w' hSw
            skip
            go_simp
            try with_reducible rfl
           simp only [Act.put,List.getElem_toArray,List.getElem_cons_succ,List.getElem_cons_zero,List.setIfInBounds_toArray,List.set_cons_zero,List.set_cons_succ];refine wpAnyH_done (by kernel_rfl) ?_ _;refine NoPanic.normal ?_;have HBe:Hid (Below w.heap.size w _):=HB2.out.trans (hHeld.mono hsz2);rcases hF2:F.2 with _ | _
           ·have Hat3:Hid (∀ j,j<k + 1→mM vs j=true):=fun j hj=>by
             rcases Nat.lt_or_ge j k with h1 | h1
             ·exact hat.out j h1
             ·obtain rfl:j=k:=by omega
              rw [HFb.out,hF2,Hq.out];rfl
            clear hF2 Hno hat hHeld HS HVF HRA HFb
            go_wp2
            go_roundw
            case rel=>exact ⟨k + 1,by omega,by go_num,HBe,Hat3⟩
            case measure=>simp [intOf];omega
           ·have Hr:=Hno (by rw [HFb.out,hF2];simp)
            clear hF2 Hno hat hHeld HS HVF HRA HFb
            go_wp2
            go_ret
            exact ⟨by rw [Hr.out];rfl,HBe.out⟩
          exact AllReadyH.nil
         exact AllReadyH.nil
        exact AllReadyH.nil
   ·have hltI:¬ (k:Int)<(vs.length:Int):=by omega
    have Hr:Hid (lI vs=true):=mp.2 ⟨by omega,fun i hi=>hat.out i (by omega)⟩
    go_wp2
    go_ret
    exact ⟨by rw [Hr.out];rfl,hbel.out⟩
end Go.Proofs.YtaafkokfdgfabaaGreat
namespace Go.Proofs.YtaafkokfdgfabaaGreat
open Go.RowKit
set_option linter.unusedVariables false
set_option linter.unusedSimpArgs false
theorem gZ (w:World):(sizeOf 3).run Tryz.prog w=.ok 1 w:=by
 obtain ⟨i,hi⟩:=info_of_underlying Tryz.underlying3;rw [run_sizeOf w hi,show Tryz.prog.cellsOf 3=1 by kernel_rfl]
theorem AR:(Tryz.prog.info? 23).map (·.size)=some 6:=by kernel_rfl
theorem Eu {f:bc} (h:ak f):(Tryz.prog.info? 23).map (·.size)=some (f.idle.map iv).length:=by rw [List.length_map,h.idle];exact AR
theorem Dl {l:List Int} {k:Nat} {z:Int} (h:l[k]?=some z) (hz:z<0∨1000000<z∨k=0∧z≠0):n8 l=false:=by
 rcases hb:n8 l with _ | _
 ·rfl
 ·obtain ⟨h1,h2⟩:=jn hb
  have hm:=List.mem_of_getElem? h;have:=h2 z hm;rcases hz with hz | hz | ⟨rfl,hz⟩
  ·omega
  ·omega
  ·rw [List.head?_eq_getElem?,h] at h1
   injection h1 with h1
   exact absurd h1 hz
theorem AS {l:List Int} (h:∀ (j:Nat) (z:Int),l[j]?=some z→0≤z∧z≤1000000∧(j=0→z=0)) (hl:0<l.length):n8 l=true:=by
 unfold n8;simp only [Bool.and_eq_true,beq_iff_eq,List.all_eq_true];constructor
 ·rw [List.head?_eq_getElem?,List.getElem?_eq_getElem hl]
  rw [(h 0 _ (List.getElem?_eq_getElem hl)).2.2 rfl]
 ·intro z hz
  obtain ⟨j,hj,rfl⟩:=List.getElem_of_mem hz;have:=h j _ (List.getElem?_eq_getElem hj);exact n9.2 ⟨this.1,this.2.1⟩
set_option maxRecDepth 100000 in
theorem pl (A:Option Addr) (n c:Nat) (f:bc) (hs:ak f) (w:World) (hn:n=f.vips.length) (hnc:n≤c) (hb:VS w w.heap.size A f.vips) (hl:n≤1000000) :
  Calls Tryz.prog 59 #[jx A n c f] w fun e w'=>e=.returned (.bool (bH f))∧Below w.heap.size w w':=by
 subst hn;unfold jx;have HV:=Lib.hid hb;have Hs:=Lib.hid hs;obtain ⟨W,hW⟩:∃ W,W=w.alloc (.cells (aj A f.vips.length c f).toArray 29):=⟨_,rfl⟩
 have hX:ah W w.heap.size 29 (aj A f.vips.length c f).toArray:=by rw [hW];exact ah.new w _ _ _ rfl
 have hB:Below w.heap.size w W:=by rw [hW];exact (Below.refl _ _).alloc (Nat.le_refl _) _
 have HR3:=Lib.hid (ql hX hs);have Hisz:=Lib.hid (Eu hs);have HW:=Lib.hid hW;have HX:=Lib.hid hX;have HB:=Lib.hid hB;clear hW hX hB hb;go_enter Tryz.func59,Tryz.ntmps59
 go_upto_region 1 with fail
 rw [←HW.out]
 go_wp2_with (first
  | (refine aa (by rfl) 23 (.tmp 5) rfl w.heap.size 3 rfl (f.idle.map iv) _ HR3.out Tryz.underlying23 rfl Hisz.out ?_))
 go_loopw [7] (fun i wr=>∃ k:Nat,k≤6∧i=.int .i64 (k:Int)∧W=wr∧Hid (∀ j z,j<k→f.idle[j]?=some z→0≤z∧z≤1000000∧(j=0→z=0))) (fun i _=>6 - (intOf i).toNat)
 case atStart=>exact ⟨0,by omega,rfl,rfl,fun j z hj=>by omega⟩
 case round =>
  obtain ⟨k,hk,rfl,rfl,hat⟩:=hrel;by_cases hlt:k<6
  ·have hltI:(k:Int)<6:=by omega
   have hk0:(0:Int)≤(k:Int):=by omega
   have hkl:k<f.idle.length:=by rw [hs.idle];exact hlt
   obtain ⟨z,hz⟩:∃ z,f.idle[k]?=some z:=⟨_,List.getElem?_eq_getElem hkl⟩
   have hcell:(f.idle.map iv)[k]?=some (.int .i64 z):=by rw [List.getElem?_map,hz];rfl
   have hidl:f.idle.length=6:=hs.idle;have Hno:z<0∨1000000<z∨k=0∧z≠0→Hid (bH f=false):=fun h=>by
    show _=_
    unfold bH;rw [Dl hz h];rfl
   have Hz:=Lib.hid hz;clear hz;have hz2:(f.idle.map iv).toArray[k]?=some (.int .i64 z):=by rw [List.getElem?_toArray];exact hcell
   have Hz2:=Lib.hid hz2;clear hcell hz2;have hcase:¬ (z<0∨1000000<z∨k=0∧z≠0)→Hid (∀ j y,j<k + 1→f.idle[j]?=some y→0≤y∧y≤1000000∧(j=0→y=0)):=fun h j y hj hy=>by
    rcases Nat.lt_or_ge j k with h1 | h1
    ·exact hat.out j y h1 hy
    ·obtain rfl:j=k:=by omega
     rw [Hz.out] at hy;injection hy with hy
     subst hy;refine ⟨by omega,by omega,fun h0=>?_⟩;by_cases hy0:z=0
     ·exact hy0
     ·exact absurd (.inr (.inr ⟨h0,hy0⟩)) h
   by_cases h1:z<0
   ·have Hr:=Hno (.inl h1)
    clear Hno hcase
    go_wp2_with (first | (refine eW (by rfl) 23 3 6 .i64 (.tmp 6) (.tmp 7) rfl _ k (.int .i64 z) rfl rfl Tryz.underlying23 Tryz.underlying3 (gZ _) hlt Hz2.out ?_))
    go_ret
    exact ⟨by rw [Hr.out];rfl,HB.out⟩
   ·by_cases h2:1000000<z
    ·have Hr:=Hno (.inr (.inl h2))
     clear Hno hcase
     go_wp2_with (first | (refine eW (by rfl) 23 3 6 .i64 (.tmp 6) (.tmp 7) rfl _ k (.int .i64 z) rfl rfl Tryz.underlying23 Tryz.underlying3 (gZ _) hlt Hz2.out ?_))
     go_ret
     exact ⟨by rw [Hr.out];rfl,HB.out⟩
    ·by_cases h3:k=0
     ·by_cases h4:z=0
      ·have Hat2:=hcase (by omega)
       have h3I:(k:Int)=0:=by omega
       clear Hno hcase hat
       go_wp2_with (first | (refine eW (by rfl) 23 3 6 .i64 (.tmp 6) (.tmp 7) rfl _ k (.int .i64 z) rfl rfl Tryz.underlying23 Tryz.underlying3 (gZ _) hlt Hz2.out ?_))
       go_roundw
       case rel=>exact ⟨k + 1,by omega,by go_num,trivial,Hat2⟩
       case measure=>simp [intOf];omega
      ·have Hr:=Hno (.inr (.inr ⟨h3,h4⟩))
       have h3I:(k:Int)=0:=by omega
       clear Hno hcase hat
       go_wp2_with (first | (refine eW (by rfl) 23 3 6 .i64 (.tmp 6) (.tmp 7) rfl _ k (.int .i64 z) rfl rfl Tryz.underlying23 Tryz.underlying3 (gZ _) hlt Hz2.out ?_))
       go_ret
       exact ⟨by rw [Hr.out];rfl,HB.out⟩
     ·have Hat2:=hcase (by omega)
      have h3I:¬ (k:Int)=0:=by omega
      clear Hno hcase hat
      go_wp2_with (first | (refine eW (by rfl) 23 3 6 .i64 (.tmp 6) (.tmp 7) rfl _ k (.int .i64 z) rfl rfl Tryz.underlying23 Tryz.underlying3 (gZ _) hlt Hz2.out ?_))
      go_roundw
      case rel=>exact ⟨k + 1,by omega,by go_num,trivial,Hat2⟩
      case measure=>simp [intOf];omega
  ·have hltI:¬ (k:Int)<6:=by omega
   have HI:Hid (n8 f.idle=true):=AS (fun j z hz=>hat.out j z (by have:=(List.getElem?_eq_some_iff.1 hz).1;have:=hs.idle;omega) hz) (by rw [hs.idle];decide);have c0:W.cell? ⟨w.heap.size,0,none⟩=some (.slice A f.vips.length c):=lH HX.out;have Hvips:=Lib.hid (Dk A _ c f.vips hs.vips W rfl hnc ((HV.out.below HB.out).more HB.out.size) hl);clear hat hlt
   go_wp2_with fail
   refine Hvips.out.mono ?_;rintro e w2 ⟨rfl,hb2⟩;rcases h1:lI f.vips with _ | _
   ·have Hr:Hid (bH f=false):=by show _=_;simp only [bH,h1,Bool.false_and,Bool.and_false]
    clear h1
    go_wp2
    go_ret
    exact ⟨by rw [Hr.out];rfl,HB.out.trans (hb2.mono HB.out.size)⟩
   ·have H1:=Lib.hid h1
    have hX2:=ah.below HX.out hb2 HX.out.lt;have cs:=nT hX2;have cr:=nU hX2;have ci:=nV hX2 hs;have cf:=nW hX2 hs;have c4:=Cu hX2 hs;have HR4:=Lib.hid (nX hX2 hs);have Hasz:=Lib.hid (fX hs.four);have HB2:Hid (Below w.heap.size w w2):=HB.out.trans (hb2.mono HB.out.size);have HX2:=Lib.hid hX2;clear hX2 hb2 h1 Hvips c0
    go_wp2_with fail
    refine (fM f.size 2 65537 w2).mono ?_;rintro e wz ⟨rfl,rfl⟩;rcases h2:qj f.size 2 65537 with _ | _
    ·have Hr:Hid (bH f=false):=by show _=_;simp only [bH,h2,Bool.false_and,Bool.and_false]
     clear h2
     go_wp2
     go_ret
     exact ⟨by rw [Hr.out];rfl,HB2.out⟩
    ·have H2:=Lib.hid h2
     have hsz:=n9.1 h2;have hp:=zS f.size.toNat w2 (by omega);rw [Int.toNat_of_nonneg (by omega)] at hp;have Hp:=Lib.hid hp;clear h2 hp hsz
     go_wp2_with fail
     refine Hp.out.mono ?_;rintro e wz ⟨rfl,rfl⟩;rcases h3:ka f.size.toNat with _ | _
     ·have Hr:Hid (bH f=false):=by show _=_;simp only [bH,h3,Bool.false_and,Bool.and_false]
      clear h3
      go_wp2
      go_ret
      exact ⟨by rw [Hr.out];rfl,HB2.out⟩
     ·have H3:=Lib.hid h3
      clear h3 Hp
      go_wp2_with fail
      refine (fM f.room 1 4096 w2).mono ?_;rintro e wz ⟨rfl,rfl⟩;rcases h4:qj f.room 1 4096 with _ | _
      ·have Hr:Hid (bH f=false):=by show _=_;simp only [bH,h4,Bool.false_and,Bool.and_false]
       clear h4
       go_wp2
       go_ret
       exact ⟨by rw [Hr.out];rfl,HB2.out⟩
      ·have H4:=Lib.hid h4
       clear h4
       go_wp2_with fail
       refine (fM f.rise 1 100 w2).mono ?_;rintro e wz ⟨rfl,rfl⟩;rcases h5:qj f.rise 1 100 with _ | _
       ·have Hr:Hid (bH f=false):=by show _=_;simp only [bH,h5,Bool.false_and,Bool.and_false]
        clear h5
        go_wp2
        go_ret
        exact ⟨by rw [Hr.out];rfl,HB2.out⟩
       ·have H5:=Lib.hid h5
        clear h5
        go_wp2_with fail
        refine (fM f.fall 1 100 w2).mono ?_;rintro e wz ⟨rfl,rfl⟩;rcases h6:qj f.fall 1 100 with _ | _
        ·have Hr:Hid (bH f=false):=by show _=_;simp only [bH,h6,Bool.false_and,Bool.and_false]
         clear h6
         go_wp2
         go_ret
         exact ⟨by rw [Hr.out];rfl,HB2.out⟩
        ·have H6:=Lib.hid h6
         clear h6;rcases h7:f.four.1 with _ | _
         rotate_left
         ·rw [h7] at c4
          have Hr:Hid (bH f=false):=by show _=_;simp only [bH,h7,Bool.not_true,Bool.false_and,Bool.and_false]
          clear h7
          go_wp2
          go_ret
          exact ⟨by rw [Hr.out];rfl,HB2.out⟩
         ·rw [h7] at c4
          have H7:=Lib.hid h7;have hsh:=rM f.four hs.four w2;unfold lN at hsh;have Hsh:=Lib.hid hsh;clear h7 hsh
          go_wp2_with (first | (refine aa (by rfl) 27 (.tmp 61) rfl w.heap.size 17 rfl (ai f.four) _ HR4.out Tryz.underlying27 rfl Hasz.out ?_))
          refine Hsh.out.mono ?_;rintro e w3 ⟨rfl,hb3⟩;rcases h8:dZ f.four with _ | _
          ·have Hr:Hid (bH f=false):=by show _=_;simp only [bH,h8,Bool.false_and,Bool.and_false]
           clear h8
           go_wp2
           go_ret
           exact ⟨by rw [Hr.out];rfl,HB2.out.trans (hb3.mono HB2.out.size)⟩
          ·have H8:=Lib.hid h8
           have hX3:=ah.below HX2.out hb3 HX2.out.lt;have c6:=yH hX3 hs;have cm:=nY hX3 hs;have ck:=nZ hX3 hs;have cb:=lR hX3 hs;have HB3:Hid (Below w.heap.size w w3):=HB2.out.trans (hb3.mono HB2.out.size);clear h8 hX3 hb3 cs cr ci cf c4 Hsh;rcases h9:f.six.1 with _ | _
           ·rw [h9] at c6
            have Hr:Hid (bH f=false):=by show _=_;simp only [bH,h9,Bool.false_and,Bool.and_false]
            clear h9
            go_wp2
            go_ret
            exact ⟨by rw [Hr.out];rfl,HB3.out⟩
           ·rw [h9] at c6
            have H9:=Lib.hid h9;clear h9
            go_wp2_with fail
            refine (fM f.most 1000 1048576 w3).mono ?_;rintro e wz ⟨rfl,rfl⟩;rcases h10:qj f.most 1000 1048576 with _ | _
            ·have Hr:Hid (bH f=false):=by show _=_;simp only [bH,h10,Bool.false_and,Bool.and_false]
             clear h10
             go_wp2
             go_ret
             exact ⟨by rw [Hr.out];rfl,HB3.out⟩
            ·have H10:=Lib.hid h10
             clear h10
             go_wp2_with fail
             refine (fM f.keep 1 100 w3).mono ?_;rintro e wz ⟨rfl,rfl⟩;rcases h11:qj f.keep 1 100 with _ | _
             ·have Hr:Hid (bH f=false):=by show _=_;simp only [bH,h11,Bool.false_and,Bool.and_false]
              clear h11
              go_wp2
              go_ret
              exact ⟨by rw [Hr.out];rfl,HB3.out⟩
             ·have H11:=Lib.hid h11
              clear h11
              go_wp2_with fail
              refine (fM f.batch 1 1000 w3).mono ?_;rintro e wz ⟨rfl,rfl⟩;rcases h12:qj f.batch 1 1000 with _ | _
              ·have Hr:Hid (bH f=false):=by show _=_;simp only [bH,h12,Bool.false_and,Bool.and_false]
               clear h12
               go_wp2
               go_ret
               exact ⟨by rw [Hr.out];rfl,HB3.out⟩
              ·have H12:=Lib.hid h12
               clear h12;have Hr:Hid (bH f=true):=by show _=_;simp only [bH,HI.out,H1.out,H2.out,H3.out,H4.out,H5.out,H6.out,H7.out,H8.out,H9.out,H10.out,H11.out,H12.out];rfl
               go_wp2
               go_ret
               exact ⟨by rw [Hr.out];rfl,HB3.out⟩
end Go.Proofs.YtaafkokfdgfabaaGreat
namespace Go.Proofs.YtaafkokfdgfabaaGreat
open Go.RowKit
set_option linter.unusedVariables false
set_option linter.unusedSimpArgs false
def xQ (vs:List ct):List Value:=vs.flatMap aQ
theorem EE {vs:List ct} (h:∀ v ∈ vs,aS v.1) {j:Nat} {v:ct} (hj:vs[j]?=some v) {i:Nat} {u:Value} (hi:(aQ v)[i]?=some u):(xQ vs)[j * 20 + i]?=some u:=by
 induction vs generalizing j with
 | nil=>simp at hj
 | cons x xs ih =>
  have hx:=dw (h x (by simp));rw [xQ,List.flatMap_cons];rcases j with _ | j
  ·simp only [List.getElem?_cons_zero,Option.some.injEq] at hj
   subst hj;rw [Nat.zero_mul,Nat.zero_add,List.getElem?_append_left (List.getElem?_eq_some_iff.1 hi).1];exact hi
  ·rw [List.getElem?_cons_succ] at hj
   have:=ih (fun u hu=>h u (by simp [hu])) hj;rw [List.getElem?_append_right (by rw [hx];omega),hx,show (j + 1) * 20 + i - 20=j * 20 + i by omega];exact this
def i8 (w:World) (base:Nat) (A:Option Addr) (c:Nat) (vs:List ct):Prop :=
 w.ownsRow base 108 20 (.slice A vs.length c) vs.length (xQ vs)∧∀ v ∈ vs,aS v.1
theorem i8.vs {w:World} {base:Nat} {A:Option Addr} {c:Nat} {vs:List ct} (h:i8 w base A c vs):VS w w.heap.size A vs:=fun hn=>by
 obtain ⟨g,cap,hv,_,hlt⟩:=h.1.form (by omega);have hA:A=some ⟨g,0,none⟩:=by injection hv
 subst hA;refine ⟨g,0,rfl,hlt,fun j v hj i u hu=>?_⟩;have:=h.1.cells (g:=g) rfl (j * 20 + i) u (EE h.2 hj hu);rw [Nat.zero_add];rw [show (⟨g,0,none⟩:Addr).add (j * 20 + i)=⟨g,j * 20 + i,none⟩ by unfold Addr.add;split <;> simp_all] at this;exact this
theorem i8.nil (w:World) (base:Nat):i8 w base none 0 []:=⟨World.ownsRow_nil _ _ _ _,by simp⟩
theorem i8.below {w w':World} {base:Nat} {A:Option Addr} {c:Nat} {vs:List ct} (h:i8 w base A c vs) (hb:Below w.heap.size w w'):i8 w' base A c vs:=⟨ay h.1 hb,h.2⟩
theorem i8.grown {w w':World} {base g:Nat} {A:Option Addr} {c:Nat} {vs:List ct} {t:TypeId} {cs:Array Value} (h:i8 w base A c vs) (hb:ah w g t cs) (ht:t≠108) (hg:w.grownBy w' (some g)):i8 w' base A c vs :=
 ⟨h.1.kept hg (aK h.1 hb ht),h.2⟩
theorem Bf:(Tryz.prog.info? 108).map (fun i=>(i.zero.map (fun z=>z.cells.size),i.size,i.bytes))=some (some 20,20,48):=by kernel_rfl
section
variable {P:Program} {w:World}
theorem j5 {ops:Array Oper} {rest:List Oper} {o:Oper} {a:Act} {Q:Exit→Act→World→Prop} (hgd:o.guard=none) (s x:Operand) (t:TypeId)
  (ho:o.op=.call { callee:=.builtin .append,args:=#[s,x],argTypes:=#[t,t] })
  (base:Nat) (i:TypeInfo) (z:Value) (bytes:Nat) (ht:P.underlying t=some (.slice 108)) (hi:P.info? 108=some i) (hz:i.zero=some z)
  (hsize:i.size=20) (hby:i.bytes=bytes) (hzs:z.cells.size=20)
  (A:Option Addr) (c:Nat) (vs:List ct) (v:ct) (hv:aS v.1) (hs:a.eval s=.slice A vs.length c) (hown:i8 w base A c vs)
  (b c1:Nat) (hx:a.eval x=.slice (some ⟨b,0,none⟩) 1 c1) (hel:w.rangeAt b 0 (aQ v))
  (h63:vs.length + 1≤maxLen) (hbytes:(vs.length + 1) * bytes≤140737488355328) (hbase:base≤w.heap.size)
  (h:∀ A' c' w',i8 w' base A' c' (vs ++ [v])→w.grownBy w' (Value.slice A vs.length c).ownBlock→((Value.slice A' (vs.length + 1) c').ownBlock=(Value.slice A vs.length c).ownBlock∨(Value.slice A' (vs.length + 1) c').ownBlock=some w.heap.size)→wpList P ops Q rest (a.put o.dst (.slice A' (vs.length + 1) c')) w') :
  wpList P ops Q (o :: rest) a w:=by
 refine wpList_append_own_at (P:=P) w hgd s x t ho base 108 i z 20 bytes ht hi hz hsize hby hzs (by decide) _ vs.length (xQ vs) hs hown.1 ⟨b,0,none⟩ 1 c1 (aQ v) hx (by rw [dw hv]) (fun j u hj=>?_) ?_ h63 hbytes hbase ?_
 ·rw [show (⟨b,0,none⟩:Addr).add j=⟨b,0 + j,none⟩ by unfold Addr.add;split <;> simp_all]
  exact hel j u hj
 ·intro u hu
  have:=Array.all_eq_true_iff_forall_mem.1 (iK v) u (by simpa using hu);exact this
 ·intro v' w' h1 h2 _ h4
  obtain ⟨A',c',rfl,_⟩:=cE h1;refine h A' c' w' ⟨?_,?_⟩ h2 h4
  ·rw [List.length_append,show xQ (vs ++ [v])=xQ vs ++ aQ v by simp [xQ]]
   exact h1
  ·intro u hu
   rcases List.mem_append.1 hu with hu | hu
   ·exact hown.2 u hu
   ·simp only [List.mem_singleton] at hu
    rw [hu];exact hv
end
end Go.Proofs.YtaafkokfdgfabaaGreat
