import Derived.Test.YtaafkokfdgfabaaGreatP4
import Derived.Test.YtaafkokfdgfabaaGreatP16
import Derived.Test.YtaafkokfdgfabaaGreatP31
set_option maxHeartbeats 8000000
set_option maxRecDepth 100000
set_option linter.unusedVariables false
set_option linter.unusedSimpArgs false
open Bool renaming and_eq_true→IA
open List renaming replicate→Iz,getElem?_eq_getElem→IC,take_of_length_le→ID,length_take→IE
open Nat renaming reduceAdd→IB,pow_succ→IF,le_refl→IG
namespace Go.Proofs.YtaafkokfdgfabaaGreat
open Go.RowKit
open Lib (hid)
open Lib renaming trimSuffix→qq
open Tryz renaming prog→Iy
def Ip(n k:Nat):UInt8:=UInt8.ofNat (48+n/10^k%10)
def oD(n:Nat):Nat→List UInt8
 |0=>[]
 |k+1=>Ip n k::oD n k
theorem xw(n:Nat):∀k,(oD n k).length=k
 |0=>rfl
 |k+1=>by simp[oD,xw n k]
def nL(k:Nat):List UInt8:=if k=1 then [46,108,111,103] else [46,99,97,112]
def kW(n kind:Int):List UInt8×Bool:=if 0≤n∧n≤999999∧(kind=1∨kind=2) then (oD n.toNat 6++nL kind.toNat,true) else ([],false)
theorem Ay(w:World):(Instr.index 176 (.agg #[.string ⟨#[]⟩,.string ⟨#[46,108,111,103]⟩,.string ⟨#[46,99,97,112]⟩]) (.int .i64 1)).run Iy w=.ok (.string ⟨#[46,108,111,103]⟩) w ∧
  (Instr.index 176 (.agg #[.string ⟨#[]⟩,.string ⟨#[46,108,111,103]⟩,.string ⟨#[46,99,97,112]⟩]) (.int .i64 2)).run Iy w=.ok (.string ⟨#[46,99,97,112]⟩) w:=⟨by kernel_rfl,by kernel_rfl⟩
theorem xy(k:Nat)(hk:k=1∨k=2)(w:World):Calls Iy 52 #[.int .i64 (k:Int)] w fun e w'=>e=.returned (.string ⟨(nL k).toArray⟩)∧w=w':=by
 have h1:=(Ay w).1;have h2:=(Ay w).2;rcases hk with rfl|rfl
 ·show Calls Iy _ #[.int .i64 1] w fun e w'=>e=.returned (.string ⟨#[46,108,111,103]⟩)∧w=w'
  go_enter Tryz.func52,Tryz.ntmps52
  go_wp2
  go_ret
  exact⟨rfl,rfl⟩
 ·show Calls Iy _ #[.int .i64 2] w fun e w'=>e=.returned (.string ⟨#[46,99,97,112]⟩)∧w=w'
  go_enter Tryz.func52,Tryz.ntmps52
  go_wp2
  go_ret
  exact⟨rfl,rfl⟩
theorem pb{P:Program}{ops:Array Oper}{Q:Exit→Act→World→Prop}{W:World}{a:Act}{o:Oper}{v:Value}{k:Nat}{d:Tmp}(h:Sd P ops Q W (k+1) { a with tmps:=a.tmps.setIfInBounds d v })(hy:∀w,Below W.heap.size W w→(execOp a.eval o).run P w=.ok (.value v) w)(hi:ops[k]?=some o:=by rfl)(hd:o.dst=some d:=by rfl)(hw:Region.wanted o (yielded ops a.tmps)=true:=by rfl):Sd P ops Q W k a :=
 Sd.step (.inl ⟨hw,fun w hS=>by rw[hy w hS];exact⟨rfl,hS⟩⟩) (by rw[hd];exact h) hi
theorem oE(a b:List UInt8):((⟨a.toArray⟩:ByteArray)++(⟨b.toArray⟩:ByteArray))=⟨(a++b).toArray⟩:=by
 apply ByteArray.ext
 simp[ByteArray.data_append]
theorem Em(n k:Nat):n/10^k/10=n/10^(k+1):=by rw[Nat.div_div_eq_div_mul,IF]
theorem qy(n kind:Int)(w:World):Calls Iy 21 #[.int .i64 n,.int .i64 kind] w fun e w'=>e=.returned (.tuple #[.string ⟨(kW n kind).1.toArray⟩,.bool (kW n kind).2])∧Below w.heap.size w w':=by
 by_cases h0:0≤n
 rotate_left
 ·have hr:Hid (kW n kind=([],false)):=by show _=_;unfold kW;rw[if_neg (by omega)]
  have h1:n<0:=by omega
  go_enter Tryz.func21,Tryz.ntmps21
  go_wp2
  go_ret2
  exact⟨by rw[hr.out];rfl,Below.refl _ _⟩
 by_cases h9:n≤999999
 rotate_left
 ·have hr:Hid (kW n kind=([],false)):=by show _=_;unfold kW;rw[if_neg (by omega)]
  have h1:¬n<0:=by omega
  have h2:999999<n:=by omega
  go_enter Tryz.func21,Tryz.ntmps21
  go_wp2
  go_ret2
  exact⟨by rw[hr.out];rfl,Below.refl _ _⟩
 have q1:¬n<0:=by omega
 have q2:¬999999<n:=by omega
 by_cases hk1:1≤kind
 rotate_left
 ·have hr:Hid (kW n kind=([],false)):=by show _=_;unfold kW;rw[if_neg (by omega)]
  have h1:kind<1:=by omega
  go_enter Tryz.func21,Tryz.ntmps21
  go_wp2
  go_ret2
  exact⟨by rw[hr.out];rfl,Below.refl _ _⟩
 by_cases hk2:kind≤2
 rotate_left
 ·have hr:Hid (kW n kind=([],false)):=by show _=_;unfold kW;rw[if_neg (by omega)]
  have h1:¬kind<1:=by omega
  have h2:2<kind:=by omega
  go_enter Tryz.func21,Tryz.ntmps21
  go_wp2
  go_ret2
  exact⟨by rw[hr.out];rfl,Below.refl _ _⟩
 obtain⟨m,hm⟩:∃m:Nat,n=(m:Int):=⟨n.toNat,by omega⟩;obtain⟨kd,hkd⟩:∃k:Nat,kind=(k:Int):=⟨kind.toNat,by omega⟩;subst hm hkd;have hkk:kd=1∨kd=2:=by omega
 have hr:Hid (kW (m:Int) (kd:Int)=(oD m 6++nL kd,true)):=by show _=_;unfold kW;rw[if_pos (by omega)];simp
 have hm6:m≤999999:=by omega
 have q3:¬(kd:Int)<1:=by omega
 have q4:¬(2:Int)<(kd:Int):=by omega
 clear h0 h9 hk1 hk2;go_enter Tryz.func21,Tryz.ntmps21
 go_upto_region 4 with fail
 obtain⟨W,hW⟩:∃W,W=w.alloc (.cells #[.int .u8 0,.int .u8 0,.int .u8 0,.int .u8 0,.int .u8 0,.int .u8 0] 24):=⟨_,rfl⟩;rw[←hW];have HW:Hid (aj W w.heap.size 24 (ab (Iz (6-0) 0++oD m 0)).toArray):=by rw[hW];exact aj.new w _ _ _ rfl
 have HB:Hid (Below w.heap.size w W):=by rw[hW];exact (Below.refl _ _).alloc (IG _) _
 clear hW
 go_wp2
 go_loopw [0,22] (fun v i wr=>∃k:Nat,k≤6∧i=.int .i64 (k:Int)∧v=.int .i64 ((m/10^k:Nat):Int)∧Hid (aj wr w.heap.size 24 (ab (Iz (6-k) 0++oD m k)).toArray)∧Hid (Below w.heap.size w wr)) (fun _ i _=>6-(intOf i).toNat)
 case atStart=>exact⟨0,by omega,rfl,by simp,HW,HB⟩
 case round =>
  obtain⟨k,hk,rfl,rfl,HK,HBk⟩:=hrel;rename World=>wr
  by_cases hlt:k<6
  ·have hltI:(k:Int)<6:=by omega
   have hk0:(0:Int)≤(k:Int):=by omega
   obtain⟨q,hq⟩:∃q,q=m/10^k:=⟨_,rfl⟩;have hqm:q≤999999:=by rw[hq];exact Nat.le_trans (Nat.div_le_self _ _) hm6
   have Hq:=hid hq;rw[←hq];clear hq;have hcs:ab (Iz (6-k) 0++oD m k)=ab (Iz (5-k) 0) ++ .int .u8 0::ab (oD m k):=by
    rw[show 6-k=(5-k)+1 by omega,List.replicate_succ',dL,dL,List.append_assoc];rfl
   obtain⟨c1,f1,kk⟩:=mp (n:=5-k) HK.out hcs (by rw[ap,List.length_replicate]);obtain⟨wf,hwf⟩:∃v,v=wr.setCell ⟨w.heap.size,5-k,none⟩ (.int .u8 (48+(q:Int)%10)):=⟨_,rfl⟩;have hd:(.int .u8 (48+(q:Int)%10):Value)=mD (Ip m k):=by
    unfold mD Ip;rw[←Hq.out,hU (by omega)];congr 1
   have HF:Hid (aj wf w.heap.size 24 (ab (Iz (6-(k+1)) 0++oD m (k+1))).toArray):=by
    rw[hwf,hd,show 6-(k+1)=5-k by omega,dL];exact kk _
   have HBf:Hid (Below w.heap.size w wf):=by rw[hwf];exact HBk.out.setCell (IG _) _
   have hq2:Hid (q/10=m/10^(k+1)):=by show _=_;rw[Hq.out,Em]
   clear hcs kk hd
   go_wp2
   rw[←hwf];go_roundw
   case rel=>exact⟨k+1,by omega,by go_num,by rw[←hq2.out];go_num,HF,HBf⟩
   case measure=>first|(simp[intOf];done)|(simp[intOf];omega)
  ·have hltI:¬(k:Int)<6:=by omega
   obtain rfl:k=6:=by omega
   have hbs:BS wr wr.heap.size (some ⟨w.heap.size,0,none⟩) (oD m 6):=fun _=>by
    refine⟨_,rfl,HK.out.lt,fun j c hc=>?_⟩;rw[show (⟨w.heap.size,0,none⟩:Addr).add j=⟨w.heap.size,j,none⟩ by unfold Addr.add;split<;>simp_all,HK.out.cell,List.getElem?_toArray];rw[show (6-6:Nat)=0 from rfl,List.replicate_zero,List.nil_append,ab,List.getElem?_map,hc];rfl
   have hlen:(oD m 6).length=6:=xw m 6;go_upto_region 10 with fail
   refine Sd.start ?_;refine pt ?_;simp only[ld,lg,lf,IB];refine pb (v:=.string ⟨(oD m 6).toArray⟩) ?_ ?_;rotate_left
   ·intro u hu
    have hcv:=bJ (P:=Iy) 43 9 5 Tryz.underlying43 Tryz.underlying5 Tryz.underlying9 u _ (some ⟨w.heap.size,0,none⟩) (oD m 6) ((hbs.below hu).more hu.size) _ 6 rfl;rw[hlen] at hcv;go_simp
    try exact rfl
   simp only[ld,lg,lf,IB]
   repeat ((first|refine cq (fun u _=>xy kd hkk u) ?_|refine pt ?_);simp only[ld,lg,lf,IB])
   refine pb (v:=.string ⟨(oD m 6++nL kd).toArray⟩) ?_ ?_;rotate_left
   ·intro u hu
    have hel:(nL kd).length=4:=by unfold nL;split<;>rfl
    rw[←oE];go_simp
   simp only[ld,lg,lf,IB]
   repeat ((first|refine pt ?_);simp only[ld,lg,lf,IB])
   refine Sd.done fun w2 hb2=>?_
   have HF:Hid (Below w.heap.size w w2):=HBk.out.trans (hb2.mono HBk.out.size);clear hb2 hbs
   go_wp2
   go_ret2
   exact⟨by rw[hr.out];rfl,HF.out⟩
def qD(c:UInt8):Bool:=decide (48≤c.toNat)&&decide (c.toNat≤57)
def oF(l:List UInt8):Nat:=l.foldl (fun n c=>n*10+(c.toNat-48)) 0
def jq(l:List UInt8)(k:Nat):Option (Nat×Nat×Bool) :=
 if Lib.hasSuffix l (nL k)=true∧(qq l (nL k)).length=6 then some (if (qq l (nL k)).all qD then (oF (qq l (nL k)),k,true) else (0,0,false)) else none
def mC(l:List UInt8):Nat×Nat×Bool:=(jq l 1).getD ((jq l 2).getD (0,0,false))
theorem FJ(l:List UInt8)(hl:l.length≤1000000000)(k:Nat)(w:World) :
  Calls Iy 53 #[.string ⟨l.toArray⟩,.string ⟨(nL k).toArray⟩] w fun e w'=>e=.returned (.tuple #[.string ⟨(qq l (nL k)).toArray⟩,.bool (Lib.hasSuffix l (nL k))])∧w=w':=by
 refine (Tryz.strings_CutSuffix ⟨l.toArray⟩ ⟨(nL k).toArray⟩ w (by show l.toArray.size≤_;simp;omega)).mono ?_;rintro e w' ⟨h1,h2⟩;exact⟨h1,h2.symm⟩
theorem Cv(l:List UInt8)(k:Nat)(h:k<l.length):oF (l.take (k+1))=oF (l.take k)*10+(l[k].toNat-48):=by
 unfold oF;rw[List.take_add_one,IC h,List.foldl_append];rfl
theorem Az:∀(l:List UInt8) (n:Nat),l.all qD=true→l.foldl (fun n c=>n*10+(c.toNat-48)) n<(n+1)*10^l.length
 |[],n,_=>by simp
 |c::l,n,h=>by
  rw[List.all_cons,IA] at h;have h1:=Az l (n*10+(c.toNat-48)) h.2;have h2:=h.1;simp only[qD,IA,decide_eq_true_eq] at h2;rw[List.foldl_cons,List.length_cons];have h3:(n*10+(c.toNat-48)+1)*10^l.length≤(n*10+10)*10^l.length:=Nat.mul_le_mul_right _ (by omega);have h4:(n*10+10)*10^l.length=(n+1)*10^(l.length+1):=by rw[show n*10+10=(n+1)*10 by omega,IF,Nat.mul_assoc,Nat.mul_comm 10]
  omega
theorem FK{l:List UInt8}(h:l.all qD=true):oF l<10^l.length:=by
 have:=Az l 0 h;unfold oF;omega
theorem nY(l:List UInt8)(hl:l.length≤1000000)(w:World):Calls Iy 23 #[.string ⟨l.toArray⟩] w fun e w'=>e=.returned (.tuple #[.int .i64 ((mC l).1:Int),.int .i64 ((mC l).2.1:Int),.bool (mC l).2.2])∧Below w.heap.size w w':=by
 go_enter Tryz.func23,Tryz.ntmps23
 go_wp2
 go_loopw [5] (fun i wr=>∃k:Nat,i=.int .i64 (k:Int)∧((k=1∧True)∨(k=2∧jq l 1=none)∨(k=3∧jq l 1=none∧jq l 2=none))∧Hid (Below w.heap.size w wr)) (fun i _=>3-(intOf i).toNat)
 case atStart=>exact⟨1,rfl,.inl ⟨rfl,trivial⟩,Below.refl _ _⟩
 case round =>
  obtain⟨k,rfl,hc,HB⟩:=hrel;rename World=>wr
  have Hc:=hid hc;by_cases hk3:k=3
  ·subst hk3
   have hr:Hid (mC l=(0,0,false)):=by
    show _=_
    rcases Hc.out with ⟨h,_⟩|⟨h,_⟩|⟨_,h1,h2⟩
    ·omega
    ·omega
    ·unfold mC;rw[h1,h2];rfl
   clear hc
   go_wp2
   go_ret3
   exact⟨by rw[hr.out];rfl,HB.out⟩
  ·have hk12:k=1∨k=2:=by rcases Hc.out with ⟨h,_⟩|⟨h,_⟩|⟨h,_⟩<;>omega
   have hkle:(k:Int)≤2:=by omega
   have hk0:(0:Int)≤(k:Int):=by omega
   have Hnext:Hid (jq l k=none→(k+1=1∧True)∨(k+1=2∧jq l 1=none)∨(k+1=3∧jq l 1=none∧jq l 2=none)):=fun hn=>by
    rcases Hc.out with ⟨h,_⟩|⟨h,h1⟩|⟨h,_⟩
    ·subst h;exact .inr (.inl ⟨rfl,hn⟩)
    ·subst h;exact .inr (.inr ⟨rfl,h1,hn⟩)
    ·omega
   have Hgot:Hid (∀r,jq l k=some r→mC l=r):=fun r hr=>by
    rcases Hc.out with ⟨h,_⟩|⟨h,h1⟩|⟨h,_⟩
    ·subst h;unfold mC;rw[hr];rfl
    ·subst h;unfold mC;rw[h1,hr];rfl
    ·omega
   obtain⟨tr,htr⟩:∃t,t=qq l (nL k):=⟨_,rfl⟩;obtain⟨sf,hsf⟩:∃t,t=Lib.hasSuffix l (nL k):=⟨_,rfl⟩;have Hone:Hid (jq l k=if sf=true∧tr.length=6 then some (if tr.all qD then (oF tr,k,true) else (0,0,false)) else none):=by show _=_;unfold jq;rw[←htr,←hsf]
   have Hcut:=hid (fun w=>FJ l (by omega) k w);rw[←htr,←hsf] at Hcut;have htl:tr.length≤1000000:=by
    rw[htr];unfold qq;split
    ·rw[IE];omega
    ·omega
   clear hc hk3 htr hsf
   go_wp2_with fail
   refine (xy k hk12 wr).mono ?_;rintro e _ ⟨rfl,rfl⟩
   go_wp2_with fail
   refine (Hcut.out wr).mono ?_;rintro e _ ⟨rfl,rfl⟩;rcases sf with _|_
   ·have Hn:=hid (Hnext.out (by rw[Hone.out];simp))
    go_wp2
    go_roundw
    case rel=>exact⟨k+1,by go_num,Hn.out,HB⟩
    case measure=>simp[intOf];omega
   by_cases h6:tr.length=6
   rotate_left
   ·have Hn:=hid (Hnext.out (by rw[Hone.out];simp[h6]))
    have h6I:((tr.length:Int) != 6)=true:=by simp;omega
    clear h6
    go_wp2
    go_roundw
    case rel=>exact⟨k+1,by go_num,Hn.out,HB⟩
    case measure=>simp[intOf];omega
   have Hone2:Hid (jq l k=some (if tr.all qD then (oF tr,k,true) else (0,0,false))):=by show _=_;rw[Hone.out,if_pos ⟨rfl,h6⟩]
   have H6:=hid h6;have h6I:((tr.length:Int) != 6)=false:=by simp;omega
   have hcv:=ji wr tr;have Hbw:=hid (eO wr 5 ⟨tr.toArray⟩);have Hbs:=hid (gw wr 5 tr);obtain⟨v,hv⟩:∃v,v=Lib.bytesWorld wr 5 ⟨tr.toArray⟩:=⟨_,rfl⟩;rw[←hv] at Hbw Hbs hcv;clear hv h6 Hnext Hone Hcut
   go_wp2_with fail
   go_loopw [8,32] (fun vn vi wq=>∃j:Nat,j≤tr.length∧vi=.int .i64 (j:Int)∧vn=.int .i64 ((oF (tr.take j):Nat):Int)∧Hid (Below v.heap.size v wq)∧Hid ((tr.take j).all qD=true)) (fun _ vi _=>tr.length-(intOf vi).toNat)
   case atStart=>exact⟨0,by omega,rfl,by simp[oF],Below.refl _ _,by simp[Hid]⟩
   case round =>
    obtain⟨j,hj,rfl,rfl,hbq,hat⟩:=hrel;rename World=>wq
    have HBq:Hid (Below w.heap.size w wq):=HB.out.trans ((Hbw.out.trans (hbq.out.mono Hbw.out.size)).mono HB.out.size);by_cases hlt:j<tr.length
    ·have hltI:(j:Int)<(tr.length:Int):=by omega
     have hj0:(0:Int)≤(j:Int):=by omega
     obtain⟨ad,hA,hadb,hcell⟩:=(Hbs.out.below hbq.out).at_ hlt;injection hA with hA
     subst hA;obtain⟨z,hz⟩:∃z,z=tr[j].toNat:=⟨_,rfl⟩;rw[←hz,show (⟨wr.heap.size,0,none⟩:Addr).add j=⟨wr.heap.size,j,none⟩ by unfold Addr.add;split<;>simp_all] at hcell;have hz2:z<256:=by rw[hz];exact tr[j].toNat_lt
     have Hbad:Hid (¬(48≤z∧z≤57)→mC l=(0,0,false)):=fun hn=>by
      have hx:tr.all qD=false:=by
       rw[List.all_eq_false];refine⟨tr[j],List.getElem_mem hlt,?_⟩;simp only[qD,IA,decide_eq_true_eq,←hz];exact hn
      rw[Hgot.out _ Hone2.out,hx];rfl
     have Hgood:Hid (48≤z∧z≤57→(tr.take (j+1)).all qD=true∧oF (tr.take (j+1))=oF (tr.take j)*10+(z-48)):=fun hn=>by
      refine⟨r7 hat.out (IC hlt) (by simp only[qD,IA,decide_eq_true_eq,←hz];exact hn),?_⟩;rw[Cv _ _ hlt,hz]
     have hnl:oF (tr.take j)<1000000:=by
      have h1:=FK hat.out;have h2:(tr.take j).length≤6:=by rw[IE];have:=H6.out;omega
      have h3:=Nat.pow_le_pow_right (n:=10) (by decide) h2;omega
     obtain⟨q,hq⟩:∃q,q=oF (tr.take j):=⟨_,rfl⟩;rw[←hq] at hnl Hgood ⊢;clear hz hq hadb hat;by_cases a1:z<48
     ·have a1I:(z:Int)<48:=by omega
      have hr:=hid (Hbad.out (by omega))
      go_wp2_with fail
      go_ret3
      exact⟨by rw[hr.out];rfl,HBq.out⟩
     ·by_cases a2:z≤57
      rotate_left
      ·have a1I:¬(z:Int)<48:=by omega
       have a2I:(57:Int)<(z:Int):=by omega
       have hr:=hid (Hbad.out (by omega))
       go_wp2_with fail
       go_ret3
       exact⟨by rw[hr.out];rfl,HBq.out⟩
      ·have a1I:¬(z:Int)<48:=by omega
       have a2I:¬(57:Int)<(z:Int):=by omega
       have hg:=Hgood.out ⟨by omega,a2⟩;have Hg1:=hid hg.1;have Hg2:=hid hg.2;have a3:48≤z:=by omega
       clear hg
       go_wp2_with fail
       go_roundw
       case rel=>exact⟨j+1,by omega,by go_num,by rw[Hg2.out];congr 1;omega,hbq,Hg1⟩
       case measure=>simp[intOf];omega
    ·have hltI:¬(j:Int)<(tr.length:Int):=by omega
     have hall:tr.all qD=true:=by have:=hat.out;rw[ID (by omega)] at this;exact this
     have hr:Hid (mC l=(oF tr,k,true)):=by show _=_;rw[Hgot.out _ Hone2.out,hall];rfl
     have hq:tr.take j=tr:=ID (by omega);rw[hq];clear hq hall hat
     go_wp2
     go_ret3
     exact⟨by rw[hr.out];rfl,HBq.out⟩
