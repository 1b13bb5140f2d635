import Derived.Test.YtaafkokfdgfabaaGreatP9
import Derived.Test.YtaafkokfdgfabaaGreatP10
import Derived.Test.YtaafkokfdgfabaaGreatP12
import Derived.Test.YtaafkokfdgfabaaGreatP20
import Derived.Deep.LoopGhost
set_option maxHeartbeats 8000000
set_option maxRecDepth 100000
set_option linter.unusedVariables false
set_option linter.unusedSimpArgs false
open Bool renaming false_and→IA,and_false→IB,and_eq_true→IV,not_true→I1,false_eq_true→I2,true_and→Ja
open Int renaming toNat_of_nonneg→I0
open List renaming length_append→qq,getElem?_eq_getElem→Iy,mem_nil_iff→IF,mem_cons→IG,getElem?_map→IH,mem_of_getElem?→IJ,length_cons→IL,getElem?_eq_some_iff→IM,getElem?_cons_succ→IP,append_assoc→IS,length_map→IW,length_nil→IX,getElem?_eq_none→IY,flatMap_cons→I5,getElem_mem→I7,mem_append→I8,mem_map→Jd
open Nat renaming le_refl→IK,lt_of_lt_of_le→IN,lt_or_ge→I3,reduceAdd→Jb,zero_add→Jc
open Option renaming some→Jf
open UInt8 renaming ofNat→IQ,toNat_ofNat'→IR
namespace Go.Proofs.YtaafkokfdgfabaaGreat
open Go.RowKit
open Lib (hid)
open Op renaming equalIn→I9
open Result renaming andThen_ok→IT
open Sem renaming run_bind→Je
open Tryz renaming prog→Iz,underlying23→IC,underlying3→IE,underlying43→II,underlying24→IU,underlying27→I4
open Value renaming slice→ID,ownBlock→IZ
open World renaming ownsRow_nil→I6
theorem iI(w:World):(sizeOf 3).run Iz w=.ok 1 w:=by
 obtain⟨i,hi⟩:=info_of_underlying IE;rw[run_sizeOf w hi,show Iz.cellsOf 3=1 by kernel_rfl]
theorem BU:(Iz.info? 23).map (·.size)=some 6:=by kernel_rfl
theorem Fu{f:bf}(h:ao f):(Iz.info? 23).map (·.size)=some (f.idle.map iv).length:=by rw[IW,h.idle];exact BU
theorem rW{l:List Int}{k:Nat}{z:Int}(h:l[k]?=some z)(hz:z<0∨1000000<z∨k=0∧z≠0):mH l=false:=by
 rcases hb:mH l with _|_
 ·rfl
 ·obtain⟨h1,h2⟩:=jc hb
  have hm:=IJ h;have:=h2 z hm;rcases hz with hz|hz|⟨rfl,hz⟩
  ·omega
  ·omega
  ·rw[List.head?_eq_getElem?,h] at h1
   injection h1 with h1
   exact absurd h1 hz
theorem tE{l:List Int}(h:∀(j:Nat) (z:Int),l[j]?=some z→0≤z∧z≤1000000∧(j=0→z=0))(hl:0<l.length):mH l=true:=by
 unfold mH;simp only[IV,beq_iff_eq,List.all_eq_true];constructor
 ·rw[List.head?_eq_getElem?,Iy hl]
  rw[(h 0 _ (Iy hl)).2.2 rfl]
 ·intro z hz
  obtain⟨j,hj,rfl⟩:=List.getElem_of_mem hz;have:=h j _ (Iy hj);exact j4.2 ⟨this.1,this.2.1⟩
theorem p9(A:Option Addr)(n c:Nat)(f:bf)(hs:ao f)(w:World)(hn:n=f.vips.length)(hnc:n≤c)(hb:VS w w.heap.size A f.vips)(hl:n≤1000000) :
  Calls Iz 59 #[iT A n c f] w fun e w'=>e=.returned (.bool (aQ f))∧Below w.heap.size w w':=by
 subst hn;unfold iT;have HV:=hid hb;have Hs:=hid hs;obtain⟨W,hW⟩:∃W,W=w.alloc (.cells (am A f.vips.length c f).toArray 29):=⟨_,rfl⟩;have hX:aj W w.heap.size 29 (am A f.vips.length c f).toArray:=by rw[hW];exact aj.new w _ _ _ rfl
 have hB:Below w.heap.size w W:=by rw[hW];exact (Below.refl _ _).alloc (IK _) _
 have HR3:=hid (rz hX hs);have Hisz:=hid (Fu hs);have HW:=hid hW;have HX:=hid hX;have HB:=hid hB;clear hW hX hB hb;go_enter Tryz.func59,Tryz.ntmps59
 go_upto_region 1 with fail
 rw[←HW.out]
 go_wp2_with (first
  |(refine aa (by rfl) 23 (.tmp 5) rfl w.heap.size 3 rfl (f.idle.map iv) _ HR3.out IC rfl Hisz.out ?_))
 go_loopw [7] (fun i wr=>∃k:Nat,k≤6∧i=.int .i64 (k:Int)∧W=wr∧Hid (∀j z,j<k→f.idle[j]?=some z→0≤z∧z≤1000000∧(j=0→z=0))) (fun i _=>6-(intOf i).toNat)
 case atStart=>exact⟨0,by omega,rfl,rfl,fun j z hj=>by omega⟩
 case round =>
  obtain⟨k,hk,rfl,rfl,hat⟩:=hrel;by_cases hlt:k<6
  ·have hltI:(k:Int)<6:=by omega
   have hk0:(0:Int)≤(k:Int):=by omega
   have hkl:k<f.idle.length:=by rw[hs.idle];exact hlt
   obtain⟨z,hz⟩:∃z,f.idle[k]?=some z:=⟨_,Iy hkl⟩;have hcell:(f.idle.map iv)[k]?=some (.int .i64 z):=by rw[IH,hz];rfl
   have hidl:f.idle.length=6:=hs.idle;have Hno:z<0∨1000000<z∨k=0∧z≠0→Hid (aQ f=false):=fun h=>by
    show _=_
    unfold aQ;rw[rW hz h];rfl
   have Hz:=hid hz;clear hz;have hz2:(f.idle.map iv).toArray[k]?=some (.int .i64 z):=by rw[List.getElem?_toArray];exact hcell
   have Hz2:=hid hz2;clear hcell hz2;have hcase:¬(z<0∨1000000<z∨k=0∧z≠0)→Hid (∀j y,j<k+1→f.idle[j]?=some y→0≤y∧y≤1000000∧(j=0→y=0)):=fun h j y hj hy=>by
    rcases I3 j k with h1|h1
    ·exact hat.out j y h1 hy
    ·obtain rfl:j=k:=by omega
     rw[Hz.out] at hy;injection hy with hy
     subst hy;refine⟨by omega,by omega,fun h0=>?_⟩;by_cases hy0:z=0
     ·exact hy0
     ·exact absurd (.inr (.inr ⟨h0,hy0⟩)) h
   by_cases h1:z<0
   ·have Hr:=Hno (.inl h1)
    clear Hno hcase
    go_wp2_with (first|(refine fH (by rfl) 23 3 6 .i64 (.tmp 6) (.tmp 7) rfl _ k (.int .i64 z) rfl rfl IC IE (iI _) hlt Hz2.out ?_))
    go_ret
    exact⟨by rw[Hr.out];rfl,HB.out⟩
   ·by_cases h2:1000000<z
    ·have Hr:=Hno (.inr (.inl h2))
     clear Hno hcase
     go_wp2_with (first|(refine fH (by rfl) 23 3 6 .i64 (.tmp 6) (.tmp 7) rfl _ k (.int .i64 z) rfl rfl IC IE (iI _) hlt Hz2.out ?_))
     go_ret
     exact⟨by rw[Hr.out];rfl,HB.out⟩
    ·by_cases h3:k=0
     ·by_cases h4:z=0
      ·have Hat2:=hcase (by omega)
       have h3I:(k:Int)=0:=by omega
       clear Hno hcase hat
       go_wp2_with (first|(refine fH (by rfl) 23 3 6 .i64 (.tmp 6) (.tmp 7) rfl _ k (.int .i64 z) rfl rfl IC IE (iI _) hlt Hz2.out ?_))
       go_roundw
       case rel=>exact⟨k+1,by omega,by go_num,trivial,Hat2⟩
       case measure=>simp[intOf];omega
      ·have Hr:=Hno (.inr (.inr ⟨h3,h4⟩))
       have h3I:(k:Int)=0:=by omega
       clear Hno hcase hat
       go_wp2_with (first|(refine fH (by rfl) 23 3 6 .i64 (.tmp 6) (.tmp 7) rfl _ k (.int .i64 z) rfl rfl IC IE (iI _) hlt Hz2.out ?_))
       go_ret
       exact⟨by rw[Hr.out];rfl,HB.out⟩
     ·have Hat2:=hcase (by omega)
      have h3I:¬(k:Int)=0:=by omega
      clear Hno hcase hat
      go_wp2_with (first|(refine fH (by rfl) 23 3 6 .i64 (.tmp 6) (.tmp 7) rfl _ k (.int .i64 z) rfl rfl IC IE (iI _) hlt Hz2.out ?_))
      go_roundw
      case rel=>exact⟨k+1,by omega,by go_num,trivial,Hat2⟩
      case measure=>simp[intOf];omega
  ·have hltI:¬(k:Int)<6:=by omega
   have HI:Hid (mH f.idle=true):=tE (fun j z hz=>hat.out j z (by have:=(IM.1 hz).1;have:=hs.idle;omega) hz) (by rw[hs.idle];decide);have c0:W.cell? ⟨w.heap.size,0,none⟩=some (.slice A f.vips.length c):=i8 HX.out;have Hvips:=hid (D7 A _ c f.vips hs.vips W rfl hnc ((HV.out.below HB.out).more HB.out.size) hl);clear hat hlt
   go_wp2_with fail
   refine Hvips.out.mono ?_;rintro e w2 ⟨rfl,hb2⟩;rcases h1:jG f.vips with _|_
   ·have Hr:Hid (aQ f=false):=by show _=_;simp only[aQ,h1,IA,IB]
    clear h1
    go_wp2
    go_ret
    exact⟨by rw[Hr.out];rfl,HB.out.trans (hb2.mono HB.out.size)⟩
   ·have H1:=hid h1
    have hX2:=aj.below HX.out hb2 HX.out.lt;have cs:=lT hX2;have cr:=lU hX2;have ci:=lV hX2 hs;have cf:=lW hX2 hs;have c4:=vy hX2 hs;have HR4:=hid (lX hX2 hs);have Hasz:=hid (eo hs.four);have HB2:Hid (Below w.heap.size w w2):=HB.out.trans (hb2.mono HB.out.size);have HX2:=hid hX2;clear hX2 hb2 h1 Hvips c0
    go_wp2_with fail
    refine (gE f.size 2 65537 w2).mono ?_;rintro e wz ⟨rfl,rfl⟩;rcases h2:mx f.size 2 65537 with _|_
    ·have Hr:Hid (aQ f=false):=by show _=_;simp only[aQ,h2,IA,IB]
     clear h2
     go_wp2
     go_ret
     exact⟨by rw[Hr.out];rfl,HB2.out⟩
    ·have H2:=hid h2
     have hsz:=j4.1 h2;have hp:=AS f.size.toNat w2 (by omega);rw[I0 (by omega)] at hp;have Hp:=hid hp;clear h2 hp hsz
     go_wp2_with fail
     refine Hp.out.mono ?_;rintro e wz ⟨rfl,rfl⟩;rcases h3:jO f.size.toNat with _|_
     ·have Hr:Hid (aQ f=false):=by show _=_;simp only[aQ,h3,IA,IB]
      clear h3
      go_wp2
      go_ret
      exact⟨by rw[Hr.out];rfl,HB2.out⟩
     ·have H3:=hid h3
      clear h3 Hp
      go_wp2_with fail
      refine (gE f.room 1 4096 w2).mono ?_;rintro e wz ⟨rfl,rfl⟩;rcases h4:mx f.room 1 4096 with _|_
      ·have Hr:Hid (aQ f=false):=by show _=_;simp only[aQ,h4,IA,IB]
       clear h4
       go_wp2
       go_ret
       exact⟨by rw[Hr.out];rfl,HB2.out⟩
      ·have H4:=hid h4
       clear h4
       go_wp2_with fail
       refine (gE f.rise 1 100 w2).mono ?_;rintro e wz ⟨rfl,rfl⟩;rcases h5:mx f.rise 1 100 with _|_
       ·have Hr:Hid (aQ f=false):=by show _=_;simp only[aQ,h5,IA,IB]
        clear h5
        go_wp2
        go_ret
        exact⟨by rw[Hr.out];rfl,HB2.out⟩
       ·have H5:=hid h5
        clear h5
        go_wp2_with fail
        refine (gE f.fall 1 100 w2).mono ?_;rintro e wz ⟨rfl,rfl⟩;rcases h6:mx f.fall 1 100 with _|_
        ·have Hr:Hid (aQ f=false):=by show _=_;simp only[aQ,h6,IA,IB]
         clear h6
         go_wp2
         go_ret
         exact⟨by rw[Hr.out];rfl,HB2.out⟩
        ·have H6:=hid h6
         clear h6;rcases h7:f.four.1 with _|_
         rotate_left
         ·rw[h7] at c4
          have Hr:Hid (aQ f=false):=by show _=_;simp only[aQ,h7,I1,IA,IB]
          clear h7
          go_wp2
          go_ret
          exact⟨by rw[Hr.out];rfl,HB2.out⟩
         ·rw[h7] at c4
          have H7:=hid h7;have hsh:=ta f.four hs.four w2;unfold iP at hsh;have Hsh:=hid hsh;clear h7 hsh
          go_wp2_with (first|(refine aa (by rfl) 27 (.tmp 61) rfl w.heap.size 17 rfl (ai f.four) _ HR4.out I4 rfl Hasz.out ?_))
          refine Hsh.out.mono ?_;rintro e w3 ⟨rfl,hb3⟩;rcases h8:de f.four with _|_
          ·have Hr:Hid (aQ f=false):=by show _=_;simp only[aQ,h8,IA,IB]
           clear h8
           go_wp2
           go_ret
           exact⟨by rw[Hr.out];rfl,HB2.out.trans (hb3.mono HB2.out.size)⟩
          ·have H8:=hid h8
           have hX3:=aj.below HX2.out hb3 HX2.out.lt;have c6:=uf hX3 hs;have cm:=lY hX3 hs;have ck:=lZ hX3 hs;have cb:=ko hX3 hs;have HB3:Hid (Below w.heap.size w w3):=HB2.out.trans (hb3.mono HB2.out.size);clear h8 hX3 hb3 cs cr ci cf c4 Hsh;rcases h9:f.six.1 with _|_
           ·rw[h9] at c6
            have Hr:Hid (aQ f=false):=by show _=_;simp only[aQ,h9,IA,IB]
            clear h9
            go_wp2
            go_ret
            exact⟨by rw[Hr.out];rfl,HB3.out⟩
           ·rw[h9] at c6
            have H9:=hid h9;clear h9
            go_wp2_with fail
            refine (gE f.most 1000 1048576 w3).mono ?_;rintro e wz ⟨rfl,rfl⟩;rcases h10:mx f.most 1000 1048576 with _|_
            ·have Hr:Hid (aQ f=false):=by show _=_;simp only[aQ,h10,IA,IB]
             clear h10
             go_wp2
             go_ret
             exact⟨by rw[Hr.out];rfl,HB3.out⟩
            ·have H10:=hid h10
             clear h10
             go_wp2_with fail
             refine (gE f.keep 1 100 w3).mono ?_;rintro e wz ⟨rfl,rfl⟩;rcases h11:mx f.keep 1 100 with _|_
             ·have Hr:Hid (aQ f=false):=by show _=_;simp only[aQ,h11,IA,IB]
              clear h11
              go_wp2
              go_ret
              exact⟨by rw[Hr.out];rfl,HB3.out⟩
             ·have H11:=hid h11
              clear h11
              go_wp2_with fail
              refine (gE f.batch 1 1000 w3).mono ?_;rintro e wz ⟨rfl,rfl⟩;rcases h12:mx f.batch 1 1000 with _|_
              ·have Hr:Hid (aQ f=false):=by show _=_;simp only[aQ,h12,IA,IB]
               clear h12
               go_wp2
               go_ret
               exact⟨by rw[Hr.out];rfl,HB3.out⟩
              ·have H12:=hid h12
               clear h12;have Hr:Hid (aQ f=true):=by show _=_;simp only[aQ,HI.out,H1.out,H2.out,H3.out,H4.out,H5.out,H6.out,H7.out,H8.out,H9.out,H10.out,H11.out,H12.out];rfl
               go_wp2
               go_ret
               exact⟨by rw[Hr.out];rfl,HB3.out⟩
def yV(vs:List ct):List Value:=vs.flatMap aI
theorem FB{vs:List ct}(h:∀v∈vs,aS v.1){j:Nat}{v:ct}(hj:vs[j]?=some v){i:Nat}{u:Value}(hi:(aI v)[i]?=some u):(yV vs)[j*20+i]?=some u:=by
 induction vs generalizing j with
 |nil=>simp at hj
 |cons x xs ih =>
  have hx:=bK (h x (by simp));rw[yV,I5];rcases j with _|j
  ·simp only[List.getElem?_cons_zero,Jf.injEq] at hj
   subst hj;rw[Nat.zero_mul,Jc,List.getElem?_append_left (IM.1 hi).1];exact hi
  ·rw[IP] at hj
   have:=ih (fun u hu=>h u (by simp[hu])) hj;rw[List.getElem?_append_right (by rw[hx];omega),hx,show (j+1)*20+i-20=j*20+i by omega];exact this
def jR(w:World)(base:Nat)(A:Option Addr)(c:Nat)(vs:List ct):Prop :=
 w.ownsRow base 108 20 (.slice A vs.length c) vs.length (yV vs)∧∀v∈vs,aS v.1
theorem jR.vs{w:World}{base:Nat}{A:Option Addr}{c:Nat}{vs:List ct}(h:jR w base A c vs):VS w w.heap.size A vs:=fun hn=>by
 obtain⟨g,cap,hv,_,hlt⟩:=h.1.form (by omega);have hA:A=some ⟨g,0,none⟩:=by injection hv
 subst hA;refine⟨g,0,rfl,hlt,fun j v hj i u hu=>?_⟩;have:=h.1.cells (g:=g) rfl (j*20+i) u (FB h.2 hj hu);rw[Jc];rw[show (⟨g,0,none⟩:Addr).add (j*20+i)=⟨g,j*20+i,none⟩ by unfold Addr.add;split<;>simp_all] at this;exact this
theorem jR.nil(w:World)(base:Nat):jR w base none 0 []:=⟨I6 _ _ _ _,by simp⟩
theorem jR.below{w w':World}{base:Nat}{A:Option Addr}{c:Nat}{vs:List ct}(h:jR w base A c vs)(hb:Below w.heap.size w w'):jR w' base A c vs:=⟨an h.1 hb,h.2⟩
theorem jR.grown{w w':World}{base g:Nat}{A:Option Addr}{c:Nat}{vs:List ct}{t:TypeId}{cs:Array Value}(h:jR w base A c vs)(hb:aj w g t cs)(ht:t≠108)(hg:w.grownBy w' (some g)):jR w' base A c vs :=
 ⟨h.1.kept hg (aK h.1 hb ht),h.2⟩
theorem Cb:(Iz.info? 108).map (fun i=>(i.zero.map (fun z=>z.cells.size),i.size,i.bytes))=some (some 20,20,48):=by kernel_rfl
section
variable {P:Program} {w:World}
theorem kT{ops:Array Oper}{rest:List Oper}{o:Oper}{a:Act}{Q:Exit→Act→World→Prop}(hgd:o.guard=none)(s x:Operand)(t:TypeId)
  (ho:o.op=.call { callee:=.builtin .append,args:=#[s,x],argTypes:=#[t,t] })
  (base:Nat) (i:TypeInfo) (z:Value) (bytes:Nat) (ht:P.underlying t=some (.slice 108)) (hi:P.info? 108=some i) (hz:i.zero=some z)
  (hsize:i.size=20) (hby:i.bytes=bytes) (hzs:z.cells.size=20)
  (A:Option Addr) (c:Nat) (vs:List ct) (v:ct) (hv:aS v.1) (hs:a.eval s=.slice A vs.length c) (hown:jR w base A c vs)
  (b c1:Nat) (hx:a.eval x=.slice (some ⟨b,0,none⟩) 1 c1) (hel:w.rangeAt b 0 (aI v))
  (h63:vs.length+1≤maxLen) (hbytes:(vs.length+1)*bytes≤140737488355328) (hbase:base≤w.heap.size)
  (h:∀A' c' w',jR w' base A' c' (vs++[v])→w.grownBy w' (ID A vs.length c).ownBlock→((ID A' (vs.length+1) c').ownBlock=(ID A vs.length c).ownBlock∨(ID A' (vs.length+1) c').ownBlock=some w.heap.size)→wpList P ops Q rest (a.put o.dst (.slice A' (vs.length+1) c')) w') :
  wpList P ops Q (o::rest) a w:=by
 refine wpList_append_own_at (P:=P) w hgd s x t ho base 108 i z 20 bytes ht hi hz hsize hby hzs (by decide) _ vs.length (yV vs) hs hown.1 ⟨b,0,none⟩ 1 c1 (aI v) hx (by rw[bK hv]) (fun j u hj=>?_) ?_ h63 hbytes hbase ?_
 ·rw[show (⟨b,0,none⟩:Addr).add j=⟨b,0+j,none⟩ by unfold Addr.add;split<;>simp_all]
  exact hel j u hj
 ·intro u hu
  have:=Array.all_eq_true_iff_forall_mem.1 (gV v) u (by simpa using hu);exact this
 ·intro v' w' h1 h2 _ h4
  obtain⟨A',c',rfl,_⟩:=cw h1;refine h A' c' w' ⟨?_,?_⟩ h2 h4
  ·rw[qq,show yV (vs++[v])=yV vs++aI v by simp[yV]]
   exact h1
  ·intro u hu
   rcases I8.1 hu with hu|hu
   ·exact hown.2 u hu
   ·simp only[List.mem_singleton] at hu
    rw[hu];exact hv
end
theorem dH:(Iz.info? 29).map (·.size)=some 54:=by kernel_rfl
theorem fB:Iz.underlying 29=some (.struct (Iz.fieldsOf 29)):=by kernel_rfl
theorem gP(A:Option Addr)(n c:Nat)(f:bf):(am A n c f).toArray.all (·.oneCell')=true:=all_oneCell_toArray (by
 intro u hu;simp only[am,eA,ai,IG,I8,Jd,IF,or_false] at hu;rcases hu with rfl|rfl|rfl|⟨z,_,rfl⟩|rfl|rfl|hu|(rfl|hu)|(rfl|hu)|rfl|rfl|rfl
 all_goals first|rfl|exact eP _ u hu)
structure k9(w wr:World)(base g:Nat)(l:List UInt8)(s:St)(A:Option Addr)(c:Nat)(f:bf):Prop where
 rd:eY wr base g l s
 ok:em l s
 box:aj wr (w.heap.size+1) 29 (am A f.vips.length c f).toArray
 res:aj wr w.heap.size 29 (am none 0 0 bH).toArray
 row:jR wr w.heap.size A c f.vips
 bel:Below w.heap.size w wr
 shape:ao f
 hg:w.heap.size≤g
 hbase:w.heap.size≤base
section
variable {w wr w':World} {base g:Nat} {l:List UInt8} {s s':St} {A A':Option Addr} {c c':Nat} {f f':bf}
theorem eY.blk{w:World}(h:eY w base g l s):∃cs,aj w g 195 cs:=by
 obtain⟨A,c,hr,_⟩:=h;exact⟨_,hr⟩
theorem k9.after(h:k9 w wr base g l s A c f)(hR:eY w' base g l s')(hok:em l s')(hg:wr.grownBy w' (some g)):k9 w w' base g l s' A c f:=by
 obtain⟨cs,hrb⟩:=h.rd.blk;have hn:∀{k:Nat} {cs':Array Value},aj wr k 29 cs'→some k≠some g:=fun hb e=>aj.ne hb hrb (by decide) (by injection e)
 exact⟨hR,hok,aj.grown h.box hg (hn h.box),aj.grown h.res hg (hn h.res),h.row.grown hrb (by decide) hg,h.bel.grown hg h.bel.size (fun k hk=>by injection hk with hk;have:=h.hg;omega),h.shape,h.hg,h.hbase⟩
theorem k9.below(h:k9 w wr base g l s A c f)(hb:Below wr.heap.size wr w'):k9 w w' base g l s A c f :=
 ⟨h.rd.below hb,h.ok,aj.below h.box hb h.box.lt,aj.below h.res hb h.res.lt,h.row.below hb,h.bel.trans (hb.mono h.bel.size),h.shape,h.hg,h.hbase⟩
theorem k9.boxed(h:k9 w wr base g l s A c f)(hb:aj w' (w.heap.size+1) 29 (am A f'.vips.length c f').toArray)(hv:f'.vips=f.vips)(hg:wr.grownBy w' (some (w.heap.size+1)))(hs:ao f'):k9 w w' base g l s A c f':=by
 refine⟨eY.off h.rd hg h.box (by decide) (by decide),h.ok,hb,aj.grown h.res hg (fun e=>by injection e with e;omega),?_,h.bel.grown hg h.bel.size (fun k hk=>by injection hk with hk;omega),hs,h.hg,h.hbase⟩;rw[hv];exact h.row.grown h.box (by decide) hg
theorem k9.set_(h:k9 w wr base g l s A c f)(k:Nat)(u:Value)(e:(am A f.vips.length c f).toArray.setIfInBounds k u=(am A f'.vips.length c f').toArray)(hv:f'.vips=f.vips)(hs:ao f'):k9 w (wr.setCell ⟨w.heap.size+1,k,none⟩ u) base g l s A c f':=by
 refine h.boxed ?_ hv (a8 _ ⟨w.heap.size+1,k,none⟩ u) hs;have:=aj.set_ h.box k u;rw[e] at this;exact this
end
theorem r8{f:bf}(h:ao f)(x:Int):ao { f with size:=x }:=⟨h.vips,h.idle,h.mac,h.four,h.six⟩
theorem yW{f:bf}(h:ao f)(x:Int):ao { f with room:=x }:=⟨h.vips,h.idle,h.mac,h.four,h.six⟩
theorem yX{f:bf}(h:ao f)(x:Int):ao { f with rise:=x }:=⟨h.vips,h.idle,h.mac,h.four,h.six⟩
theorem yY{f:bf}(h:ao f)(x:Int):ao { f with fall:=x }:=⟨h.vips,h.idle,h.mac,h.four,h.six⟩
theorem yZ{f:bf}(h:ao f)(x:Int):ao { f with most:=x }:=⟨h.vips,h.idle,h.mac,h.four,h.six⟩
theorem za{f:bf}(h:ao f)(x:Int):ao { f with keep:=x }:=⟨h.vips,h.idle,h.mac,h.four,h.six⟩
theorem wX{f:bf}(h:ao f)(x:Int):ao { f with batch:=x }:=⟨h.vips,h.idle,h.mac,h.four,h.six⟩
theorem zb{f:bf}(h:ao f)(x:Bool):ao { f with six:=(x,f.six.2) }:=⟨h.vips,h.idle,h.mac,h.four,h.six⟩
theorem zc{f:bf}(h:ao f)(k:Nat)(x:Int):ao { f with idle:=f.idle.set k x }:=⟨h.vips,by simpa using h.idle,h.mac,h.four,h.six⟩
theorem Cc{f:bf}(h:ao f)(x:List UInt8)(hx:x.length=6):ao { f with mac:=x }:=⟨h.vips,h.idle,hx,h.four,h.six⟩
theorem zd{f:bf}(h:ao f)(x:List UInt8)(hx:x.length=16):ao { f with four:=(f.four.1,x) }:=⟨h.vips,h.idle,h.mac,hx,h.six⟩
theorem Cd{f:bf}(h:ao f)(x:List UInt8)(hx:x.length=16):ao { f with six:=(f.six.1,x) }:=⟨h.vips,h.idle,h.mac,h.four,hx⟩
def uM(w:World)(l:List UInt8)(e:Ending)(w':World):Prop :=
 Below w.heap.size w w'∧(cz l=none→e=.returned (.tuple #[iT none 0 0 bH,.int .i64 3])) ∧
  ∀f,cz l=some f→∃A c,e=.returned (.tuple #[iT A f.vips.length c f,.int .i64 0])∧jR w' w.heap.size A c f.vips∧f.vips.length≤c∧ao f
theorem FC(l:List UInt8)(s:St):(aT l s 1 true).2≤255:=by
 have h:=ju l s 0 1;unfold aT;rw[if_neg (by decide)];show ja (fd l s 0 1).2 true≤255
 match hx:(fd l s 0 1).2,h with
 |[],_=>decide
 |[c],_=>rw[dF];have:=c.toNat_lt;omega
theorem FD(l:List UInt8)(s:St):(aT l s 2 true).2≤65535:=by
 have h:=ju l s 0 2;unfold aT;rw[if_neg (by decide)];show ja (fd l s 0 2).2 true≤65535
 match hx:(fd l s 0 2).2,h with
 |[],_=>decide
 |[c],_=>rw[dF];have:=c.toNat_lt;omega
 |[c,d],_=>rw[lz];have:=c.toNat_lt;have:=d.toNat_lt;omega
theorem Eb(l:List UInt8)(s:St):aS (jW l s):=by
 unfold jW bD;split
 ·simp only
  split
  ·assumption
  ·rfl
 ·split
  ·simp only
   split
   ·exact eX (by omega)
   ·rfl
  ·rfl
section
variable {w wr w':World} {base g:Nat} {l:List UInt8} {s s':St} {A A':Option Addr} {c c':Nat} {f f':bf}
theorem k9.other{k:Nat}{cs:Array Value}(h:k9 w wr base g l s A c f)(hk:aj wr k 108 cs)(hne:(ID A f.vips.length c).ownBlock≠some k)(hwk:w.heap.size≤k)(hg:wr.grownBy w' (some k)):k9 w w' base g l s A c f :=
 ⟨eY.off h.rd hg hk (by decide) (by decide),h.ok,aj.grown h.box hg (fun e=>aj.ne h.box hk (by decide) (by injection e)),aj.grown h.res hg (fun e=>aj.ne h.res hk (by decide) (by injection e)),⟨h.row.1.kept hg (.inr hne),h.row.2⟩,h.bel.grown hg h.bel.size (fun j hj=>by injection hj with hj;omega),h.shape,h.hg,h.hbase⟩
theorem Ce{w w':World}(h:w.grownBy w' none)(k:Nat):w.grownBy w' (some k):=⟨h.os,h.tape,h.output,h.size,fun j hj _=>h.block j hj (by simp)⟩
theorem k9.append{vs:List ct}{v:ct}(h:k9 w wr base g l s A c { bH with vips:=vs })(hown:jR w' w.heap.size A' c' (vs++[v]))(hg:wr.grownBy w' (ID A vs.length c).ownBlock) :
  k9 w (w'.setCell ⟨w.heap.size+1,0,none⟩ (.slice A' (vs.length+1) c')) base g l s A' c' { bH with vips:=vs++[v] }:=by
 have hv:({ bH with vips:=vs }:bf).vips=vs:=rfl;have h1:∃w2g:Unit,eY w' base g l s∧aj w' (w.heap.size+1) 29 (am A vs.length c { bH with vips:=vs }).toArray∧aj w' w.heap.size 29 (am none 0 0 bH).toArray∧Below w.heap.size w w':=by
  refine⟨(),?_⟩;rcases h.row.1.2 with ⟨e0,_⟩|⟨k,cap,cur,e1,hk,hh,_⟩
  ·rw[hv] at e0
   rw[e0] at hg;have hgn:wr.grownBy w' (some wr.heap.size):=Ce hg _;have hb:Below wr.heap.size wr w':=⟨hg.os,hg.tape,hg.output,hg.size,fun j hj=>hg.block j hj (by simp[IZ])⟩;exact⟨h.rd.below hb,aj.below h.box hb h.box.lt,aj.below h.res hb h.res.lt,h.bel.trans (hb.mono h.bel.size)⟩
  ·rw[hv] at e1
   rw[e1] at hg;have hgk:wr.grownBy w' (some k):=hg;have hkb:aj wr k 108 cur:=hh;exact⟨eY.off h.rd hgk hkb (by decide) (by decide),aj.grown h.box hgk (fun e=>aj.ne h.box hkb (by decide) (by injection e)),aj.grown h.res hgk (fun e=>aj.ne h.res hkb (by decide) (by injection e)),h.bel.grown hgk h.bel.size (fun j hj=>by injection hj with hj;omega)⟩
 obtain⟨_,hrd,hbox,hres,hbel⟩:=h1;have hgs:=a8 w' ⟨w.heap.size+1,0,none⟩ (.slice A' (vs.length+1) c');refine⟨eY.off hrd hgs hbox (by decide) (by decide),h.ok,?_,aj.grown hres hgs (fun e=>by injection e with e;have e1:w.heap.size=w.heap.size+1:=e;omega),?_,hbel.setCell (by simp) _,⟨hown.2,rfl,rfl,rfl,rfl⟩,h.hg,h.hbase⟩
 ·have:=aj.set_ hbox 0 (.slice A' (vs.length+1) c')
  rw[BH A' (vs.length+1) c' (vs++[v])] at this;show aj _ _ _ (am A' (vs++[v]).length c' _).toArray
  rw[qq];exact this
 ·exact hown.grown hbox (by decide) hgs
theorem k9.appBox{vs:List ct}(h:k9 w wr base g l s A c { bH with vips:=vs })(hg:wr.grownBy w' (ID A vs.length c).ownBlock):aj w' (w.heap.size+1) 29 (am A vs.length c { bH with vips:=vs }).toArray:=by
 have hv:({ bH with vips:=vs }:bf).vips=vs:=rfl;rcases h.row.1.2 with ⟨e0,_⟩|⟨k,cap,cur,e1,hk,hh,_⟩
 ·rw[hv] at e0
  rw[e0] at hg;exact aj.grown h.box hg (by simp[IZ])
 ·rw[hv] at e1
  rw[e1] at hg;have hkb:aj wr k 108 cur:=hh;exact aj.grown h.box hg (fun e=>aj.ne h.box hkb (by decide) (by injection e))
end
theorem Ec{l:List UInt8}{s1 s:St}{many k:Nat}{vs:List ct}(hm:bm l (0,0,0)=(s1,many))(h64:many≤64)(hk:k<many)(hat:fw l many s1=(fw l (many-k) s).map fun p=>(p.1,vs++p.2))(hv:ph l s=none):cz l=none:=by
 have h1:fw l (many-k) s=none:=by
  rw[show many-k=(many-k-1)+1 by omega,fw,hv]
 rw[h1] at hat;unfold cz kw qo;rw[hm];simp only;rw[if_pos h64,hat];rfl
theorem tH{l:List UInt8}{s1 s:St}{many k:Nat}{vs:List ct}{v:ct}(hk:k<many)(hat:fw l many s1=(fw l (many-k) s).map fun p=>(p.1,vs++p.2))(hv:ph l s=some v) :
  fw l many s1=(fw l (many-(k+1)) (lF l s)).map fun p=>(p.1,(vs++[v])++p.2):=by
 rw[hat,show many-k=(many-(k+1))+1 by omega,fw,hv];simp only;rcases fw l (many-(k+1)) (lF l s) with _|⟨p1,p2⟩
 ·rfl
 ·simp
theorem qc(l:List UInt8):∀(a b:Nat) (s:St),dz l (a+b) s=((dz l b (dz l a s).1).1,(dz l a s).2++(dz l b (dz l a s).1).2)
 |0,b,s=>by simp[dz]
 |a+1,b,s=>by
  rw[show a+1+b=(a+b)+1 by omega,dz,qc l a b];simp[dz]
theorem Cf(l:List UInt8)(s:St):dz l 1 s=((bm l s).1,[(bm l s).2]):=rfl
theorem ze(l:List UInt8)(k:Nat)(s:St):dz l (k+1) s=((bm l (dz l k s).1).1,(dz l k s).2++[(bm l (dz l k s).1).2]):=by
 rw[qc,Cf]
def eH(ms:List Nat):List Int:=0::(ms.map Int.ofNat++List.replicate (5-ms.length) 0)
theorem zg{ms:List Nat}(h:ms.length≤5):(eH ms).length=6:=by simp[eH];omega
theorem r9{ms:List Nat}(h:ms.length<5)(m:Nat):(eH ms).set (1+ms.length) (m:Int)=eH (ms++[m]):=by
 unfold eH;rw[show 1+ms.length=ms.length+1 by omega,List.set_cons_succ,List.set_append_right _ _ (by simp)];rw[show 5-ms.length=(5-(ms.length+1))+1 by omega,List.replicate_succ];simp
theorem wY{ms:List Nat}(h:ms.length=5):eH ms=0::ms.map Int.ofNat:=by simp[eH,h]
theorem iK(l:List UInt8)(s:St):(bm l s).2≤1048577:=Nat.min_le_right _ _
def sc(vs:List ct)(m1 m2:Nat)(ms:List Nat)(m8 m9:Nat)(x1 x2 x3:List UInt8)(k1 k2 k3:Nat):bf :=
 { vips:=vs,size:=(m1:Int),room:=(m2:Int),idle:=eH ms,rise:=(m8:Int),fall:=(m9:Int),mac:=ej x1 6,four:=(false,ej x2 16),six:=(true,ej x3 16),most:=(k1:Int),keep:=(k2:Int),batch:=(k3:Int) }
theorem Cg{l:List UInt8}{s t1 t2 t3 t4 t5:St}{m1 m2 m8 m9:Nat}{ms:List Nat}(h1:bm l s=(t1,m1))(h2:bm l t1=(t2,m2))(h3:dz l 5 t2=(t3,ms))(h4:bm l t3=(t4,m8))(h5:bm l t4=(t5,m9)) :
  dz l 9 s=(t5,m1::m2::(ms++[m8,m9])):=by
 have e:dz l (5+2) t2=(t5,ms++[m8,m9]):=by
  rw[qc,h3];simp only[dz,h4,h5]
 rw[show (9:Nat)=(5+2)+1+1 from rfl];simp only[dz,h1,h2];rw[show (5:Nat)+2=7 from rfl] at e;simp only[dz] at e;obtain⟨e1,e2⟩:=Prod.mk.inj e;rw[e1,←e2]
theorem GM{l:List UInt8}{s1 s t1 t2 t3 t4 t5 u1 u2 u3 v1 v2 v3:St}{many m1 m2 m8 m9 k1 k2 k3:Nat}{ms:List Nat}{vs:List ct}{x1 x2 x3:List UInt8}
  (hm:bm l (0,0,0)=(s1,many)) (hmv:qo l (s1,many)=some (s,vs)) (h1:bm l s=(t1,m1)) (h2:bm l t1=(t2,m2)) (h3:dz l 5 t2=(t3,ms)) (h4:bm l t3=(t4,m8)) (h5:bm l t4=(t5,m9))
  (a1:bG l t5 6=(u1,x1)) (a2:bG l u1 4=(u2,x2)) (a3:bG l u2 16=(u3,x3)) (b1:bm l u3=(v1,k1)) (b2:bm l v1=(v2,k2)) (b3:bm l v2=(v3,k3)) :
  cz l=if (jM l v3).2.1=0∧(jM l v3).2.2=0∧vs.length=many∧aQ (sc vs m1 m2 ms m8 m9 x1 x2 x3 k1 k2 k3)=true then some (sc vs m1 m2 ms m8 m9 x1 x2 x3 k1 k2 k3) else none:=by
 have hl5:ms.length=5:=by have:=nt l 5 t2;rw[h3] at this;exact this
 have hz:dz l 3 u3=(v3,[k1,k2,k3]):=by simp only[dz,b1,b2,b3]
 have hb:dO l s vs=(v3,sc vs m1 m2 ms m8 m9 x1 x2 x3 k1 k2 k3):=by
  unfold dO;rw[Cg h1 h2 h3 h4 h5];simp only;rw[a1];simp only;rw[a2];simp only;rw[a3];simp only;rw[hz];simp only[sc,kY,wY hl5];obtain⟨z1,z2,z3,z4,z5,rfl⟩:∃z1 z2 z3 z4 z5,ms=[z1,z2,z3,z4,z5]:=by
   match ms,hl5 with
   |[z1,z2,z3,z4,z5],_=>exact⟨z1,z2,z3,z4,z5,rfl⟩
  rfl
 unfold cz kw;rw[hm];simp only;rw[hmv];simp only;rw[hb];rfl
theorem uN{l:List UInt8}{s u:St}{n:Nat}{x:List UInt8}(h:bG l s n=(u,x)):x.length≤n:=by
 have:(bG l s n).2.length≤n:=by
  unfold bG;split
  ·exact Nat.zero_le _
  ·have:=ju l s 0 n
   simpa using this
 rw[h] at this;exact this
theorem zh(base g:Nat)(l:List UInt8)(s:St)(w:World)(h:eY w base g l s) :
  Calls Iz 93 #[.pointer (some ⟨g,0,none⟩)] w fun e w'=>e=.returned (.agg #[.int .i64 (s.2.1:Int),.int .i64 (s.2.2:Int)])∧Below w.heap.size w w':=by
 obtain⟨A,c,hr,_⟩:=h;exact eK g A l.length c s.1 s.2.1 s.2.2 w hr
section
variable {w wr:World} {base g:Nat} {l:List UInt8} {s:St} {A:Option Addr} {c:Nat} {f:bf}
theorem k9.thereR(h:k9 w wr base g l s A c f):wr.there w.heap.size 0 54:=h.res.there (by decide)
theorem k9.thereF(h:k9 w wr base g l s A c f):wr.there w.heap.size 0 (am A f.vips.length c f).toArray.size:=by
 have e:(am A f.vips.length c f).toArray.size=54:=by simpa using dD (A:=A) (n:=f.vips.length) (c:=c) h.shape
 rw[e];exact h.thereR
theorem k9.badBlk(h:k9 w wr base g l s A c f):aj (wr.setCells w.heap.size 0 (am none 0 0 bH)) w.heap.size 29 (am none 0 0 bH).toArray:=by
 have:=aj.setCells (am none 0 0 bH) 0 h.res;rw[bn rfl] at this;exact this
theorem k9.bad(h:k9 w wr base g l s A c f)(hno:cz l=none):uM w l (.returned (.tuple #[.agg (am none 0 0 bH).toArray,.int .i64 3])) (wr.setCells w.heap.size 0 (am none 0 0 bH)) :=
 ⟨bq (IK _) _ _ h.bel,fun _=>rfl,fun f hf=>by rw[hno] at hf;cases hf⟩
theorem k9.goodBlk(h:k9 w wr base g l s A c f):aj (wr.setCells w.heap.size 0 (am A f.vips.length c f)) w.heap.size 29 (am A f.vips.length c f).toArray:=by
 have:=aj.setCells (am A f.vips.length c f) 0 h.res;rw[bn (by rw[dD h.shape,dD jI])] at this;exact this
theorem k9.good(h:k9 w wr base g l s A c f)(hyes:cz l=some f):uM w l (.returned (.tuple #[.agg (am A f.vips.length c f).toArray,.int .i64 0])) (wr.setCells w.heap.size 0 (am A f.vips.length c f)):=by
 refine⟨bq (IK _) _ _ h.bel,(fun e=>by rw[hyes] at e;cases e),?_⟩;intro f' hf;rw[hyes] at hf;injection hf with hf
 subst hf;exact⟨A,c,rfl,h.row.grown h.res (by decide) (aY _ w.heap.size 0 _ 0 (World.grownBy.refl _ _)),jb h.row.1,h.shape⟩
end
theorem uO{f:bf}(h:ao f)(x:List UInt8)(hx:x.length≤6):ao { f with mac:=ej x 6 }:=Cc h _ (eX hx)
theorem sP{f:bf}(h:ao f)(x:List UInt8)(hx:x.length≤16):ao { f with four:=(f.four.1,ej x 16) }:=zd h _ (eX hx)
theorem uP{f:bf}(h:ao f)(x:List UInt8)(hx:x.length≤16):ao { f with six:=(f.six.1,ej x 16) }:=Cd h _ (eX hx)
def nK(w wr:World)(g:Nat)(cfg:Array Value)(A:Option Addr)(c:Nat)(m:List UInt8):Prop :=
 aj wr g 29 cfg∧wr.ownsRow w.heap.size 5 1 (.slice A m.length c) m.length (ab m)∧Below w.heap.size w wr
section
variable {w wr w':World} {g:Nat} {cfg:Array Value} {A A':Option Addr} {c c':Nat} {m m':List UInt8}
theorem nK.below(h:nK w wr g cfg A c m)(hb:Below wr.heap.size wr w'):nK w w' g cfg A c m :=
 ⟨aj.below h.1 hb h.1.lt,an h.2.1 hb,h.2.2.trans (hb.mono h.2.2.size)⟩
theorem nK.alloc(h:nK w wr g cfg A c m)(o:Obj):nK w (wr.alloc o) g cfg A c m:=h.below ((Below.refl _ _).alloc (IK _) o)
theorem nK.ne(h:nK w wr g cfg A c m):some g≠(ID A m.length c).ownBlock:=by
 rcases aK h.2.1 h.1 (by decide) with h1|h1
 ·rw[h1];simp
 ·exact fun e=>h1 e.symm
theorem nK.ne0(h:nK w wr g cfg A c m):(ID A 0 0).ownBlock≠some g:=by
 rw[←j9 A m.length c];exact fun e=>h.ne e.symm
theorem nK.neNew(h:nK w wr g cfg A c m):(ID A 0 0).ownBlock≠some wr.heap.size:=by
 rw[←j9 A m.length c];intro e;have:=(h.2.1.lt _ e).2;omega
theorem nK.grow(h:nK w wr g cfg A c m)(hg:wr.grownBy w' (ID A m.length c).ownBlock)(hown:w'.ownsRow w.heap.size 5 1 (.slice A' m'.length c') m'.length (ab m')):nK w w' g cfg A' c' m' :=
 ⟨aj.grown h.1 hg h.ne,hown,h.2.2.grown hg h.2.2.size (fun k hk=>(h.2.1.lt k hk).1)⟩
theorem nK.grow0(h:nK w wr g cfg A c m)(hg:wr.grownBy w' (ID A 0 0).ownBlock)(hown:w'.ownsRow w.heap.size 5 1 (.slice A' m'.length c') m'.length (ab m')):nK w w' g cfg A' c' m' :=
 h.grow (by rw[j9];exact hg) hown
end
theorem NS.lit(w:World)(ns:List Nat)(cs:Array Value)(h:cs=(ns.map fun n:Nat=>Value.int .i64 (n:Int)).toArray)(t:TypeId):NS (w.alloc (.cells cs t)) ⟨w.heap.size,0,none⟩ ns:=fun j n hj=>by
 subst h;rw[show (⟨w.heap.size,0,none⟩:Addr).add j=⟨w.heap.size,j,none⟩ by unfold Addr.add;split<;>simp_all,cell_of_row _ _ j _ t (0,0) (heap_alloc_new w _)];simp[hj]
theorem Ci:(Iz.info? 29).map (·.size)=some 54:=by kernel_rfl
theorem FE{v:ct}(h:aS v.1):(bC v).length≤21:=by
 have hl:v.1.2.length=16:=h;unfold bC aW;split<;>simp<;>omega
theorem lI:∀(vs:List ct),(∀v∈vs,aS v.1)→(vs.flatMap bC).length≤21*vs.length
 |[],_=>by simp
 |v::vs,h=>by
  have h1:=FE (h v (by simp));have h2:=lI vs (fun u hu=>h u (by simp[hu]));rw[I5,qq,IL];omega
theorem tI(vs:List ct)(k:Nat)(v:ct)(h:vs[k]?=some v):(vs.take (k+1)).flatMap bC=(vs.take k).flatMap bC++bC v:=by
 rw[List.take_add_one,h];simp
theorem Ee(A:Option Addr)(n c:Nat)(f:bf)(hf:ao f)(w:World)(hn:n=f.vips.length)(hnc:n≤c)(hb:VS w w.heap.size A f.vips)(hl:n≤1000000) :
  Calls Iz 30 #[iT A n c f] w fun e w'=>Below w.heap.size w w' ∧
   (aQ f=false→e=.returned (.tuple #[.slice none 0 0,.int .i64 1])) ∧
   (aQ f=true→∃A' c',e=.returned (.tuple #[.slice A' (bM f).length c',.int .i64 0])∧w'.ownsRow w.heap.size 5 1 (.slice A' (bM f).length c') (bM f).length (ab (bM f))):=by
 subst hn;unfold iT;obtain⟨i0,hi0,hz0,hz1,hz2⟩:=info_parts bB;obtain⟨W,hW⟩:∃W,W=w.alloc (.cells (am A f.vips.length c f).toArray 29):=⟨_,rfl⟩;have hX:aj W w.heap.size 29 (am A f.vips.length c f).toArray:=by rw[hW];exact aj.new w _ _ _ rfl
 have hB:Below w.heap.size w W:=by rw[hW];exact (Below.refl _ _).alloc (IK _) _
 have hright:=p9 A _ c f hf W rfl hnc ((hb.below hB).more hB.size) hl;unfold iT at hright;have Hright:=hid hright;have HRc:=hid (ag hX);have HW:=hid hW;have HX:=hid hX;have HB:=hid hB;have HV:=hid hb;have Hcsz:Hid ((Iz.info? 29).map (·.size)=some (am A f.vips.length c f).length):=by show _=_;rw[dD hf];exact Ci
 clear hW hX hB hb hright;rcases hr:aQ f with _|_
 ·rw[hr] at Hright
  clear hr;go_enter Tryz.func30,Tryz.ntmps30
  go_upto_region 1 with fail
  rw[←HW.out]
  go_wp2_with (first
   |((with_reducible refine aB 29 ?_);refine aa (by rfl) 29 (.tmp 1) rfl w.heap.size 0 rfl (am A f.vips.length c f) _ HRc.out Tryz.underlying29 rfl Hcsz.out ?_))
  refine Hright.out.mono ?_;rintro e w2 ⟨rfl,hb2⟩
  go_wp2
  go_ret2
  exact⟨HB.out.trans (hb2.mono HB.out.size),fun _=>rfl,fun h=>by cases h⟩
 ·rw[hr] at Hright
  have hrc:=gH.1 hr;have Hrc:=hid hrc;have hv64:=(jj hrc.vips).1;have hvR:Hid (∀v∈f.vips,i6 v=true):=(jj hrc.vips).2;have Hr:=hid hr;clear hr hrc;go_enter Tryz.func30,Tryz.ntmps30
  go_upto_region 1 with fail
  rw[←HW.out]
  go_wp2_with (first
   |((with_reducible refine aB 29 ?_);refine aa (by rfl) 29 (.tmp 1) rfl w.heap.size 0 rfl (am A f.vips.length c f) _ HRc.out Tryz.underlying29 rfl Hcsz.out ?_))
  refine Hright.out.mono ?_;rintro e w2 ⟨rfl,hb2⟩;have h0:nK w w2 w.heap.size (am A f.vips.length c f).toArray none 0 []:=⟨aj.below HX.out hb2 HX.out.lt,I6 _ _ _ _,HB.out.trans (hb2.mono HB.out.size)⟩;have c0:=i8 h0.1;have H0:=hid h0;clear h0 hb2 Hright HRc HX HB HW
  go_wp2_with fail
  obtain⟨W3,hW3⟩:∃W3,W3=w2.alloc (.cells #[.int .i64 (f.vips.length:Int)] 3):=⟨_,rfl⟩;rw[←hW3];have h3:nK w W3 w.heap.size (am A f.vips.length c f).toArray none 0 []:=by rw[hW3];exact H0.out.alloc _
  have hns:NS W3 ⟨w2.heap.size,0,none⟩ [f.vips.length]:=by rw[hW3];exact NS.lit w2 _ _ rfl _
  have hlt:w2.heap.size<W3.heap.size:=by rw[hW3];simp
  refine (jF w.heap.size none 0 [] ⟨w2.heap.size,0,none⟩ 1 1 [f.vips.length] W3 rfl h3.2.1 hns hlt (by simp[IZ]) (by intro n hn;simp at hn;omega) (by simp) (by simp) h3.2.2.size).mono ?_;rintro e w4 ⟨A4,c4,rfl,hown4,_,hg4⟩;have h4:=h3.grow0 hg4 hown4;obtain⟨m0,hm0⟩:∃m0,m0=([]:List UInt8)++aJ [f.vips.length]:=⟨_,rfl⟩;rw[←hm0] at h4 ⊢;have hm0l:m0.length≤10:=by
   rw[hm0];have:=fK (ns:=[f.vips.length]) (by intro n hn;simp at hn;omega);simpa using this
  have Hm0:Hid (m0=aC f.vips.length):=by show _=_;rw[hm0];simp[aJ]
  have H4:=hid h4;have c4':=i8 h4.1;clear h3 hns hlt hown4 hg4 h4 hW3 H0 c0 hm0
  go_wp2_with fail
  clear c4';go_loopw [4,19] (fun v i wr=>∃(k:Nat) (A':Option Addr) (c':Nat),k≤f.vips.length∧i=.int .i64 (k:Int)∧v=.slice A' (m0++(f.vips.take k).flatMap bC).length c'∧Hid (nK w wr w.heap.size (am A f.vips.length c f).toArray A' c' (m0++(f.vips.take k).flatMap bC))) (fun _ i _=>f.vips.length-(intOf i).toNat)
  case atStart=>exact⟨0,A4,c4,by omega,rfl,by simp,by have:=H4;simpa using this⟩
  case round =>
   obtain⟨k,A',c',hk,rfl,rfl,hat⟩:=hrel;by_cases hlt:k<f.vips.length
   ·have hltI:(k:Int)<(f.vips.length:Int):=by omega
    have hk0:(0:Int)≤(k:Int):=by omega
    obtain⟨b,o,hA,hbB,hc⟩:=(HV.out.below hat.out.2.2) (by omega);subst hA;obtain⟨x,hx⟩:∃x,x=f.vips[k]:=⟨_,rfl⟩;have hx?:f.vips[k]?=some x:=by rw[Iy hlt,hx]
    have hrg:=hc k x hx?;have hxo:aS x.1:=hf.vips x (by rw[hx];exact I7 hlt);have hxr:i6 x=true:=hvR.out x (by rw[hx];exact I7 hlt);obtain⟨m,hm⟩:∃m,m=m0++(f.vips.take k).flatMap bC:=⟨_,rfl⟩;have hm2:m0++(f.vips.take (k+1)).flatMap bC=m++bC x:=by rw[tI _ _ _ hx?,←IS,←hm]
    have hml:m.length≤1400:=by
     have:=lI (f.vips.take k) (fun v hv=>hf.vips v (List.mem_of_mem_take hv));rw[hm,qq];rw[List.length_take] at this;omega
    rw[←hm] at hat ⊢;have Hm2:=hid hm2;have Hrg:=hid hrg;have Hsz:=hid (lR hxo);have Hasz:=hid (eo hxo);have Hxr:=hid hxr;clear hc hrg hx hx? hm hm2 hxr;have hszr:w.heap.size≤wr.heap.size:=hat.out.2.2.size;obtain⟨W0,hW0⟩:∃W0,W0=wr.alloc (.cells (aI ia).toArray 108):=⟨_,rfl⟩;have hX0:aj W0 wr.heap.size 108 (aI ia).toArray:=by rw[hW0];exact aj.new _ _ _ _ rfl
    have Hth:Hid (W0.there wr.heap.size 0 (aI x).toArray.size):=hX0.there (by rw[kn,List.size_toArray,bK hxo];decide);have HW0:=hid hW0;have HX0:=hid hX0;clear hW0 hX0;rw[kn] at HW0;go_upto_region 7 with (first
     |((with_reducible refine aB 108 ?_);refine aa (by rfl) 108 (.tmp 21) rfl b (o+k*20) rfl (aI x) _ Hrg.out Tryz.underlying108 rfl Hsz.out ?_)
     |(rw[←HW0.out]
       (with_reducible refine aR 108 ?_)
       refine wpList_store_mid rfl 108 (.tmp 6) (.tmp 22) rfl wr.heap.size 0 (aI x).toArray rfl rfl Hth.out Hsz.out (gV x) ?_))
    obtain⟨W1,hW1⟩:∃W1,W1=W0.setCells wr.heap.size 0 (aI x):=⟨_,rfl⟩;have hX1:aj W1 wr.heap.size 108 (aI x).toArray:=by
     rw[hW1];have:=aj.setCells (aI x) 0 HX0.out;rw[bn (by rw[bK hxo];rfl)] at this;exact this
    have hbW:Below wr.heap.size wr W1:=by rw[hW1,HW0.out];exact bq (IK _) _ _ ((Below.refl _ _).alloc (IK _) _)
    have h1:=hat.out.below hbW;rw[←hW1];have c17:W1.cell? ⟨wr.heap.size,17,none⟩=some (.int .i64 x.2.1):=eU hxo hX1 0;have c18:W1.cell? ⟨wr.heap.size,18,none⟩=some (.int .i64 x.2.2.1):=eU hxo hX1 1;have c19:W1.cell? ⟨wr.heap.size,19,none⟩=some (.bool x.2.2.2):=eU hxo hX1 2;have hput:=vv x.1 hxo W1;unfold iP at hput;have Hput:=hid hput;have H1:=hid h1;have HX1:=hid hX1;have HR1:=hid (eL hX1);clear hW1 hX1 hbW h1 hput Hth HX0 HW0 Hrg hat;rcases htun:x.2.2.2 with _|_
    all_goals
     rw[htun] at c19;have Htun:=hid htun;clear htun
     go_wp2_with (first
      |((with_reducible refine aB 27 ?_);refine aa (by rfl) 27 (.tmp 26) rfl wr.heap.size 0 rfl (ai x.1) _ HR1.out I4 rfl Hasz.out ?_))
     refine Hput.out.mono ?_;rintro e w5 ⟨A2,c2,rfl,hown2,hb2⟩;have h2:=H1.out.below hb2;have hX2:=aj.below HX1.out hb2 HX1.out.lt;have hsz2:=h2.2.2.size;have hml2:m.length+(aW x.1).length≤1440:=by
      have hl16:x.1.2.length=16:=hxo;unfold aW;split<;>simp<;>omega
     have Hown:=hid h2.2.1;have HB2:=hid (BS.of_own hown2).1;have H2:=hid h2;have HX2:=hid hX2;clear hown2 hb2 h2 hX2 c17 c18 c19 Hput H1 HX1 HR1;go_upto_region 11 with (at_builtin;refine ae _ rfl _ _ 43 rfl w.heap.size 5 i0 (.int .u8 0) 1 II hi0 hz0 hz1 hz2 rfl (.slice A' m.length c') m rfl Hown.out _ A2 _ c2 (aW x.1) rfl rfl HB2.out (by unfold maxLen;omega) (by omega) hsz2 ?_;intro A6 c6 w6 hown6 hg6 hob6)
     have h3:=H2.out.grow hg6 hown6;have hX3:=aj.grown HX2.out hg6 (by
      rcases aK H2.out.2.1 HX2.out (by decide) with h|h
      ·rw[h];simp
      ·exact fun e=>h e.symm)
     have c17:w6.cell? ⟨wr.heap.size,17,none⟩=some (.int .i64 x.2.1):=eU hxo hX3 0;have c18:w6.cell? ⟨wr.heap.size,18,none⟩=some (.int .i64 x.2.2.1):=eU hxo hX3 1;have H3:=hid h3;have hsz3:=h3.2.2.size;clear h3 hX3 hown6 hg6 hob6 H2 HX2 Hown HB2;obtain⟨m1,hm1⟩:∃m1,m1=m++aW x.1:=⟨_,rfl⟩;have hm1l:m1.length≤1440:=by rw[hm1,qq];exact hml2
     rw[←hm1] at H3;rw[←qq,←hm1];have hp0:0≤x.2.1∧x.2.1≤17:=by
      have:=Hxr.out;simp only[i6,IV,Bool.or_eq_true,beq_iff_eq] at this;omega
     have hq0:1≤x.2.2.1∧x.2.2.1≤65535:=by
      have:=Hxr.out;simp only[i6,IV,j4] at this;exact this.2
     have hu1:x.2.1%256=((IQ x.2.1.toNat).toNat:Int):=by rw[IR];omega
     have hu2:x.2.2.1/256%256=((IQ (x.2.2.1.toNat/256)).toNat:Int):=by rw[IR];omega
     have hu3:x.2.2.1%256=((IQ x.2.2.1.toNat).toNat:Int):=by rw[IR];omega
     obtain⟨L4,hL4⟩:∃L4,L4=[IQ x.2.1.toNat,IQ (x.2.2.1.toNat/256),IQ x.2.2.1.toNat,if x.2.2.2 then 1 else 0]:=⟨_,rfl⟩;have hL4l:L4.length=4:=by rw[hL4];rfl
     have Hcs:Hid (#[.int .u8 (x.2.1%256),.int .u8 (x.2.2.1/256%256),.int .u8 (x.2.2.1%256),.int .u8 (if x.2.2.2 then 1 else 0)]=(ab L4).toArray):=by
      show _=_
      rw[hu1,hu2,hu3,hL4,Htun.out];rfl
     rw[Htun.out] at Hcs;simp only[reduceIte,I2] at Hcs;have HM:Hid (m++bC x=m1++L4):=by show _=_;rw[hm1,hL4,IS];rfl
     have HL4l:=hid hL4l;clear hu1 hu2 hu3 hL4 hm1 hL4l hp0 hq0
     go_wp2_with (at_builtin;refine ae _ rfl _ _ 43 rfl w.heap.size 5 i0 (.int .u8 0) 1 II hi0 hz0 hz1 hz2 rfl (.slice A6 m1.length c6) m1 rfl (an H3.out.2.1 ((Below.refl _ _).alloc (IK _) _)) _ (some ⟨w6.heap.size,0,none⟩) 4 4 L4 rfl HL4l.out.symm (BS.lit w6 L4 _ Hcs.out _ _) (by rw[HL4l.out];unfold maxLen;omega) (by rw[HL4l.out];omega) (by rw[show (w6.alloc _).heap.size=w6.heap.size+1 by simp];omega) ?_;intro A7 c7 w7 hown7 hg7 hob7)
     have h7:=(H3.out.alloc _).grow hg7 hown7;rw[←HM.out,←Hm2.out] at h7;have H7:=hid h7;have Hlen:Hid ((m0++(f.vips.take (k+1)).flatMap bC).length=m1.length+L4.length):=by show _=_;rw[Hm2.out,HM.out,qq]
     clear h7 hown7 hg7 hob7 H3 c17 c18;go_roundw
     case rel=>exact⟨k+1,A7,c7,by omega,by go_num,by rw[Hlen.out],H7⟩
     case measure=>simp[intOf];omega
   ·have hltI:¬(k:Int)<(f.vips.length:Int):=by omega
    have hkn:f.vips.take k=f.vips:=List.take_of_length_le (by omega);rw[hkn] at hat ⊢;obtain⟨m,hm⟩:∃m,m=m0++f.vips.flatMap bC:=⟨_,rfl⟩;have hml:m.length≤1400:=by
     have:=lI f.vips hf.vips;rw[hm,qq];omega
    rw[←hm] at hat ⊢;have Hm:Hid (m=aC f.vips.length++f.vips.flatMap bC):=by show _=_;rw[hm,Hm0.out]
    clear hm hkn;obtain⟨x4,hx4⟩:∃x4,x4=f.four.2.take 4:=⟨_,rfl⟩;have hx4l:x4.length=4:=by have:f.four.2.length=16:=hf.four;rw[hx4];simp[this]
    have h6l:f.six.2.length=16:=hf.six;have hmac6:f.mac.length=6:=hf.mac;obtain⟨is,his⟩:∃is,is=(f.idle.drop 1).map Int.toNat:=⟨_,rfl⟩;have hisl:is.length=5:=by rw[his];simp[hf.idle]
    obtain⟨n1,hn1⟩:∃n1,n1=f.size.toNat:=⟨_,rfl⟩;obtain⟨n2,hn2⟩:∃n2,n2=f.room.toNat:=⟨_,rfl⟩;obtain⟨n3,hn3⟩:∃n3,n3=f.rise.toNat:=⟨_,rfl⟩;obtain⟨n4,hn4⟩:∃n4,n4=f.fall.toNat:=⟨_,rfl⟩;obtain⟨n5,hn5⟩:∃n5,n5=f.most.toNat:=⟨_,rfl⟩;obtain⟨n6,hn6⟩:∃n6,n6=f.keep.toNat:=⟨_,rfl⟩;obtain⟨n7,hn7⟩:∃n7,n7=f.batch.toNat:=⟨_,rfl⟩;have hr:=Hrc.out;have hr1:=hr.size;have hr2:=hr.room;have hr3:=hr.rise;have hr4:=hr.fall;have hr5:=hr.most;have hr6:=hr.keep;have hr7:=hr.batch;have hb1:n1≤1048577:=by omega
    have hb2:n2≤1048577:=by omega
    have hb3:n3≤1048577:=by omega
    have hb4:n4≤1048577:=by omega
    have hb5:n5≤1048577:=by omega
    have hb6:n6≤1048577:=by omega
    have hb7:n7≤1048577:=by omega
    have his64:Hid (∀n∈is,n<9223372036854775808):=fun n hn=>by
     rw[his,Jd] at hn;obtain⟨z,hz,rfl⟩:=hn;have:=(jc hr.idle).2 z (List.mem_of_mem_drop hz);omega
    have HI:Hid (∀w',aj w' w.heap.size 29 (am A f.vips.length c f).toArray→NS w' ⟨w.heap.size,4,none⟩ is):=fun w' h j n hj=>by
     rw[show (⟨w.heap.size,4,none⟩:Addr).add j=⟨w.heap.size,3+(1+j),none⟩ by unfold Addr.add;split<;>simp_all<;>omega];have hj5:j<5:=by rw[←hisl];exact (IM.1 hj).1
     rw[jv h hf (by omega)];rw[his,IH,List.getElem?_drop] at hj;rcases hz:f.idle[1+j]? with _|z
     ·rw[hz] at hj;cases hj
     ·rw[hz] at hj
      simp only[Option.map_some,Jf.injEq] at hj ⊢;have:=(jc hr.idle).2 z (IJ hz);rw[←hj,iv,I0 this.1]
    have HC:Hid (∀w',aj w' w.heap.size 29 (am A f.vips.length c f).toArray→w'.cell? ⟨w.heap.size,1,none⟩=some (.int .i64 (n1:Int))∧w'.cell? ⟨w.heap.size,2,none⟩=some (.int .i64 (n2:Int))∧w'.cell? ⟨w.heap.size,9,none⟩=some (.int .i64 (n3:Int))∧w'.cell? ⟨w.heap.size,10,none⟩=some (.int .i64 (n4:Int))∧w'.cell? ⟨w.heap.size,51,none⟩=some (.int .i64 (n5:Int))∧w'.cell? ⟨w.heap.size,52,none⟩=some (.int .i64 (n6:Int))∧w'.cell? ⟨w.heap.size,53,none⟩=some (.int .i64 (n7:Int))):=fun w' h=>by
     have e1:((n1:Nat):Int)=f.size:=by omega
     have e2:((n2:Nat):Int)=f.room:=by omega
     have e3:((n3:Nat):Int)=f.rise:=by omega
     have e4:((n4:Nat):Int)=f.fall:=by omega
     have e5:((n5:Nat):Int)=f.most:=by omega
     have e6:((n6:Nat):Int)=f.keep:=by omega
     have e7:((n7:Nat):Int)=f.batch:=by omega
     rw[e1,e2,e3,e4,e5,e6,e7];exact⟨lT h,lU h,lV h hf,lW h hf,lY h hf,lZ h hf,ko h hf⟩
    have HBs:Hid (∀w',aj w' w.heap.size 29 (am A f.vips.length c f).toArray→BS w' w'.heap.size (some ⟨w.heap.size,11,none⟩) f.mac∧BS w' w'.heap.size (some ⟨w.heap.size,18,none⟩) x4∧BS w' w'.heap.size (some ⟨w.heap.size,35,none⟩) f.six.2):=fun w' h=>by
     have hadd:∀(o j:Nat),(⟨w.heap.size,o,none⟩:Addr).add j=⟨w.heap.size,o+j,none⟩:=fun o j=>by unfold Addr.add;split<;>simp_all
     refine⟨fun hp=>⟨_,rfl,h.lt,fun j u hj=>?_⟩,?_,fun hp=>⟨_,rfl,h.lt,fun j u hj=>?_⟩⟩
     ·rw[hadd]
      have:=qJ h hf j (mD u) (by rw[ab,IH,hj];rfl);exact this
     ·rw[hx4]
      refine BS.take (fun hp=>⟨_,rfl,h.lt,fun j u hj=>?_⟩) 4;rw[hadd];have:=lX h hf (1+j) (mD u) (by rw[ai,show 1+j=j+1 by omega,IP,ab,IH,hj];rfl);rw[show 18+j=17+(1+j) by omega];exact this
     ·rw[hadd]
      have:=rA h hf (1+j) (mD u) (by rw[ai,show 1+j=j+1 by omega,IP,ab,IH,hj];rfl);rw[show 35+j=34+(1+j) by omega];exact this
    have HCN:Hid (dd f=[n1,n2]++(is++[n3,n4])):=by show _=_;unfold dd;rw[hn1,hn2,hn3,hn4,his];rfl
    have HCL:Hid (dN f=[n5,n6,n7]):=by show _=_;unfold dN;rw[hn5,hn6,hn7]
    have Hx4:=hid hx4;have Hr4:=hid hx4l;have Hr6:=hid h6l;have Hrm:=hid hmac6;have Hisl:=hid hisl;clear hr hr1 hr2 hr3 hr4 hr5 hr6 hr7 hn1 hn2 hn3 hn4 hn5 hn6 hn7 his hx4 hx4l h6l hmac6 hisl;have hlen:m.length≤1400:=hml;obtain⟨d1,d2,d3,d4,d5,d6,d7⟩:=HC.out _ hat.out.1
    go_wp2_with fail
    obtain⟨W20,hW20⟩:∃W,W=wr.alloc (.cells #[.int .i64 (n1:Int),.int .i64 (n2:Int)] 3):=⟨_,rfl⟩;rw[←hW20];have h1:nK w W20 w.heap.size (am A f.vips.length c f).toArray A' c' m:=by rw[hW20];exact hat.out.alloc _
    have hns:NS W20 ⟨wr.heap.size,0,none⟩ [n1,n2]:=by rw[hW20];exact NS.lit wr _ _ rfl _
    have hlt:wr.heap.size<W20.heap.size:=by rw[hW20];simp
    refine (jF w.heap.size A' c' m ⟨wr.heap.size,0,none⟩ 2 2 [n1,n2] W20 rfl h1.2.1 hns hlt hat.out.neNew (by intro n hn;simp only[IG,IF,or_false] at hn;omega) (by omega) (by simp) h1.2.2.size).mono ?_;rintro e w20 ⟨A20,c20,rfl,hown,_,hg⟩;have h2:=h1.grow0 hg hown;obtain⟨m20,hm20⟩:∃m',m'=m++aJ [n1,n2]:=⟨_,rfl⟩;rw[←hm20] at h2 ⊢;have hlen20:m20.length≤m.length+30:=by
     rw[hm20,qq];have:=fK (ns:=[n1,n2]) (by intro n hn;simp only[IG,IF,or_false] at hn;omega);simp only[IL,IX] at this;omega
    have Hm20:=hid hm20;have Hs20:=hid h2;clear h1 hns hlt hown hg h2 hW20 d1 d2 d3 d4 d5 d6 d7 hat hm20
    go_wp2_with fail
    refine (jF w.heap.size A20 c20 m20 ⟨w.heap.size,4,none⟩ 5 5 is w20 Hisl.out.symm Hs20.out.2.1 (HI.out _ Hs20.out.1) Hs20.out.1.lt Hs20.out.ne0 his64.out (by omega) (by rw[Hisl.out];decide) Hs20.out.2.2.size).mono ?_;rintro e w21 ⟨A21,c21,rfl,hown,_,hg⟩;have h2:=Hs20.out.grow0 hg hown;obtain⟨m21,hm21⟩:∃m',m'=m20++aJ is:=⟨_,rfl⟩;rw[←hm21] at h2 ⊢;have hlen21:m21.length≤m20.length+50:=by
     rw[hm21,qq];have:=fK (ns:=is) (fun n hn=>by have:=his64.out n hn;omega);rw[Hisl.out] at this;omega
    have Hm21:=hid hm21;have Hs21:=hid h2;clear hown hg h2 Hs20 hm21;obtain⟨d1,d2,d3,d4,d5,d6,d7⟩:=HC.out _ Hs21.out.1
    go_wp2_with fail
    obtain⟨W22,hW22⟩:∃W,W=w21.alloc (.cells #[.int .i64 (n3:Int),.int .i64 (n4:Int)] 3):=⟨_,rfl⟩;rw[←hW22];have h1:nK w W22 w.heap.size (am A f.vips.length c f).toArray A21 c21 m21:=by rw[hW22];exact Hs21.out.alloc _
    have hns:NS W22 ⟨w21.heap.size,0,none⟩ [n3,n4]:=by rw[hW22];exact NS.lit w21 _ _ rfl _
    have hlt:w21.heap.size<W22.heap.size:=by rw[hW22];simp
    refine (jF w.heap.size A21 c21 m21 ⟨w21.heap.size,0,none⟩ 2 2 [n3,n4] W22 rfl h1.2.1 hns hlt Hs21.out.neNew (by intro n hn;simp only[IG,IF,or_false] at hn;omega) (by omega) (by simp) h1.2.2.size).mono ?_;rintro e w22 ⟨A22,c22,rfl,hown,_,hg⟩;have h2:=h1.grow0 hg hown;obtain⟨m22,hm22⟩:∃m',m'=m21++aJ [n3,n4]:=⟨_,rfl⟩;rw[←hm22] at h2 ⊢;have hlen22:m22.length≤m21.length+30:=by
     rw[hm22,qq];have:=fK (ns:=[n3,n4]) (by intro n hn;simp only[IG,IF,or_false] at hn;omega);simp only[IL,IX] at this;omega
    have Hm22:=hid hm22;have Hs22:=hid h2;clear h1 hns hlt hown hg h2 hW22 d1 d2 d3 d4 d5 d6 d7 Hs21 hm22;go_upto_region 17 with ((with_reducible refine rt .append ?_);refine ae _ rfl _ _ 43 rfl w.heap.size 5 i0 (.int .u8 0) 1 II hi0 hz0 hz1 hz2 rfl (.slice A22 m22.length c22) m22 rfl Hs22.out.2.1 _ (some ⟨w.heap.size,11,none⟩) 6 6 (f.mac) rfl Hrm.out.symm (HBs.out _ Hs22.out.1).1 (by rw[Hrm.out];unfold maxLen;omega) (by rw[Hrm.out];omega) Hs22.out.2.2.size ?_;intro A23 c23 w23 hown hg hob)
    have h2:=Hs22.out.grow hg hown;obtain⟨m23,hm23⟩:∃m',m'=m22++f.mac:=⟨_,rfl⟩;rw[←hm23] at h2;rw[←qq,←hm23];have hlen23:m23.length≤m22.length+16:=by rw[hm23,qq,Hrm.out];omega
    have Hm23:=hid hm23;have Hs23:=hid h2;clear hown hg hob h2 Hs22 hm23;go_upto_region 18 with ((with_reducible refine rt .append ?_);refine ae _ rfl _ _ 43 rfl w.heap.size 5 i0 (.int .u8 0) 1 II hi0 hz0 hz1 hz2 rfl (.slice A23 m23.length c23) m23 rfl Hs23.out.2.1 _ (some ⟨w.heap.size,18,none⟩) 4 16 (x4) rfl Hr4.out.symm (HBs.out _ Hs23.out.1).2.1 (by rw[Hr4.out];unfold maxLen;omega) (by rw[Hr4.out];omega) Hs23.out.2.2.size ?_;intro A24 c24 w24 hown hg hob)
    have h2:=Hs23.out.grow hg hown;obtain⟨m24,hm24⟩:∃m',m'=m23++x4:=⟨_,rfl⟩;rw[←hm24] at h2;rw[←qq,←hm24];have hlen24:m24.length≤m23.length+16:=by rw[hm24,qq,Hr4.out];omega
    have Hm24:=hid hm24;have Hs24:=hid h2;clear hown hg hob h2 Hs23 hm24;go_upto_region 19 with ((with_reducible refine rt .append ?_);refine ae _ rfl _ _ 43 rfl w.heap.size 5 i0 (.int .u8 0) 1 II hi0 hz0 hz1 hz2 rfl (.slice A24 m24.length c24) m24 rfl Hs24.out.2.1 _ (some ⟨w.heap.size,35,none⟩) 16 16 (f.six.2) rfl Hr6.out.symm (HBs.out _ Hs24.out.1).2.2 (by rw[Hr6.out];unfold maxLen;omega) (by rw[Hr6.out];omega) Hs24.out.2.2.size ?_;intro A25 c25 w25 hown hg hob)
    have h2:=Hs24.out.grow hg hown;obtain⟨m25,hm25⟩:∃m',m'=m24++f.six.2:=⟨_,rfl⟩;rw[←hm25] at h2;rw[←qq,←hm25];have hlen25:m25.length≤m24.length+16:=by rw[hm25,qq,Hr6.out];omega
    have Hm25:=hid hm25;have Hs25:=hid h2;clear hown hg hob h2 Hs24 hm25;obtain⟨d1,d2,d3,d4,d5,d6,d7⟩:=HC.out _ Hs25.out.1
    go_wp2_with fail
    obtain⟨W26,hW26⟩:∃W,W=w25.alloc (.cells #[.int .i64 (n5:Int),.int .i64 (n6:Int),.int .i64 (n7:Int)] 3):=⟨_,rfl⟩;rw[←hW26];have h1:nK w W26 w.heap.size (am A f.vips.length c f).toArray A25 c25 m25:=by rw[hW26];exact Hs25.out.alloc _
    have hns:NS W26 ⟨w25.heap.size,0,none⟩ [n5,n6,n7]:=by rw[hW26];exact NS.lit w25 _ _ rfl _
    have hlt:w25.heap.size<W26.heap.size:=by rw[hW26];simp
    refine (jF w.heap.size A25 c25 m25 ⟨w25.heap.size,0,none⟩ 3 3 [n5,n6,n7] W26 rfl h1.2.1 hns hlt Hs25.out.neNew (by intro n hn;simp only[IG,IF,or_false] at hn;omega) (by omega) (by simp) h1.2.2.size).mono ?_;rintro e w26 ⟨A26,c26,rfl,hown,_,hg⟩;have h2:=h1.grow0 hg hown;obtain⟨m26,hm26⟩:∃m',m'=m25++aJ [n5,n6,n7]:=⟨_,rfl⟩;rw[←hm26] at h2 ⊢;have hlen26:m26.length≤m25.length+30:=by
     rw[hm26,qq];have:=fK (ns:=[n5,n6,n7]) (by intro n hn;simp only[IG,IF,or_false] at hn;omega);simp only[IL,IX] at this;omega
    have Hm26:=hid hm26;have Hs26:=hid h2;clear h1 hns hlt hown hg h2 hW26 d1 d2 d3 d4 d5 d6 d7 Hs25 hm26;have HF:Hid (m26=bM f):=by
     show _=_
     rw[Hm26.out,Hm25.out,Hm24.out,Hm23.out,Hm22.out,Hm21.out,Hm20.out,Hm.out];unfold bM;rw[HCN.out,HCL.out,Hx4.out];simp only[fW,IS]
    go_wp2
    go_ret2
    refine⟨Hs26.out.2.2,(fun h=>by cases h),fun _=>⟨A26,c26,?_,?_⟩⟩
    ·rw[←HF.out];rfl
    ·rw[←HF.out];exact Hs26.out.2.1
section
variable {P:Program} (w:World)
theorem nW:∀(xs ys:List Int),xs.length=ys.length→((List.range xs.length).all fun i=>xs.getD i 0==ys.getD i 0)=(xs==ys)
 |[],[],_=>rfl
 |x::xs,y::ys,h=>by
  have ih:=nW xs ys (by simpa using h);rw[IL,List.range_succ_eq_map,List.all_cons,List.all_map];simp only[List.getD_cons_zero,Function.comp_def,List.getD_cons_succ,ih];simp[List.cons_beq_cons]
 |[],_::_,h=>by simp at h
 |_::_,[],h=>by simp at h
theorem lJ(d:Nat)(t e:TypeId)(n:Nat)(ht:P.underlying t=some (.array n e))(he:P.underlying e=some (.int .i64))(hsz:∀w,(sizeOf e).run P w=.ok 1 w)
  (xs ys:List Int) (hx:xs.length=n) (hy:ys.length=n) :
  (I9 (d+2) t (.agg (xs.map iv).toArray) (.agg (ys.map iv).toArray)).run P w=.ok (xs==ys) w:=by
 rw[←nW xs ys (hx.trans hy.symm),hx,List.range_eq_range',I9];simp only[Je,run_underlying ht,IT,hsz,Std.Legacy.Range.forIn_eq_forIn_range',Std.Legacy.Range.size,Nat.sub_zero,Nat.add_sub_cancel,Nat.div_one];have hl:∀i∈List.range' 0 n 1,i<n:=fun i hi=>by simpa using (List.mem_range'_1.1 hi).2
 generalize List.range' 0 n 1=l at hl ⊢
 induction l with
 |nil=>simp
 |cons i l ih =>
  have hi:i<n:=hl i (by simp);have px:(part e (xs.map iv).toArray (i*1)).run P w=.ok (iv (xs.getD i 0)) w:=by
   simp[part,isAgg,run_underlying he,List.getD,Iy (show i<xs.length by omega)]
  have py:(part e (ys.map iv).toArray (i*1)).run P w=.ok (iv (ys.getD i 0)) w:=by
   simp[part,isAgg,run_underlying he,List.getD,Iy (show i<ys.length by omega)]
  have pe:(I9 (d+1) e (iv (xs.getD i 0)) (iv (ys.getD i 0))).run P w=.ok (xs.getD i 0==ys.getD i 0) w:=by
   rw[iv,iv,run_equalIn_int w d e .i64 .i64 _ _ he]
  simp only[List.forIn_cons,Je,px,py,pe,IT,List.all_cons];cases hb:(xs.getD i 0==ys.getD i 0)
  ·simp
  ·simp only[I1,I2,if_false,Sem.run_pure,IT,Ja]
   exact ih fun j hj=>hl j (by simp[hj])
end
theorem zi:Iz.eqGuardType Iz.depth 23=false:=by kernel_rfl
theorem Ck:Iz.eqGuardType Iz.depth 24=false:=by kernel_rfl
theorem Ef:(Iz.info? 24).map (·.size)=some 6:=by kernel_rfl
theorem Eg{f:bf}(h:ao f):(Iz.info? 24).map (·.size)=some (ab f.mac).length:=by rw[ap,h.mac];exact Ef
theorem wZ(A:Option Addr)(n c:Nat)(f:bf)(A':Option Addr)(n' c':Nat)(g:bf)(hf:ao f)(hg:ao g)(w:World)(hn:n=f.vips.length)(hn':n'=g.vips.length)(hb:VS w w.heap.size A f.vips)(hb':VS w w.heap.size A' g.vips)(hl:n≤1000000)(hl':n'≤1000000) :
  Calls Iz 47 #[iT A n c f,iT A' n' c' g] w fun e w'=>e=.returned (.bool (nO f g))∧Below w.heap.size w w':=by
 subst hn hn';unfold iT;obtain⟨W1,W,HW1,HW,Hs1,HX,HY,HB⟩:=mf w 29 29 (am A f.vips.length c f).toArray (am A' g.vips.length c' g).toArray;have l0:w.heap.size<W.heap.size:=HX.out.lt;have l1:w.heap.size+1<W.heap.size:=HY.out.lt;have HV:=hid ((hb.below HB.out).more HB.out.size);have HU:=hid ((hb'.below HB.out).more HB.out.size);have hF:=hid hf;have hG:=hid hg;have a0:=i8 HX.out;have b0:=i8 HY.out;obtain⟨n,hn⟩:∃n,n=f.vips.length:=⟨_,rfl⟩;obtain⟨n',hn'⟩:∃n,n=g.vips.length:=⟨_,rfl⟩;rw[←hn] at a0 hl;rw[←hn'] at b0 hl';obtain⟨r,hr⟩:∃r,r=nO f g:=⟨_,rfl⟩;rw[←hr];have Hn:=hid hn;have Hn':=hid hn';have Hr:=hid hr;clear hb hb' hf hg hn hn' hr;go_enter Tryz.func47,Tryz.ntmps47
 go_upto_region 1 with fail
 rw[←HW1.out,←HW.out];by_cases hlen:n=n'
 rotate_left
 ·have hI:¬(n:Int)=(n':Int):=by omega
  have hf:Hid (r=false):=by
   show _=_
   rw[Hr.out];rcases hv:(f.vips==g.vips) with _|_
   ·simp[nO,hv]
   ·rw[Hn.out,Hn'.out,eq_of_beq hv] at hlen
    exact absurd rfl hlen
  go_wp2
  go_ret
  exact⟨by rw[hf.out];rfl,HB.out⟩
 subst hlen
 go_wp2
 go_loopw [5] (fun i wr=>∃k:Nat,k≤n∧i=.int .i64 (k:Int)∧Hid (Below W.heap.size W wr)∧Hid (∀j,j<k→f.vips[j]?=g.vips[j]?)) (fun i _=>n-(intOf i).toNat)
 case atStart=>exact⟨0,by omega,rfl,Below.refl _ _,fun j hj=>by omega⟩
 case round =>
  obtain⟨k,hk,rfl,hbel,hat⟩:=hrel;rename World=>wr
  have r0:=(bg hbel.out _ 0 l0).trans a0;have s0:=(bg hbel.out _ 0 l1).trans b0;have m0:w.heap.size<wr.heap.size:=IN l0 hbel.out.size;have m1:w.heap.size+1<wr.heap.size:=IN l1 hbel.out.size;by_cases hlt:k<n
  ·have hltI:(k:Int)<(n:Int):=by omega
   have hk0:(0:Int)≤(k:Int):=by omega
   obtain⟨b1,o1,hA,hbB,hc⟩:=(HV.out.below hbel.out) (by rw[←Hn.out];omega);obtain⟨b2,o2,hA',hbB',hc'⟩:=(HU.out.below hbel.out) (by rw[←Hn'.out];omega);rw[hA] at r0;rw[hA'] at s0;obtain⟨x,hx⟩:∃x,f.vips[k]?=some x:=⟨_,Iy (by rw[←Hn.out];exact hlt)⟩;obtain⟨y,hy⟩:∃y,g.vips[k]?=some y:=⟨_,Iy (by rw[←Hn'.out];exact hlt)⟩;have hxo:=hid (hF.out.vips x (IJ hx));have hyo:=hid (hG.out.vips y (IJ hy));have Hx:=hid (hc k x hx);have Hy:=hid (hc' k y hy);have q1:b1<wr.heap.size:=IN hbB hbel.out.size;have q2:b2<wr.heap.size:=IN hbB' hbel.out.size;have Hno:Hid ((x==y)=false→r=false):=fun h=>by
    rw[Hr.out];rcases hv:(f.vips==g.vips) with _|_
    ·simp[nO,hv]
    ·rw[eq_of_beq hv,hy] at hx
     injection hx with e
     simp[e] at h
   have Hyes:Hid ((x==y)=true→∀j,j<k+1→f.vips[j]?=g.vips[j]?):=fun h j hj=>by
    rcases I3 j k with h1|h1
    ·exact hat.out j h1
    ·obtain rfl:j=k:=by omega
     rw[hx,hy,eq_of_beq h]
   clear hc hc' hx hy hat a0 b0 hA hA';go_upto_region 6 with fail
   refine Sd.start ?_
   repeat ((first|refine sl Hx.out q1 lu (lR hxo.out) ?_|refine sl Hy.out q2 lu (lR hyo.out) ?_|refine en (Dc 9996 x y hxo.out hyo.out) Cj ?_|refine pt ?_);simp only[ld,lg,lf,Jb])
   refine Sd.done fun w3 hb3=>?_
   have Hb3:=hid (hbel.out.trans (hb3.mono hbel.out.size));clear hb3 hbel r0 s0;rcases hv:(x==y) with _|_
   ·have hf:=hid (Hno.out hv)
    simp only[hv,Bool.not_false];clear hv
    go_wp2
    go_ret
    exact⟨by rw[hf.out];rfl,HB.out.trans (Hb3.out.mono HB.out.size)⟩
   ·have hf:=hid (Hyes.out hv)
    simp only[hv,I1];clear hv
    go_wp2
    go_roundw
    case rel=>exact⟨k+1,by omega,by go_num,Hb3,hf⟩
    case measure=>simp[intOf];omega
  ·have hltI:¬(k:Int)<(n:Int):=by omega
   have hv:f.vips=g.vips:=List.ext_getElem? fun j=>by
    rcases I3 j k with h1|h1
    ·exact hat.out j h1
    ·rw[IY (by rw[←Hn.out];omega),IY (by rw[←Hn'.out];omega)]
   obtain⟨T,hT⟩:∃T,T=(f.size==g.size&&f.room==g.room&&f.idle==g.idle&&f.rise==g.rise&&f.fall==g.fall&&f.mac==g.mac&&f.four==g.four&&f.six==g.six&&f.most==g.most&&f.keep==g.keep&&f.batch==g.batch):=⟨_,rfl⟩;have HT:Hid (r=T):=by show _=_;rw[hT,Hr.out];unfold nO;rw[hv,beq_self_eq_true,Ja];simp only[Bool.and_assoc]
   have HX2:=hid (aj.below HX.out hbel.out l0);have HY2:=hid (aj.below HY.out hbel.out l1);have c1:=lT HX2.out;have d1:=lT HY2.out;have c2:=lU HX2.out;have d2:=lU HY2.out;have c3:=lV HX2.out hF.out;have d3:=lV HY2.out hG.out;have c4:=lW HX2.out hF.out;have d4:=lW HY2.out hG.out;have c5:=lY HX2.out hF.out;have d5:=lY HY2.out hG.out;have c6:=lZ HX2.out hF.out;have d6:=lZ HY2.out hG.out;have c7:=ko HX2.out hF.out;have d7:=ko HY2.out hG.out;have z1:(Iz.info? 23).map (·.size)=some (f.idle.map iv).length:=by rw[IW,hF.out.idle];kernel_rfl
   have z2:(Iz.info? 23).map (·.size)=some (g.idle.map iv).length:=by rw[IW,hG.out.idle];kernel_rfl
   have e1:=hid (fun w=>run_equalIn_bytes (P:=Iz) w 9998 24 5 6 IU Tryz.underlying5 oR f.mac g.mac hF.out.mac hG.out.mac);have e2:=hid (fun w=>lJ (P:=Iz) w 9998 23 3 6 IC IE iI f.idle g.idle hF.out.idle hG.out.idle);have z3:=hid z1;have z4:=hid z2;clear hv hat z1 z2 a0 b0;go_upto_region 8 with fail
   try simp only[List.append_eq,List.cons_append,List.nil_append]
   refine Sd.plain ?_
   repeat ((first
    |refine pa ?_
    |refine gs (rz HX2.out hF.out) m0 IC z3.out ?_|refine gs (rz HY2.out hG.out) m1 IC z4.out ?_
    |refine gs (qJ HX2.out hF.out) m0 IU (Eg hF.out) ?_|refine gs (qJ HY2.out hG.out) m1 IU (Eg hG.out) ?_
    |refine gs (lX HX2.out hF.out) m0 cS (eo hF.out.four) ?_|refine gs (lX HY2.out hG.out) m1 cS (eo hG.out.four) ?_
    |refine gs (rA HX2.out hF.out) m0 cS (eo hF.out.six) ?_|refine gs (rA HY2.out hG.out) m1 cS (eo hG.out.six) ?_
    |refine ge (gT 9997 f.four g.four hF.out.four hG.out.four) eQ ?_|refine ge (gT 9997 f.six g.six hF.out.six hG.out.six) eQ ?_
    |refine ge e1.out Ck ?_|refine ge e2.out zi ?_|refine gp ?_|refine pt ?_);simp only[ld,lg,lf,Jb])
   rw[←hT];refine Sd.done fun w2 hb2=>?_
   have Hb2:=hid (HB.out.trans ((hbel.out.trans (hb2.mono hbel.out.size)).mono HB.out.size));clear hb2 hT
   go_wp2
   go_ret
   exact⟨by rw[HT.out];rfl,Hb2.out⟩
