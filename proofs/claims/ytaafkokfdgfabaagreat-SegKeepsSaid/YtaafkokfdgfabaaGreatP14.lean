import Derived.Test.YtaafkokfdgfabaaGreatP6
import Derived.Test.YtaafkokfdgfabaaGreatP8
import Derived.Deep.QuietTactic
import Derived.BigQuiet
import Derived.Lib.AppendZerosOnto
import Derived.Lib.AppendZeros
import Derived.Lib.Walk
import Derived.Lib.SliceRun
import Derived.Deep.LoopGhost
set_option maxHeartbeats 8000000
set_option maxRecDepth 100000
set_option linter.unusedVariables false
set_option linter.unusedSimpArgs false
open List renaming length_append→Iy,getElem?_eq_getElem→IA,take_of_length_le→ID
open Nat renaming le_refl→IE,le_trans→IF,zero_add→IG
namespace Go.Proofs.YtaafkokfdgfabaaGreat
open Go.RowKit
open Lib (hid)
open BS renaming of_own→IB
open Tryz renaming prog→Iz,underlying43→IC
open Value renaming slice→qq,int→IH
theorem Gq{w w4:World}{base g c c4 most n:Nat}{A A4:Option Addr}{l m:List UInt8}(hn:n=m.length)(hW:aj w4 g 212 #[.slice A l.length c,.int .i64 (most:Int),.int .i64 ((0:Nat):Int)])(hown:w4.ownsRow base 5 1 (.slice A4 m.length c4) m.length (ab m))
  (hg:w.grownBy w4 (qq A 0 0).ownBlock) (hob:(qq A4 0 0).ownBlock=(qq A 0 0).ownBlock∨(qq A4 0 0).ownBlock=some w.heap.size) (hbg:base≤g) :
  iG w base g A most (m,0) (.returned (.tuple #[])) (w4.setCell ⟨g,0,none⟩ (.slice A4 n c4)):=by
 subst hn;have hg5:=a8 w4 ⟨g,0,none⟩ (.slice A4 m.length c4);refine⟨rfl,A4,c4,⟨aj.set_ hW 0 (.slice A4 m.length c4),hown.kept hg5 (aK hown hW (by decide)),hbg⟩,(cY.of_grown hg).trans (cY.of_g hg5),?_⟩;rcases hob with h|h
 ·exact .inl h
 ·exact .inr ⟨_,h,IE _⟩
theorem gF(base g:Nat)(A:Option Addr)(c most:Nat)(s:xG)(X:Option Addr)(n d:Nat)(b:List UInt8)(w:World)(h:zR w base g A c most s)(hn:n=b.length)(hb:BS w w.heap.size X b)(hm:most<9223372036854775808)(hl:s.1.length≤1000000000000)(hbl:b.length≤1000000000000) :
  Calls Iz 160 #[.pointer (some ⟨g,0,none⟩),.slice X n d] w (iG w base g A most (iw most s b)):=by
 subst hn;obtain⟨l,fe⟩:=s;obtain⟨hW,hown,hbg⟩:=h;have h0:w.cell? ⟨g,0,none⟩=some (.slice A l.length c):=hW.cell 0;have h1:w.cell? ⟨g,1,none⟩=some (.int .i64 (most:Int)):=hW.cell 1;have h2:w.cell? ⟨g,2,none⟩=some (.int .i64 (fe:Int)):=hW.cell 2;have hf:=fun i=>hW.frozen i
 have HW:=hid hW;have Hown:=hid hown;have HB:=hid hb;have hl':(l.length:Int)≤1000000000000:=by simp only at hl;omega
 have hw1:IntKind.i64.wrap ((most:Int)-(l.length:Int))=(most:Int)-(l.length:Int):=IntWalk.i64_in _ (by omega);have Hm:=hid hm;clear hW hown hb hm;by_cases hfe:fe=0
 ·subst hfe
  by_cases hlong:most<l.length+b.length
  ·have hlI:(most:Int)-(l.length:Int)<(b.length:Int):=by omega
   have hlD:decide ((most:Int)-(l.length:Int)<(b.length:Int))=true:=decide_eq_true hlI;rw[show iw most (l,0) b=(l,4) by unfold iw;rw[if_neg (by simp),if_pos hlong]];go_enter Tryz.func160,Tryz.ntmps160
   go_wp2
   go_quiet (fail)
   go_wp2
   go_end0
   exact⟨rfl,A,c,⟨aj.set_ (aj.drewN HW.out _) 2 (.int .i64 4),Hown.out.kept (aq (fy w _ _) (a8 _ ⟨g,2,none⟩ (.int .i64 4))) (aK Hown.out HW.out (by decide)),hbg⟩,cY.of_g (aq (fy w _ _) (a8 _ ⟨g,2,none⟩ (.int .i64 4))),.inl rfl⟩
  ·have hlI:¬(most:Int)-(l.length:Int)<(b.length:Int):=by omega
   have hlD:decide ((most:Int)-(l.length:Int)<(b.length:Int))=false:=decide_eq_false hlI;rw[show iw most (l,0) b=(l++b,0) by unfold iw;rw[if_neg (by simp),if_neg hlong]];obtain⟨i0,hi0,hz0,hz1,hz2⟩:=info_parts bB;go_enter Tryz.func160,Tryz.ntmps160
   go_wp2
   go_quiet (fail)
   have hng:some g≠(qq A l.length c).ownBlock:=by
    rcases aK Hown.out HW.out (by decide) with h2|h2
    ·rw[h2];simp
    ·exact fun e=>h2 e.symm
   have Hng:=hid hng;clear hng;have HB2:=fun k=>(HB.out.drewN k)
   have Hown2:=fun k=>an Hown.out (jD (B:=w.heap.size) (w:=w) k)
   have HB3:=hid HB2;have Hown3:=hid Hown2;have Hbase:=hid (show base≤w.heap.size by have:=HW.out.lt;omega);clear HB2 Hown2
   go_wp2_with
    (at_builtin
     refine ae _ rfl _ _ 43 rfl base 5 i0 (.int .u8 0) 1 IC hi0 hz0 hz1 hz2 rfl (.slice A l.length c) l rfl (Hown3.out _) _ X _ d b rfl rfl (HB3.out _) (by unfold maxLen;omega) (by omega) Hbase.out ?_;intro A4 c4 w4 hown4 hg4 hob;have HW4:=hid (aj.grown (aj.drewN HW.out _) hg4 Hng.out);have x0:w4.cell? ⟨g,0,none⟩=some (.slice A l.length c):=HW4.out.cell 0;have xf:=HW4.out.frozen 0;have Hown4:=hid hown4;have Hg4:=hid (aq (fy w _ _) hg4);have Hob:Hid ((qq A4 0 0).ownBlock=(qq A 0 0).ownBlock∨(qq A4 0 0).ownBlock=some w.heap.size):=by
      cases A4<;>cases A<;>exact hob
     clear hown4 hg4 hob h0 h1 h2 hf)
   go_end0
   have hsl:(qq A l.length c).ownBlock=(qq A 0 0).ownBlock:=by cases A<;>rfl
   exact Gq (by simp) HW4.out Hown4.out (by rw[←hsl];exact Hg4.out) Hob.out hbg
 ·have hfI:((fe:Int)==0)=false:=by simp;omega
  rw[show iw most (l,fe) b=(l,fe) from if_pos hfe];go_enter Tryz.func160,Tryz.ntmps160
  go_wp2
  go_quiet (fail)
  go_wp2
  go_end0
  exact⟨rfl,A,c,⟨aj.drewN HW.out _,an Hown.out (jD _),hbg⟩,cY.of_g (fy w _ _),.inl rfl⟩
theorem iG.from{w w1 w2:World}{base g most:Nat}{A:Option Addr}{s:xG}{x:Ending}(hb:Below w.heap.size w w1)(h:iG w1 base g A most s x w2):iG w base g A most s x w2:=by
 obtain⟨h1,A',c',h2,h3,h4⟩:=h;refine⟨h1,A',c',h2,(cY.of_below hb).trans h3,?_⟩;rcases h4 with h|⟨k,h,hk⟩
 ·exact .inl h
 ·exact .inr ⟨k,h,IF hb.size hk⟩
theorem oV(n:Nat)(w:World)(hn:n<18446744073709551616) :
  Calls Iz 31 #[.int .u64 (n:Int)] w fun e w'=>∃A c,e=.returned (.slice A (aC n).length c)∧w'.ownsRow w.heap.size 5 1 (.slice A (aC n).length c) (aC n).length (ab (aC n))∧Below w.heap.size w w' :=
 (ua n w n rfl hn).mono fun e w' ⟨v,h1,h2,h3⟩=>by
  obtain⟨A,c,rfl,_⟩:=cw h2;exact⟨A,c,h1,h2,h3⟩
section
variable (base g:Nat) (A:Option Addr) (c most:Nat) (s:xG) (w:World)
theorem Bf(n:Nat)(h:zR w base g A c most s)(hn:n<18446744073709551616)(hm:most<9223372036854775808)(hl:s.1.length≤1000000000000) :
  Calls Iz 115 #[.pointer (some ⟨g,0,none⟩),.int .u64 (n:Int)] w (iG w base g A most (iw most s (aC n))):=by
 have H:=hid h;have Hn:=hid hn;have Hm:=hid hm;have hv:=aO hn;clear h hn hm;go_enter Tryz.func115,Tryz.ntmps115
 go_wp2_with fail
 refine (oV n _ Hn.out).mono ?_;rintro e w1 ⟨A1,c1,rfl,hown1,hb1⟩;have Hb1:=hid hb1;have HB:=hid (IB hown1).1;clear hown1 hb1
 go_wp2_with fail
 refine (gF base g A c most s A1 _ c1 (aC n) w1 (H.out.below Hb1.out) rfl HB.out Hm.out hl (by omega)).mono ?_;intro e w2 h2;have H2:=hid (iG.from Hb1.out h2);obtain⟨rfl,_⟩:=h2
 go_wp2
 go_end0
 exact H2.out
def G3(w:World)(s:xG)(x:Ending)(w':World):Prop :=
 ∃A' c',x=.returned (.tuple #[.slice A' (if s.2=0 then s.1 else []).length c',.int .i64 (s.2:Int)])∧w'.ownsRow w.heap.size 5 1 (.slice A' (if s.2=0 then s.1 else []).length c') (if s.2=0 then s.1 else []).length (ab (if s.2=0 then s.1 else []))∧Below w.heap.size w w'
theorem Bg(h:zR w base g A c most s)(hl:s.1.length≤1000000000000) :
  Calls Iz 117 #[.pointer (some ⟨g,0,none⟩)] w (G3 w s):=by
 obtain⟨l,fe⟩:=s;obtain⟨hW,hown,hbg⟩:=h;have h0:w.cell? ⟨g,0,none⟩=some (.slice A l.length c):=hW.cell 0;have h2:w.cell? ⟨g,2,none⟩=some (.int .i64 (fe:Int)):=hW.cell 2;have HB:=hid (IB hown).1;clear hW hown;simp only at hl;by_cases hfe:fe=0
 ·subst hfe
  go_enter Tryz.func117,Tryz.ntmps117
  go_wp2_with fail
  refine (pO A _ c l w rfl HB.out (by omega)).mono ?_;rintro e w1 ⟨A1,c1,rfl,hown1,hb1⟩;have Hown1:=hid hown1;clear hown1
  go_wp2
  go_ret2
  exact⟨A1,c1,rfl,Hown1.out,hb1⟩
 ·have hfI:((fe:Int) != 0)=true:=by simp;omega
  have hfI2:((fe:Int)==0)=false:=by simp;omega
  have Hfe:=hid hfe;clear hfe;go_enter Tryz.func117,Tryz.ntmps117
  go_wp2
  go_quiet (fail)
  go_wp2
  go_ret2
  refine⟨none,0,by rw[if_neg Hfe.out];rfl,by rw[if_neg Hfe.out];exact World.ownsRow_nil _ _ _ _,jD _⟩
end
theorem Dl(w:World)(cs:Array Value)(hz:cs.size=1)(e:TypeId)(base n G:Nat)(hb:base≤w.heap.size)(hG:n≤G)(hm:G≤maxLen) :
  (w.alloc (.cells (Builtin.zeroCells cs n++Builtin.zeroCells cs (G-n)) e)).drew.ownsRow base e 1 (.slice (some ⟨w.heap.size,0,none⟩) 0 G) 0 [] :=
 ⟨rfl,.inr ⟨w.heap.size,G,_,rfl,hb,heap_alloc_new w _,Nat.zero_le _,hm,by simp[size_zeroCells,hz];omega,by simp⟩⟩
theorem vC(n:Nat)(w:World)(h0:0<n)(hn:n≤1000000000000) :
  Calls Iz 174 #[.slice none 0 0,.int .i64 (n:Int)] w fun e w'=>∃G,e=.returned (.slice (some ⟨w.heap.size,0,none⟩) 0 G)∧w'.ownsRow w.heap.size 5 1 (.slice (some ⟨w.heap.size,0,none⟩) 0 G) 0 []∧Below w.heap.size w w':=by
 obtain⟨i0,hi0,hz0,hz1,hz2⟩:=info_parts bB;have h1:¬((n:Int)<0):=by omega
 have h3:wrap64 (n:Int)=(n:Int):=by unfold wrap64;omega
 have h4:(n:Int)>0:=by omega
 have hrz:∀ty,(Builtin.append_ #[43,3] ty #[.slice none 0 0,.int .i64 (n:Int)]).run Iz w =
   .ok (.slice (some ⟨w.heap.size,0,none⟩) n (grownCap w n 0 5)) (w.drew.alloc (.cells (#[]++Builtin.zeroCells (IH .u8 0).cells n++Builtin.zeroCells (IH .u8 0).cells (grownCap w n 0 5-n)) 5)):=fun ty=>by
  have h:=Lib.run_append_grow_zeros w 43 3 ty 5 i0 (.int .u8 0) .i64 .i64 IC Tryz.underlying3 hi0 hz0 none 0 0 [] (run_firstCells_none w.drew i0.size 0 0 0) n h0 (by omega) (by omega) (by omega) (by rw[hz2];omega)
   (growslice_fits (by omega) (by rw[hz2];omega))
  rw[IG] at h;exact h
 have hGn:n≤grownCap w n 0 5:=grownCap_ge w _ _ _;have hGm:grownCap w n 0 5≤maxLen:=grownCap_le_maxLen w n 0 5 (by unfold maxLen;omega);obtain⟨G,hG⟩:∃G,G=grownCap w n 0 5:=⟨_,rfl⟩;rw[←hG] at hrz hGn hGm;have hG63:G≤9223372036854775807:=by unfold maxLen at hGm;omega
 have Hown:=hid (Dl w #[.int .u8 0] rfl 5 w.heap.size n G (IE _) hGn hGm);clear hG;go_enter Tryz.func174,Tryz.ntmps174
 go_wp2_with (at_builtin;refine Lib.wpList_append_run _ rfl _ _ _ _ rfl _ _ rfl rfl _ _ (hrz _) ?_)
 go_ret
 exact⟨G,rfl,Hown.out,((Below.refl _ w).alloc (IE _) _).drew⟩
def LC(w:World)(B:Nat)(A:Option Addr)(ls:List (List UInt8)):Prop :=
 0<ls.length→∃ad,A=some ad∧ad.block<B∧∀j l,ls[j]?=some l→∃A' c',w.cell? (ad.add j)=some (.slice A' l.length c')∧BS w B A' l
theorem LC.below{w w':World}{B:Nat}{A:Option Addr}{ls:List (List UInt8)}(h:LC w B A ls)(hb:Below B w w'):LC w' B A ls:=fun hn=>by
 obtain⟨ad,e,hB,hc⟩:=h hn;refine⟨ad,e,hB,fun j l hj=>?_⟩;obtain⟨A',c',h1,h3⟩:=hc j l hj;exact⟨A',c',(hb.cell (by rw[gS];exact hB)).trans h1,h3.below hb⟩
theorem te(ls:List (List UInt8)){k:Nat}(hk:k<ls.length):(ls.take (k+1)).flatten=(ls.take k).flatten++ls[k]:=by
 rw[List.take_add_one,IA hk,List.flatten_append];simp
theorem un(ls:List (List UInt8))(k:Nat):(ls.take k).flatten.length≤ls.flatten.length:=by
 have:=congrArg (fun l=>l.flatten.length) (List.take_append_drop k ls);simp only[List.flatten_append,Iy] at this;omega
theorem rC(A:Option Addr)(n cc:Nat)(ls:List (List UInt8))(w:World)(hn:n=ls.length)(hb:LC w w.heap.size A ls)(h0:0<ls.flatten.length)(hN:ls.flatten.length≤1000000000000)(hk:n≤1000000) :
  Calls Iz 132 #[.slice A n cc] w fun e w'=>∃A c,e=.returned (.slice A ls.flatten.length c)∧w'.ownsRow w.heap.size 5 1 (.slice A ls.flatten.length c) ls.flatten.length (ab ls.flatten)∧Below w.heap.size w w':=by
 subst hn;obtain⟨i0,hi0,hz0,hz1,hz2⟩:=info_parts bB;have HB:=hid hb;obtain⟨F,hF⟩:∃F,F=ls.flatten:=⟨_,rfl⟩;rw[←hF] at h0 hN ⊢;obtain⟨N,hNe⟩:∃N,N=F.length:=⟨_,rfl⟩;have HN:Hid (N=ls.flatten.length):=by show _=_;rw[hNe,hF]
 have HF:=hid hF;rw[←hNe] at h0 hN;clear hb hNe hF;go_enter Tryz.func132,Tryz.ntmps132
 go_wp2
 go_loopw [3,11] (fun s i wr=>w=wr∧∃k m:Nat,k≤ls.length∧i=.int .i64 (k:Int)∧s=.int .i64 (m:Int)∧Hid (m=(ls.take k).flatten.length)) (fun _ i _=>ls.length-(intOf i).toNat)
 case atStart=>exact⟨rfl,0,0,by omega,rfl,rfl,rfl⟩
 case round =>
  obtain⟨rfl,k,m,hk2,rfl,rfl,hm⟩:=hrel;have hmN:m≤N:=by rw[hm.out,HN.out];exact un ls k
  by_cases hlt:k<ls.length
  ·have hltI:(k:Int)<(ls.length:Int):=by omega
   have hk0:(0:Int)≤(k:Int):=by omega
   obtain⟨ad,rfl,hadb,hc⟩:=HB.out (by omega);obtain⟨A1,c1,hc,hbs⟩:=hc k _ (IA hlt);obtain⟨j,hj⟩:∃j,j=ls[k].length:=⟨_,rfl⟩;rw[←hj] at hc;have Hs:Hid (m+j=(ls.take (k+1)).flatten.length):=by show _=_;rw[te ls hlt,Iy,←hm.out,hj]
   have hmN2:m+j≤N:=by rw[Hs.out,HN.out];exact un ls (k+1)
   have hw1:¬((m:Int)+(j:Int)<0):=by omega
   clear hbs hj
   go_wp2
   go_roundw
   case rel=>exact⟨trivial,k+1,m+j,by omega,by go_num,by go_num,Hs⟩
   case measure=>simp[intOf];omega
  ·have hltI:¬(k:Int)<(ls.length:Int):=by omega
   have Hm:Hid (m=N):=by show _=_;rw[hm.out,HN.out,ID (by omega)]
   have Hgr:=hid (vC N w h0 hN);rw[←Hm.out] at Hgr
   go_wp2_with fail
   refine Hgr.out.mono ?_;rintro e w1 ⟨G,rfl,hown1,hb1⟩;have Hb1:=hid hb1;have Hown0:Hid (w1.ownsRow w.heap.size 5 1 (.slice (some ⟨w.heap.size,0,none⟩) ([]:List UInt8).length G) ([]:List UInt8).length (ab [])):=hown1;clear hb1 hown1 Hgr
   go_wp2_with fail
   go_loopw [6,27] (fun v i wr=>∃(k:Nat) (l:List UInt8) (A:Option Addr) (c:Nat),k≤ls.length∧i=.int .i64 (k:Int)∧v=.slice A l.length c∧Hid (wr.ownsRow w.heap.size 5 1 (.slice A l.length c) l.length (ab l))∧Hid (Below w.heap.size w wr)∧Hid (l=(ls.take k).flatten)) (fun _ i _=>ls.length-(intOf i).toNat)
   case atStart=>exact⟨0,[],_,G,by omega,rfl,rfl,Hown0,Hb1,rfl⟩
   case round =>
    obtain⟨k,l,A,c,hk2,rfl,rfl,hown,hbel,hl⟩:=hrel;have Hrow:Hid (∀k,(qq A l.length c).ownBlock=some k→w.heap.size≤k):=fun k hk=>(hown.out.lt k hk).1
    by_cases hlt:k<ls.length
    ·have hltI:(k:Int)<(ls.length:Int):=by omega
     have hk0:(0:Int)≤(k:Int):=by omega
     obtain⟨ad,rfl,hadb,hc⟩:=HB.out.below hbel.out (by omega);obtain⟨A1,c1,hc,hbs⟩:=hc k _ (IA hlt);obtain⟨x,hx⟩:∃x,x=ls[k]:=⟨_,rfl⟩;rw[←hx] at hc hbs;have Hs:Hid (l++x=(ls.take (k+1)).flatten):=by show _=_;rw[te ls hlt,←hl.out,hx]
     have Hle:Hid (l.length+x.length≤N):=by show _≤_;rw[←Iy,Hs.out,HN.out];exact un ls (k+1)
     have Hbs:=hid hbs;clear hbs hx
     go_wp2_with (at_builtin;refine ae _ rfl _ _ 43 rfl w.heap.size 5 i0 (.int .u8 0) 1 IC hi0 hz0 hz1 hz2 rfl _ l rfl hown.out _ A1 x.length c1 x rfl rfl Hbs.out (by have:=Hle.out;unfold maxLen;omega) (by have:=Hle.out;omega) hbel.out.size ?_;intro A' c' w2 hown2 hg2 _)
     have Hown2:=hid hown2;have Hbel2:Hid (Below w.heap.size w w2):=hbel.out.grown hg2 hbel.out.size Hrow.out;clear hown2 hg2;go_roundw
     case rel=>exact⟨k+1,l++x,A',c',by omega,by go_num,by simp,Hown2,Hbel2,Hs⟩
     case measure=>simp[intOf];omega
    ·have hltI:¬(k:Int)<(ls.length:Int):=by omega
     have He:Hid (l=F):=by show _=_;rw[hl.out,HF.out,ID (by omega)]
     go_wp2
     go_ret
     exact⟨A,c,by rw[←He.out];rfl,by rw[←He.out];exact hown.out,hbel.out⟩
theorem yn(g:Nat)(A1:Option Addr)(c1:Nat)(l1:List UInt8)(A2:Option Addr)(c2:Nat)(l2:List UInt8)(w:World)(h1:w.cell? ⟨g,0,none⟩=some (.slice A1 l1.length c1))(h2:w.cell? ⟨g,1,none⟩=some (.slice A2 l2.length c2))
  (hb1:BS w w.heap.size A1 l1) (hb2:BS w w.heap.size A2 l2) (h0:0<l1.length) (hl1:l1.length≤100000000000) (hl2:l2.length≤100000000000) :
  Calls Iz 132 #[.slice (some ⟨g,0,none⟩) 2 2] w fun e w'=>∃A c,e=.returned (.slice A (l1++l2).length c)∧w'.ownsRow w.heap.size 5 1 (.slice A (l1++l2).length c) (l1++l2).length (ab (l1++l2))∧Below w.heap.size w w':=by
 have hg:g<w.heap.size:=World.block_lt_of_cell? w ⟨g,0,none⟩ h1;have e:[l1,l2].flatten=l1++l2:=by simp
 have h:=rC (some ⟨g,0,none⟩) 2 2 [l1,l2] w rfl (fun _=>⟨_,rfl,hg,fun j l hj=>by
  have hadd:∀j,((⟨g,0,none⟩:Addr).add j)=⟨g,j,none⟩:=fun j=>by rw[Addr.add_mid,IG]
  match j,hj with
  |0,hj=>injection hj with hj;subst hj;exact⟨A1,c1,by rw[hadd];exact h1,hb1⟩
  |1,hj=>injection hj with hj;subst hj;exact⟨A2,c2,by rw[hadd];exact h2,hb2⟩⟩) (by rw[e,Iy];omega) (by rw[e,Iy];omega) (by decide)
 rw[e] at h;exact h
theorem iG.from2{w w1 w2:World}{base g most:Nat}{A:Option Addr}{s:xG}{x:Ending}(hb:cY w w1 g (qq A 0 0).ownBlock)(h:iG w1 base g A most s x w2):iG w base g A most s x w2:=by
 obtain⟨h1,A',c',h2,h3,h4⟩:=h;refine⟨h1,A',c',h2,hb.trans h3,?_⟩;rcases h4 with h|⟨k,h,hk⟩
 ·exact .inl h
 ·exact .inr ⟨k,h,IF hb.2.2.2.1 hk⟩
def sK(most:Nat)(s:xG)(m:Nat)(sz:Int)(big:Bool):xG:=iw most (if s.2=0∧(sz<1∨8<sz) then (s.1,1) else s) (bY (dw sz) m big)
section
variable (base g:Nat) (A:Option Addr) (c most:Nat) (s:xG) (w:World)
theorem Bh(m:Nat)(sz:Int)(big:Bool)(h:zR w base g A c most s)(hm:m<18446744073709551616)(hmo:most<9223372036854775808)(hl:s.1.length≤1000000000000) :
  Calls Iz 113 #[.pointer (some ⟨g,0,none⟩),.int .u64 (m:Int),.int .i64 sz,.bool big] w (iG w base g A most (sK most s m sz big)):=by
 obtain⟨l,fe⟩:=s;have h2:w.cell? ⟨g,2,none⟩=some (.int .i64 (fe:Int)):=h.1.cell 2;have hf:∀i,w.frozen? ⟨g,i,none⟩=false:=fun i=>h.1.frozen i
 have H:=hid h;have Hm:=hid hm;have Hmo:=hid hmo;have hpl:(bY (dw sz) m big).length≤8:=by rw[az];exact la sz
 have Hpl:=hid hpl;simp only at hl;clear h hm hmo hpl;by_cases hfe:fe=0
 ·subst hfe
  have hst:∀w1,w1=w.setCell ⟨g,2,none⟩ (.int .i64 1)→zR w1 base g A c most (l,1)∧cY w w1 g (qq A 0 0).ownBlock:=fun w1 e=>by
   subst e;obtain⟨hW,hown,hbg⟩:=H.out;have hg5:=a8 w ⟨g,2,none⟩ (.int .i64 1);exact⟨⟨aj.set_ hW 2 (.int .i64 1),hown.kept hg5 (aK hown hW (by decide)),hbg⟩,cY.of_g hg5⟩
  have Hst:=hid hst;clear hst;by_cases h1:sz<1
  ·have hw:sK most (l,0) m sz big=iw most (l,1) (bY (dw sz) m big):=by unfold sK;rw[if_pos ⟨rfl,.inl h1⟩]
   have Hw:=hid hw;clear hw;go_enter Tryz.func113,Tryz.ntmps113
   go_wp2_with fail
   obtain⟨w1,hw1⟩:∃w1,w1=w.setCell ⟨g,2,none⟩ (.int .i64 1):=⟨_,rfl⟩;rw[←hw1];have H1:=hid (Hst.out w1 hw1);clear hw1 h2 hf;refine (lc big m sz w1 Hm.out).mono ?_;rintro e w2 ⟨A2,c2,rfl,hown2,hb2⟩;have Hb2:=hid hb2;have HB:=hid (IB hown2).1;clear hown2 hb2
   go_wp2_with fail
   refine (gF base g A c most (l,1) A2 _ c2 (bY (dw sz) m big) w2 (H1.out.1.below Hb2.out) rfl HB.out Hmo.out hl (by have:=Hpl.out;omega)).mono ?_;intro e w3 h3;have H3:=hid (iG.from2 H1.out.2 (iG.from Hb2.out h3));obtain⟨rfl,_⟩:=h3
   go_wp2
   go_end0
   rw[Hw.out];exact H3.out
  ·by_cases h8:8<sz
   ·have hw:sK most (l,0) m sz big=iw most (l,1) (bY (dw sz) m big):=by unfold sK;rw[if_pos ⟨rfl,.inr h8⟩]
    have Hw:=hid hw;clear hw;go_enter Tryz.func113,Tryz.ntmps113
    go_wp2_with fail
    obtain⟨w1,hw1⟩:∃w1,w1=w.setCell ⟨g,2,none⟩ (.int .i64 1):=⟨_,rfl⟩;rw[←hw1];have H1:=hid (Hst.out w1 hw1);clear hw1 h2 hf;refine (lc big m sz w1 Hm.out).mono ?_;rintro e w2 ⟨A2,c2,rfl,hown2,hb2⟩;have Hb2:=hid hb2;have HB:=hid (IB hown2).1;clear hown2 hb2
    go_wp2_with fail
    refine (gF base g A c most (l,1) A2 _ c2 (bY (dw sz) m big) w2 (H1.out.1.below Hb2.out) rfl HB.out Hmo.out hl (by have:=Hpl.out;omega)).mono ?_;intro e w3 h3;have H3:=hid (iG.from2 H1.out.2 (iG.from Hb2.out h3));obtain⟨rfl,_⟩:=h3
    go_wp2
    go_end0
    rw[Hw.out];exact H3.out
   ·have hw:sK most (l,0) m sz big=iw most (l,0) (bY (dw sz) m big):=by unfold sK;rw[if_neg (by simp only;omega)]
    have Hw:=hid hw;clear hw;go_enter Tryz.func113,Tryz.ntmps113
    go_wp2_with fail
    refine (lc big m sz w Hm.out).mono ?_;rintro e w2 ⟨A2,c2,rfl,hown2,hb2⟩;have Hb2:=hid hb2;have HB:=hid (IB hown2).1;clear hown2 hb2
    go_wp2_with fail
    refine (gF base g A c most (l,0) A2 _ c2 (bY (dw sz) m big) w2 (H.out.below Hb2.out) rfl HB.out Hmo.out hl (by have:=Hpl.out;omega)).mono ?_;intro e w3 h3;have H3:=hid (iG.from Hb2.out h3);obtain⟨rfl,_⟩:=h3
    go_wp2
    go_end0
    rw[Hw.out];exact H3.out
 ·have hfI:((fe:Int)==0)=false:=by simp;omega
  have hw:sK most (l,fe) m sz big=iw most (l,fe) (bY (dw sz) m big):=by unfold sK;rw[if_neg (by simp only;omega)]
  have Hw:=hid hw;clear hw;go_enter Tryz.func113,Tryz.ntmps113
  go_wp2_with fail
  refine (lc big m sz w Hm.out).mono ?_;rintro e w2 ⟨A2,c2,rfl,hown2,hb2⟩;have Hb2:=hid hb2;have HB:=hid (IB hown2).1;clear hown2 hb2
  go_wp2_with fail
  refine (gF base g A c most (l,fe) A2 _ c2 (bY (dw sz) m big) w2 (H.out.below Hb2.out) rfl HB.out Hmo.out hl (by have:=Hpl.out;omega)).mono ?_;intro e w3 h3;have H3:=hid (iG.from Hb2.out h3);obtain⟨rfl,_⟩:=h3
  go_wp2
  go_end0
  rw[Hw.out];exact H3.out
end
section
variable (base g:Nat) (A:Option Addr) (c most:Nat) (s:xG) (w:World)
theorem yo(X:Option Addr)(d:Nat)(b:List UInt8)(h:zR w base g A c most s)(hb:BS w w.heap.size X b)(hmo:most<9223372036854775808)(hl:s.1.length≤1000000000000)(hbl:b.length≤1000000000) :
  Calls Iz 116 #[.pointer (some ⟨g,0,none⟩),.slice X b.length d] w (iG w base g A most (iw most s (aC b.length++b))):=by
 have H:=hid h;have Hmo:=hid hmo;have HX:=hid hb;have hv0:0<(aC b.length).length:=iO b.length;have hv:=aO (n:=b.length) (by omega);have hcv:IntKind.u64.wrap (b.length:Int)=(b.length:Int):=by simp[IntKind.wrap,IntKind.bits,IntKind.signed];omega
 clear h hmo hb;go_enter Tryz.func116,Tryz.ntmps116
 go_wp2_with fail
 refine (oV b.length _ (by omega)).mono ?_;rintro e w1 ⟨A1,c1,rfl,hown1,hb1⟩;have Hb1:=hid hb1;have Hown1:=hid hown1;clear hown1 hb1
 go_wp2_with fail
 obtain⟨W,hW⟩:∃W,W=w1.alloc (.cells #[.slice A1 (aC b.length).length c1,.slice X b.length d] 43):=⟨_,rfl⟩;rw[←hW];have hbW:Below w1.heap.size w1 W:=by rw[hW];exact (Below.refl _ w1).alloc (IE _) _
 have hc0:W.cell? ⟨w1.heap.size,0,none⟩=some (.slice A1 (aC b.length).length c1):=by rw[hW];exact cell_of_row _ _ 0 _ _ _ (heap_alloc_new w1 _)
 have hc1:W.cell? ⟨w1.heap.size,1,none⟩=some (.slice X b.length d):=by rw[hW];exact cell_of_row _ _ 1 _ _ _ (heap_alloc_new w1 _)
 have HbW:Hid (Below w.heap.size w W):=Hb1.out.trans (hbW.mono Hb1.out.size);have hB1:BS W W.heap.size A1 (aC b.length):=(IB (an Hown1.out hbW)).1;have hB2:BS W W.heap.size X b:=(HX.out.below HbW.out).more HbW.out.size;clear hW hbW;refine (yn w1.heap.size A1 c1 (aC b.length) X d b W hc0 hc1 hB1 hB2 hv0 (by omega) (by omega)).mono ?_;rintro e w2 ⟨A2,c2,rfl,hown2,hb2⟩;have Hb2:Hid (Below w.heap.size w w2):=HbW.out.trans (hb2.mono HbW.out.size);have HB:=hid (IB hown2).1;clear hown2 hb2 hc0 hc1 hB1 hB2
 go_wp2_with fail
 refine (gF base g A c most s A2 _ c2 (aC b.length++b) w2 (H.out.below Hb2.out) (by simp) HB.out Hmo.out hl (by rw[Iy];omega)).mono ?_;intro e w3 h3;have H3:=hid (iG.from Hb2.out h3);obtain⟨rfl,_⟩:=h3
 go_wp2
 go_end0
 exact H3.out
end
