import Derived.Test.YtaafkokfdgfabaaGreatProg
import Derived.Test.YtaafkokfdgfabaaGreatP1
import Derived.Test.YtaafkokfdgfabaaGreatP20
import Derived.Deep.RegionHeld3
import Derived.IntWalk
set_option maxHeartbeats 8000000
namespace Go.Proofs.YtaafkokfdgfabaaGreat
open Go.RowKit
set_option linter.unusedVariables false
def nt (w:World) (l:List UInt8) (e:Ending) (w':World):Prop :=
 ∃ A' c',e=.returned (.tuple #[.slice A' (aH l).1.length c',.int .i64 ((aH l).2.1:Int),.int .i64 ((aH l).2.2:Int)])∧w'.ownsRow w.heap.size 5 1 (.slice A' (aH l).1.length c') (aH l).1.length (ab (aH l).1)∧Below w.heap.size w w'
theorem mz {w w':World} {l:List UInt8} {x:Nat} (h:aH l=([],0,x)) (hb:Below w.heap.size w w'):nt w l (.returned (.tuple #[.slice none 0 0,.int .i64 0,.int .i64 (x:Int)])) w':=by
 refine ⟨none,0,by rw [h];rfl,?_,hb⟩;rw [h];exact World.ownsRow_nil _ _ _ _
theorem C8 {w:World} {base base':Nat} {e:TypeId} {size n:Nat} {v:Value} {xs:List Value} (h:w.ownsRow base e size v n xs) (hb:base'≤base):w.ownsRow base' e size v n xs:=by
 refine ⟨h.1,?_⟩;rcases h.2 with h2 | ⟨g,cap,cur,h1,h2,h3⟩
 ·exact .inl h2
 ·exact .inr ⟨g,cap,cur,h1,Nat.le_trans hb h2,h3⟩
theorem uR {v:Nat} (A:Option Addr) (n c:Nat) (l:List UInt8) (w:World) (hn:n=l.length) (hb:BS w w.heap.size A l) (hl:n≤8) (hc:n≤c) (h:oO l=v) :
  Calls Tryz.prog 85 #[.slice A n c,.bool false] w fun e w'=>e=.returned (.int .u64 (v:Int))∧Below w.heap.size w w':=by
 subst h;exact nK A n c l w hn hb hl hc
set_option maxRecDepth 100000 in
theorem jX (A:Option Addr) (m c:Nat) (l:List UInt8) (w:World) (hn:m=l.length) (hb:BS w w.heap.size A l) (hl:m≤1000000000) (hc:m≤c) :
  Calls Tryz.prog 43 #[.slice A m c] w (nt w l):=by
 subst hn;have HB:=Lib.hid hb;clear hb;have hlm:Hid (l.length≤maxLen):=by show _≤maxLen;unfold maxLen;omega
 rcases hv:bX l with ⟨n,k,e⟩
 have Hv:=Lib.hid hv;by_cases he:e=0
 ·subst he
  obtain ⟨hn64,hk1,hkl,hk3,_⟩:=jj hv;have hk10:k≤10:=by rw [hk3];exact a7 hn64
  have Hk3:=Lib.hid hk3;clear hk3 hv;by_cases hbig:1048576<n
  ·have hx:Hid (aH l=([],0,4)):=by
    show _=_
    unfold aH;rw [Hv.out];rw [if_neg (by simp),if_pos hbig]
   have hbig':(1048576:Int)<(n:Int):=by omega
   go_enter Tryz.func43,Tryz.ntmps43
   go_wp2_with fail
   refine (oU _ _ _ l _ _ rfl HB.out hlm.out Hv.out).mono ?_;rintro e w1 ⟨rfl,rfl⟩
   go_wp2
   go_ret3
   exact mz hx.out (Below.refl _ _)
  ·have hn20:n≤1048576:=by omega
   have hbig':¬ (1048576:Int)<(n:Int):=by omega
   by_cases hsh:l.length<k + n + 4
   ·have hx:Hid (aH l=([],0,2)):=by
     show _=_
     unfold aH;rw [Hv.out];rw [if_neg (by simp),if_neg hbig,if_pos hsh]
    have hsh':(l.length:Int) - 4<(k:Int) + (n:Int):=by omega
    go_enter Tryz.func43,Tryz.ntmps43
    go_wp2_with fail
    refine (oU _ _ _ l _ _ rfl HB.out hlm.out Hv.out).mono ?_;rintro e w1 ⟨rfl,rfl⟩
    go_wp2
    go_ret3
    exact mz hx.out (Below.refl _ _)
   ·obtain ⟨ad,rfl,_,_⟩:=HB.out (by omega)
    have hsh':¬ (l.length:Int) - 4<(k:Int) + (n:Int):=by omega
    obtain ⟨E,hE⟩:∃ E,k + n=E:=⟨_,rfl⟩
    have hE':(k:Int) + (n:Int)=(E:Int):=by omega
    rw [hE'] at hsh';have hkE:k≤E:=by omega
    have hEl:E + 4≤l.length:=by omega
    have HE:=Lib.hid hE;have HE':=Lib.hid hE';clear hE hE';have hi0:(0:Int)≤(E:Int):=by omega
    have hi1:(0:Int)≤(E:Int) + 4:=by omega
    have hi2:(E:Int)≤(E:Int) + 4:=by omega
    have hi3:(E:Int) + 4≤(c:Int):=by omega
    have hi4:(E:Int)≤(c:Int):=by omega
    have hi5:E + 4≤c:=by omega
    have hi6:c≠E:=by omega
    have hi7:c≠k:=by omega
    have hi8:E≤c:=by omega
    have hb1:Hid (BS w w.heap.size (some (ad.add E)) ((l.drop E).take 4)):=by
     have:=(HB.out.drop (k:=E) (cap:=c) hc).take 4;rw [if_neg hi6] at this;exact this
    have hb2:Hid (BS w w.heap.size (some ad) (l.take E)):=HB.out.take E;have hb3:Hid (BS w w.heap.size (some (ad.add k)) ((l.drop k).take n)):=by
     have:=(HB.out.drop (k:=k) (cap:=c) hc).take n;rw [if_neg hi7] at this;exact this
    have hl1:Hid (4=((l.drop E).take 4).length):=by show _=_;rw [List.length_take,List.length_drop];omega
    have hl2:Hid (E=(l.take E).length):=by show _=_;rw [List.length_take];omega
    have hl3:Hid (E - k=((l.drop k).take n).length):=by show _=_;have:=HE.out;rw [List.length_take,List.length_drop];omega
    obtain ⟨v,hvv⟩:∃ v,oO ((l.drop E).take 4)=v:=⟨_,rfl⟩
    obtain ⟨o,ho⟩:∃ o,yB (l.take E)=o:=⟨_,rfl⟩
    have ho32:o<4294967296:=by rw [←ho];exact p6 _
    have hx8:v≠o→Hid (aH l=([],0,8)):=fun h=>by
     show _=_
     unfold aH;rw [Hv.out];rw [if_neg (by simp),if_neg hbig,if_neg hsh,if_pos (by rw [HE.out,hvv,ho];exact h)]
    have hx0:v=o→Hid (aH l=((l.drop k).take n,E + 4,0)):=fun h=>by
     show _=_
     unfold aH;rw [Hv.out];rw [if_neg (by simp),if_neg hbig,if_neg hsh,if_neg (by rw [HE.out,hvv,ho];exact fun e=>e h)];rw [HE.out]
    obtain ⟨bod,hbod⟩:∃ bod,(l.drop k).take n=bod:=⟨_,rfl⟩
    rw [hbod] at hb3 hl3 hx0;clear hbod;have Hvv:=Lib.hid hvv;have Ho:=Lib.hid ho;clear hvv ho;have hwo:Hid (IntKind.u64.wrap (o:Int)=(o:Int)):=jc o (by omega);have key:∀ (b:Bool),((v:Int) != IntKind.u64.wrap (o:Int))=b→Calls Tryz.prog 43 #[.slice (some ad) l.length c] w (nt w l):=by
     intro b hb;rcases b with _ | _
     all_goals
      go_enter Tryz.func43,Tryz.ntmps43
      go_wp2_with fail
      refine (oU _ _ _ l _ _ rfl HB.out hlm.out Hv.out).mono ?_;rintro e w1 ⟨rfl,rfl⟩
      go_wp2_with fail
      rw [HE'.out];have ht4:((E:Int) + 4).toNat=E + 4:=by omega
      have hw4:IntKind.i64.wrap ((E:Int) + 4)=(E:Int) + 4:=IntWalk.i64_in _ (by omega);have hd4:E + 4 - E=4:=by omega
      go_region_held3 (fun _=>True) (first | trivial)
       (first
        | (go_at_call 85
           refine (uR _ _ _ ((l.drop E).take 4) _ hl1.out (by first | exact (hb1.out.below (((Below.refl _ w).drew).trans hbO)).more (Nat.le_trans (Nat.le_refl _) hbO.size) | exact hb1.out) (by omega) (by omega) Hvv.out).mono ?_;rintro e wG ⟨rfl,hbG⟩)
        | (go_at_call 86
           refine (Fc _ _ _ (l.take E) _ w.heap.size hl2.out (by first | exact hb2.out.below (((Below.refl _ w).drew).trans hbG) | exact hb2.out) (by first | exact hbG.size | exact Nat.le_refl _) (by unfold maxLen;omega) Ho.out).mono ?_;rintro e wO ⟨rfl,hbO⟩))
      have hbW:Below w.heap.size w wO:=((Below.refl _ w).drew.trans hbG).trans (hbO.mono hbG.size);have HbW:=Lib.hid hbW;clear hbG hbO hbW
     ·have hvo:v=o:=by
       have:=bne_eq_false_iff_eq.1 hb;rw [hwo.out] at this;omega
      have hx:=hx0 hvo
      go_wp2_with fail
      refine (AB _ _ _ bod _ hl3.out ((hb3.out.below HbW.out).more HbW.out.size) (by omega)).mono ?_;rintro e wC ⟨A',c',rfl,hown,hbC⟩;have Hown:=Lib.hid hown;clear hown
      go_wp2
      go_ret3
      refine ⟨A',c',by show Ending.returned (.tuple #[.slice A' bod.length c',.int .i64 ((E:Int) + 4),.int .i64 0])=_;rw [hx.out];rfl,?_,HbW.out.trans (hbC.mono HbW.out.size)⟩;rw [hx.out];exact C8 Hown.out HbW.out.size
     ·have hvo:v≠o:=by
       have:=bne_iff_ne.1 hb;rw [hwo.out] at this;omega
      have hx:=hx8 hvo
      go_wp2
      go_ret3
      exact mz hx.out HbW.out
    exact key _ rfl
 ·obtain ⟨rfl,rfl,he'⟩:=p9 hv he
  clear hv;have hx:Hid (aH l=([],0,e)):=by
   show _=_
   unfold aH;rw [Hv.out];rw [if_pos he]
  rcases he' with rfl | rfl
  all_goals
   go_enter Tryz.func43,Tryz.ntmps43
   go_wp2_with fail
   refine (oU _ _ _ l _ _ rfl HB.out hlm.out Hv.out).mono ?_;rintro e w1 ⟨rfl,rfl⟩
   go_wp2
   go_ret3
   exact mz hx.out (Below.refl _ _)
end Go.Proofs.YtaafkokfdgfabaaGreat
namespace Go.Proofs.YtaafkokfdgfabaaGreat
open Go.RowKit
set_option linter.unusedVariables false
def nu (ls:List (List UInt8)):List UInt8:=(ls.map dE).flatten
theorem AC (ls:List (List UInt8)) (l:List UInt8):nu (ls ++ [l])=nu ls ++ dE l:=by simp [nu]
def mT (ls:List (List UInt8)):Prop:=∀ l ∈ ls,l.length≤1048576
def room (ls:List (List UInt8)):Nat:=(ls.map fun l=>l.length + 14).sum
theorem oB:∀ (ls:List (List UInt8)) (k:Nat),room (ls.take k)≤room ls
 | [],k=>by simp [room]
 | l :: ls,0=>by simp [room]
 | l :: ls,k + 1=>by
  have:=oB ls k;simp only [room,List.take_succ_cons,List.map_cons,List.sum_cons] at this ⊢;omega
theorem uS:∀ (ls:List (List UInt8)),mT ls→(nu ls).length≤room ls
 | [],_=>by simp [nu,room]
 | l :: ls,h=>by
  have ih:=uS ls (fun x hx=>h x (by simp [hx]));have hl:=h l (by simp);have h1:=cP l;have h2:=a7 (n:=l.length) (by omega);simp only [nu,room,List.map_cons,List.flatten_cons,List.length_append,List.sum_cons] at ih ⊢;omega
theorem r7 {α:Type} {xs:List α} {k:Nat} (h:k<xs.length):xs.take (k + 1)=xs.take k ++ [xs[k]]:=by
 rw [List.take_add_one,List.getElem?_eq_getElem h];rfl
theorem xA {ls:List (List UInt8)} {k:Nat} (h:k<ls.length) (h1:mT (ls.take k)) (h2:(ls[k]).length≤1048576):mT (ls.take (k + 1)):=by
 intro l hl;rw [r7 h,List.mem_append] at hl;rcases hl with hl | hl
 ·exact h1 l hl
 ·simp at hl
  subst hl;exact h2
def FD (w:World) (ls:List (List UInt8)) (e:Ending) (w':World):Prop :=
 (mT ls∧∃ A' c',e=.returned (.tuple #[.slice A' (nu ls).length c',.int .i64 0])∧w'.ownsRow w.heap.size 5 1 (.slice A' (nu ls).length c') (nu ls).length (ab (nu ls))∧Below w.heap.size w w') ∨
 (¬ mT ls∧e=.returned (.tuple #[.slice none 0 0,.int .i64 4])∧Below w.heap.size w w')
set_option maxRecDepth 100000 in
theorem El (A:Option Addr) (n c:Nat) (ls:List (List UInt8)) (w:World) (hn:n=ls.length) (hb:LS w w.heap.size A ls) (hl:n≤1000000000) (hroom:room ls≤1000000000) :
  Calls Tryz.prog 33 #[.slice A n c] w (FD w ls):=by
 subst hn;obtain ⟨i0,hi0,hz0,hz1,hz2⟩:=info_parts cC;have HB:=Lib.hid hb;have Hroom:=Lib.hid hroom;clear hb hroom;go_enter Tryz.func33,Tryz.ntmps33
 go_wp2
 go_loopw [4,11] (fun v i wr=>∃ (k:Nat) (dn:List UInt8) (A':Option Addr) (c':Nat),k≤ls.length∧i=.int .i64 (k:Int)∧v=.slice A' dn.length c'∧Below w.heap.size w wr∧Hid (dn=nu (ls.take k))∧Hid (mT (ls.take k))∧dn.length≤1000000000∧Hid (wr.ownsRow w.heap.size 5 1 (.slice A' dn.length c') dn.length (ab dn))) (fun _ i _=>ls.length - (intOf i).toNat)
 case atStart=>exact ⟨0,[],none,0,by omega,rfl,rfl,Below.refl _ _,by simp [Hid,nu],by simp [Hid,mT],by simp,World.ownsRow_nil _ _ _ _⟩
 case round =>
  obtain ⟨k,dn,A',c',hk,rfl,rfl,hbel,hdn,hok,hlen,hown⟩:=hrel;have hsz:w.heap.size≤wr.heap.size:=hbel.size;have hrow:∀ g,(Value.slice A' dn.length c').ownBlock=some g→w.heap.size≤g:=fun g hg=>(hown.out.lt g hg).1
  by_cases hlt:k<ls.length
  ·have hkI:(k:Int)<(ls.length:Int):=by omega
   obtain ⟨ad,A1,c1,rfl,hadb,hc,hcc,hbs⟩:=(HB.out.below hbel).at_ hlt;have hl0:Hid (ls[k] ∈ ls):=List.getElem_mem hlt;by_cases hbig:1048576<(ls[k]).length
   ·have hno:Hid (¬ mT ls):=fun h=>by have:=h _ hl0.out;omega
    clear hbs;generalize (ls[k]).length=L at *
    go_wp2_with fail
    refine (uQ _ _ _ _ hbig).mono ?_;rintro e w1 ⟨rfl,rfl⟩
    go_wp2
    go_ret2
    exact .inr ⟨hno.out,rfl,hbel⟩
   ·have hL:(ls[k]).length≤1048576:=by omega
    have hok':Hid (mT (ls.take (k + 1))):=xA hlt hok.out hL;have hdn':Hid (dn ++ dE ls[k]=nu (ls.take (k + 1))):=by
     show _=_
     rw [hdn.out,r7 hlt,AC]
    have hle':(dn ++ dE ls[k]).length≤1000000000:=by
     rw [hdn'.out];exact Nat.le_trans (uS _ hok'.out) (Nat.le_trans (oB ls (k + 1)) Hroom.out)
    have Hbs:=Lib.hid (hbs.more hsz);clear hbs hl0;generalize ls[k]=l at *
    rw [List.length_append] at hle'
    go_wp2_with fail
    refine (qF _ _ _ l _ rfl Hbs.out hL).mono ?_;rintro e w1 ⟨A2,c2,rfl,hown2,hb2⟩;have hB2:=hbel.trans (hb2.mono hsz);have Hown2:=Lib.hid hown2;have Hown1:=Lib.hid (ay hown.out hb2);clear hown2
    go_wp2_with (at_builtin;refine av _ rfl _ _ 43 rfl w.heap.size 5 i0 (.int .u8 0) 1 Tryz.underlying43 hi0 hz0 hz1 hz2 rfl (.slice A' dn.length c') dn rfl Hown1.out w1.heap.size A2 _ c2 (dE l) rfl rfl (BS.of_own Hown2.out).1 (by unfold maxLen;omega) (by omega) hB2.size ?_;intro A3 c3 w3 hown3 hg3 _)
    have hb3:Below w.heap.size w w3:=hB2.grown hg3 hB2.size hrow;have hlen3:(dn ++ dE l).length=dn.length + (dE l).length:=List.length_append;have Hown3:=Lib.hid hown3;have Hlen3:=Lib.hid hlen3;clear hown3 hlen3 hg3 hb2;go_roundw
    case rel=>exact ⟨k + 1,dn ++ dE l,A3,c3,by omega,by go_num,by simp,hb3,hdn',hok',by simp;omega,Hown3.out⟩
    case measure=>simp [intOf];omega
  ·have hke:ls.take k=ls:=List.take_of_length_le (by omega)
   have hd:=hdn.out;have ho:=hok.out;rw [hke] at hd ho;subst hd;clear hdn hke
   go_wp2
   go_ret2
   exact .inl ⟨ho,A',c',rfl,hown.out,hbel⟩
end Go.Proofs.YtaafkokfdgfabaaGreat
namespace Go.Proofs.YtaafkokfdgfabaaGreat
theorem lY {l:List UInt8} (h:l.length≤1048576) (t:List UInt8):aH (dE l ++ t)=(l,(dE l).length,0):=by
 have e0:dE l ++ t=aI l.length ++ (l ++ (jP 4 (yB (iC l)) ++ t)):=by simp [dE,iC]
 have hv:bX (dE l ++ t)=(l.length,(aI l.length).length,0):=by rw [e0];exact mh _ (by omega) _
 have hlen:(aI l.length).length + l.length + 4≤(dE l ++ t).length:=by rw [List.length_append,cP];omega
 have e1:((dE l ++ t).drop (aI l.length).length).take l.length=l:=by rw [e0,List.drop_left,List.take_left]
 have e2:(dE l ++ t).take ((aI l.length).length + l.length + 4)=dE l:=by rw [←cP,List.take_left]
 have hs:=(Ek hv hlen).1 (by rw [e1,e2]);unfold aH;rw [hv,if_neg (by simp),if_neg (by simp;omega),if_neg (by simp only;omega),if_neg (fun h=>h hs),e1,cP]
theorem qG {l:List UInt8} (h:l.length≤1048576) {j:Nat} (hj:j<(dE l).length):aH ((dE l).take j)=([],0,2):=by
 have hl:=cP l;by_cases hv:j<(aI l.length).length
 ·have e:(dE l).take j=(aI l.length).take j:=by
   rw [dE,iC,List.append_assoc,List.take_append_of_le_length (by omega)]
  have:bX ((dE l).take j)=(0,0,2):=by rw [e];exact BR _ 0 0 j (by omega) (by omega) hv
  unfold aH;rw [this,if_pos (by simp)]
 ·have e:(dE l).take j=aI l.length ++ (l ++ jP 4 (yB (iC l))).take (j - (aI l.length).length):=by
   rw [dE,iC,List.append_assoc,List.take_append,List.take_of_length_le (l:=aI l.length) (by omega)]
  have:bX ((dE l).take j)=(l.length,(aI l.length).length,0):=by rw [e];exact mh _ (by omega) _
  unfold aH;rw [this,if_neg (by simp),if_neg (by simp;omega),if_pos (by simp only [List.length_take];omega)]
end Go.Proofs.YtaafkokfdgfabaaGreat
