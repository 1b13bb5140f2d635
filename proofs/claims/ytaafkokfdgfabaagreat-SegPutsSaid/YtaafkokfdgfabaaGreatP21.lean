import Derived.Test.YtaafkokfdgfabaaGreatP1
import Derived.Test.YtaafkokfdgfabaaGreatP2
import Derived.Test.YtaafkokfdgfabaaGreatP5
import Derived.Test.YtaafkokfdgfabaaGreatP18
import Derived.WalkSpells
import Derived.Lib.LazyBuf
set_option maxHeartbeats 8000000
set_option maxRecDepth 100000
set_option linter.unusedVariables false
set_option linter.unusedSimpArgs false
open Nat renaming le_refl→Iy
namespace Go.Proofs.YtaafkokfdgfabaaGreat
open Go.RowKit
open Lib (hid)
open Tryz renaming underlying43→qq,prog→Iz
open World renaming ownsRow→IA
theorem BB(A:Option Addr)(n c:Nat)(l:List UInt8)(w:World)(hn:n=l.length)(hb:BS w w.heap.size A l)(hl:n≤140737488355328) :
  Calls Iz 87 #[.slice A n c] w fun e w'=>∃A' c',e=.returned (.slice A' l.length c')∧w'.ownsRow w.heap.size 5 1 (.slice A' l.length c') l.length (ab l)∧Below w.heap.size w w':=by
 subst hn;obtain⟨i0,hi0,hz0,hz1,hz2⟩:=info_parts bB;have HB:=hid hb;clear hb;have hnil:=fun (A:Option Addr) (n c:Nat)=>Lib.run_eql_slice_nil (P:=Iz) w 43 5 A n c 0 0 qq
 rcases A with _|ad
 ·have hl0:l=[]:=by
   rcases l with _|⟨x,l⟩
   ·rfl
   ·obtain⟨ad,h,_⟩:=HB.out (by simp)
    cases h
  subst hl0;go_enter Tryz.func87,Tryz.ntmps87
  go_wp2
  go_ret
  exact⟨none,0,rfl,World.ownsRow_nil _ _ _ _,Below.refl _ _⟩
 ·go_enter Tryz.func87,Tryz.ntmps87
  go_wp2_with (at_builtin;refine ae _ rfl _ _ 43 rfl w.heap.size 5 i0 (.int .u8 0) 1 qq hi0 hz0 hz1 hz2 rfl (.slice (some ⟨w.heap.size,0,none⟩) 0 0) [] rfl (rf _ _ _ (Iy _) _ rfl) w.heap.size (some ad) _ c l rfl rfl (HB.out.alloc (Iy _) _) (by simp[maxLen];omega) (by simp;omega) (by simp) ?_;intro A3 c3 w3 hown3 hg3 _)
  go_ret
  exact⟨A3,c3,by simp,by simpa using hown3,((Below.refl _ _).alloc (Iy _) _).grown hg3 (by simp) (by intro k hk;simp[Value.ownBlock] at hk;omega)⟩
theorem vW(A:Option Addr)(n c:Nat)(w:World)(hn:1048576<n) :
  Calls Iz 51 #[.slice A n c] w fun e w'=>e=.returned (.tuple #[.slice none 0 0,.int .i64 4])∧w=w':=by
 have h:(1048576:Int)<(n:Int):=by omega
 go_enter Tryz.func51,Tryz.ntmps51
 go_wp2
 go_ret2
 exact⟨rfl,rfl⟩
theorem rR(A:Option Addr)(n c:Nat)(l:List UInt8)(w:World)(hn:n=l.length)(hb:BS w w.heap.size A l)(hl:n≤1048576) :
  Calls Iz 51 #[.slice A n c] w fun e w'=>∃A' c',e=.returned (.tuple #[.slice A' (dA l).length c',.int .i64 0])∧w'.ownsRow w.heap.size 5 1 (.slice A' (dA l).length c') (dA l).length (ab (dA l))∧Below w.heap.size w w':=by
 subst hn;obtain⟨i0,hi0,hz0,hz1,hz2⟩:=info_parts bB;have HB:=hid hb;clear hb;have hle:=aO (n:=l.length) (by omega);have hol:=pI (fZ l);have hhl:=jH l;have hrl:(dA l).length=(fZ l).length+4:=by rw[cT,jH]
 have Hrl:=hid hrl;have hh20:(fZ l).length≤1048586:=by omega
 have Hhl:=hid hhl;have hxx:aC l.length++l=fZ l:=rfl;obtain⟨o,ho⟩:∃o,vc (fZ l)=o:=⟨_,rfl⟩;rw[ho] at hol;have Ho:=hid ho;clear hhl hrl ho hxx;go_enter Tryz.func51,Tryz.ntmps51
 go_wp2_with fail
 refine (ua _ _ l.length rfl (by omega)).mono ?_;rintro e w1 ⟨v,rfl,hown1,hb1⟩;obtain⟨A1,c1,rfl,_,_⟩:=cw hown1
 go_wp2_with (at_builtin;refine ae _ rfl _ _ 43 rfl w.heap.size 5 i0 (.int .u8 0) 1 qq hi0 hz0 hz1 hz2 rfl (.slice A1 (aC l.length).length c1) (aC l.length) rfl hown1 w.heap.size A _ c l rfl rfl (HB.out.below hb1) (by unfold maxLen;omega) (by omega) hb1.size ?_;intro A2 c2 w2 hown2 hg2 _)
 have hb2:Below w.heap.size w w2:=hb1.grown hg2 hb1.size (fun k hk=>(hown1.lt k hk).1);have Hown2:Hid (w2.ownsRow w.heap.size 5 1 (.slice A2 ((aC l.length).length+l.length) c2) ((aC l.length).length+l.length) (ab (fZ l))):=by
  show IA _ _ _ _ _ _ _
  rw[List.length_append] at hown2;exact hown2
 clear hown1 hown2 hg2;refine (Gb _ _ _ (fZ l) _ _ Hhl.out.symm (BS.of_own Hown2.out).1 (Iy _) (by unfold maxLen;omega) Ho.out).mono ?_;rintro e w3 ⟨rfl,hb3⟩;have hB3:=CG hb2 hb3
 go_wp2_with fail
 refine (tZ _ _ _ o 4 rfl rfl (by omega) (by omega)).mono ?_;rintro e w4 ⟨v,rfl,hown4,hb4⟩;obtain⟨A4,c4,rfl,_,_⟩:=cw hown4;have hB4:=CG hB3 hb4;have Hown2':Hid (w4.ownsRow w.heap.size 5 1 (.slice A2 ((aC l.length).length+l.length) c2) (fZ l).length (ab (fZ l))):=by
  show IA _ _ _ _ _ _ _
  rw[Hhl.out];exact an (an Hown2.out hb3) hb4
 have Hown4:=hid hown4;clear hown4
 go_wp2_with (at_builtin;refine ae _ rfl _ _ 43 rfl w.heap.size 5 i0 (.int .u8 0) 1 qq hi0 hz0 hz1 hz2 rfl (.slice A2 ((aC l.length).length+l.length) c2) (fZ l) rfl Hown2'.out w4.heap.size A4 4 c4 (i7 4 o) rfl (cJ _ _).symm (BS.of_own Hown4.out).1 (by rw[cJ];unfold maxLen;omega) (by rw[cJ];omega) hB4.size ?_;intro A5 c5 w5 hown5 hg5 _)
 have hb5:Below w.heap.size w w5:=hB4.grown hg5 hB4.size (fun k hk=>(Hown2'.out.lt k hk).1);have e5:fZ l++i7 4 o=dA l:=by rw[←Ho.out];rfl
 have e6:(fZ l).length+(i7 4 o).length=(dA l).length:=by rw[Hrl.out,cJ]
 rw[e5] at hown5;have Hown5:=hid hown5;clear hown5 hg5
 go_ret2
 exact⟨A5,c5,by show Ending.returned (.tuple #[.slice A5 ((fZ l).length+(i7 4 o).length) c5,.int .i64 0])=_;rw[e6],Hown5.out,hb5⟩
