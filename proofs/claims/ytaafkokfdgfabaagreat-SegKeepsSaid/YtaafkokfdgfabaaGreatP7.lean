import Derived.Test.YtaafkokfdgfabaaGreatP1
import Derived.WalkSpells
import Derived.Lib.LazyBuf
set_option maxHeartbeats 8000000
set_option maxRecDepth 100000
set_option linter.unusedVariables false
set_option linter.unusedSimpArgs false
open Nat renaming le_refl→Iy
namespace Go.Proofs.YtaafkokfdgfabaaGreat
open Go.RowKit
open Lib (hid)
open Tryz renaming underlying43→qq,prog→Iz
theorem pO(A:Option Addr)(n c:Nat)(l:List UInt8)(w:World)(hn:n=l.length)(hb:BS w w.heap.size A l)(hl:n≤140737488355328) :
  Calls Iz 87 #[.slice A n c] w fun e w'=>∃A' c',e=.returned (.slice A' l.length c')∧w'.ownsRow w.heap.size 5 1 (.slice A' l.length c') l.length (ab l)∧Below w.heap.size w w':=by
 subst hn;obtain⟨i0,hi0,hz0,hz1,hz2⟩:=info_parts bB;have HB:=hid hb;clear hb;have hnil:=fun (A:Option Addr) (n c:Nat)=>Lib.run_eql_slice_nil (P:=Iz) w 43 5 A n c 0 0 qq
 rcases A with _|ad
 ·have hl0:l=[]:=by
   rcases l with _|⟨x,l⟩
   ·rfl
   ·obtain⟨ad,h,_⟩:=HB.out (by simp)
    cases h
  subst hl0;go_enter Tryz.func87,Tryz.ntmps87
  go_wp2
  go_ret
  exact⟨none,0,rfl,World.ownsRow_nil _ _ _ _,Below.refl _ _⟩
 ·go_enter Tryz.func87,Tryz.ntmps87
  go_wp2_with (at_builtin;refine ae _ rfl _ _ 43 rfl w.heap.size 5 i0 (.int .u8 0) 1 qq hi0 hz0 hz1 hz2 rfl (.slice (some ⟨w.heap.size,0,none⟩) 0 0) [] rfl (rf _ _ _ (Iy _) _ rfl) w.heap.size (some ad) _ c l rfl rfl (HB.out.alloc (Iy _) _) (by simp[maxLen];omega) (by simp;omega) (by simp) ?_;intro A3 c3 w3 hown3 hg3 _)
  go_ret
  exact⟨A3,c3,by simp,by simpa using hown3,((Below.refl _ _).alloc (Iy _) _).grown hg3 (by simp) (by intro k hk;simp[Value.ownBlock] at hk;omega)⟩
