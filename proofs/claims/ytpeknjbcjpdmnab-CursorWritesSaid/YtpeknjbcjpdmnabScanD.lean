/- Scan's deferred closure: of a frame that panics with a Spot, and of one that returns. -/
import Derived.Test.YtpeknjbcjpdmnabRdR
import Derived.Recover
import Derived.Defers
import Derived.Outline
import Derived.RegionTactic
import Derived.ChangeAlike
namespace Go.Proofs.Ytpeknjbcjpdmnab
open Go.RowKit
set_option linter.unusedVariables false

theorem rep15 : Array.replicate 15 undef = #[undef, undef, undef, undef, undef, undef, undef, undef, undef, undef, undef, undef, undef, undef, undef] := rfl
theorem spot_assert (v : Value) (w : World) : (Instr.typeAssert (.iface 28 v) 20 28 true).run Try.prog w = .ok (.tuple #[v, .bool true]) w := by kernel_rfl

set_option maxHeartbeats 800000 in
set_option maxRecDepth 100000 in
theorem scanD_idle (p q : Addr) (w : World) :
    CallsD Try.prog 36 #[.pointer (some p), .pointer (some q)] .returning w fun e u' w' => e = .returned (.tuple #[]) ∧ u' = .returning ∧ w = w' := by
  refine callsD_of_wpS Try.func36 rfl fun c₀ cs hu => ?_
  apply wpS_seq
  apply wpS_region
  simp [wpOpsS, go_sem, recoverD, hu, Try.ntmps36, Exit.thenS, rep15]
  refine wpS_of_wp ?_
  go_wp2
  cases c₀
  simp_all [bodyPostS, results, Try.results36]

set_option maxHeartbeats 800000 in
set_option maxRecDepth 100000 in
theorem scanD_panics (bo bf : Nat) (s : St) (older : List PanicEntry) (w : World) (A : Option Addr) (n c : Nat) (x y : Int) (hne : bo ≠ bf) (ho : Blk w bo 25 #[.slice A n c]) (hf : Blk w bf 28 #[.int .i64 x, .int .i64 y]) :
    CallsD Try.prog 36 #[.pointer (some ⟨bo, 0, none⟩), .pointer (some ⟨bf, 0, none⟩)] (.panicking ({ v := .iface 28 (spotV s), recovered := false } :: older)) w fun e u' w' =>
      e = .returned (.tuple #[]) ∧ u' = .panicking ({ v := .iface 28 (spotV s), recovered := true } :: older) ∧ Blk w' bo 25 #[.slice none 0 0] ∧ Blk w' bf 28 #[.int .i64 (s.2.1 : Int), .int .i64 (s.2.2 : Int)] ∧ ∀ B, B ≤ bo → B ≤ bf → Below B w w' := by
  have o0 := ho.cell 0
  have hta := spot_assert (spotV s)
  refine callsD_of_wpS Try.func36 rfl fun c₀ cs hu => ?_
  apply wpS_seq
  apply wpS_region
  simp [wpOpsS, go_sem, recoverD, hu, Try.ntmps36, Exit.thenS, rep15]
  refine wpS_of_wp ?_
  unfold spotV at hta ⊢
  go_wp2
  obtain ⟨W, hW⟩ : ∃ W, W = w.alloc (.cells #[.int .i64 (s.2.1 : Int), .int .i64 (s.2.2 : Int)] 28) := ⟨_, rfl⟩
  rw [← hW]
  have hS : Blk W w.heap.size 28 #[.int .i64 (s.2.1 : Int), .int .i64 (s.2.2 : Int)] := by rw [hW]; exact Blk.new w _ _ _ rfl
  have hbW : Below w.heap.size w W := by rw [hW]; exact (Below.refl _ w).alloc (Nat.le_refl _) _
  have ho1 := Blk.below ho hbW ho.lt
  have hf1 := Blk.below hf hbW hf.lt
  have hbo := ho.lt
  have hbf := hf.lt
  have Ho1 := Lib.hid ho1
  have Hf1 := Lib.hid hf1
  have HbW := Lib.hid hbW
  have o0' : W.cell? ⟨bo, 0, none⟩ = some (.slice A n c) := ho1.cell 0
  have of0 := ho1.frozen 0
  have c0 : W.cell? ⟨bf, 0, none⟩ = some (.int .i64 x) := hf1.cell 0
  have c1 : W.cell? ⟨bf, 1, none⟩ = some (.int .i64 y) := hf1.cell 1
  have cf0 := hf1.frozen 0
  have cf1 := hf1.frozen 1
  have s0 : W.cell? ⟨w.heap.size, 0, none⟩ = some (.int .i64 (s.2.1 : Int)) := hS.cell 0
  have s1 : W.cell? ⟨w.heap.size, 1, none⟩ = some (.int .i64 (s.2.2 : Int)) := hS.cell 1
  have hne1 : w.heap.size ≠ bo := by omega
  have hne2 : w.heap.size ≠ bf := by omega
  clear ho hf ho1 hf1 hbW hS hW
  go_region
  all_goals
    go_wp2
    refine ⟨rfl, _, rfl, .tuple #[], by simp [results, Try.results36], rfl, rfl, ?_⟩
    have h1 := Blk.far (Blk.far (Blk.set_ Ho1.out 0 (.slice none 0 0)) (p := ⟨bf, 0, none⟩) hne (.int .i64 (s.2.1 : Int))) (p := ⟨bf, 1, none⟩) hne (.int .i64 (s.2.2 : Int))
    have h2 := Blk.set_ (Blk.set_ (Blk.far Hf1.out (p := ⟨bo, 0, none⟩) (Ne.symm hne) (.slice none 0 0)) 0 (.int .i64 (s.2.1 : Int))) 1 (.int .i64 (s.2.2 : Int))
    exact ⟨Blk.drew h1, Blk.drew h2, fun B h3 h4 => ((((HbW.out.mono (by omega)).setCell h3 _).setCell h4 _).setCell h4 _).drew⟩
end Go.Proofs.Ytpeknjbcjpdmnab
