/- What the reading of a config comes to, from all that was read. No program in sight. -/
import Derived.Test.YtmkeljcjhcaigaaCgsv
namespace Go.Proofs.Ytmkeljcjhcaigaa
open Go.RowKit
set_option linter.unusedVariables false
set_option linter.unusedSimpArgs false

/-- The config that was read. -/
def confF (vs : List VipP) (m1 m2 : Nat) (ms : List Nat) (m8 m9 : Nat) (x1 x2 x3 : List UInt8) (k1 k2 k3 : Nat) : ConfP :=
  { vips := vs, size := (m1 : Int), room := (m2 : Int), idle := idleOf ms, rise := (m8 : Int), fall := (m9 : Int), mac := pad x1 6, four := (false, pad x2 16), six := (true, pad x3 16), most := (k1 : Int), keep := (k2 : Int), batch := (k3 : Int) }
theorem back_nums {l : List UInt8} {s t1 t2 t3 t4 t5 : St} {m1 m2 m8 m9 : Nat} {ms : List Nat} (h1 : numberS l s = (t1, m1)) (h2 : numberS l t1 = (t2, m2)) (h3 : numsS l 5 t2 = (t3, ms)) (h4 : numberS l t3 = (t4, m8)) (h5 : numberS l t4 = (t5, m9)) :
    numsS l 9 s = (t5, m1 :: m2 :: (ms ++ [m8, m9])) := by
  have e : numsS l (5 + 2) t2 = (t5, ms ++ [m8, m9]) := by
    rw [numsS_add, h3]
    simp only [numsS, h4, h5]
  rw [show (9 : Nat) = (5 + 2) + 1 + 1 from rfl]
  simp only [numsS, h1, h2]
  rw [show (5 : Nat) + 2 = 7 from rfl] at e
  simp only [numsS] at e
  obtain ⟨e1, e2⟩ := Prod.mk.inj e
  rw [e1, ← e2]
theorem get_if {l : List UInt8} {s1 s t1 t2 t3 t4 t5 u1 u2 u3 v1 v2 v3 : St} {many m1 m2 m8 m9 k1 k2 k3 : Nat} {ms : List Nat} {vs : List VipP} {x1 x2 x3 : List UInt8}
    (hm : numberS l (0, 0, 0) = (s1, many)) (hmv : manyS l (s1, many) = some (s, vs)) (h1 : numberS l s = (t1, m1)) (h2 : numberS l t1 = (t2, m2)) (h3 : numsS l 5 t2 = (t3, ms)) (h4 : numberS l t3 = (t4, m8)) (h5 : numberS l t4 = (t5, m9))
    (a1 : takeS l t5 6 = (u1, x1)) (a2 : takeS l u1 4 = (u2, x2)) (a3 : takeS l u2 16 = (u3, x3)) (b1 : numberS l u3 = (v1, k1)) (b2 : numberS l v1 = (v2, k2)) (b3 : numberS l v2 = (v3, k3)) :
    confGetS l = if (endS l v3).2.1 = 0 ∧ (endS l v3).2.2 = 0 ∧ vs.length = many ∧ rightB (confF vs m1 m2 ms m8 m9 x1 x2 x3 k1 k2 k3) = true then some (confF vs m1 m2 ms m8 m9 x1 x2 x3 k1 k2 k3) else none := by
  have hl5 : ms.length = 5 := by have := numsS_len l 5 t2; rw [h3] at this; exact this
  have hz : numsS l 3 u3 = (v3, [k1, k2, k3]) := by simp only [numsS, b1, b2, b3]
  have hb : confBack l s vs = (v3, confF vs m1 m2 ms m8 m9 x1 x2 x3 k1 k2 k3) := by
    unfold confBack
    rw [back_nums h1 h2 h3 h4 h5]
    simp only
    rw [a1]
    simp only
    rw [a2]
    simp only
    rw [a3]
    simp only
    rw [hz]
    simp only [confF, confOf, idleOf_full hl5]
    obtain ⟨z1, z2, z3, z4, z5, rfl⟩ : ∃ z1 z2 z3 z4 z5, ms = [z1, z2, z3, z4, z5] := by
      match ms, hl5 with
      | [z1, z2, z3, z4, z5], _ => exact ⟨z1, z2, z3, z4, z5, rfl⟩
    rfl
  unfold confGetS confPreS
  rw [hm]
  simp only
  rw [hmv]
  simp only
  rw [hb]
  rfl
theorem take_le {l : List UInt8} {s u : St} {n : Nat} {x : List UInt8} (h : takeS l s n = (u, x)) : x.length ≤ n := by
  have : (takeS l s n).2.length ≤ n := by
    unfold takeS
    split
    · exact Nat.zero_le _
    · have := cut_len l s 0 n
      simpa using this
  rw [h] at this
  exact this
theorem rdFault_sx (base g : Nat) (l : List UInt8) (s : St) (w : World) (h : RdW w base g l s) :
    Calls Try.prog 31 #[.pointer (some ⟨g, 0, none⟩)] w fun e w' => e = .returned (.agg #[.int .i64 (s.2.1 : Int), .int .i64 (s.2.2 : Int)]) ∧ Below w.heap.size w w' := by
  obtain ⟨A, c, hr, _⟩ := h
  exact rdFault_any g A l.length c s.1 s.2.1 s.2.2 w hr
section
variable {w wr : World} {base g : Nat} {l : List UInt8} {s : St} {A : Option Addr} {c : Nat} {f : ConfP}
theorem GSt.thereR (h : GSt w wr base g l s A c f) : wr.there w.heap.size 0 54 := h.res.there (by decide)
theorem GSt.thereF (h : GSt w wr base g l s A c f) : wr.there w.heap.size 0 (confCs A f.vips.length c f).toArray.size := by
  have e : (confCs A f.vips.length c f).toArray.size = 54 := by simpa using conf_len (A := A) (n := f.vips.length) (c := c) h.shape
  rw [e]
  exact h.thereR
theorem GSt.badBlk (h : GSt w wr base g l s A c f) : Blk (wr.setCells w.heap.size 0 (confCs none 0 0 conf0)) w.heap.size 29 (confCs none 0 0 conf0).toArray := by
  have := Blk.setCells (confCs none 0 0 conf0) 0 h.res
  rw [setL_whole rfl] at this
  exact this
theorem GSt.bad (h : GSt w wr base g l s A c f) (hno : confGetS l = none) : CGetIs w l (.returned (.tuple #[.agg (confCs none 0 0 conf0).toArray, .int .i64 3])) (wr.setCells w.heap.size 0 (confCs none 0 0 conf0)) :=
  ⟨below_setCells (Nat.le_refl _) _ _ h.bel, fun _ => rfl, fun f hf => by rw [hno] at hf; cases hf⟩
theorem GSt.goodBlk (h : GSt w wr base g l s A c f) : Blk (wr.setCells w.heap.size 0 (confCs A f.vips.length c f)) w.heap.size 29 (confCs A f.vips.length c f).toArray := by
  have := Blk.setCells (confCs A f.vips.length c f) 0 h.res
  rw [setL_whole (by rw [conf_len h.shape, conf_len conf0_shape])] at this
  exact this
theorem GSt.good (h : GSt w wr base g l s A c f) (hyes : confGetS l = some f) : CGetIs w l (.returned (.tuple #[.agg (confCs A f.vips.length c f).toArray, .int .i64 0])) (wr.setCells w.heap.size 0 (confCs A f.vips.length c f)) := by
  refine ⟨below_setCells (Nat.le_refl _) _ _ h.bel, (fun e => by rw [hyes] at e; cases e), ?_⟩
  intro f' hf
  rw [hyes] at hf
  injection hf with hf
  subst hf
  exact ⟨A, c, rfl, h.row.grown h.res (by decide) (grownCells _ w.heap.size 0 _ 0 (World.grownBy.refl _ _)), own_le h.row.1, h.shape⟩
end
theorem shape_setmac {f : ConfP} (h : ConfShape f) (x : List UInt8) (hx : x.length ≤ 6) : ConfShape { f with mac := pad x 6 } := shape_mac h _ (pad_len hx)
theorem shape_setfour {f : ConfP} (h : ConfShape f) (x : List UInt8) (hx : x.length ≤ 16) : ConfShape { f with four := (f.four.1, pad x 16) } := shape_four h _ (pad_len hx)
theorem shape_setsix {f : ConfP} (h : ConfShape f) (x : List UInt8) (hx : x.length ≤ 16) : ConfShape { f with six := (f.six.1, pad x 16) } := shape_six h _ (pad_len hx)
end Go.Proofs.Ytmkeljcjhcaigaa
