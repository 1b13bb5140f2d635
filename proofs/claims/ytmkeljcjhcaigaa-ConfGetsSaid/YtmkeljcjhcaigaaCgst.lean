/- What holds while a config is read: the reader, the config's box, the result's box, the row of Vips. -/
import Derived.Test.YtmkeljcjhcaigaaVrow
import Derived.Test.YtmkeljcjhcaigaaConfR
namespace Go.Proofs.Ytmkeljcjhcaigaa
open Go.RowKit
set_option linter.unusedVariables false
set_option linter.unusedSimpArgs false

theorem conf_size54 : (Try.prog.info? 29).map (·.size) = some 54 := by kernel_rfl
theorem conf_under : Try.prog.underlying 29 = some (.struct (Try.prog.fieldsOf 29)) := by kernel_rfl
theorem conf_one (A : Option Addr) (n c : Nat) (f : ConfP) : (confCs A n c f).toArray.all (·.oneCell') = true := all_oneCell_toArray (by
  intro u hu
  simp only [confCs, confTail, addrCs, List.mem_cons, List.mem_append, List.mem_map, List.mem_nil_iff, or_false] at hu
  rcases hu with rfl | rfl | rfl | ⟨z, _, rfl⟩ | rfl | rfl | hu | (rfl | hu) | (rfl | hu) | rfl | rfl | rfl
  all_goals first | rfl | exact bcells_one _ u hu)
/-- The parts of what is known: the reader in state s, the config f in its box, nothing in the result's, the Vips in a row of the call's own. -/
structure GSt (w wr : World) (base g : Nat) (l : List UInt8) (s : St) (A : Option Addr) (c : Nat) (f : ConfP) : Prop where
  rd : RdW wr base g l s
  ok : okS l s
  box : Blk wr (w.heap.size + 1) 29 (confCs A f.vips.length c f).toArray
  res : Blk wr w.heap.size 29 (confCs none 0 0 conf0).toArray
  row : VOwn wr w.heap.size A c f.vips
  bel : Below w.heap.size w wr
  shape : ConfShape f
  hg : w.heap.size ≤ g
  hbase : w.heap.size ≤ base
section
variable {w wr w' : World} {base g : Nat} {l : List UInt8} {s s' : St} {A A' : Option Addr} {c c' : Nat} {f f' : ConfP}
theorem RdW.blk {w : World} (h : RdW w base g l s) : ∃ cs, Blk w g 85 cs := by
  obtain ⟨A, c, hr, _⟩ := h
  exact ⟨_, hr⟩
theorem GSt.after (h : GSt w wr base g l s A c f) (hR : RdW w' base g l s') (hok : okS l s') (hg : wr.grownBy w' (some g)) : GSt w w' base g l s' A c f := by
  obtain ⟨cs, hrb⟩ := h.rd.blk
  have hn : ∀ {k : Nat} {cs' : Array Value}, Blk wr k 29 cs' → some k ≠ some g := fun hb e => Blk.ne hb hrb (by decide) (by injection e)
  exact ⟨hR, hok, Blk.grown h.box hg (hn h.box), Blk.grown h.res hg (hn h.res), h.row.grown hrb (by decide) hg, h.bel.grown hg h.bel.size (fun k hk => by injection hk with hk; have := h.hg; omega), h.shape, h.hg, h.hbase⟩
theorem GSt.below (h : GSt w wr base g l s A c f) (hb : Below wr.heap.size wr w') : GSt w w' base g l s A c f :=
  ⟨h.rd.below hb, h.ok, Blk.below h.box hb h.box.lt, Blk.below h.res hb h.res.lt, h.row.below hb, h.bel.trans (hb.mono h.bel.size), h.shape, h.hg, h.hbase⟩
theorem GSt.boxed (h : GSt w wr base g l s A c f) (hb : Blk w' (w.heap.size + 1) 29 (confCs A f'.vips.length c f').toArray) (hv : f'.vips = f.vips) (hg : wr.grownBy w' (some (w.heap.size + 1))) (hs : ConfShape f') : GSt w w' base g l s A c f' := by
  refine ⟨RdW.off h.rd hg h.box (by decide) (by decide), h.ok, hb, Blk.grown h.res hg (fun e => by injection e with e; omega), ?_, h.bel.grown hg h.bel.size (fun k hk => by injection hk with hk; omega), hs, h.hg, h.hbase⟩
  rw [hv]
  exact h.row.grown h.box (by decide) hg
/-- One cell of the box stored. -/
theorem GSt.set_ (h : GSt w wr base g l s A c f) (k : Nat) (u : Value) (e : (confCs A f.vips.length c f).toArray.setIfInBounds k u = (confCs A f'.vips.length c f').toArray) (hv : f'.vips = f.vips) (hs : ConfShape f') : GSt w (wr.setCell ⟨w.heap.size + 1, k, none⟩ u) base g l s A c f' := by
  refine h.boxed ?_ hv (grownSet _ ⟨w.heap.size + 1, k, none⟩ u) hs
  have := Blk.set_ h.box k u
  rw [e] at this
  exact this
end
theorem shape_size {f : ConfP} (h : ConfShape f) (x : Int) : ConfShape { f with size := x } := ⟨h.vips, h.idle, h.mac, h.four, h.six⟩
theorem shape_room {f : ConfP} (h : ConfShape f) (x : Int) : ConfShape { f with room := x } := ⟨h.vips, h.idle, h.mac, h.four, h.six⟩
theorem shape_rise {f : ConfP} (h : ConfShape f) (x : Int) : ConfShape { f with rise := x } := ⟨h.vips, h.idle, h.mac, h.four, h.six⟩
theorem shape_fall {f : ConfP} (h : ConfShape f) (x : Int) : ConfShape { f with fall := x } := ⟨h.vips, h.idle, h.mac, h.four, h.six⟩
theorem shape_most {f : ConfP} (h : ConfShape f) (x : Int) : ConfShape { f with most := x } := ⟨h.vips, h.idle, h.mac, h.four, h.six⟩
theorem shape_keep {f : ConfP} (h : ConfShape f) (x : Int) : ConfShape { f with keep := x } := ⟨h.vips, h.idle, h.mac, h.four, h.six⟩
theorem shape_batch {f : ConfP} (h : ConfShape f) (x : Int) : ConfShape { f with batch := x } := ⟨h.vips, h.idle, h.mac, h.four, h.six⟩
theorem shape_six6 {f : ConfP} (h : ConfShape f) (x : Bool) : ConfShape { f with six := (x, f.six.2) } := ⟨h.vips, h.idle, h.mac, h.four, h.six⟩
theorem shape_idle {f : ConfP} (h : ConfShape f) (k : Nat) (x : Int) : ConfShape { f with idle := f.idle.set k x } := ⟨h.vips, by simpa using h.idle, h.mac, h.four, h.six⟩
theorem shape_mac {f : ConfP} (h : ConfShape f) (x : List UInt8) (hx : x.length = 6) : ConfShape { f with mac := x } := ⟨h.vips, h.idle, hx, h.four, h.six⟩
theorem shape_four {f : ConfP} (h : ConfShape f) (x : List UInt8) (hx : x.length = 16) : ConfShape { f with four := (f.four.1, x) } := ⟨h.vips, h.idle, h.mac, hx, h.six⟩
theorem shape_six {f : ConfP} (h : ConfShape f) (x : List UInt8) (hx : x.length = 16) : ConfShape { f with six := (f.six.1, x) } := ⟨h.vips, h.idle, h.mac, h.four, hx⟩

/-- What a reading answers. -/
def CGetIs (w : World) (l : List UInt8) (e : Ending) (w' : World) : Prop :=
  Below w.heap.size w w' ∧ (confGetS l = none → e = .returned (.tuple #[confV none 0 0 conf0, .int .i64 3])) ∧
    ∀ f, confGetS l = some f → ∃ A c, e = .returned (.tuple #[confV A f.vips.length c f, .int .i64 0]) ∧ VOwn w' w.heap.size A c f.vips ∧ f.vips.length ≤ c ∧ ConfShape f
end Go.Proofs.Ytmkeljcjhcaigaa
