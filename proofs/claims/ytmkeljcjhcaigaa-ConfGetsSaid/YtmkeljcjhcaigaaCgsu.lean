/- What holds while a config is read: a Vip's block written, a Vip appended; numbers of one byte and of two. -/
import Derived.Test.YtmkeljcjhcaigaaCgst
namespace Go.Proofs.Ytmkeljcjhcaigaa
open Go.RowKit
set_option linter.unusedVariables false
set_option linter.unusedSimpArgs false

theorem num_le1 (l : List UInt8) (s : St) : (numS l s 1 true).2 ≤ 255 := by
  have h := cut_len l s 0 1
  unfold numS
  rw [if_neg (by decide)]
  show getS (cutS l s 0 1).2 true ≤ 255
  match hx : (cutS l s 0 1).2, h with
  | [], _ => decide
  | [c], _ => rw [getS_one]; have := c.toNat_lt; omega
theorem num_le2 (l : List UInt8) (s : St) : (numS l s 2 true).2 ≤ 65535 := by
  have h := cut_len l s 0 2
  unfold numS
  rw [if_neg (by decide)]
  show getS (cutS l s 0 2).2 true ≤ 65535
  match hx : (cutS l s 0 2).2, h with
  | [], _ => decide
  | [c], _ => rw [getS_one]; have := c.toNat_lt; omega
  | [c, d], _ => rw [getS_two]; have := c.toNat_lt; have := d.toNat_lt; omega
theorem takeR_ok (l : List UInt8) (s : St) : addrOk (takeR l s) := by
  unfold takeR takeAddrS
  split
  · simp only
    split
    · assumption
    · rfl
  · split
    · simp only
      split
      · exact pad_len (by omega)
      · rfl
    · rfl
section
variable {w wr w' : World} {base g : Nat} {l : List UInt8} {s s' : St} {A A' : Option Addr} {c c' : Nat} {f f' : ConfP}
/-- The block of a Vip that is not of the row is written. -/
theorem GSt.other {k : Nat} {cs : Array Value} (h : GSt w wr base g l s A c f) (hk : Blk wr k 33 cs) (hne : (Value.slice A f.vips.length c).ownBlock ≠ some k) (hwk : w.heap.size ≤ k) (hg : wr.grownBy w' (some k)) : GSt w w' base g l s A c f :=
  ⟨RdW.off h.rd hg hk (by decide) (by decide), h.ok, Blk.grown h.box hg (fun e => Blk.ne h.box hk (by decide) (by injection e)), Blk.grown h.res hg (fun e => Blk.ne h.res hk (by decide) (by injection e)), ⟨h.row.1.kept hg (.inr hne), h.row.2⟩, h.bel.grown hg h.bel.size (fun j hj => by injection hj with hj; omega), h.shape, h.hg, h.hbase⟩
theorem grownNone {w w' : World} (h : w.grownBy w' none) (k : Nat) : w.grownBy w' (some k) := ⟨h.os, h.tape, h.output, h.size, fun j hj _ => h.block j hj (by simp)⟩
/-- A Vip is appended, and the row laid into the box. -/
theorem GSt.append {vs : List VipP} {v : VipP} (h : GSt w wr base g l s A c { conf0 with vips := vs }) (hown : VOwn w' w.heap.size A' c' (vs ++ [v])) (hg : wr.grownBy w' (Value.slice A vs.length c).ownBlock) :
    GSt w (w'.setCell ⟨w.heap.size + 1, 0, none⟩ (.slice A' (vs.length + 1) c')) base g l s A' c' { conf0 with vips := vs ++ [v] } := by
  have hv : ({ conf0 with vips := vs } : ConfP).vips = vs := rfl
  have h1 : ∃ w2g : Unit, RdW w' base g l s ∧ Blk w' (w.heap.size + 1) 29 (confCs A vs.length c { conf0 with vips := vs }).toArray ∧ Blk w' w.heap.size 29 (confCs none 0 0 conf0).toArray ∧ Below w.heap.size w w' := by
    refine ⟨(), ?_⟩
    rcases h.row.1.2 with ⟨e0, _⟩ | ⟨k, cap, cur, e1, hk, hh, _⟩
    · rw [hv] at e0
      rw [e0] at hg
      have hgn : wr.grownBy w' (some wr.heap.size) := grownNone hg _
      have hb : Below wr.heap.size wr w' := ⟨hg.os, hg.tape, hg.output, hg.size, fun j hj => hg.block j hj (by simp [Value.ownBlock])⟩
      exact ⟨h.rd.below hb, Blk.below h.box hb h.box.lt, Blk.below h.res hb h.res.lt, h.bel.trans (hb.mono h.bel.size)⟩
    · rw [hv] at e1
      rw [e1] at hg
      have hgk : wr.grownBy w' (some k) := hg
      have hkb : Blk wr k 33 cur := hh
      exact ⟨RdW.off h.rd hgk hkb (by decide) (by decide), Blk.grown h.box hgk (fun e => Blk.ne h.box hkb (by decide) (by injection e)), Blk.grown h.res hgk (fun e => Blk.ne h.res hkb (by decide) (by injection e)), h.bel.grown hgk h.bel.size (fun j hj => by injection hj with hj; omega)⟩
  obtain ⟨_, hrd, hbox, hres, hbel⟩ := h1
  have hgs := grownSet w' ⟨w.heap.size + 1, 0, none⟩ (.slice A' (vs.length + 1) c')
  refine ⟨RdW.off hrd hgs hbox (by decide) (by decide), h.ok, ?_, Blk.grown hres hgs (fun e => by injection e with e; have e1 : w.heap.size = w.heap.size + 1 := e; omega), ?_, hbel.setCell (by simp) _, ⟨hown.2, rfl, rfl, rfl, rfl⟩, h.hg, h.hbase⟩
  · have := Blk.set_ hbox 0 (.slice A' (vs.length + 1) c')
    rw [set_slice A' (vs.length + 1) c' (vs ++ [v])] at this
    show Blk _ _ _ (confCs A' (vs ++ [v]).length c' _).toArray
    rw [List.length_append]
    exact this
  · exact hown.grown hbox (by decide) hgs
theorem GSt.appBox {vs : List VipP} (h : GSt w wr base g l s A c { conf0 with vips := vs }) (hg : wr.grownBy w' (Value.slice A vs.length c).ownBlock) : Blk w' (w.heap.size + 1) 29 (confCs A vs.length c { conf0 with vips := vs }).toArray := by
  have hv : ({ conf0 with vips := vs } : ConfP).vips = vs := rfl
  rcases h.row.1.2 with ⟨e0, _⟩ | ⟨k, cap, cur, e1, hk, hh, _⟩
  · rw [hv] at e0
    rw [e0] at hg
    exact Blk.grown h.box hg (by simp [Value.ownBlock])
  · rw [hv] at e1
    rw [e1] at hg
    have hkb : Blk wr k 33 cur := hh
    exact Blk.grown h.box hg (fun e => Blk.ne h.box hkb (by decide) (by injection e))
end
/-- A Vip that cannot be, and there is no config. -/
theorem get_none {l : List UInt8} {s1 s : St} {many k : Nat} {vs : List VipP} (hm : numberS l (0, 0, 0) = (s1, many)) (h64 : many ≤ 64) (hk : k < many) (hat : vipsS l many s1 = (vipsS l (many - k) s).map fun p => (p.1, vs ++ p.2)) (hv : vipS l s = none) : confGetS l = none := by
  have h1 : vipsS l (many - k) s = none := by
    rw [show many - k = (many - k - 1) + 1 by omega, vipsS, hv]
  rw [h1] at hat
  unfold confGetS confPreS manyS
  rw [hm]
  simp only
  rw [if_pos h64, hat]
  rfl
theorem vips_step {l : List UInt8} {s1 s : St} {many k : Nat} {vs : List VipP} {v : VipP} (hk : k < many) (hat : vipsS l many s1 = (vipsS l (many - k) s).map fun p => (p.1, vs ++ p.2)) (hv : vipS l s = some v) :
    vipsS l many s1 = (vipsS l (many - (k + 1)) (vipS4 l s)).map fun p => (p.1, (vs ++ [v]) ++ p.2) := by
  rw [hat, show many - k = (many - (k + 1)) + 1 by omega, vipsS, hv]
  simp only
  rcases vipsS l (many - (k + 1)) (vipS4 l s) with _ | ⟨p1, p2⟩
  · rfl
  · simp
end Go.Proofs.Ytmkeljcjhcaigaa
