/- A config's cells, one field stored: the cells of the config with that field; a copy of read bytes into a field. No program in sight but the types. -/
import Derived.Test.YtmkeljcjhcaigaaConfV
import Derived.Test.YtmkeljcjhcaigaaConfZ
namespace Go.Proofs.Ytmkeljcjhcaigaa
open Go.RowKit
set_option linter.unusedVariables false
set_option linter.unusedSimpArgs false

/-- The config that is none. -/
def conf0 : ConfP := { vips := [], size := 0, room := 0, idle := List.replicate 6 0, rise := 0, fall := 0, mac := List.replicate 6 0, four := addr0, six := addr0, most := 0, keep := 0, batch := 0 }
theorem conf0_shape : ConfShape conf0 := ⟨by simp [conf0], rfl, rfl, rfl, rfl⟩
section
variable {A : Option Addr} {n c : Nat} {f : ConfP}
theorem set_size (x : Int) : (confCs A n c f).toArray.setIfInBounds 1 (.int .i64 x) = (confCs A n c { f with size := x }).toArray := by
  rw [List.setIfInBounds_toArray]; rfl
theorem set_room (x : Int) : (confCs A n c f).toArray.setIfInBounds 2 (.int .i64 x) = (confCs A n c { f with room := x }).toArray := by
  rw [List.setIfInBounds_toArray]; rfl
theorem set_slice (A' : Option Addr) (n' c' : Nat) (vs : List VipP) : (confCs A n c f).toArray.setIfInBounds 0 (.slice A' n' c') = (confCs A' n' c' { f with vips := vs }).toArray := by
  rw [List.setIfInBounds_toArray]; rfl
theorem set_idle (h : ConfShape f) {k : Nat} (hk : k < 6) (x : Int) : (confCs A n c f).toArray.setIfInBounds (3 + k) (.int .i64 x) = (confCs A n c { f with idle := f.idle.set k x }).toArray := by
  have hi := h.idle
  rw [List.setIfInBounds_toArray, show 3 + k = (k + 2) + 1 by omega]
  simp only [confCs, confTail, List.set_cons_succ]
  rw [List.set_append_left _ _ (by simp; omega)]
  simp [List.map_set, iv]
theorem set_rise (h : ConfShape f) (x : Int) : (confCs A n c f).toArray.setIfInBounds 9 (.int .i64 x) = (confCs A n c { f with rise := x }).toArray := by
  have hi := h.idle
  rw [List.setIfInBounds_toArray]
  simp [confCs, confTail, List.set_append, hi, iv]
theorem set_fall (h : ConfShape f) (x : Int) : (confCs A n c f).toArray.setIfInBounds 10 (.int .i64 x) = (confCs A n c { f with fall := x }).toArray := by
  have hi := h.idle
  rw [List.setIfInBounds_toArray]
  simp [confCs, confTail, List.set_append, hi, iv]
theorem set_six6 (h : ConfShape f) (x : Bool) : (confCs A n c f).toArray.setIfInBounds 34 (.bool x) = (confCs A n c { f with six := (x, f.six.2) }).toArray := by
  have hi := h.idle; have hm := h.mac; have h4 : f.four.2.length = 16 := h.four
  rw [List.setIfInBounds_toArray]
  simp [confCs, confTail, List.set_append, hi, bcells_length, hm, h4, addrCs]
theorem set_most (h : ConfShape f) (x : Int) : (confCs A n c f).toArray.setIfInBounds 51 (.int .i64 x) = (confCs A n c { f with most := x }).toArray := by
  have hi := h.idle; have hm := h.mac; have h4 := addrCs_length h.four; have h6 := addrCs_length h.six
  rw [List.setIfInBounds_toArray]
  simp [confCs, confTail, List.set_append, hi, bcells_length, hm, h4, h6, iv]
theorem set_keep (h : ConfShape f) (x : Int) : (confCs A n c f).toArray.setIfInBounds 52 (.int .i64 x) = (confCs A n c { f with keep := x }).toArray := by
  have hi := h.idle; have hm := h.mac; have h4 := addrCs_length h.four; have h6 := addrCs_length h.six
  rw [List.setIfInBounds_toArray]
  simp [confCs, confTail, List.set_append, hi, bcells_length, hm, h4, h6, iv]
theorem set_batch (h : ConfShape f) (x : Int) : (confCs A n c f).toArray.setIfInBounds 53 (.int .i64 x) = (confCs A n c { f with batch := x }).toArray := by
  have hi := h.idle; have hm := h.mac; have h4 := addrCs_length h.four; have h6 := addrCs_length h.six
  rw [List.setIfInBounds_toArray]
  simp [confCs, confTail, List.set_append, hi, bcells_length, hm, h4, h6, iv]

theorem conf_to_mac (h : ConfShape f) : ∃ pre post, (∀ b : List UInt8, confCs A n c { f with mac := b } = pre ++ (bcells b ++ post)) ∧ pre.length = 11 := by
  have hi := h.idle
  exact ⟨.slice A n c :: iv f.size :: iv f.room :: (f.idle.map iv ++ [iv f.rise, iv f.fall]), addrCs f.four ++ (addrCs f.six ++ [iv f.most, iv f.keep, iv f.batch]), fun b => by simp [confCs, confTail], by simp [hi]⟩
theorem conf_to_four (h : ConfShape f) : ∃ pre post, (∀ b : List UInt8, confCs A n c { f with four := (f.four.1, b) } = pre ++ (bcells b ++ post)) ∧ pre.length = 18 := by
  have hi := h.idle; have hm := h.mac
  exact ⟨.slice A n c :: iv f.size :: iv f.room :: (f.idle.map iv ++ (iv f.rise :: iv f.fall :: (bcells f.mac ++ [.bool f.four.1]))), addrCs f.six ++ [iv f.most, iv f.keep, iv f.batch], fun b => by simp [confCs, confTail, addrCs], by simp [hi, bcells_length, hm]⟩
theorem conf_to_six (h : ConfShape f) : ∃ pre post, (∀ b : List UInt8, confCs A n c { f with six := (f.six.1, b) } = pre ++ (bcells b ++ post)) ∧ pre.length = 35 := by
  have hi := h.idle; have hm := h.mac; have h4 := addrCs_length h.four
  exact ⟨.slice A n c :: iv f.size :: iv f.room :: (f.idle.map iv ++ (iv f.rise :: iv f.fall :: (bcells f.mac ++ (addrCs f.four ++ [.bool f.six.1])))), [iv f.most, iv f.keep, iv f.batch], fun b => by simp [confCs, confTail, addrCs], by simp [hi, bcells_length, hm, h4]⟩
end
/-- Bytes copied over the first of noughts, behind a beginning: the same as their padding. -/
theorem splice_pad {pre post : List Value} {x : List UInt8} {N : Nat} (hx : x.length ≤ N) (k : Nat) (hk : pre.length = k) :
    (pre ++ (bcells (List.replicate N 0) ++ post)).take k ++ (bcells x ++ (pre ++ (bcells (List.replicate N 0) ++ post)).drop (k + (bcells x).length)) = pre ++ (bcells (pad x N) ++ post) := by
  subst hk
  rw [List.take_left, ← List.drop_drop, List.drop_left, bcells_length, List.drop_append_of_le_length (by rw [bcells_length, List.length_replicate]; exact hx)]
  simp only [pad, bcells_append, List.append_assoc]
  rw [show (bcells (List.replicate N 0)).drop x.length = bcells (List.replicate (N - x.length) 0) by simp [bcells, List.map_replicate]]

section
variable {P : Program}
/-- 'copy' of bytes that were read (or of none) over noughts: one law for both. -/
theorem wp_copy_pad {w : World} {o : Oper} {a : Act} {K : Act → World → Prop} {Q : Exit → Act → World → Prop} (d s : Operand) (dT sT : TypeId)
    (ho : o.op = .call { callee := .builtin .copy, args := #[d, s], argTypes := #[dT, sT] }) (elem : TypeId) (hu : P.underlying dT = some (.slice elem)) (hsz : (P.info? elem).map (·.size) = some 1)
    (g off N dCap : Nat) (A : Option Addr) (sCap : Nat) (x : List UInt8) (hd : a.eval d = .slice (some ⟨g, off, none⟩) N dCap) (hs : a.eval s = .slice A x.length sCap) (B : Nat) (hb : BS w B A x) (hx : x.length ≤ N)
    (t : TypeId) (cs : List UInt8 → List Value) (pre post : List Value) (hcs : ∀ b, cs b = pre ++ (bcells b ++ post)) (hpre : pre.length = off) (hg : Blk w g t (cs (List.replicate N 0)).toArray)
    (h : ∀ w' z, Blk w' g t (cs (pad x N)).toArray → w.grownBy w' (some g) → K (a.put o.dst z) w') : o.wp P a w K Q := by
  rcases x with _ | ⟨x0, xs⟩
  · have hrun := run_copy_none (P := P) w dT sT o.type elem (some ⟨g, off, none⟩) A N dCap 0 sCap hu hsz (by simp)
    unfold Oper.wp
    simp [execOp, ho, resolve, invoke, builtin, hd, hs, hrun, Result.andThen]
    exact h w _ (by simpa [pad] using hg) (World.grownBy.refl _ _)
  · obtain ⟨ad, rfl, _, hcell⟩ := hb (by simp)
    have hg' : w.heap[g]? = some (.cells (cs (List.replicate N 0)).toArray t (0, 0)) := hg
    have hrun := run_copy_row (P := P) w dT sT o.type elem g off N dCap ad (x0 :: xs).length sCap (cs (List.replicate N 0)).toArray t (bcells (x0 :: xs)) hu hsz hg' (by rw [bcells_length]; exact (Nat.min_eq_left hx).symm) (fun j v hj => by
        rw [bcells, List.getElem?_map] at hj
        rcases hm : (x0 :: xs)[j]? with _ | y
        · rw [hm] at hj; cases hj
        · rw [hm] at hj
          simp only [Option.map_some, Option.some.injEq] at hj
          rw [← hj]
          exact hcell j y hm) (by rw [hcs, List.size_toArray, List.length_append, hpre, List.length_append, bcells_length, bcells_length, List.length_replicate]; omega) (bcells_one _)
    unfold Oper.wp
    simp only [execOp, ho, resolve, invoke, builtin, hd, hs, List.map_toArray, List.map_cons, List.map_nil, Sem.run_bind, Sem.run_pure, Result.andThen_ok, hrun]
    refine h _ _ ?_ (grownRow w g _)
    rw [hcs (List.replicate N 0), List.append_assoc, splice_pad hx off hpre, ← hcs]
    exact Blk.row hg _
end
end Go.Proofs.Ytmkeljcjhcaigaa
