/- What the walk of the document's Get of a config knows at a place. -/
import Derived.Test.YtmkeljcjhcaigaaRgN
namespace Go.Proofs.Ytmkeljcjhcaigaa
open Go.RowKit
set_option linter.unusedVariables false

def RGetIs (w : World) (l : List UInt8) (e : Ending) (w' : World) : Prop :=
  Below w.heap.size w w' ∧ (confGetS l = none → e = .returned (.tuple #[confV none 0 0 conf0, .bool false])) ∧
    ∀ f, confGetS l = some f → ∃ A c, e = .returned (.tuple #[confV A f.vips.length c f, .bool true]) ∧ VOwn w' w.heap.size A c f.vips ∧ f.vips.length ≤ c ∧ ConfShape f
/-- The config f in its box, nothing in the result's, the Vips in a row of the call's own. -/
structure RSt (w wr : World) (A : Option Addr) (c : Nat) (f : ConfP) : Prop where
  box : Blk wr (w.heap.size + 1) 29 (confCs A f.vips.length c f).toArray
  res : Blk wr w.heap.size 29 (confCs none 0 0 conf0).toArray
  row : VOwn wr w.heap.size A c f.vips
  bel : Below w.heap.size w wr
  shape : ConfShape f
section
variable {w wr w' : World} {l : List UInt8} {A A' : Option Addr} {c c' : Nat} {f f' : ConfP}
theorem RSt.below (h : RSt w wr A c f) (hb : Below wr.heap.size wr w') : RSt w w' A c f :=
  ⟨Blk.below h.box hb h.box.lt, Blk.below h.res hb h.res.lt, h.row.below hb, h.bel.trans (hb.mono h.bel.size), h.shape⟩
theorem RSt.boxed (h : RSt w wr A c f) (hb : Blk w' (w.heap.size + 1) 29 (confCs A f'.vips.length c f').toArray) (hv : f'.vips = f.vips) (hg : wr.grownBy w' (some (w.heap.size + 1))) (hs : ConfShape f') : RSt w w' A c f' := by
  refine ⟨hb, Blk.grown h.res hg (fun e => by injection e with e; omega), ?_, h.bel.grown hg h.bel.size (fun k hk => by injection hk with hk; omega), hs⟩
  rw [hv]
  exact h.row.grown h.box (by decide) hg
theorem RSt.set_ (h : RSt w wr A c f) (k : Nat) (u : Value) (e : (confCs A f.vips.length c f).toArray.setIfInBounds k u = (confCs A f'.vips.length c f').toArray) (hv : f'.vips = f.vips) (hs : ConfShape f') : RSt w (wr.setCell ⟨w.heap.size + 1, k, none⟩ u) A c f' := by
  refine h.boxed ?_ hv (grownSet _ ⟨w.heap.size + 1, k, none⟩ u) hs
  have := Blk.set_ h.box k u
  rw [e] at this
  exact this
theorem RSt.append {vs : List VipP} {v : VipP} (h : RSt w wr A c { conf0 with vips := vs }) (hown : VOwn w' w.heap.size A' c' (vs ++ [v])) (hg : wr.grownBy w' (Value.slice A vs.length c).ownBlock) :
    RSt w (w'.setCell ⟨w.heap.size + 1, 0, none⟩ (.slice A' (vs.length + 1) c')) A' c' { conf0 with vips := vs ++ [v] } := by
  have hv : ({ conf0 with vips := vs } : ConfP).vips = vs := rfl
  have h1 : Blk w' (w.heap.size + 1) 29 (confCs A vs.length c { conf0 with vips := vs }).toArray ∧ Blk w' w.heap.size 29 (confCs none 0 0 conf0).toArray ∧ Below w.heap.size w w' := by
    rcases h.row.1.2 with ⟨e0, _⟩ | ⟨k, cap, cur, e1, hk, hh, _⟩
    · rw [hv] at e0
      rw [e0] at hg
      have hb : Below wr.heap.size wr w' := ⟨hg.os, hg.tape, hg.output, hg.size, fun j hj => hg.block j hj (by simp [Value.ownBlock])⟩
      exact ⟨Blk.below h.box hb h.box.lt, Blk.below h.res hb h.res.lt, h.bel.trans (hb.mono h.bel.size)⟩
    · rw [hv] at e1
      rw [e1] at hg
      have hgk : wr.grownBy w' (some k) := hg
      have hkb : Blk wr k 33 cur := hh
      exact ⟨Blk.grown h.box hgk (fun e => Blk.ne h.box hkb (by decide) (by injection e)), Blk.grown h.res hgk (fun e => Blk.ne h.res hkb (by decide) (by injection e)), h.bel.grown hgk h.bel.size (fun j hj => by injection hj with hj; omega)⟩
  obtain ⟨hbox, hres, hbel⟩ := h1
  have hgs := grownSet w' ⟨w.heap.size + 1, 0, none⟩ (.slice A' (vs.length + 1) c')
  refine ⟨?_, Blk.grown hres hgs (fun e => by injection e with e; have e1 : w.heap.size = w.heap.size + 1 := e; omega), ?_, hbel.setCell (by simp) _, ⟨hown.2, rfl, rfl, rfl, rfl⟩⟩
  · have := Blk.set_ hbox 0 (.slice A' (vs.length + 1) c')
    rw [set_slice A' (vs.length + 1) c' (vs ++ [v])] at this
    show Blk _ _ _ (confCs A' (vs ++ [v]).length c' _).toArray
    rw [List.length_append]
    exact this
  · exact hown.grown hbox (by decide) hgs
theorem RSt.appBox {vs : List VipP} (h : RSt w wr A c { conf0 with vips := vs }) (hg : wr.grownBy w' (Value.slice A vs.length c).ownBlock) : Blk w' (w.heap.size + 1) 29 (confCs A vs.length c { conf0 with vips := vs }).toArray := by
  have hv : ({ conf0 with vips := vs } : ConfP).vips = vs := rfl
  rcases h.row.1.2 with ⟨e0, _⟩ | ⟨k, cap, cur, e1, hk, hh, _⟩
  · rw [hv] at e0
    rw [e0] at hg
    exact Blk.grown h.box hg (by simp [Value.ownBlock])
  · rw [hv] at e1
    rw [e1] at hg
    have hkb : Blk wr k 33 cur := hh
    exact Blk.grown h.box hg (fun e => Blk.ne h.box hkb (by decide) (by injection e))
/-- A row of another type is written. -/
theorem RSt.kept {k : Nat} {t : TypeId} {cs : Array Value} (h : RSt w wr A c f) (hk : Blk wr k t cs) (h1 : t ≠ 33) (h2 : t ≠ 29) (hwk : w.heap.size ≤ k) (hg : wr.grownBy w' (some k)) : RSt w w' A c f :=
  ⟨Blk.grown h.box hg (fun e => Blk.ne h.box hk (fun e => h2 e.symm) (by injection e)), Blk.grown h.res hg (fun e => Blk.ne h.res hk (fun e => h2 e.symm) (by injection e)), h.row.grown hk h1 hg, h.bel.grown hg h.bel.size (fun j hj => by injection hj with hj; omega), h.shape⟩
theorem RSt.thereR (h : RSt w wr A c f) : wr.there w.heap.size 0 54 := h.res.there (by decide)
theorem RSt.thereF (h : RSt w wr A c f) : wr.there w.heap.size 0 (confCs A f.vips.length c f).toArray.size := by
  have e : (confCs A f.vips.length c f).toArray.size = 54 := by simpa using conf_len (A := A) (n := f.vips.length) (c := c) h.shape
  rw [e]
  exact h.thereR
theorem RSt.badBlk (h : RSt w wr A c f) : Blk (wr.setCells w.heap.size 0 (confCs none 0 0 conf0)) w.heap.size 29 (confCs none 0 0 conf0).toArray := by
  have := Blk.setCells (confCs none 0 0 conf0) 0 h.res
  rw [setL_whole rfl] at this
  exact this
theorem RSt.bad (h : RSt w wr A c f) (hno : confGetS l = none) : RGetIs w l (.returned (.tuple #[.agg (confCs none 0 0 conf0).toArray, .bool false])) (wr.setCells w.heap.size 0 (confCs none 0 0 conf0)) :=
  ⟨below_setCells (Nat.le_refl _) _ _ h.bel, fun _ => rfl, fun f hf => by rw [hno] at hf; cases hf⟩
theorem RSt.goodBlk (h : RSt w wr A c f) : Blk (wr.setCells w.heap.size 0 (confCs A f.vips.length c f)) w.heap.size 29 (confCs A f.vips.length c f).toArray := by
  have := Blk.setCells (confCs A f.vips.length c f) 0 h.res
  rw [setL_whole (by rw [conf_len h.shape, conf_len conf0_shape])] at this
  exact this
theorem RSt.good (h : RSt w wr A c f) (hyes : confGetS l = some f) : RGetIs w l (.returned (.tuple #[.agg (confCs A f.vips.length c f).toArray, .bool true])) (wr.setCells w.heap.size 0 (confCs A f.vips.length c f)) := by
  refine ⟨below_setCells (Nat.le_refl _) _ _ h.bel, (fun e => by rw [hyes] at e; cases e), ?_⟩
  intro f' hf
  rw [hyes] at hf
  injection hf with hf
  subst hf
  exact ⟨A, c, rfl, h.row.grown h.res (by decide) (grownCells _ w.heap.size 0 _ 0 (World.grownBy.refl _ _)), own_le h.row.1, h.shape⟩
end
/-- One byte of the config's stored. -/
theorem set_in {pre post : List Value} {x : List UInt8} {k N : Nat} (hp : pre.length = N) (hk : k < x.length) (u : UInt8) : (pre ++ (bcells x ++ post)).toArray.setIfInBounds (N + k) (.int .u8 (u.toNat : Int)) = (pre ++ (bcells (x.set k u) ++ post)).toArray := by
  rw [List.setIfInBounds_toArray, List.set_append_right _ _ (by omega), hp, Nat.add_sub_cancel_left, List.set_append_left _ _ (by rw [bcells_length]; exact hk), bcells_set]
section
variable {A : Option Addr} {n c : Nat} {f : ConfP}
theorem set_macb (h : ConfShape f) {k : Nat} (hk : k < 6) (u : UInt8) : (confCs A n c f).toArray.setIfInBounds (11 + k) (.int .u8 (u.toNat : Int)) = (confCs A n c { f with mac := f.mac.set k u }).toArray := by
  obtain ⟨pre, post, hb, hp⟩ := conf_to_mac (A := A) (n := n) (c := c) h
  rw [hb (f.mac.set k u), show confCs A n c f = pre ++ (bcells f.mac ++ post) from hb f.mac]
  exact set_in hp (by rw [h.mac]; exact hk) u
theorem set_fourb (h : ConfShape f) {k : Nat} (hk : k < 16) (u : UInt8) : (confCs A n c f).toArray.setIfInBounds (18 + k) (.int .u8 (u.toNat : Int)) = (confCs A n c { f with four := (f.four.1, f.four.2.set k u) }).toArray := by
  obtain ⟨pre, post, hb, hp⟩ := conf_to_four (A := A) (n := n) (c := c) h
  rw [hb (f.four.2.set k u), show confCs A n c f = pre ++ (bcells f.four.2 ++ post) from hb f.four.2]
  exact set_in hp (by have : f.four.2.length = 16 := h.four; omega) u
theorem set_sixb (h : ConfShape f) {k : Nat} (hk : k < 16) (u : UInt8) : (confCs A n c f).toArray.setIfInBounds (35 + k) (.int .u8 (u.toNat : Int)) = (confCs A n c { f with six := (f.six.1, f.six.2.set k u) }).toArray := by
  obtain ⟨pre, post, hb, hp⟩ := conf_to_six (A := A) (n := n) (c := c) h
  rw [hb (f.six.2.set k u), show confCs A n c f = pre ++ (bcells f.six.2 ++ post) from hb f.six.2]
  exact set_in hp (by have : f.six.2.length = 16 := h.six; omega) u
end
theorem pad_setN {x : List UInt8} {k N : Nat} (hk : k < x.length) (h16 : k < N) : (pad (x.take k) N).set k x[k] = pad (x.take (k + 1)) N := by
  have h1 : (x.take k).length = k := by simp; omega
  have h2 : (x.take (k + 1)).length = k + 1 := by simp; omega
  unfold pad
  rw [h1, h2, List.set_append_right _ _ (by omega), h1, Nat.sub_self, show N - k = (N - (k + 1)) + 1 by omega, List.replicate_succ, List.set_cons_zero, List.take_add_one, List.getElem?_eq_getElem hk, List.append_assoc]
  rfl

/-- A row of whole numbers, of the call's own. -/
def nCs (ns : List Nat) : List Value := ns.map fun n : Nat => Value.int .i64 (n : Int)
def IOwn (w : World) (base : Nat) (A : Option Addr) (c : Nat) (ns : List Nat) : Prop := w.ownsRow base 3 1 (.slice A ns.length c) ns.length (nCs ns)
theorem IOwn.lit (w : World) (base : Nat) (hb : base ≤ w.heap.size) : IOwn (w.alloc (.cells #[] 3)) base (some ⟨w.heap.size, 0, none⟩) 0 [] := World.ownsRow_lit w #[] 0 hb (by unfold maxLen; omega) (by simp)
theorem IOwn.below {w w' : World} {base : Nat} {A : Option Addr} {c : Nat} {ns : List Nat} (h : IOwn w base A c ns) (hb : Below w.heap.size w w') : IOwn w' base A c ns := own_below h hb
theorem IOwn.grown {w w' : World} {base g : Nat} {A : Option Addr} {c : Nat} {ns : List Nat} {t : TypeId} {cs : Array Value} (h : IOwn w base A c ns) (hb : Blk w g t cs) (ht : t ≠ 3) (hg : w.grownBy w' (some g)) : IOwn w' base A c ns :=
  World.ownsRow.kept h hg (own_blk_ne h hb ht)
theorem IOwn.at_ {w : World} {base : Nat} {A : Option Addr} {c : Nat} {ns : List Nat} (h : IOwn w base A c ns) (hn : 0 < ns.length) : ∃ g, A = some ⟨g, 0, none⟩ ∧ base ≤ g ∧ ∀ (j n : Nat), ns[j]? = some n → w.cell? ⟨g, j, none⟩ = some (.int .i64 (n : Int)) := by
  obtain ⟨g, cap, hv, h2, h3⟩ := World.ownsRow.form h hn
  injection hv with hA _ hc
  subst hA hc
  refine ⟨g, rfl, h2, fun j n hj => ?_⟩
  have hjl := (List.getElem?_eq_some_iff.1 hj).1
  rw [World.ownsRow.cellAt (g := g) h j (by omega), nCs, List.getElem?_map, hj]
  rfl
theorem int_infoO : (Try.prog.info? 3).map (fun i => (i.zero.map (fun z => z.cells.size), i.size, i.bytes)) = some (some 1, 1, 8) := by kernel_rfl
theorem int_parts : ∃ i z, Try.prog.info? 3 = some i ∧ i.zero = some z ∧ i.size = 1 ∧ i.bytes = 8 ∧ z.cells.size = 1 := by
  have h := int_infoO
  rcases hi : Try.prog.info? 3 with _ | i
  · rw [hi] at h; cases h
  · rw [hi] at h
    simp only [Option.map_some, Option.some.injEq, Prod.mk.injEq] at h
    obtain ⟨h1, h2, h3⟩ := h
    rcases hz : i.zero with _ | z
    · rw [hz] at h1; cases h1
    · rw [hz] at h1
      simp only [Option.map_some, Option.some.injEq] at h1
      exact ⟨i, z, rfl, hz, h2, h3, h1⟩
section
variable {P : Program} {w : World}
theorem wpList_append_int {ops : Array Oper} {rest : List Oper} {o : Oper} {a : Act} {Q : Exit → Act → World → Prop} (hgd : o.guard = none) (s x : Operand) (t : TypeId)
    (ho : o.op = .call { callee := .builtin .append, args := #[s, x], argTypes := #[t, t] })
    (base : Nat) (i : TypeInfo) (z : Value) (ht : P.underlying t = some (.slice 3)) (hi : P.info? 3 = some i) (hz : i.zero = some z)
    (hsize : i.size = 1) (hby : i.bytes = 8) (hzs : z.cells.size = 1)
    (A : Option Addr) (c : Nat) (ns : List Nat) (n : Nat) (hs : a.eval s = .slice A ns.length c) (hown : IOwn w base A c ns)
    (b c1 : Nat) (hx : a.eval x = .slice (some ⟨b, 0, none⟩) 1 c1) (hel : w.cell? ⟨b, 0, none⟩ = some (.int .i64 (n : Int)))
    (hlen : ns.length ≤ 1000) (hbase : base ≤ w.heap.size)
    (h : ∀ A' c' w', IOwn w' base A' c' (ns ++ [n]) → w.grownBy w' (Value.slice A ns.length c).ownBlock → wpList P ops Q rest (a.put o.dst (.slice A' (ns.length + 1) c')) w') :
    wpList P ops Q (o :: rest) a w := by
  refine wpList_append_own_at (P := P) w hgd s x t ho base 3 i z 1 8 ht hi hz hsize hby hzs (by decide) _ ns.length (nCs ns) hs hown ⟨b, 0, none⟩ 1 c1 [.int .i64 (n : Int)] hx rfl (fun j u hj => ?_) ?_ (by unfold maxLen; omega) (by omega) hbase ?_
  · rcases j with _ | j
    · simp only [List.getElem?_cons_zero, Option.some.injEq] at hj
      subst hj
      exact hel
    · simp at hj
  · intro u hu
    simp only [List.mem_singleton] at hu
    subst hu
    rfl
  · intro v' w' h1 h2 _ h4
    obtain ⟨A', c', rfl, _⟩ := own_slice h1
    refine h A' c' w' ?_ h2
    unfold IOwn
    rw [List.length_append, show nCs (ns ++ [n]) = nCs ns ++ [.int .i64 (n : Int)] by simp [nCs]]
    exact h1
end
theorem IOwn.cell {w : World} {base g : Nat} {c : Nat} {ns : List Nat} (h : IOwn w base (some ⟨g, 0, none⟩) c ns) {j n : Nat} (hj : ns[j]? = some n) : w.cell? ⟨g, j, none⟩ = some (.int .i64 (n : Int)) := by
  have hjl := (List.getElem?_eq_some_iff.1 hj).1
  rw [World.ownsRow.cellAt (g := g) h j (by omega), nCs, List.getElem?_map, hj]
  rfl
theorem RSt.keptI {w wr w' : World} {A A1 : Option Addr} {c c1 : Nat} {f : ConfP} {ns : List Nat} (h : RSt w wr A c f) (hI : IOwn wr w.heap.size A1 c1 ns) (hg : wr.grownBy w' (Value.slice A1 ns.length c1).ownBlock) : RSt w w' A c f := by
  rcases hI.2 with ⟨e0, _⟩ | ⟨k, cap, cur, e1, hk, hh, _⟩
  · rw [e0] at hg
    exact h.below ⟨hg.os, hg.tape, hg.output, hg.size, fun j hj => hg.block j hj (by simp [Value.ownBlock])⟩
  · rw [e1] at hg
    exact h.kept (k := k) (cs := cur) hh (by decide) (by decide) hk hg
/-- The config of what was read so far. -/
def RF (vs : List VipP) (n0 n1 : Nat) (idle : List Int) (n7 n8 : Nat) (mac four six : List UInt8) (s : Bool) (k0 k1 k2 : Nat) : ConfP :=
  { vips := vs, size := (n0 : Int), room := (n1 : Int), idle := idle, rise := (n7 : Int), fall := (n8 : Int), mac := mac, four := (false, four), six := (s, six), most := (k0 : Int), keep := (k1 : Int), batch := (k2 : Int) }
theorem RF_zero (vs : List VipP) : ({ conf0 with vips := vs } : ConfP) = RF vs 0 0 (List.replicate 6 0) 0 0 (List.replicate 6 0) (List.replicate 16 0) (List.replicate 16 0) false 0 0 0 := rfl
theorem pad_zero (N : Nat) (q : List UInt8) : pad (q.take 0) N = List.replicate N 0 := by simp [pad]
theorem RF_all (vs : List VipP) (n0 n1 n2 n3 n4 n5 n6 n7 n8 k0 k1 k2 : Nat) (q : List UInt8) (h : 26 ≤ q.length) :
    RF vs n0 n1 [0, (n2 : Int), (n3 : Int), (n4 : Int), (n5 : Int), (n6 : Int)] n7 n8 (pad (q.take 6) 6) (pad ((q.drop 6).take 4) 16) (pad ((q.drop 10).take 16) 16) true k0 k1 k2 = confOf vs [n0, n1, n2, n3, n4, n5, n6, n7, n8] (q.take 6) (pad ((q.drop 6).take 4) 16) ((q.drop 10).take 16) [k0, k1, k2] := by
  rw [pad_full (b := q.take 6) (by rw [List.length_take]; omega), pad_full (b := (q.drop 10).take 16) (by rw [List.length_take, List.length_drop]; omega)]
  rfl
theorem rvip_zero {b : List UInt8} (h : (getAddrS b).2 = 0) : rvipS b = none := by
  unfold rvipS
  rw [h]
theorem rvip_short {b : List UInt8} (h0 : (getAddrS b).2 ≠ 0) (h : b.length < (getAddrS b).2 + 4) : rvipS b = none := by
  obtain ⟨k, hk⟩ := Nat.exists_eq_succ_of_ne_zero h0
  have hl : (b.drop (getAddrS b).2).length < 4 := by rw [List.length_drop]; omega
  unfold rvipS
  rw [hk] at hl ⊢
  match hd : b.drop (k + 1), hl with
  | [], _ => rfl
  | [_], _ => rfl
  | [_, _], _ => rfl
  | [_, _, _], _ => rfl
  | _ :: _ :: _ :: _ :: _, hl => simp at hl; omega
theorem rvip_ok {b r : List UInt8} {x y z t : UInt8} (h0 : (getAddrS b).2 ≠ 0) (hd : b.drop (getAddrS b).2 = x :: y :: z :: t :: r) : rvipS b = some (((getAddrS b).1, (x.toNat : Int), 256 * (y.toNat : Int) + (z.toNat : Int), t != 0), r) := by
  obtain ⟨k, hk⟩ := Nat.exists_eq_succ_of_ne_zero h0
  unfold rvipS
  rw [hd, hk]
theorem len4 {l : List UInt8} (h : 4 ≤ l.length) : ∃ x y z t r, l = x :: y :: z :: t :: r := by
  match l, h with
  | x :: y :: z :: t :: r, _ => exact ⟨x, y, z, t, r, rfl⟩
theorem nlen9 {l : List Nat} (h : l.length = 9) : ∃ a b c d e f g i j, l = [a, b, c, d, e, f, g, i, j] := by
  match l, h with
  | [a, b, c, d, e, f, g, i, j], _ => exact ⟨a, b, c, d, e, f, g, i, j, rfl⟩
theorem nlen3 {l : List Nat} (h : l.length = 3) : ∃ a b c, l = [a, b, c] := by
  match l, h with
  | [a, b, c], _ => exact ⟨a, b, c, rfl⟩
theorem shape_RF {vs : List VipP} {n0 n1 : Nat} {idle : List Int} {n7 n8 : Nat} {mac four six : List UInt8} {s : Bool} {k0 k1 k2 : Nat} (h : ∀ v ∈ vs, addrOk v.1) (hi : idle.length = 6) (hm : mac.length = 6) (h4 : four.length = 16) (h6 : six.length = 16) : ConfShape (RF vs n0 n1 idle n7 n8 mac four six s k0 k1 k2) := ⟨h, hi, hm, h4, h6⟩
theorem u8_bne0 (x : UInt8) : ((x.toNat : Int) != 0) = (x != 0) := by
  by_cases h : x = 0
  · subst h; rfl
  · have hn : x.toNat ≠ 0 := fun e => h (UInt8.toNat_inj.1 (by rw [e]; rfl))
    have h1 : ((x.toNat : Int) != 0) = true := by simp; omega
    have h2 : (x != 0) = true := by simp [h]
    rw [h1, h2]
theorem pad_setx {x : List UInt8} {k N : Nat} {u : UInt8} (hk : x[k]? = some u) (h16 : k < N) : (pad (x.take k) N).set k u = pad (x.take (k + 1)) N := by
  obtain ⟨h, e⟩ := List.getElem?_eq_some_iff.1 hk
  rw [← e]
  exact pad_setN h h16
end Go.Proofs.Ytmkeljcjhcaigaa
