/- event.Of: an event of an act and its outcome. -/
import Derived.Test.YtgohhojoahlfiaaEvO
import Derived.Test.YtgohhojoahlfiaaCrcA
import Derived.Test.YtgohhojoahlfiaaCl
namespace Go.Proofs.Ytgohhojoahlfiaa
open Go.RowKit
set_option linter.unusedVariables false
set_option linter.unusedSimpArgs false

/-! A struct built of parts that are not spelt out. -/
theorem fold_setL : ∀ (vs : List Value) (off k : Nat) (cs : Array Value), (vs.zipIdx k).foldl (fun (cs : Array Value) (x : Value × Nat) => cs.setIfInBounds (off + x.2) x.1) cs = setL cs (off + k) vs
  | [], _, _, _ => rfl
  | v :: r, off, k, cs => by
    rw [List.zipIdx_cons, List.foldl_cons, setL, fold_setL r off (k + 1)]
    rfl
theorem fold_setA (vs : List Value) (off : Nat) (cs : Array Value) : vs.toArray.zipIdx.foldl (fun (cs : Array Value) (x : Value × Nat) => cs.setIfInBounds (off + x.2) x.1) cs = setL cs off vs := by
  have := fold_setL vs off 0 cs
  simpa using this
theorem fill_agg (place : Nat → Option (Nat × Nat)) (cells : Array Value) (i off : Nat) (xs : List Value) (rest : List (Nat × Value)) (hp : place i = some (off, xs.length)) (hb : off + xs.length ≤ cells.size) :
    Instr.fill place cells ((i, .agg xs.toArray) :: rest) = Instr.fill place (setL cells off xs) rest := by
  have hc : (Value.agg xs.toArray).cells = xs.toArray := rfl
  have e := fold_setA xs off cells
  rw [Instr.fill, hp]
  simp only [hc, List.size_toArray, ne_eq, not_true_eq_false, decide_false, Bool.false_or, decide_eq_true_eq, Nat.not_lt.2 hb, gt_iff_lt, if_false, Bool.false_eq_true]
  rw [← e]
section
variable {P : Program}
theorem gateD (ty : TypeId) {ps : Array (Nat × Operand)} {d : Option Tmp} {t : TypeId} {p : String} {af : Array Edge} {gd : Option (Nat × Bool)} {ops : Array Oper} {rest : List Oper} {a : Act} {w : World} {Q : Exit → Act → World → Prop} (k : wpList P ops Q (⟨d, .build ty ps, t, p, af, gd⟩ :: rest) a w) : wpList P ops Q (⟨d, .build ty ps, t, p, af, gd⟩ :: rest) a w := k
theorem wpList_build_c {ops : Array Oper} {rest : List Oper} {op : Oper} {a : Act} {w : World} {Q : Exit → Act → World → Prop} (hw : Region.wanted op (yielded ops a.tmps) = true) (ty : TypeId) (ps : Array (Nat × Operand)) (ho : op.op = .build ty ps)
    (cells : Array Value) (hc : P.built ty (ps.map fun (i, x) => (i, a.eval x)).toList = some cells)
    (h : wpList P ops Q rest (a.put op.dst (.agg cells)) w) : wpList P ops Q (op :: rest) a w :=
  wpList_step fun K hK => by
    rw [if_pos hw]
    unfold Oper.wp execOp
    simp only [ho, Sem.run_bind, run_build w ty _ cells hc, Result.andThen_ok, Sem.run_pure]
    exact hK _ _ h
end
theorem ev0_lit : (evCs none 0 0 none 0 0 ev0).toArray = (#[.int .i64 0, .slice none 0 0, .int .i64 0, .string ⟨#[]⟩, .bool false, .int .u8 0, .int .u8 0, .int .u8 0, .int .u8 0, .int .u8 0, .int .u8 0, .int .u8 0, .int .u8 0, .int .u8 0, .int .u8 0, .int .u8 0, .int .u8 0, .int .u8 0, .int .u8 0, .int .u8 0, .int .u8 0, .int .i64 0, .int .u8 0, .int .u8 0, .int .u8 0, .int .u8 0, .int .u8 0, .int .u8 0, .float .f64 0, .bool false, .string ⟨#[]⟩, .float .f64 0, .string ⟨#[]⟩, .bool false, .int .i64 0, .int .i64 0, .bool false, .int .i64 0, .string ⟨#[]⟩, .slice none 0 0, .int .i64 0, .int .u32 0] : Array Value) := rfl
theorem ev_built_fill (parts : List (Nat × Value)) : Try.prog.built 39 parts = Instr.fill (fun i => (#[(0, 34), (34, 6), (40, 1), (41, 1)] : Array (Nat × Nat))[i]?) (evCs none 0 0 none 0 0 ev0).toArray parts := by kernel_rfl
theorem ev_under : Try.prog.underlying 39 = some (.struct (Try.prog.fieldsOf 39)) := by kernel_rfl

/-- What Of gives. -/
def evOf0 (a : ActP) (o : OutP) (ol : Nat) : EvP := { act := a, o := o, len := (ol : Int), sum := 0 }
def evOf (a : ActP) (o : OutP) : EvP := { act := a, o := { o with out := [] }, len := o.out.length, sum := if 0 < o.out.length then ofS o.out else 0 }
theorem ev_built (A : Option Addr) (n c : Nat) (A2 : Option Addr) (ol c2 : Nat) (a : ActP) (o : OutP) (ha : ActShape a) :
    Try.prog.built 39 [(0, .agg (actCs A n c a).toArray), (1, .agg (outCs A2 ol c2 o).toArray), (2, .int .i64 (ol : Int))] = some (evCs A n c A2 ol c2 (evOf0 a o ol)).toArray := by
  have h1 := act_len (A := A) (n := n) (c := c) ha
  have h2 : (outCs A2 ol c2 o).length = 6 := rfl
  have h0 : (evCs none 0 0 none 0 0 ev0).length = 42 := rfl
  rw [ev_built_fill, fill_agg _ _ _ 0 _ _ (by rw [h1]; rfl) (by rw [h1, List.size_toArray, h0]; decide)]
  rw [setL_list _ _ _ (by rw [h1, h0]; decide), h1]
  rw [fill_agg _ _ _ 34 _ _ rfl (by simp only [List.size_toArray, List.length_append, h1, h2]; decide)]
  rw [setL_list _ _ _ (by simp only [List.length_append, h1, h2]; decide), h2]
  have e1 : (List.take 0 (evCs none 0 0 none 0 0 ev0) ++ (actCs A n c a ++ List.drop (0 + 34) (evCs none 0 0 none 0 0 ev0))) = actCs A n c a ++ [.int .i64 0, .int .i64 0, .bool false, .int .i64 0, .string ⟨#[]⟩, .slice none 0 0, .int .i64 0, .int .u32 0] := rfl
  rw [e1, List.take_left' h1, show 34 + 6 = 34 + 6 from rfl, ← List.drop_drop, List.drop_left' h1]
  have e2 : ∀ (cs : Array Value), cs.size = 42 → Instr.fill (fun i => (#[(0, 34), (34, 6), (40, 1), (41, 1)] : Array (Nat × Nat))[i]?) cs [(2, .int .i64 (ol : Int))] = some (setL cs 40 [.int .i64 (ol : Int)]) := by
    intro cs hcs
    simp [Instr.fill, hcs, Value.cells, setL]
  rw [e2 _ (by simp only [List.size_toArray, List.length_append, h1, h2]; rfl)]
  have hX : (actCs A n c a ++ outCs A2 ol c2 o).length = 40 := by rw [List.length_append, h1, h2]
  rw [← List.append_assoc, setL_list _ _ _ (by rw [List.length_append, hX]; simp), List.take_left' hX, ← List.drop_drop, List.drop_left' hX]
  simp [evCs, evOf0, zv]
section
variable {A A' A2 A2' : Option Addr} {n n' c c' n2 n2' c2 c2' : Nat} {e : EvP} {w : World} {g : Nat} {t : TypeId}
theorem eset_frame : (evCs A n c A2 n2 c2 e).toArray.setIfInBounds 1 (.slice A' n' c') = (evCs A' n' c' A2 n2 c2 e).toArray := by
  rw [List.setIfInBounds_toArray]; rfl
theorem eset_34 (h : EvShape e) (i : Nat) (v : Value) : (evCs A n c A2 n2 c2 e).toArray.setIfInBounds (34 + i) v = (actCs A n c e.act ++ [zv e.o.err, zv e.o.reason, .bool e.o.hit, zv e.o.version, sv e.o.name, .slice A2 n2 c2, zv e.len, .int .u32 (e.sum : Int)].set i v).toArray := by
  have h1 := act_len (A := A) (n := n) (c := c) h.act
  rw [List.setIfInBounds_toArray, evCs, List.set_append_right _ _ (by omega), h1, Nat.add_sub_cancel_left]
  rfl
theorem eset_out (h : EvShape e) : (evCs A n c A2 n2 c2 e).toArray.setIfInBounds 39 (.slice A' n' c') = (evCs A n c A' n' c' e).toArray := eset_34 h 5 _
theorem eset_sum (h : EvShape e) (x : Nat) : (evCs A n c A2 n2 c2 e).toArray.setIfInBounds 41 (.int .u32 (x : Int)) = (evCs A n c A2 n2 c2 { e with sum := x }).toArray := eset_34 h 7 _
theorem ce_frame (hb : Blk w g t (evCs A n c A2 n2 c2 e).toArray) : w.cell? ⟨g, 1, none⟩ = some (.slice A n c) := hb.cell 1
theorem ce_outs (hb : Blk w g t (evCs A n c A2 n2 c2 e).toArray) (h : EvShape e) : w.cell? ⟨g, 39, none⟩ = some (.slice A2 n2 c2) := ce_34 hb h 5
end

/-- The boxes of Of. -/
structure FSt (w wr : World) (A : Option Addr) (fl c : Nat) (A2 : Option Addr) (ol c2 : Nat) (a : ActP) (o : OutP) (B1 : Option Addr) (n1 c1 : Nat) (B2 : Option Addr) (n2 k2 : Nat) (b : EvP) : Prop where
  src : Blk wr w.heap.size 33 (actCs A fl c a).toArray
  out : Blk wr (w.heap.size + 1) 36 (outCs A2 ol c2 o).toArray
  res : Blk wr (w.heap.size + 2) 39 (evCs none 0 0 none 0 0 ev0).toArray
  box : Blk wr (w.heap.size + 3) 39 (evCs B1 n1 c1 B2 n2 k2 b).toArray
  bel : Below w.heap.size w wr
  shape : EvShape b
section
variable {w wr w' : World} {A A2 B1 B2 B1' B2' : Option Addr} {fl c ol c2 n1 c1 n2 k2 n1' c1' n2' k2' : Nat} {a : ActP} {o : OutP} {b b' : EvP}
theorem FSt.below (h : FSt w wr A fl c A2 ol c2 a o B1 n1 c1 B2 n2 k2 b) (hb : Below wr.heap.size wr w') : FSt w w' A fl c A2 ol c2 a o B1 n1 c1 B2 n2 k2 b :=
  ⟨Blk.below h.src hb h.src.lt, Blk.below h.out hb h.out.lt, Blk.below h.res hb h.res.lt, Blk.below h.box hb h.box.lt, h.bel.trans (hb.mono h.bel.size), h.shape⟩
theorem FSt.set_ (h : FSt w wr A fl c A2 ol c2 a o B1 n1 c1 B2 n2 k2 b) (k : Nat) (u : Value) (e : (evCs B1 n1 c1 B2 n2 k2 b).toArray.setIfInBounds k u = (evCs B1' n1' c1' B2' n2' k2' b').toArray) (hs : EvShape b') : FSt w (wr.setCell ⟨w.heap.size + 3, k, none⟩ u) A fl c A2 ol c2 a o B1' n1' c1' B2' n2' k2' b' := by
  have hg : wr.grownBy (wr.setCell ⟨w.heap.size + 3, k, none⟩ u) (some (w.heap.size + 3)) := grownSet _ ⟨w.heap.size + 3, k, none⟩ u
  refine ⟨Blk.grown h.src hg (fun e => by injection e with e; omega), Blk.grown h.out hg (fun e => by injection e with e; omega), Blk.grown h.res hg (fun e => by injection e with e; omega), ?_, h.bel.grown hg h.bel.size (fun k hk => by injection hk with hk; omega), hs⟩
  have := Blk.set_ h.box k u
  rw [e] at this
  exact this
theorem FSt.goodBlk (h : FSt w wr A fl c A2 ol c2 a o B1 n1 c1 B2 n2 k2 b) : Blk (wr.setCells (w.heap.size + 2) 0 (evCs B1 n1 c1 B2 n2 k2 b)) (w.heap.size + 2) 39 (evCs B1 n1 c1 B2 n2 k2 b).toArray := by
  have := Blk.setCells (evCs B1 n1 c1 B2 n2 k2 b) 0 h.res
  rw [setL_whole (by rw [ev_len h.shape, ev_len ev0_shape])] at this
  exact this
theorem FSt.goodOwn (h : FSt w wr A fl c A2 ol c2 a o B1 n1 c1 B2 n2 k2 b) {m cc : Nat} {D : Option Addr} {l : List Value} (ho : wr.ownsRow w.heap.size 5 1 (.slice D m cc) m l) : (wr.setCells (w.heap.size + 2) 0 (evCs B1 n1 c1 B2 n2 k2 b)).ownsRow w.heap.size 5 1 (.slice D m cc) m l :=
  ho.kept (grownCells _ (w.heap.size + 2) 0 _ 0 (World.grownBy.refl _ _)) (own_blk_ne ho h.res (by decide))
theorem FSt.setOwn (h : FSt w wr A fl c A2 ol c2 a o B1 n1 c1 B2 n2 k2 b) (k : Nat) (u : Value) {m cc : Nat} {D : Option Addr} {l : List Value} (ho : wr.ownsRow w.heap.size 5 1 (.slice D m cc) m l) : (wr.setCell ⟨w.heap.size + 3, k, none⟩ u).ownsRow w.heap.size 5 1 (.slice D m cc) m l :=
  ho.kept (grownSet _ ⟨w.heap.size + 3, k, none⟩ u) (own_blk_ne ho h.box (by decide))
end
/-- What Of answers. -/
def EOfIs (w : World) (a : ActP) (o : OutP) (fl : Nat) (e : Ending) (w' : World) : Prop :=
  ∃ A' c', e = .returned (.agg (evCs A' fl c' none 0 0 (evOf a o)).toArray) ∧ w'.ownsRow w.heap.size 5 1 (.slice A' fl c') fl (bcells a.frame) ∧ Below w.heap.size w w'

set_option maxHeartbeats 4000000 in
set_option maxRecDepth 100000 in
theorem eof_any (A : Option Addr) (fl c : Nat) (A2 : Option Addr) (ol c2 : Nat) (a : ActP) (o : OutP) (hsa0 : ActShape a) (w : World) (hfl0 : fl = a.frame.length) (hol0 : ol = o.out.length)
    (hf0 : BS w w.heap.size A a.frame) (ho0 : BS w w.heap.size A2 o.out) (hlf0 : fl ≤ 1000000000) (hlo0 : ol ≤ 1000000000) :
    Calls Try.prog 18 #[.agg (actCs A fl c a).toArray, .agg (outCs A2 ol c2 o).toArray] w (EOfIs w a o fl) := by
  have Hsa := Lib.hid hsa0
  have Hfl := Lib.hid hfl0
  have Hol := Lib.hid hol0
  have HFw := Lib.hid hf0
  have HOw := Lib.hid ho0
  have Hlf := Lib.hid hlf0
  have Hlo := Lib.hid hlo0
  clear hsa0 hfl0 hol0 hf0 ho0 hlf0 hlo0
  have hS1 : EvShape (evOf0 a o ol) := ⟨Hsa.out, by show (0 : Nat) < _; decide⟩
  obtain ⟨W0, hW0⟩ : ∃ W, W = w.alloc (.cells (actCs A fl c a).toArray 33) := ⟨_, rfl⟩
  obtain ⟨W1, hW1⟩ : ∃ W, W = W0.alloc (.cells (outCs A2 ol c2 o).toArray 36) := ⟨_, rfl⟩
  obtain ⟨W2, hW2⟩ : ∃ W, W = W1.alloc (.cells (evCs none 0 0 none 0 0 ev0).toArray 39) := ⟨_, rfl⟩
  obtain ⟨W3, hW3⟩ : ∃ W, W = W2.alloc (.cells (evCs none 0 0 none 0 0 ev0).toArray 39) := ⟨_, rfl⟩
  obtain ⟨W4, hW4⟩ : ∃ W, W = W3.setCells W2.heap.size 0 (evCs A fl c A2 ol c2 (evOf0 a o ol)) := ⟨_, rfl⟩
  have hs0 : W0.heap.size = w.heap.size + 1 := by rw [hW0]; simp
  have hs1 : W1.heap.size = w.heap.size + 2 := by rw [hW1]; simp [hs0]
  have hs2 : W2.heap.size = w.heap.size + 3 := by rw [hW2]; simp [hs1]
  have hX0 : Blk W0 w.heap.size 33 (actCs A fl c a).toArray := by rw [hW0]; exact Blk.new w _ _ _ rfl
  have hX2 : Blk W2 w.heap.size 33 (actCs A fl c a).toArray := by rw [hW2, hW1]; exact Blk.alloc (Blk.alloc hX0 _) _
  have hY1 : Blk W1 (w.heap.size + 1) 36 (outCs A2 ol c2 o).toArray := by rw [hW1, ← hs0]; exact Blk.new W0 _ _ _ rfl
  have hY2 : Blk W2 (w.heap.size + 1) 36 (outCs A2 ol c2 o).toArray := by rw [hW2]; exact Blk.alloc hY1 _
  have hR2 : Blk W2 (w.heap.size + 2) 39 (evCs none 0 0 none 0 0 ev0).toArray := by rw [hW2, ← hs1]; exact Blk.new W1 _ _ _ rfl
  have hB2 : Below w.heap.size w W2 := by rw [hW2, hW1, hW0]; exact (((Below.refl _ _).alloc (Nat.le_refl _) _).alloc (by simp) _).alloc (by simp; omega) _
  obtain ⟨hth, hbx, hbe⟩ := boxed W2 W3 W4 39 (evCs none 0 0 none 0 0 ev0) (evCs A fl c A2 ol c2 (evOf0 a o ol)) (by rw [ev_len hS1, ev_len ev0_shape]) hW3 hW4
  have h4 : FSt w W4 A fl c A2 ol c2 a o A fl c A2 ol c2 (evOf0 a o ol) := ⟨Blk.below hX2 hbe hX2.lt, Blk.below hY2 hbe hY2.lt, Blk.below hR2 hbe hR2.lt, by rw [← hs2]; exact hbx, hB2.trans (hbe.mono hB2.size), hS1⟩
  have d5 := co_out hY2
  have RS := Lib.hid (blk_range hX2)
  have RO := Lib.hid (blk_range hY2)
  have H4 := Lib.hid h4
  have HW0 := Lib.hid hW0
  have HW1 := Lib.hid hW1
  rw [ev0_lit] at hW2 hW3
  have HW2 := Lib.hid hW2
  have HW3 := Lib.hid hW3
  have HW4 := Lib.hid hW4
  have Hs2 := Lib.hid hs2
  have Hth := Lib.hid hth
  have Hbuilt := Lib.hid (ev_built A fl c A2 ol c2 a o Hsa.out)
  have Hsz : Hid ((Try.prog.info? 39).map (·.size) = some (evCs A fl c A2 ol c2 (evOf0 a o ol)).toArray.size) := ev_sz hS1
  clear hW0 hW1 hW2 hW3 hW4 hs0 hs1 hs2 hS1 hX0 hX2 hY1 hY2 hR2 hB2 hth hbx hbe h4
  go_enter Try.func18, Try.ntmps18
  go_upto_region 1 with fail
  rw [← HW0.out]
  rw [← HW1.out]
  rw [← HW2.out]
  go_upto_region 2 with (first
    | ((with_reducible refine gateL 33 ?_); refine wpList_load_g (by rfl) 33 (.tmp 2) rfl w.heap.size 0 rfl (actCs A fl c a) _ RS.out Try.underlying33 rfl (act_sz Hsa.out) ?_)
    | ((with_reducible refine gateL 36 ?_); refine wpList_load_g (by rfl) 36 (.tmp 3) rfl (w.heap.size + 1) 0 rfl (outCs A2 ol c2 o) _ RO.out Try.underlying36 rfl out_sz ?_)
    | ((with_reducible refine gateD 39 ?_); refine wpList_build_c (by rfl) 39 _ rfl (evCs A fl c A2 ol c2 (evOf0 a o ol)).toArray (by simp only [List.map_toArray, List.map_cons, List.map_nil]; exact Hbuilt.out) ?_)
    | (rw [← HW3.out]; (with_reducible refine gateS 39 ?_); refine wpList_store_mid rfl 39 (.tmp 5) (.tmp 11) rfl W2.heap.size 0 (evCs A fl c A2 ol c2 (evOf0 a o ol)).toArray rfl rfl Hth.out Hsz.out (ev_one _ _ _ _ _ _ _) ?_))
  rw [← HW4.out]
  rw [Hs2.out]
  clear HW0 HW1 HW2 HW3 HW4 Hth Hsz Hs2 d5 RS RO Hbuilt
  have d1 := ca_frame H4.out.src
  go_wp2_with fail
  refine (clone_own A fl c a.frame W4 Hfl.out ((HFw.out.below H4.out.bel).more H4.out.bel.size) (by have := Hlf.out; omega)).mono ?_
  rintro e w5 ⟨A', c', rfl, hown, hb5⟩
  rw [← Hfl.out] at hown ⊢
  have H5 := Lib.hid (H4.out.below hb5)
  have HO5 := Lib.hid (own_base' hown H4.out.bel.size)
  clear d1 hown hb5 H4
  have hsh5 := H5.out.shape
  have h6 := H5.out.set_ 1 (.slice A' fl c') eset_frame hsh5
  have ho6 := H5.out.setOwn 1 (.slice A' fl c') HO5.out
  obtain ⟨W6, hW6⟩ : ∃ W, W = w5.setCell ⟨w.heap.size + 3, 1, none⟩ (.slice A' fl c') := ⟨_, rfl⟩
  rw [← hW6] at h6 ho6
  have dx := ce_frame H5.out.box
  have df := H5.out.box.frozen 1
  have HW6 := Lib.hid hW6
  have H6 := Lib.hid h6
  have HO6 := Lib.hid ho6
  clear hsh5 h6 ho6 hW6
  go_upto_region 3 with fail
  rw [← HW6.out]
  clear dx df HW6 H5 HO5
  have dx := ce_outs H6.out.box H6.out.shape
  have df := H6.out.box.frozen 39
  obtain ⟨ev1, hev1⟩ : ∃ e : EvP, e = evOf0 a { o with out := [] } ol := ⟨_, rfl⟩
  have hS1 : EvShape ev1 := by rw [hev1]; exact ⟨Hsa.out, by show (0 : Nat) < _; decide⟩
  have h7 : FSt w (W6.setCell ⟨w.heap.size + 3, 39, none⟩ (.slice none 0 0)) A fl c A2 ol c2 a o A' fl c' none 0 0 ev1 := H6.out.set_ 39 (.slice none 0 0) (by rw [eset_out H6.out.shape, hev1]; rfl) hS1
  have ho7 := H6.out.setOwn 39 (.slice none 0 0) HO6.out
  obtain ⟨W7, hW7⟩ : ∃ W, W = W6.setCell ⟨w.heap.size + 3, 39, none⟩ (.slice none 0 0) := ⟨_, rfl⟩
  rw [← hW7] at h7 ho7
  have HW7 := Lib.hid hW7
  have H7 := Lib.hid h7
  have HO7 := Lib.hid ho7
  have Hev1 := Lib.hid hev1
  clear hS1 h7 ho7 hW7 hev1
  go_upto_region 4 with fail
  rw [← HW7.out]
  clear dx df HW7 H6 HO6
  have dl : W7.cell? ⟨w.heap.size + 3, 40, none⟩ = some (.int .i64 (ol : Int)) := by rw [ce_len H7.out.box H7.out.shape, Hev1.out]; rfl
  rcases Nat.eq_zero_or_pos ol with h0 | h0
  · subst h0
    have hbo : ev1 = evOf a o := by
      have := Hol.out
      rw [Hev1.out]
      unfold evOf0 evOf
      rw [← this]
      simp
    have RF := Lib.hid (blk_range H7.out.box)
    have Hthr : Hid (W7.there (w.heap.size + 2) 0 (evCs A' fl c' none 0 0 ev1).toArray.size) := H7.out.res.there (by rw [List.size_toArray, List.size_toArray, ev_len H7.out.shape, ev_len ev0_shape]; decide)
    have Hszr : Hid ((Try.prog.info? 39).map (·.size) = some (evCs A' fl c' none 0 0 ev1).toArray.size) := ev_sz H7.out.shape
    have HG := Lib.hid H7.out.goodBlk
    have Hbo := Lib.hid hbo
    clear hbo
    go_wp2_with (first
      | ((with_reducible refine gateL 39 ?_); refine wpList_load_g (by rfl) 39 (.tmp 5) rfl (w.heap.size + 3) 0 rfl (evCs A' fl c' none 0 0 ev1) _ RF.out Try.underlying39 rfl (ev_sz H7.out.shape) ?_)
      | ((with_reducible refine gateS 39 ?_); refine wpList_store_mid rfl 39 (.tmp 4) (.tmp 26) rfl (w.heap.size + 2) 0 (evCs A' fl c' none 0 0 ev1).toArray rfl rfl Hthr.out Hszr.out (ev_one _ _ _ _ _ _ _) ?_))
    refine bodyPost_ret (v := .agg (evCs A' fl c' none 0 0 ev1).toArray) (results_row1 (P := Try.prog) (p := 4) rfl _ _ (w.heap.size + 2) _ _ _ rfl HG.out ev_under rfl Hszr.out) rfl ⟨A', c', by rw [Hbo.out], H7.out.goodOwn HO7.out, below_setCells (by omega) _ _ H7.out.bel⟩
  · have hI : (0 : Int) < (ol : Int) := by omega
    have do5 := co_out H7.out.out
    go_wp2_with fail
    refine (of_eq (x := ofS o.out) A2 ol c2 o.out W7 w.heap.size Hol.out (HOw.out.below H7.out.bel) H7.out.bel.size (by have := Hlo.out; unfold maxLen; omega) rfl).mono ?_
    rintro e w8 ⟨rfl, hb8⟩
    obtain ⟨X, hX⟩ : ∃ X, X = ofS o.out := ⟨_, rfl⟩
    rw [← hX]
    have H8 := Lib.hid (H7.out.below hb8)
    have HO8 := Lib.hid (own_below HO7.out hb8)
    clear dl do5 hb8 H7 HO7
    have hXl : X < 4294967296 := by rw [hX]; exact ofS_lt _
    obtain ⟨ev2, hev2⟩ : ∃ e : EvP, e = { ev1 with sum := X } := ⟨_, rfl⟩
    have hS2 : EvShape ev2 := by rw [hev2]; exact ⟨H8.out.shape.act, hXl⟩
    have hbo : ev2 = evOf a o := by
      have := Hol.out
      rw [hev2, Hev1.out, hX]
      unfold evOf0 evOf
      rw [← this, if_pos h0]
    have h9 : FSt w (w8.setCell ⟨w.heap.size + 3, 41, none⟩ (.int .u32 (X : Int))) A fl c A2 ol c2 a o A' fl c' none 0 0 ev2 := H8.out.set_ 41 (.int .u32 (X : Int)) (by rw [eset_sum H8.out.shape, hev2]) hS2
    have ho9 := H8.out.setOwn 41 (.int .u32 (X : Int)) HO8.out
    obtain ⟨W9, hW9⟩ : ∃ W, W = w8.setCell ⟨w.heap.size + 3, 41, none⟩ (.int .u32 (X : Int)) := ⟨_, rfl⟩
    rw [← hW9] at h9 ho9
    have dx : w8.cell? ⟨w.heap.size + 3, 41, none⟩ = some (.int .u32 0) := by rw [ce_sum H8.out.box H8.out.shape, Hev1.out]; rfl
    have df := H8.out.box.frozen 41
    have HW9 := Lib.hid hW9
    have H9 := Lib.hid h9
    have HO9 := Lib.hid ho9
    have Hbo := Lib.hid hbo
    clear hX hXl hev2 hS2 hbo h9 ho9 hW9
    go_upto_region 6 with fail
    rw [← HW9.out]
    clear dx df HW9 H8 HO8
    have RF := Lib.hid (blk_range H9.out.box)
    have Hthr : Hid (W9.there (w.heap.size + 2) 0 (evCs A' fl c' none 0 0 ev2).toArray.size) := H9.out.res.there (by rw [List.size_toArray, List.size_toArray, ev_len H9.out.shape, ev_len ev0_shape]; decide)
    have Hszr : Hid ((Try.prog.info? 39).map (·.size) = some (evCs A' fl c' none 0 0 ev2).toArray.size) := ev_sz H9.out.shape
    have HG := Lib.hid H9.out.goodBlk
    go_wp2_with (first
      | ((with_reducible refine gateL 39 ?_); refine wpList_load_g (by rfl) 39 (.tmp 5) rfl (w.heap.size + 3) 0 rfl (evCs A' fl c' none 0 0 ev2) _ RF.out Try.underlying39 rfl (ev_sz H9.out.shape) ?_)
      | ((with_reducible refine gateS 39 ?_); refine wpList_store_mid rfl 39 (.tmp 4) (.tmp 26) rfl (w.heap.size + 2) 0 (evCs A' fl c' none 0 0 ev2).toArray rfl rfl Hthr.out Hszr.out (ev_one _ _ _ _ _ _ _) ?_))
    refine bodyPost_ret (v := .agg (evCs A' fl c' none 0 0 ev2).toArray) (results_row1 (P := Try.prog) (p := 4) rfl _ _ (w.heap.size + 2) _ _ _ rfl HG.out ev_under rfl Hszr.out) rfl ⟨A', c', by rw [Hbo.out], H9.out.goodOwn HO9.out, below_setCells (by omega) _ _ H9.out.bel⟩
end Go.Proofs.Ytgohhojoahlfiaa
