/- event.only: an act of its kind alone (printed by gen_only.py). -/
import Derived.Test.YtgohhojoahlfiaaEvA
namespace Go.Proofs.Ytgohhojoahlfiaa
open Go.RowKit
set_option linter.unusedVariables false
set_option linter.unusedSimpArgs false

theorem act_under : Try.prog.underlying 33 = some (.struct (Try.prog.fieldsOf 33)) := by kernel_rfl
theorem op_size : (Try.prog.info? 31).map (·.size) = some 30 := by kernel_rfl
/-- The cells of an op. -/
def opCs (k : Int) (b : BackP) (n : List UInt8) (u : Nat) : List Value := zv k :: (backCs b ++ [sv n, .float .f64 u])
theorem op_len {k : Int} {b : BackP} {n : List UInt8} {u : Nat} (h : BackShape b) : (opCs k b n u).length = 30 := by
  have := back_len h
  simp [opCs, this]
theorem op_one (k : Int) (b : BackP) (n : List UInt8) (u : Nat) : (opCs k b n u).toArray.all (·.oneCell') = true := all_oneCell_toArray (by
  intro v hv
  simp only [opCs, List.mem_cons, List.mem_append, List.not_mem_nil, or_false] at hv
  rcases hv with rfl | hv | rfl | rfl
  · rfl
  · exact Array.all_eq_true_iff_forall_mem.1 (back_one b) v (by simpa using hv)
  · rfl
  · rfl)
theorem results_row1 {P : Program} {fn : Func} {p : Tmp} {ty : TypeId} (h : fn.results = #[.cell p ty]) (tmps : Array Value) (w : World) (g : Nat) (t : TypeId) (cs : Array Value) (d : TypeDesc)
    (hp : tmps.getD p undef = .pointer (some ⟨g, 0, none⟩)) (hg : Blk w g t cs)
    (hu : P.underlying ty = some d) (hd : (match d with | .struct _ | .array _ _ => true | _ => false) = true) (hi : (P.info? ty).map (·.size) = some cs.size) :
    (results fn tmps).run P w = .ok (.agg cs) w := by
  exact results_cell_row h tmps w g t cs (0, 0) d hp hg hu hd hi
section
variable {A : Option Addr} {n c : Nat} {a : ActP}
theorem aset_frame (A' : Option Addr) (n' c' : Nat) (fr : List UInt8) : (actCs A n c a).toArray.setIfInBounds 1 (.slice A' n' c') = (actCs A' n' c' { a with frame := fr }).toArray := by
  rw [List.setIfInBounds_toArray]; rfl
theorem aset_30 (h : ActShape a) (i : Nat) (v : Value) : (actCs A n c a).toArray.setIfInBounds (30 + i) v = (zv a.kind :: .slice A n c :: zv a.op :: (backCs a.back ++ [sv a.oname, .float .f64 a.owt, sv a.name, .bool a.well].set i v)).toArray := by
  have h1 := back_len h.back
  rw [List.setIfInBounds_toArray, show 30 + i = (27 + i + 2) + 1 by omega]
  simp only [actCs, List.set_cons_succ]
  rw [List.set_append_right _ _ (by omega), h1, Nat.add_sub_cancel_left]
theorem aset_oname (h : ActShape a) (x : List UInt8) : (actCs A n c a).toArray.setIfInBounds 30 (.string ⟨x.toArray⟩) = (actCs A n c { a with oname := x }).toArray := aset_30 h 0 _
theorem aset_owt (h : ActShape a) (x : Nat) : (actCs A n c a).toArray.setIfInBounds 31 (.float .f64 x) = (actCs A n c { a with owt := x }).toArray := aset_30 h 1 _
theorem aset_name (h : ActShape a) (x : List UInt8) : (actCs A n c a).toArray.setIfInBounds 32 (.string ⟨x.toArray⟩) = (actCs A n c { a with name := x }).toArray := aset_30 h 2 _
theorem aset_well (h : ActShape a) (x : Bool) : (actCs A n c a).toArray.setIfInBounds 33 (.bool x) = (actCs A n c { a with well := x }).toArray := aset_30 h 3 _
theorem aset_op (h : ActShape a) (k : Int) (b : BackP) (hb : BackShape b) (x : List UInt8) (u : Nat) : setL (actCs A n c a).toArray 2 (opCs k b x u) = (actCs A n c { a with op := k, back := b, oname := x, owt := u }).toArray := by
  have h1 := back_len h.back; have h2 := op_len (k := k) (n := x) (u := u) hb
  rw [setL_list _ _ _ (by rw [act_len h, h2]; decide)]
  congr 1
  have hd : (actCs A n c a).drop (2 + (opCs k b x u).length) = [sv a.name, .bool a.well] := by
    rw [h2, actCs, show 2 + 30 = 29 + 3 from rfl]
    simp only [List.drop_succ_cons]
    rw [show 29 = 27 + 2 from rfl, ← List.drop_drop, List.drop_left' h1]
    rfl
  rw [hd]
  simp [actCs, opCs]
theorem aset_back (h : ActShape a) (b : BackP) (hb : BackShape b) : setL (actCs A n c a).toArray 3 (backCs b) = (actCs A n c { a with back := b }).toArray := by
  have h1 := back_len h.back; have h2 := back_len hb
  rw [setL_list _ _ _ (by rw [act_len h, h2]; decide)]
  congr 1
  have hd : (actCs A n c a).drop (3 + (backCs b).length) = [sv a.oname, .float .f64 a.owt, sv a.name, .bool a.well] := by
    rw [h2, actCs, show 3 + 27 = 27 + 3 from rfl]
    simp only [List.drop_succ_cons]
    rw [List.drop_left' h1]
  rw [hd]
  simp [actCs]
end
/-- What only answers. -/
def OnlyIs (w : World) (A : Option Addr) (a : ActP) (e : Ending) (w' : World) : Prop :=
  ∃ A' c', e = .returned (.agg (actCs A' (onlyA a).frame.length c' (onlyA a)).toArray) ∧ (∀ (w0 : World) (B : Nat), BS w0 B A a.frame → BS w0 B A' (onlyA a).frame) ∧ Below w.heap.size w w'
/-- The boxes: the act, nothing in the result's, b in the third. -/
structure OSt (w wr : World) (A : Option Addr) (c : Nat) (a : ActP) (A' : Option Addr) (c' : Nat) (b : ActP) : Prop where
  src : Blk wr w.heap.size 33 (actCs A a.frame.length c a).toArray
  res : Blk wr (w.heap.size + 1) 33 (actCs none 0 0 act0).toArray
  box : Blk wr (w.heap.size + 2) 33 (actCs A' b.frame.length c' b).toArray
  bel : Below w.heap.size w wr
  shape : ActShape b
section
variable {w wr w' : World} {A A' A2 : Option Addr} {c c' c2 : Nat} {a b b' : ActP}
theorem OSt.boxed (h : OSt w wr A c a A' c' b) (hb : Blk w' (w.heap.size + 2) 33 (actCs A2 b'.frame.length c2 b').toArray) (hg : wr.grownBy w' (some (w.heap.size + 2))) (hs : ActShape b') : OSt w w' A c a A2 c2 b' :=
  ⟨Blk.grown h.src hg (fun e => by injection e with e; omega), Blk.grown h.res hg (fun e => by injection e with e; omega), hb, h.bel.grown hg h.bel.size (fun k hk => by injection hk with hk; omega), hs⟩
theorem OSt.set_ (h : OSt w wr A c a A' c' b) (k : Nat) (u : Value) (e : (actCs A' b.frame.length c' b).toArray.setIfInBounds k u = (actCs A2 b'.frame.length c2 b').toArray) (hs : ActShape b') : OSt w (wr.setCell ⟨w.heap.size + 2, k, none⟩ u) A c a A2 c2 b' := by
  refine h.boxed ?_ (grownSet _ ⟨w.heap.size + 2, k, none⟩ u) hs
  have := Blk.set_ h.box k u
  rw [e] at this
  exact this
theorem OSt.sets (h : OSt w wr A c a A' c' b) (k : Nat) (vs : List Value) (e : setL (actCs A' b.frame.length c' b).toArray k vs = (actCs A2 b'.frame.length c2 b').toArray) (hs : ActShape b') : OSt w (wr.setCells (w.heap.size + 2) k vs) A c a A2 c2 b' := by
  refine h.boxed ?_ (grownCells _ (w.heap.size + 2) k vs k (World.grownBy.refl _ _)) hs
  have := Blk.setCells vs k h.box
  rw [e] at this
  exact this
theorem OSt.goodBlk (h : OSt w wr A c a A' c' b) : Blk (wr.setCells (w.heap.size + 1) 0 (actCs A' b.frame.length c' b)) (w.heap.size + 1) 33 (actCs A' b.frame.length c' b).toArray := by
  have := Blk.setCells (actCs A' b.frame.length c' b) 0 h.res
  rw [setL_whole (by rw [act_len h.shape, act_len act0_shape])] at this
  exact this
theorem OSt.good (h : OSt w wr A c a A' c' b) (hb : b = onlyA a) (hB : ∀ (w0 : World) (B : Nat), BS w0 B A a.frame → BS w0 B A' b.frame) : OnlyIs w A a (.returned (.agg (actCs A' b.frame.length c' b).toArray)) (wr.setCells (w.heap.size + 1) 0 (actCs A' b.frame.length c' b)) := by
  subst hb
  exact ⟨A', c', rfl, hB, below_setCells (by omega) _ _ h.bel⟩
end

set_option maxHeartbeats 2000000 in
set_option maxRecDepth 100000 in
theorem only_any (A : Option Addr) (c : Nat) (a : ActP) (ha0 : ActShape a) (w : World) :
    Calls Try.prog 36 #[.agg (actCs A a.frame.length c a).toArray] w (OnlyIs w A a) := by
  have ha := Lib.hid ha0
  clear ha0
  obtain ⟨W0, hW0⟩ : ∃ W, W = w.alloc (.cells (actCs A a.frame.length c a).toArray 33) := ⟨_, rfl⟩
  obtain ⟨W1, hW1⟩ : ∃ W, W = W0.alloc (.cells (actCs none 0 0 act0).toArray 33) := ⟨_, rfl⟩
  obtain ⟨W2, hW2⟩ : ∃ W, W = W1.alloc (.cells (actCs none 0 0 act0).toArray 33) := ⟨_, rfl⟩
  obtain ⟨a1, ha1⟩ : ∃ b : ActP, b = { act0 with kind := a.kind } := ⟨_, rfl⟩
  obtain ⟨W3, hW3⟩ : ∃ W, W = W2.setCells W1.heap.size 0 (actCs none 0 0 a1) := ⟨_, rfl⟩
  have hs0 : W0.heap.size = w.heap.size + 1 := by rw [hW0]; simp
  have hs1 : W1.heap.size = w.heap.size + 2 := by rw [hW1]; simp [hs0]
  have hS1 : ActShape a1 := by rw [ha1]; exact ⟨back0_shape, by show (0 : Nat) < _; decide⟩
  have hX0 : Blk W0 w.heap.size 33 (actCs A a.frame.length c a).toArray := by rw [hW0]; exact Blk.new w _ _ _ rfl
  have hX1 : Blk W1 w.heap.size 33 (actCs A a.frame.length c a).toArray := by rw [hW1]; exact Blk.alloc hX0 _
  have hR1 : Blk W1 (w.heap.size + 1) 33 (actCs none 0 0 act0).toArray := by rw [hW1, ← hs0]; exact Blk.new W0 _ _ _ rfl
  have hB1 : Below w.heap.size w W1 := by rw [hW1, hW0]; exact ((Below.refl _ _).alloc (Nat.le_refl _) _).alloc (by simp) _
  obtain ⟨hth, hbx, hbe⟩ := boxed W1 W2 W3 33 (actCs none 0 0 act0) (actCs none 0 0 a1) (by rw [act_len hS1, act_len act0_shape]) hW2 hW3
  have h3 : OSt w W3 A c a none 0 a1 := ⟨Blk.below hX1 hbe hX1.lt, Blk.below hR1 hbe hR1.lt, by rw [← hs1, show a1.frame.length = 0 by rw [ha1]; rfl]; exact hbx, hB1.trans (hbe.mono hB1.size), hS1⟩
  have d0 := ca_kind hX1
  have H3 := Lib.hid h3
  have Ha1 := Lib.hid ha1
  have HW0 := Lib.hid hW0
  rw [act0_lit] at hW1 hW2
  have HW1 := Lib.hid hW1
  have HW2 := Lib.hid hW2
  have HW3 := Lib.hid hW3
  have Hs1 := Lib.hid hs1
  have Hth := Lib.hid hth
  have Hlit : Hid ((actCs none 0 0 a1).toArray = #[.int .i64 a.kind, .slice none 0 0, .int .i64 0, .string ⟨#[]⟩, .bool false, .int .u8 0, .int .u8 0, .int .u8 0, .int .u8 0, .int .u8 0, .int .u8 0, .int .u8 0, .int .u8 0, .int .u8 0, .int .u8 0, .int .u8 0, .int .u8 0, .int .u8 0, .int .u8 0, .int .u8 0, .int .u8 0, .int .i64 0, .int .u8 0, .int .u8 0, .int .u8 0, .int .u8 0, .int .u8 0, .int .u8 0, .float .f64 0, .bool false, .string ⟨#[]⟩, .float .f64 0, .string ⟨#[]⟩, .bool false]) := by show _ = _; rw [ha1]; rfl
  have Hsz : Hid ((Try.prog.info? 33).map (·.size) = some (actCs none 0 0 a1).toArray.size) := act_sz hS1
  clear hW0 hW1 hW2 hW3 ha1 hs0 hs1 hS1 hX0 hX1 hR1 hB1 hth hbx hbe h3
  go_enter Try.func36, Try.ntmps36
  go_upto_region 1 with fail
  rw [← HW0.out]
  rw [← HW1.out]
  go_upto_region 2 with (first
    | (rw [← HW2.out]; (with_reducible refine gateS 33 ?_); rw [← Hlit.out]; refine wpList_store_mid rfl 33 (.tmp 3) (.tmp 6) rfl W1.heap.size 0 (actCs none 0 0 a1).toArray rfl rfl Hth.out Hsz.out (act_one _ _ _ _) ?_))
  rw [← HW3.out]
  rw [Hs1.out]
  clear HW0 HW1 HW2 HW3 Hth Hlit Hsz Hs1 d0
  have d0 := ca_kind H3.out.src
  rcases k1 : (a.kind == 1) with _ | _
  rotate_left
  · have hk : a.kind = 1 := by simpa using k1
    obtain ⟨b, hb⟩ : ∃ b : ActP, b = { act0 with kind := a.kind, frame := a.frame } := ⟨_, rfl⟩
    have hbo : b = onlyA a := by rw [hb]; unfold onlyA; rw [if_pos hk]
    have hbf : b.frame = a.frame := by rw [hb]
    have hS : ActShape b := by rw [hb]; exact ⟨back0_shape, by show (0 : Nat) < _; decide⟩
    have d1 := ca_frame H3.out.src
    have dx := ca_frame H3.out.box
    have df := H3.out.box.frozen 1
    have h4 : OSt w (W3.setCell ⟨w.heap.size + 2, 1, none⟩ (.slice A a.frame.length c)) A c a A c b := H3.out.set_ 1 (.slice A a.frame.length c) (by rw [hbf, aset_frame A a.frame.length c a.frame, Ha1.out, hb]) hS
    obtain ⟨W4, hW4⟩ : ∃ W, W = W3.setCell ⟨w.heap.size + 2, 1, none⟩ (.slice A a.frame.length c) := ⟨_, rfl⟩
    rw [← hW4] at h4
    have H4 := Lib.hid h4
    have HW4 := Lib.hid hW4
    have Hbo := Lib.hid hbo
    have Hbf := Lib.hid hbf
    clear hk hb hbo hbf hS h4 hW4
    go_upto_region 15 with fail
    rw [← HW4.out]
    clear HW4 d0 d1 dx df
    have RF := Lib.hid (blk_range H4.out.box)
    have Hthr : Hid (W4.there (w.heap.size + 1) 0 (actCs A b.frame.length c b).toArray.size) := H4.out.res.there (by rw [List.size_toArray, List.size_toArray, act_len H4.out.shape, act_len act0_shape]; decide)
    have Hszr : Hid ((Try.prog.info? 33).map (·.size) = some (actCs A b.frame.length c b).toArray.size) := act_sz H4.out.shape
    have HG := Lib.hid H4.out.goodBlk
    have Hpost := Lib.hid (H4.out.good Hbo.out (fun w0 B h => by rw [Hbf.out]; exact h))
    go_wp2_with (first
      | ((with_reducible refine gateL 33 ?_); refine wpList_load_g (by rfl) 33 (.tmp 3) rfl (w.heap.size + 2) 0 rfl (actCs A b.frame.length c b) _ RF.out Try.underlying33 rfl (act_sz H4.out.shape) ?_)
      | ((with_reducible refine gateS 33 ?_); refine wpList_store_mid rfl 33 (.tmp 2) (.tmp 51) rfl (w.heap.size + 1) 0 (actCs A b.frame.length c b).toArray rfl rfl Hthr.out Hszr.out (act_one _ _ _ _) ?_))
    refine bodyPost_ret (v := .agg (actCs A b.frame.length c b).toArray) (results_row1 (P := Try.prog) (p := 2) rfl _ _ (w.heap.size + 1) _ _ _ rfl HG.out act_under rfl Hszr.out) rfl Hpost.out
  rcases k2 : (a.kind == 2) with _ | _
  rotate_left
  · have hk : a.kind = 2 := by simpa using k2
    have Hk := Lib.hid hk
    clear hk
    have d2 := ca_op H3.out.src
    obtain ⟨b, hb⟩ : ∃ b : ActP, b = { act0 with kind := a.kind, op := a.op } := ⟨_, rfl⟩
    have hS : ActShape b := by rw [hb]; exact ⟨back0_shape, by show (0 : Nat) < _; decide⟩
    obtain ⟨W4, hW4⟩ : ∃ W, W = W3.setCells (w.heap.size + 2) 2 (opCs a.op back0 [] 0) := ⟨_, rfl⟩
    have hth : W3.there (w.heap.size + 2) 2 (opCs a.op back0 [] 0).toArray.size := H3.out.box.there (by rw [List.size_toArray, List.size_toArray, op_len back0_shape, act_len H3.out.shape]; decide)
    have h4 : OSt w W4 A c a none 0 b := by
      rw [hW4]
      refine H3.out.sets 2 _ ?_ hS
      rw [aset_op H3.out.shape a.op back0 back0_shape [] 0, Ha1.out, hb]
      rfl
    have H4 := Lib.hid h4
    have HW4 := Lib.hid hW4
    have Hb := Lib.hid hb
    have Hth := Lib.hid hth
    clear hS h4 hW4 hth hb
    go_upto_region 7 with (first
      | ((with_reducible refine gateS 31 ?_); refine wpList_store_mid rfl 31 (.tmp 20) (.tmp 19) rfl (w.heap.size + 2) 2 (opCs a.op back0 [] 0).toArray rfl rfl Hth.out (op_size.trans (by rw [List.size_toArray, op_len back0_shape])) (op_one _ _ _ _) ?_))
    rw [← HW4.out]
    clear HW4 Hth d0 d2
    have d2 := ca_op H4.out.src
    rcases k3 : (a.op == 1) with _ | _
    rotate_left
    · obtain ⟨b2, hb2⟩ : ∃ b : ActP, b = { act0 with kind := a.kind, op := a.op, back := a.back } := ⟨_, rfl⟩
      have hS2 : ActShape b2 := by rw [hb2]; exact ⟨ha.out.back, by show (0 : Nat) < _; decide⟩
      have hbo : b2 = onlyA a := by
        rw [hb2]
        unfold onlyA
        rw [if_neg (by have := Hk.out; omega), if_pos Hk.out, if_pos (by simpa using k3)]
      obtain ⟨W5, hW5⟩ : ∃ W, W = W4.setCells (w.heap.size + 2) 3 (backCs a.back) := ⟨_, rfl⟩
      have hth : W4.there (w.heap.size + 2) 3 (backCs a.back).toArray.size := H4.out.box.there (by rw [List.size_toArray, List.size_toArray, back_len ha.out.back, act_len H4.out.shape]; decide)
      have h5 : OSt w W5 A c a none 0 b2 := by
        rw [hW5]
        refine H4.out.sets 3 _ ?_ hS2
        rw [aset_back H4.out.shape a.back ha.out.back, Hb.out, hb2]
      have hbf : b2.frame = [] := by rw [hb2]; rfl
      have H5 := Lib.hid h5
      have HW5 := Lib.hid hW5
      have Hth := Lib.hid hth
      have Hbo := Lib.hid hbo
      have Hbf := Lib.hid hbf
      have RB := Lib.hid (ca_back H4.out.src ha.out)
      clear hS2 h5 hW5 hth hb2 hbo hbf
      go_upto_region 15 with (first
        | ((with_reducible refine gateL 29 ?_); refine wpList_load_g (by rfl) 29 (.tmp 29) rfl w.heap.size 3 rfl (backCs a.back) _ RB.out Try.underlying29 rfl (back_sz ha.out.back) ?_)
        | ((with_reducible refine gateS 29 ?_); refine wpList_store_mid rfl 29 (.tmp 32) (.tmp 30) rfl (w.heap.size + 2) 3 (backCs a.back).toArray rfl rfl Hth.out (back_sz ha.out.back) (back_one _) ?_))
      rw [← HW5.out]
      clear HW5 Hth RB d2
      have RF := Lib.hid (blk_range H5.out.box)
      have Hthr : Hid (W5.there (w.heap.size + 1) 0 (actCs none b2.frame.length 0 b2).toArray.size) := H5.out.res.there (by rw [List.size_toArray, List.size_toArray, act_len H5.out.shape, act_len act0_shape]; decide)
      have Hszr : Hid ((Try.prog.info? 33).map (·.size) = some (actCs none b2.frame.length 0 b2).toArray.size) := act_sz H5.out.shape
      have HG := Lib.hid H5.out.goodBlk
      have Hpost := Lib.hid (H5.out.good Hbo.out (fun w0 B h => by rw [Hbf.out]; exact BS.nil _ _ _))
      go_wp2_with (first
        | ((with_reducible refine gateL 33 ?_); refine wpList_load_g (by rfl) 33 (.tmp 3) rfl (w.heap.size + 2) 0 rfl (actCs none b2.frame.length 0 b2) _ RF.out Try.underlying33 rfl (act_sz H5.out.shape) ?_)
        | ((with_reducible refine gateS 33 ?_); refine wpList_store_mid rfl 33 (.tmp 2) (.tmp 51) rfl (w.heap.size + 1) 0 (actCs none b2.frame.length 0 b2).toArray rfl rfl Hthr.out Hszr.out (act_one _ _ _ _) ?_))
      refine bodyPost_ret (v := .agg (actCs none b2.frame.length 0 b2).toArray) (results_row1 (P := Try.prog) (p := 2) rfl _ _ (w.heap.size + 1) _ _ _ rfl HG.out act_under rfl Hszr.out) rfl Hpost.out
    rcases k4 : (a.op == 3) with _ | _
    rotate_left
    · obtain ⟨b2, hb2⟩ : ∃ b : ActP, b = { act0 with kind := a.kind, op := a.op, owt := a.owt } := ⟨_, rfl⟩
      have hSb2 : ActShape b2 := by rw [hb2]; exact ⟨back0_shape, ha.out.owt⟩
      have s31 := ca_owt H4.out.src ha.out
      have dx := ca_owt H4.out.box H4.out.shape
      have df := H4.out.box.frozen 31
      obtain ⟨W5, hW5⟩ : ∃ W, W = W4.setCell ⟨w.heap.size + 2, 31, none⟩ (.float .f64 a.owt) := ⟨_, rfl⟩
      have H50 : OSt w W5 A c a none 0 b2 := by
        rw [hW5]
        refine H4.out.set_ 31 (.float .f64 a.owt) ?_ hSb2
        rw [aset_owt H4.out.shape a.owt, Hb.out, hb2]
      have H5 := Lib.hid H50
      have QW5 := Lib.hid hW5
      have Pb2 := Lib.hid hb2
      have hsf := fun (a : Addr) (m : Mode) (n : Nat) (w : World) => run_store_f64 a n m w
      clear H50 hW5 hb2 hSb2
      go_upto_region 12 with fail
      rw [← QW5.out]
      clear QW5 s31 dx df
      obtain ⟨b3, hb3⟩ : ∃ b : ActP, b = { act0 with kind := a.kind, op := a.op, oname := a.oname, owt := a.owt } := ⟨_, rfl⟩
      have hSb3 : ActShape b3 := by rw [hb3]; exact ⟨back0_shape, ha.out.owt⟩
      have s30 := ca_oname H5.out.src ha.out
      have dx := ca_oname H5.out.box H5.out.shape
      have df := H5.out.box.frozen 30
      obtain ⟨W6, hW6⟩ : ∃ W, W = W5.setCell ⟨w.heap.size + 2, 30, none⟩ (.string ⟨a.oname.toArray⟩) := ⟨_, rfl⟩
      have H60 : OSt w W6 A c a none 0 b3 := by
        rw [hW6]
        refine H5.out.set_ 30 (.string ⟨a.oname.toArray⟩) ?_ hSb3
        rw [aset_oname H5.out.shape a.oname, Pb2.out, hb3]
      have H6 := Lib.hid H60
      have QW6 := Lib.hid hW6
      have Pb3 := Lib.hid hb3
      clear H60 hW6 hb3 hSb3
      go_upto_region 15 with fail
      rw [← QW6.out]
      clear QW6 s30 dx df
      have Hbo : Hid (b3 = onlyA a) := by
        show _ = _
        rw [Pb3.out]
        unfold onlyA
        rw [if_neg (by have := Hk.out; omega), if_pos Hk.out, if_neg (by simpa using k3), if_pos (by simpa using k4)]
      have Hbf : Hid (b3.frame = []) := by show _ = _; rw [Pb3.out]; rfl
      have RF := Lib.hid (blk_range H6.out.box)
      have Hthr : Hid (W6.there (w.heap.size + 1) 0 (actCs none b3.frame.length 0 b3).toArray.size) := H6.out.res.there (by rw [List.size_toArray, List.size_toArray, act_len H6.out.shape, act_len act0_shape]; decide)
      have Hszr : Hid ((Try.prog.info? 33).map (·.size) = some (actCs none b3.frame.length 0 b3).toArray.size) := act_sz H6.out.shape
      have HG := Lib.hid H6.out.goodBlk
      have Hpost := Lib.hid (H6.out.good Hbo.out (fun w0 B h => by rw [Hbf.out]; exact BS.nil _ _ _))
      go_wp2_with (first
        | ((with_reducible refine gateL 33 ?_); refine wpList_load_g (by rfl) 33 (.tmp 3) rfl (w.heap.size + 2) 0 rfl (actCs none b3.frame.length 0 b3) _ RF.out Try.underlying33 rfl (act_sz H6.out.shape) ?_)
        | ((with_reducible refine gateS 33 ?_); refine wpList_store_mid rfl 33 (.tmp 2) (.tmp 51) rfl (w.heap.size + 1) 0 (actCs none b3.frame.length 0 b3).toArray rfl rfl Hthr.out Hszr.out (act_one _ _ _ _) ?_))
      refine bodyPost_ret (v := .agg (actCs none b3.frame.length 0 b3).toArray) (results_row1 (P := Try.prog) (p := 2) rfl _ _ (w.heap.size + 1) _ _ _ rfl HG.out act_under rfl Hszr.out) rfl Hpost.out
    · obtain ⟨b3, hb3⟩ : ∃ b : ActP, b = { act0 with kind := a.kind, op := a.op, oname := a.oname } := ⟨_, rfl⟩
      have hSb3 : ActShape b3 := by rw [hb3]; exact ⟨back0_shape, by show (0 : Nat) < _; decide⟩
      have s30 := ca_oname H4.out.src ha.out
      have dx := ca_oname H4.out.box H4.out.shape
      have df := H4.out.box.frozen 30
      obtain ⟨W6, hW6⟩ : ∃ W, W = W4.setCell ⟨w.heap.size + 2, 30, none⟩ (.string ⟨a.oname.toArray⟩) := ⟨_, rfl⟩
      have H60 : OSt w W6 A c a none 0 b3 := by
        rw [hW6]
        refine H4.out.set_ 30 (.string ⟨a.oname.toArray⟩) ?_ hSb3
        rw [aset_oname H4.out.shape a.oname, Hb.out, hb3]
      have H6 := Lib.hid H60
      have QW6 := Lib.hid hW6
      have Pb3 := Lib.hid hb3
      clear H60 hW6 hb3 hSb3
      go_upto_region 15 with fail
      rw [← QW6.out]
      clear QW6 s30 dx df
      have Hbo : Hid (b3 = onlyA a) := by
        show _ = _
        rw [Pb3.out]
        unfold onlyA
        rw [if_neg (by have := Hk.out; omega), if_pos Hk.out, if_neg (by simpa using k3), if_neg (by simpa using k4)]
      have Hbf : Hid (b3.frame = []) := by show _ = _; rw [Pb3.out]; rfl
      have RF := Lib.hid (blk_range H6.out.box)
      have Hthr : Hid (W6.there (w.heap.size + 1) 0 (actCs none b3.frame.length 0 b3).toArray.size) := H6.out.res.there (by rw [List.size_toArray, List.size_toArray, act_len H6.out.shape, act_len act0_shape]; decide)
      have Hszr : Hid ((Try.prog.info? 33).map (·.size) = some (actCs none b3.frame.length 0 b3).toArray.size) := act_sz H6.out.shape
      have HG := Lib.hid H6.out.goodBlk
      have Hpost := Lib.hid (H6.out.good Hbo.out (fun w0 B h => by rw [Hbf.out]; exact BS.nil _ _ _))
      go_wp2_with (first
        | ((with_reducible refine gateL 33 ?_); refine wpList_load_g (by rfl) 33 (.tmp 3) rfl (w.heap.size + 2) 0 rfl (actCs none b3.frame.length 0 b3) _ RF.out Try.underlying33 rfl (act_sz H6.out.shape) ?_)
        | ((with_reducible refine gateS 33 ?_); refine wpList_store_mid rfl 33 (.tmp 2) (.tmp 51) rfl (w.heap.size + 1) 0 (actCs none b3.frame.length 0 b3).toArray rfl rfl Hthr.out Hszr.out (act_one _ _ _ _) ?_))
      refine bodyPost_ret (v := .agg (actCs none b3.frame.length 0 b3).toArray) (results_row1 (P := Try.prog) (p := 2) rfl _ _ (w.heap.size + 1) _ _ _ rfl HG.out act_under rfl Hszr.out) rfl Hpost.out
  rcases k5 : (a.kind == 3) with _ | _
  rotate_left
  · have Hk : Hid (a.kind = 3) := by show _ = _; simpa using k5
    go_upto_region 14 with fail
    clear d0
    have s32 := ca_name H3.out.src ha.out
    have s33 := ca_well H3.out.src ha.out
    obtain ⟨b2, hb2⟩ : ∃ b : ActP, b = { act0 with kind := a.kind, name := a.name } := ⟨_, rfl⟩
    obtain ⟨b3, hb3⟩ : ∃ b : ActP, b = { act0 with kind := a.kind, name := a.name, well := a.well } := ⟨_, rfl⟩
    have hS2 : ActShape b2 := by rw [hb2]; exact ⟨back0_shape, by show (0 : Nat) < _; decide⟩
    have hS3 : ActShape b3 := by rw [hb3]; exact ⟨back0_shape, by show (0 : Nat) < _; decide⟩
    refine wp_region_noPanic ?_
    refine wp_region_held_drew (S := fun w' => Blk w' w.heap.size 33 (actCs A a.frame.length c a).toArray) (by kernel_rfl) (Blk.drew H3.out.src) (fun hHeld => ?_)
    refine wpAnyH_take (i := 0) (v := ?_) rfl (by kernel_rfl) (by kernel_rfl) (by kernel_rfl) (fun _ _ _ h => h) (Or.inl ⟨by rfl, ?_⟩) hHeld ?_
    rotate_left
    · intro w' hSw
      skip
      go_simp
      try with_reducible rfl
    try (simp only [Act.put, List.getElem_toArray, List.getElem_cons_succ, List.getElem_cons_zero, List.setIfInBounds_toArray, List.set_cons_zero, List.set_cons_succ])
    refine wpAnyH_take (i := 1) (v := ?_) rfl (by kernel_rfl) (by kernel_rfl) (by kernel_rfl) (fun _ _ _ h => h) (Or.inl ⟨by rfl, ?_⟩) hHeld ?_
    rotate_left
    · intro w' hSw
      have e1 := ca_name hSw ha.out
      go_simp
      try with_reducible rfl
    try (simp only [Act.put, List.getElem_toArray, List.getElem_cons_succ, List.getElem_cons_zero, List.setIfInBounds_toArray, List.set_cons_zero, List.set_cons_succ])
    refine wpAnyH_take (i := 2) (v := ?_) rfl (by kernel_rfl) (by kernel_rfl) (by kernel_rfl) (fun _ _ _ h => h) (Or.inl ⟨by rfl, ?_⟩) hHeld ?_
    rotate_left
    · intro w' hSw
      skip
      go_simp
      try with_reducible rfl
    try (simp only [Act.put, List.getElem_toArray, List.getElem_cons_succ, List.getElem_cons_zero, List.setIfInBounds_toArray, List.set_cons_zero, List.set_cons_succ])
    refine wpAnyH_take (i := 3) (v := ?_) rfl (by kernel_rfl) (by kernel_rfl) (by kernel_rfl) (fun _ _ _ h => h) (Or.inl ⟨by rfl, ?_⟩) hHeld ?_
    rotate_left
    · intro w' hSw
      have e1 := ca_well hSw ha.out
      go_simp
      try with_reducible rfl
    try (simp only [Act.put, List.getElem_toArray, List.getElem_cons_succ, List.getElem_cons_zero, List.setIfInBounds_toArray, List.set_cons_zero, List.set_cons_succ])
    refine wpAnyH_take (i := 4) (v := ?_) rfl (by kernel_rfl) (by kernel_rfl) (by kernel_rfl) (fun _ _ _ h => h) (Or.inl ⟨by rfl, ?_⟩) hHeld ?_
    rotate_left
    · intro w' hSw
      skip
      go_simp
      try with_reducible rfl
    try (simp only [Act.put, List.getElem_toArray, List.getElem_cons_succ, List.getElem_cons_zero, List.setIfInBounds_toArray, List.set_cons_zero, List.set_cons_succ])
    generalize hWd : W3.drew = Wd at hHeld ⊢
    have hd3 : OSt w Wd A c a none 0 a1 := by rw [← hWd]; exact ⟨Blk.drew H3.out.src, Blk.drew H3.out.res, Blk.drew H3.out.box, H3.out.bel.drew, H3.out.shape⟩
    clear hWd
    refine wpAnyH_ready (rs := [5]) (by kernel_rfl) (by simp) ?_
    refine AllReadyH.cons (i := 5) rfl (fun K hK => ?_) AllReadyH.nil
    have dx := ca_name hd3.box hd3.shape
    have df := hd3.box.frozen 32
    obtain ⟨W5, hW5⟩ : ∃ W, W = Wd.setCell ⟨w.heap.size + 2, 32, none⟩ (.string ⟨a.name.toArray⟩) := ⟨_, rfl⟩
    have h5 : OSt w W5 A c a none 0 b2 := by
      rw [hW5]
      refine hd3.set_ 32 _ ?_ hS2
      rw [aset_name hd3.shape a.name, Ha1.out, hb2]
    go_simp
    rw [← hW5]
    clear hW5
    refine hK.out _ _ h5.src (fun hHeld => ?_)
    clear hK K dx df
    try (simp only [Act.put, List.getElem_toArray, List.getElem_cons_succ, List.getElem_cons_zero, List.setIfInBounds_toArray, List.set_cons_zero, List.set_cons_succ])
    refine wpAnyH_take (i := 6) (v := ?_) rfl (by kernel_rfl) (by kernel_rfl) (by kernel_rfl) (fun _ _ _ h => h) (Or.inl ⟨by rfl, ?_⟩) hHeld ?_
    rotate_left
    · intro w' hSw
      skip
      go_simp
      try with_reducible rfl
    try (simp only [Act.put, List.getElem_toArray, List.getElem_cons_succ, List.getElem_cons_zero, List.setIfInBounds_toArray, List.set_cons_zero, List.set_cons_succ])
    refine wpAnyH_ready (rs := [7]) (by kernel_rfl) (by simp) ?_
    refine AllReadyH.cons (i := 7) rfl (fun K hK => ?_) AllReadyH.nil
    have dx := ca_well h5.box h5.shape
    have df := h5.box.frozen 33
    obtain ⟨W6, hW6⟩ : ∃ W, W = W5.setCell ⟨w.heap.size + 2, 33, none⟩ (.bool a.well) := ⟨_, rfl⟩
    have h6 : OSt w W6 A c a none 0 b3 := by
      rw [hW6]
      refine h5.set_ 33 _ ?_ hS3
      rw [aset_well h5.shape a.well, hb2, hb3]
    go_simp
    rw [← hW6]
    clear hW6
    refine hK.out _ _ h6.src (fun hHeld => ?_)
    clear hK K dx df
    try (simp only [Act.put, List.getElem_toArray, List.getElem_cons_succ, List.getElem_cons_zero, List.setIfInBounds_toArray, List.set_cons_zero, List.set_cons_succ])
    refine wpAnyH_done (by kernel_rfl) ?_ _
    refine NoPanic.normal ?_
    have H6 := Lib.hid h6
    have Hbo : Hid (b3 = onlyA a) := by
      show _ = _
      rw [hb3]
      unfold onlyA
      rw [if_neg (by have := Hk.out; omega), if_neg (by have := Hk.out; omega), if_pos Hk.out]
    have Hbf : Hid (b3.frame = []) := by show _ = _; rw [hb3]; rfl
    clear h5 h6 hd3 hb2 hb3 hS2 hS3 hHeld s32 s33
    have RF := Lib.hid (blk_range H6.out.box)
    have Hthr : Hid (W6.there (w.heap.size + 1) 0 (actCs none b3.frame.length 0 b3).toArray.size) := H6.out.res.there (by rw [List.size_toArray, List.size_toArray, act_len H6.out.shape, act_len act0_shape]; decide)
    have Hszr : Hid ((Try.prog.info? 33).map (·.size) = some (actCs none b3.frame.length 0 b3).toArray.size) := act_sz H6.out.shape
    have HG := Lib.hid H6.out.goodBlk
    have Hpost := Lib.hid (H6.out.good Hbo.out (fun w0 B h => by rw [Hbf.out]; exact BS.nil _ _ _))
    go_wp2_with (first
      | ((with_reducible refine gateL 33 ?_); refine wpList_load_g (by rfl) 33 (.tmp 3) rfl (w.heap.size + 2) 0 rfl (actCs none b3.frame.length 0 b3) _ RF.out Try.underlying33 rfl (act_sz H6.out.shape) ?_)
      | ((with_reducible refine gateS 33 ?_); refine wpList_store_mid rfl 33 (.tmp 2) (.tmp 51) rfl (w.heap.size + 1) 0 (actCs none b3.frame.length 0 b3).toArray rfl rfl Hthr.out Hszr.out (act_one _ _ _ _) ?_))
    refine bodyPost_ret (v := .agg (actCs none b3.frame.length 0 b3).toArray) (results_row1 (P := Try.prog) (p := 2) rfl _ _ (w.heap.size + 1) _ _ _ rfl HG.out act_under rfl Hszr.out) rfl Hpost.out
  have Hbo : Hid (a1 = onlyA a) := by
    show _ = _
    rw [Ha1.out]
    unfold onlyA
    rw [if_neg (by simpa using k1), if_neg (by simpa using k2), if_neg (by simpa using k5)]
  have Hbf : Hid (a1.frame = []) := by show _ = _; rw [Ha1.out]; rfl
  go_upto_region 15 with fail
  clear d0
  have RF := Lib.hid (blk_range H3.out.box)
  have Hthr : Hid (W3.there (w.heap.size + 1) 0 (actCs none a1.frame.length 0 a1).toArray.size) := H3.out.res.there (by rw [List.size_toArray, List.size_toArray, act_len H3.out.shape, act_len act0_shape]; decide)
  have Hszr : Hid ((Try.prog.info? 33).map (·.size) = some (actCs none a1.frame.length 0 a1).toArray.size) := act_sz H3.out.shape
  have HG := Lib.hid H3.out.goodBlk
  have Hpost := Lib.hid (H3.out.good Hbo.out (fun w0 B h => by rw [Hbf.out]; exact BS.nil _ _ _))
  go_wp2_with (first
    | ((with_reducible refine gateL 33 ?_); refine wpList_load_g (by rfl) 33 (.tmp 3) rfl (w.heap.size + 2) 0 rfl (actCs none a1.frame.length 0 a1) _ RF.out Try.underlying33 rfl (act_sz H3.out.shape) ?_)
    | ((with_reducible refine gateS 33 ?_); refine wpList_store_mid rfl 33 (.tmp 2) (.tmp 51) rfl (w.heap.size + 1) 0 (actCs none a1.frame.length 0 a1).toArray rfl rfl Hthr.out Hszr.out (act_one _ _ _ _) ?_))
  refine bodyPost_ret (v := .agg (actCs none a1.frame.length 0 a1).toArray) (results_row1 (P := Try.prog) (p := 2) rfl _ _ (w.heap.size + 1) _ _ _ rfl HG.out act_under rfl Hszr.out) rfl Hpost.out
end Go.Proofs.Ytgohhojoahlfiaa
