/- The reader: read. -/
import Derived.Test.YtpeknjbcjpdmnabRdI
namespace Go.Proofs.Ytpeknjbcjpdmnab
open Go.RowKit
set_option linter.unusedVariables false

def preS (s : St) (x : Item) : St := if mayB x then s else failS s 1
def readS (l : List UInt8) (s : St) (x : Item) : St × Piece :=
  if x.1 = 1 then ((numS l (preS s x) x.2.1 x.2.2).1, (numS l (preS s x) x.2.1 x.2.2).2, [])
  else if x.1 = 2 then ((varS l (preS s x)).1, (varS l (preS s x)).2, [])
  else if x.1 = 3 then ((takeS l (preS s x) x.2.1).1, 0, (takeS l (preS s x) x.2.1).2)
  else if x.1 = 4 then ((textS l (preS s x) x.2.1).1, 0, (textS l (preS s x) x.2.1).2)
  else (preS s x, 0, [])
theorem ok_pre {l : List UInt8} {s : St} (h : okS l s) (x : Item) : okS l (preS s x) := by
  unfold preS
  split
  · exact h
  · exact ok_fail h (by omega)
theorem ok_read {l : List UInt8} {s : St} (h : okS l s) (x : Item) : okS l (readS l s x).1 := by
  have h' := ok_pre h x
  unfold readS
  split
  · exact ok_num h' _ _
  · split
    · exact ok_var h'
    · split
      · exact ok_take h' _
      · split
        · exact ok_text h' _
        · exact h'
def ReadIs (w : World) (base g : Nat) (l : List UInt8) (r : St × Piece) (x : Ending) (w' : World) : Prop :=
  RdW w' base g l r.1 ∧ w.grownBy w' (some g) ∧ ((r.1.2.2 = 0 ∧ ∃ A c, x = .returned (.agg #[.int .u64 (r.2.1 : Int), .slice A r.2.2.length c]) ∧ w'.ownsRow w.heap.size 5 1 (.slice A r.2.2.length c) r.2.2.length (bcells r.2.2)) ∨ (r.1.2.2 ≠ 0 ∧ x = spotPanic r.1))


section
variable {w w' : World} {g k : Nat} {t : TypeId} {cs : Array Value}
theorem Blk.grown (h : Blk w g t cs) {row : Option Nat} (hg : w.grownBy w' row) (hne : some g ≠ row) : Blk w' g t cs := (hg.block g h.lt hne).trans h
theorem Blk.ne {t' : TypeId} {cs' : Array Value} (h : Blk w g t cs) (h' : Blk w k t' cs') (ht : t ≠ t') : g ≠ k := fun e => by
  subst e
  unfold Blk at h h'
  rw [h] at h'
  injection h' with h'
  injection h' with _ ht'
  exact ht ht'
theorem own_blk_ne {base : Nat} {e : TypeId} {size n : Nat} {v : Value} {xs : List Value} (h : w.ownsRow base e size v n xs) (hb : Blk w k t cs) (ht : t ≠ e) : v.ownBlock = none ∨ v.ownBlock ≠ some k := by
  rcases h.2 with ⟨rfl, _⟩ | ⟨g', cap, cur, rfl, _, hh, _⟩
  · exact .inl rfl
  · right
    intro e1
    have : g' = k := by simpa [Value.ownBlock] using e1
    subst this
    have hb' : w.heap[g']? = some (.cells cs t) := hb
    rw [hh] at hb'
    injection hb' with hb'
    injection hb' with _ ht'
    exact ht ht'.symm
/-- A reader, while another block of another kind is written. -/
theorem RdW.off {base : Nat} {l : List UInt8} {s : St} (h : RdW w base g l s) (hg : w.grownBy w' (some k)) (hb : Blk w k t cs) (h1 : t ≠ 78) (h2 : t ≠ 5) : RdW w' base g l s := by
  obtain ⟨A, c, hr, hown, hne, hc⟩ := h
  exact ⟨A, c, Blk.grown hr hg (fun e => by injection e with e; exact (Blk.ne hb hr h1) e.symm), hown.kept hg (own_blk_ne hown hb h2), hne, hc⟩
theorem RdW.lt {base : Nat} {l : List UInt8} {s : St} (h : RdW w base g l s) : g < w.heap.size := by
  obtain ⟨A, c, hr, _⟩ := h
  exact Blk.lt hr
end

theorem grownSetNew {w w' : World} {g : Nat} (h : w.grownBy w' (some g)) {p : Addr} (hp : w.heap.size ≤ p.block) (u : Value) : w.grownBy (w'.setCell p u) (some g) :=
  ⟨h.os, h.tape, h.output, by simpa [World.setCell] using h.size, fun k hk hne => (Below.heap_setCell _ _ _ _ (fun e => by omega)).trans (h.block k hk hne)⟩

/-- The result is laid in its own block. -/
theorem read_tail {w w4 : World} {base g : Nat} {l : List UInt8} {s2 : St} {q : Nat} {b : List UInt8} {A : Option Addr} {c : Nat} {z0 z1 : Value} (hB : Blk w4 (w.heap.size + 1) 70 #[z0, z1]) (hR : RdW w4 base g l s2) (hg : w.grownBy w4 (some g)) (hz : s2.2.2 = 0) (ho : w4.ownsRow w.heap.size 5 1 (.slice A b.length c) b.length (bcells b)) :
    ReadIs w base g l (s2, q, b) (.returned (.agg #[.int .u64 (q : Int), .slice A b.length c])) ((w4.setCell ⟨w.heap.size + 1, 0, none⟩ (.int .u64 (q : Int))).setCell ⟨w.heap.size + 1, 1, none⟩ (.slice A b.length c)) ∧
    ((w4.setCell ⟨w.heap.size + 1, 0, none⟩ (.int .u64 (q : Int))).setCell ⟨w.heap.size + 1, 1, none⟩ (.slice A b.length c)).heap[w.heap.size + 1]? = some (.cells #[.int .u64 (q : Int), .slice A b.length c] 70) := by
  have h1 := grownSet w4 ⟨w.heap.size + 1, 0, none⟩ (.int .u64 (q : Int))
  have h2 := grownSet (w4.setCell ⟨w.heap.size + 1, 0, none⟩ (.int .u64 (q : Int))) ⟨w.heap.size + 1, 1, none⟩ (.slice A b.length c)
  have hB1 := Blk.set_ hB 0 (.int .u64 (q : Int))
  have hB2 := Blk.set_ hB1 1 (.slice A b.length c)
  have h12 := grownTrans h1 h2
  exact ⟨⟨hR.off h12 hB (by decide) (by decide), grownSetNew (grownSetNew hg (Nat.le_succ _) _) (Nat.le_succ _) _, .inl ⟨hz, A, c, rfl, ho.kept h12 (own_blk_ne ho hB (by decide))⟩⟩, hB2⟩

-- GEN
set_option maxHeartbeats 1600000 in
set_option maxRecDepth 100000 in
theorem read_num (base g : Nat) (l : List UInt8) (s : St) (w : World) (n : Int) (big : Bool) (h : RdW w base g l s) (hs : okS l s) (hl : l.length ≤ 1000000000) :
    Calls Try.prog 37 #[.pointer (some ⟨g, 0, none⟩), .agg #[.int .i64 1, .int .i64 n, .bool big]] w (ReadIs w base g l (readS l s (1, n, big))) := by
  have H := Lib.hid h
  have Hs := Lib.hid hs
  have Hlt := Lib.hid h.lt
  have Hok := Lib.hid (ok_pre hs (1, n, big))
  rw [show readS l s (1, n, big) = ((numS l (preS s (1, n, big)) n big).1, (numS l (preS s (1, n, big)) n big).2, []) from rfl]
  rcases hr : numS l (preS s (1, n, big)) n big with ⟨s2, q⟩
  have Hr := Lib.hid hr
  rcases hb : mayB (1, n, big) with _ | _
  · have hp : preS s (1, n, big) = failS s 1 := by unfold preS; rw [hb]; rfl
    have Hp := Lib.hid hp
    have Hb := Lib.hid hb
    clear h hs hr hb hp
    by_cases hz : s2.2.2 = 0
    · have Hz := Lib.hid hz
      clear hz
      go_enter Try.func37, Try.ntmps37
      go_wp2_with fail
      refine (may_any 1 n big _ false Hb.out).mono ?_
      rintro x w1 ⟨rfl, hb1⟩
      have HX0 : Blk w1 w.heap.size 68 #[.int .i64 1, .int .i64 n, .bool big] := Blk.below (Blk.alloc (Blk.new w _ _ _ rfl) _) hb1 (by simp; omega)
      have HR0 : Blk w1 (w.heap.size + 1) 70 #[.int .u64 0, .slice none 0 0] := Blk.below (Blk.new _ _ _ _ (by simp)) hb1 (by simp)
      have hb2 : Below w.heap.size w w1 := ((((Below.refl _ w).alloc (Nat.le_refl _) _).alloc (by simp) _)).trans (hb1.mono (by simp; omega))
      go_wp2_with fail
      refine (rdFail_st base g l s 1 _ (H.out.below hb2)).mono ?_
      rintro x wA ⟨rfl, hRA, hgF⟩
      have HX := Blk.grown HX0 hgF (fun e => by injection e with e; have := Hlt.out; omega)
      have HR := Blk.grown HR0 hgF (fun e => by injection e with e; have := Hlt.out; omega)
      have hgA := grownTrans (grownOf hb2 (row := some g)) hgF
      rw [← Hp.out] at hRA
      clear HX0 HR0 hgF hb1 hb2
      have x0 : ∀ o, (wA.alloc o).cell? ⟨w.heap.size, 0, none⟩ = some (.int .i64 1) := fun o => Blk.cell (Blk.alloc HX o) 0
      have x1 : ∀ o, (wA.alloc o).cell? ⟨w.heap.size, 1, none⟩ = some (.int .i64 n) := fun o => Blk.cell (Blk.alloc HX o) 1
      have x2 : ∀ o, (wA.alloc o).cell? ⟨w.heap.size, 2, none⟩ = some (.bool big) := fun o => Blk.cell (Blk.alloc HX o) 2
      have HP : Blk (wA.alloc (.cells #[.int .u64 0, .slice none 0 0] 70)) wA.heap.size 70 #[.int .u64 0, .slice none 0 0] := Blk.new wA _ _ _ rfl
      have HR1 := Blk.alloc HR (.cells #[.int .u64 0, .slice none 0 0] 70)
      have hb3 := (Below.refl wA.heap.size wA).alloc (Nat.le_refl _) (.cells #[.int .u64 0, .slice none 0 0] 70)
      have hgB := grownTrans hgA (grownOf hb3 (row := some g))
      have hRB := hRA.below hb3
      have Hlt1 : Hid (w.heap.size + 1 < wA.heap.size) := HR.lt
      go_wp2_with fail
      refine (rdNum_any base g l (preS s (1, n, big)) _ n big hRB Hok.out hl).mono ?_
      rw [Hr.out]
      rintro x w3 ⟨rfl, hR3, hg3⟩
      have HP3 := Blk.grown HP hg3 (fun e => by injection e with e; have := Hlt.out; have := Hlt1.out; omega)
      have HR3 := Blk.grown HR1 hg3 (fun e => by injection e with e; have := Hlt.out; omega)
      have hgw := grownTrans hgB hg3
      have p0 : w3.cell? ⟨wA.heap.size, 0, none⟩ = some (.int .u64 0) := HP3.cell 0
      have pf := HP3.frozen 0
      clear HX HR HP HR1 x0 x1 x2 hRA hRB hgA hgB hb3
      have hne : wA.heap.size ≠ w.heap.size + 1 := by have := Hlt1.out; omega
      have hg4 := grownSet w3 ⟨wA.heap.size, 0, none⟩ (.int .u64 (q : Int))
      have hR4 := hR3.off hg4 HP3 (by decide) (by decide)
      have HP4 := Blk.set_ HP3 0 (.int .u64 (q : Int))
      have HR4 := Blk.far HR3 (p := ⟨wA.heap.size, 0, none⟩) (Ne.symm hne) (.int .u64 (q : Int))
      have hgw4 := grownSetNew hgw (p := ⟨wA.heap.size, 0, none⟩) (by have := Hlt1.out; simp only; omega) (.int .u64 (q : Int))
      clear hR3 hg3 HP3 HR3 hgw hg4
      go_wp2_with fail
      refine (check_ok base g l s2 _ hR4 Hz.out).mono ?_
      rintro x w5 ⟨rfl, rfl⟩
      have q0 : (w3.setCell ⟨wA.heap.size, 0, none⟩ (.int .u64 (q : Int))).cell? ⟨wA.heap.size, 0, none⟩ = some (.int .u64 (q : Int)) := HP4.cell 0
      have q1 : (w3.setCell ⟨wA.heap.size, 0, none⟩ (.int .u64 (q : Int))).cell? ⟨wA.heap.size, 1, none⟩ = some (.slice none 0 0) := HP4.cell 1
      have r0 : (w3.setCell ⟨wA.heap.size, 0, none⟩ (.int .u64 (q : Int))).cell? ⟨w.heap.size + 1, 0, none⟩ = some (.int .u64 0) := HR4.cell 0
      have r1 : (w3.setCell ⟨wA.heap.size, 0, none⟩ (.int .u64 (q : Int))).cell? ⟨w.heap.size + 1, 1, none⟩ = some (.slice none 0 0) := HR4.cell 1
      have rf : ∀ i, (w3.setCell ⟨wA.heap.size, 0, none⟩ (.int .u64 (q : Int))).frozen? ⟨w.heap.size + 1, i, none⟩ = false := fun i => HR4.frozen i
      have HE := Lib.hid (read_tail (q := q) (b := []) HR4 hR4 hgw4 Hz.out (World.ownsRow_nil _ _ _ _))
      clear HP4 hR4 hgw4
      go_wp2
      refine bodyPost_ret (v := .agg #[.int .u64 (q : Int), .slice none 0 0]) (results_cell_row (P := Try.prog) rfl _ _ (w.heap.size + 1) _ _ _ _ rfl HE.out.2 Try.underlying70 rfl (by kernel_rfl)) rfl HE.out.1
    · have Hz := Lib.hid hz
      clear hz
      go_enter Try.func37, Try.ntmps37
      go_wp2_with fail
      refine (may_any 1 n big _ false Hb.out).mono ?_
      rintro x w1 ⟨rfl, hb1⟩
      have HX0 : Blk w1 w.heap.size 68 #[.int .i64 1, .int .i64 n, .bool big] := Blk.below (Blk.alloc (Blk.new w _ _ _ rfl) _) hb1 (by simp; omega)
      have HR0 : Blk w1 (w.heap.size + 1) 70 #[.int .u64 0, .slice none 0 0] := Blk.below (Blk.new _ _ _ _ (by simp)) hb1 (by simp)
      have hb2 : Below w.heap.size w w1 := ((((Below.refl _ w).alloc (Nat.le_refl _) _).alloc (by simp) _)).trans (hb1.mono (by simp; omega))
      go_wp2_with fail
      refine (rdFail_st base g l s 1 _ (H.out.below hb2)).mono ?_
      rintro x wA ⟨rfl, hRA, hgF⟩
      have HX := Blk.grown HX0 hgF (fun e => by injection e with e; have := Hlt.out; omega)
      have HR := Blk.grown HR0 hgF (fun e => by injection e with e; have := Hlt.out; omega)
      have hgA := grownTrans (grownOf hb2 (row := some g)) hgF
      rw [← Hp.out] at hRA
      clear HX0 HR0 hgF hb1 hb2
      have x0 : ∀ o, (wA.alloc o).cell? ⟨w.heap.size, 0, none⟩ = some (.int .i64 1) := fun o => Blk.cell (Blk.alloc HX o) 0
      have x1 : ∀ o, (wA.alloc o).cell? ⟨w.heap.size, 1, none⟩ = some (.int .i64 n) := fun o => Blk.cell (Blk.alloc HX o) 1
      have x2 : ∀ o, (wA.alloc o).cell? ⟨w.heap.size, 2, none⟩ = some (.bool big) := fun o => Blk.cell (Blk.alloc HX o) 2
      have HP : Blk (wA.alloc (.cells #[.int .u64 0, .slice none 0 0] 70)) wA.heap.size 70 #[.int .u64 0, .slice none 0 0] := Blk.new wA _ _ _ rfl
      have HR1 := Blk.alloc HR (.cells #[.int .u64 0, .slice none 0 0] 70)
      have hb3 := (Below.refl wA.heap.size wA).alloc (Nat.le_refl _) (.cells #[.int .u64 0, .slice none 0 0] 70)
      have hgB := grownTrans hgA (grownOf hb3 (row := some g))
      have hRB := hRA.below hb3
      have Hlt1 : Hid (w.heap.size + 1 < wA.heap.size) := HR.lt
      go_wp2_with fail
      refine (rdNum_any base g l (preS s (1, n, big)) _ n big hRB Hok.out hl).mono ?_
      rw [Hr.out]
      rintro x w3 ⟨rfl, hR3, hg3⟩
      have HP3 := Blk.grown HP hg3 (fun e => by injection e with e; have := Hlt.out; have := Hlt1.out; omega)
      have HR3 := Blk.grown HR1 hg3 (fun e => by injection e with e; have := Hlt.out; omega)
      have hgw := grownTrans hgB hg3
      have p0 : w3.cell? ⟨wA.heap.size, 0, none⟩ = some (.int .u64 0) := HP3.cell 0
      have pf := HP3.frozen 0
      clear HX HR HP HR1 x0 x1 x2 hRA hRB hgA hgB hb3
      have hne : wA.heap.size ≠ w.heap.size + 1 := by have := Hlt1.out; omega
      have hg4 := grownSet w3 ⟨wA.heap.size, 0, none⟩ (.int .u64 (q : Int))
      have hR4 := hR3.off hg4 HP3 (by decide) (by decide)
      have HP4 := Blk.set_ HP3 0 (.int .u64 (q : Int))
      have HR4 := Blk.far HR3 (p := ⟨wA.heap.size, 0, none⟩) (Ne.symm hne) (.int .u64 (q : Int))
      have hgw4 := grownSetNew hgw (p := ⟨wA.heap.size, 0, none⟩) (by have := Hlt1.out; simp only; omega) (.int .u64 (q : Int))
      clear hR3 hg3 HP3 HR3 hgw hg4
      go_wp2_with fail
      refine (check_bad base g l s2 _ hR4 Hz.out).mono ?_
      rintro x w5 ⟨hx, rfl⟩
      unfold spotPanic at hx
      subst hx
      go_wp2
      exact ⟨rfl, hR4, hgw4, .inr ⟨Hz.out, rfl⟩⟩
  · have hp : preS s (1, n, big) = s := by unfold preS; rw [hb]; rfl
    have Hp := Lib.hid hp
    have Hb := Lib.hid hb
    clear h hs hr hb hp
    by_cases hz : s2.2.2 = 0
    · have Hz := Lib.hid hz
      clear hz
      go_enter Try.func37, Try.ntmps37
      go_wp2_with fail
      refine (may_any 1 n big _ true Hb.out).mono ?_
      rintro x w1 ⟨rfl, hb1⟩
      have HX0 : Blk w1 w.heap.size 68 #[.int .i64 1, .int .i64 n, .bool big] := Blk.below (Blk.alloc (Blk.new w _ _ _ rfl) _) hb1 (by simp; omega)
      have HR0 : Blk w1 (w.heap.size + 1) 70 #[.int .u64 0, .slice none 0 0] := Blk.below (Blk.new _ _ _ _ (by simp)) hb1 (by simp)
      have hb2 : Below w.heap.size w w1 := ((((Below.refl _ w).alloc (Nat.le_refl _) _).alloc (by simp) _)).trans (hb1.mono (by simp; omega))
      obtain ⟨wA, rfl⟩ : ∃ wA, wA = w1 := ⟨_, rfl⟩
      have HX := HX0
      have HR := HR0
      have hgA := grownOf hb2 (row := some g)
      have hRA := H.out.below hb2
      rw [← Hp.out] at hRA
      clear HX0 HR0 hb1 hb2
      have x0 : ∀ o, (wA.alloc o).cell? ⟨w.heap.size, 0, none⟩ = some (.int .i64 1) := fun o => Blk.cell (Blk.alloc HX o) 0
      have x1 : ∀ o, (wA.alloc o).cell? ⟨w.heap.size, 1, none⟩ = some (.int .i64 n) := fun o => Blk.cell (Blk.alloc HX o) 1
      have x2 : ∀ o, (wA.alloc o).cell? ⟨w.heap.size, 2, none⟩ = some (.bool big) := fun o => Blk.cell (Blk.alloc HX o) 2
      have HP : Blk (wA.alloc (.cells #[.int .u64 0, .slice none 0 0] 70)) wA.heap.size 70 #[.int .u64 0, .slice none 0 0] := Blk.new wA _ _ _ rfl
      have HR1 := Blk.alloc HR (.cells #[.int .u64 0, .slice none 0 0] 70)
      have hb3 := (Below.refl wA.heap.size wA).alloc (Nat.le_refl _) (.cells #[.int .u64 0, .slice none 0 0] 70)
      have hgB := grownTrans hgA (grownOf hb3 (row := some g))
      have hRB := hRA.below hb3
      have Hlt1 : Hid (w.heap.size + 1 < wA.heap.size) := HR.lt
      go_wp2_with fail
      refine (rdNum_any base g l (preS s (1, n, big)) _ n big hRB Hok.out hl).mono ?_
      rw [Hr.out]
      rintro x w3 ⟨rfl, hR3, hg3⟩
      have HP3 := Blk.grown HP hg3 (fun e => by injection e with e; have := Hlt.out; have := Hlt1.out; omega)
      have HR3 := Blk.grown HR1 hg3 (fun e => by injection e with e; have := Hlt.out; omega)
      have hgw := grownTrans hgB hg3
      have p0 : w3.cell? ⟨wA.heap.size, 0, none⟩ = some (.int .u64 0) := HP3.cell 0
      have pf := HP3.frozen 0
      clear HX HR HP HR1 x0 x1 x2 hRA hRB hgA hgB hb3
      have hne : wA.heap.size ≠ w.heap.size + 1 := by have := Hlt1.out; omega
      have hg4 := grownSet w3 ⟨wA.heap.size, 0, none⟩ (.int .u64 (q : Int))
      have hR4 := hR3.off hg4 HP3 (by decide) (by decide)
      have HP4 := Blk.set_ HP3 0 (.int .u64 (q : Int))
      have HR4 := Blk.far HR3 (p := ⟨wA.heap.size, 0, none⟩) (Ne.symm hne) (.int .u64 (q : Int))
      have hgw4 := grownSetNew hgw (p := ⟨wA.heap.size, 0, none⟩) (by have := Hlt1.out; simp only; omega) (.int .u64 (q : Int))
      clear hR3 hg3 HP3 HR3 hgw hg4
      go_wp2_with fail
      refine (check_ok base g l s2 _ hR4 Hz.out).mono ?_
      rintro x w5 ⟨rfl, rfl⟩
      have q0 : (w3.setCell ⟨wA.heap.size, 0, none⟩ (.int .u64 (q : Int))).cell? ⟨wA.heap.size, 0, none⟩ = some (.int .u64 (q : Int)) := HP4.cell 0
      have q1 : (w3.setCell ⟨wA.heap.size, 0, none⟩ (.int .u64 (q : Int))).cell? ⟨wA.heap.size, 1, none⟩ = some (.slice none 0 0) := HP4.cell 1
      have r0 : (w3.setCell ⟨wA.heap.size, 0, none⟩ (.int .u64 (q : Int))).cell? ⟨w.heap.size + 1, 0, none⟩ = some (.int .u64 0) := HR4.cell 0
      have r1 : (w3.setCell ⟨wA.heap.size, 0, none⟩ (.int .u64 (q : Int))).cell? ⟨w.heap.size + 1, 1, none⟩ = some (.slice none 0 0) := HR4.cell 1
      have rf : ∀ i, (w3.setCell ⟨wA.heap.size, 0, none⟩ (.int .u64 (q : Int))).frozen? ⟨w.heap.size + 1, i, none⟩ = false := fun i => HR4.frozen i
      have HE := Lib.hid (read_tail (q := q) (b := []) HR4 hR4 hgw4 Hz.out (World.ownsRow_nil _ _ _ _))
      clear HP4 hR4 hgw4
      go_wp2
      refine bodyPost_ret (v := .agg #[.int .u64 (q : Int), .slice none 0 0]) (results_cell_row (P := Try.prog) rfl _ _ (w.heap.size + 1) _ _ _ _ rfl HE.out.2 Try.underlying70 rfl (by kernel_rfl)) rfl HE.out.1
    · have Hz := Lib.hid hz
      clear hz
      go_enter Try.func37, Try.ntmps37
      go_wp2_with fail
      refine (may_any 1 n big _ true Hb.out).mono ?_
      rintro x w1 ⟨rfl, hb1⟩
      have HX0 : Blk w1 w.heap.size 68 #[.int .i64 1, .int .i64 n, .bool big] := Blk.below (Blk.alloc (Blk.new w _ _ _ rfl) _) hb1 (by simp; omega)
      have HR0 : Blk w1 (w.heap.size + 1) 70 #[.int .u64 0, .slice none 0 0] := Blk.below (Blk.new _ _ _ _ (by simp)) hb1 (by simp)
      have hb2 : Below w.heap.size w w1 := ((((Below.refl _ w).alloc (Nat.le_refl _) _).alloc (by simp) _)).trans (hb1.mono (by simp; omega))
      obtain ⟨wA, rfl⟩ : ∃ wA, wA = w1 := ⟨_, rfl⟩
      have HX := HX0
      have HR := HR0
      have hgA := grownOf hb2 (row := some g)
      have hRA := H.out.below hb2
      rw [← Hp.out] at hRA
      clear HX0 HR0 hb1 hb2
      have x0 : ∀ o, (wA.alloc o).cell? ⟨w.heap.size, 0, none⟩ = some (.int .i64 1) := fun o => Blk.cell (Blk.alloc HX o) 0
      have x1 : ∀ o, (wA.alloc o).cell? ⟨w.heap.size, 1, none⟩ = some (.int .i64 n) := fun o => Blk.cell (Blk.alloc HX o) 1
      have x2 : ∀ o, (wA.alloc o).cell? ⟨w.heap.size, 2, none⟩ = some (.bool big) := fun o => Blk.cell (Blk.alloc HX o) 2
      have HP : Blk (wA.alloc (.cells #[.int .u64 0, .slice none 0 0] 70)) wA.heap.size 70 #[.int .u64 0, .slice none 0 0] := Blk.new wA _ _ _ rfl
      have HR1 := Blk.alloc HR (.cells #[.int .u64 0, .slice none 0 0] 70)
      have hb3 := (Below.refl wA.heap.size wA).alloc (Nat.le_refl _) (.cells #[.int .u64 0, .slice none 0 0] 70)
      have hgB := grownTrans hgA (grownOf hb3 (row := some g))
      have hRB := hRA.below hb3
      have Hlt1 : Hid (w.heap.size + 1 < wA.heap.size) := HR.lt
      go_wp2_with fail
      refine (rdNum_any base g l (preS s (1, n, big)) _ n big hRB Hok.out hl).mono ?_
      rw [Hr.out]
      rintro x w3 ⟨rfl, hR3, hg3⟩
      have HP3 := Blk.grown HP hg3 (fun e => by injection e with e; have := Hlt.out; have := Hlt1.out; omega)
      have HR3 := Blk.grown HR1 hg3 (fun e => by injection e with e; have := Hlt.out; omega)
      have hgw := grownTrans hgB hg3
      have p0 : w3.cell? ⟨wA.heap.size, 0, none⟩ = some (.int .u64 0) := HP3.cell 0
      have pf := HP3.frozen 0
      clear HX HR HP HR1 x0 x1 x2 hRA hRB hgA hgB hb3
      have hne : wA.heap.size ≠ w.heap.size + 1 := by have := Hlt1.out; omega
      have hg4 := grownSet w3 ⟨wA.heap.size, 0, none⟩ (.int .u64 (q : Int))
      have hR4 := hR3.off hg4 HP3 (by decide) (by decide)
      have HP4 := Blk.set_ HP3 0 (.int .u64 (q : Int))
      have HR4 := Blk.far HR3 (p := ⟨wA.heap.size, 0, none⟩) (Ne.symm hne) (.int .u64 (q : Int))
      have hgw4 := grownSetNew hgw (p := ⟨wA.heap.size, 0, none⟩) (by have := Hlt1.out; simp only; omega) (.int .u64 (q : Int))
      clear hR3 hg3 HP3 HR3 hgw hg4
      go_wp2_with fail
      refine (check_bad base g l s2 _ hR4 Hz.out).mono ?_
      rintro x w5 ⟨hx, rfl⟩
      unfold spotPanic at hx
      subst hx
      go_wp2
      exact ⟨rfl, hR4, hgw4, .inr ⟨Hz.out, rfl⟩⟩

set_option maxHeartbeats 1600000 in
set_option maxRecDepth 100000 in
theorem read_var (base g : Nat) (l : List UInt8) (s : St) (w : World) (n : Int) (big : Bool) (h : RdW w base g l s) (hs : okS l s) (hl : l.length ≤ 1000000000) :
    Calls Try.prog 37 #[.pointer (some ⟨g, 0, none⟩), .agg #[.int .i64 2, .int .i64 n, .bool big]] w (ReadIs w base g l (readS l s (2, n, big))) := by
  have H := Lib.hid h
  have Hs := Lib.hid hs
  have Hlt := Lib.hid h.lt
  have Hok := Lib.hid (ok_pre hs (2, n, big))
  rw [show readS l s (2, n, big) = ((varS l (preS s (2, n, big))).1, (varS l (preS s (2, n, big))).2, []) from rfl]
  rcases hr : varS l (preS s (2, n, big)) with ⟨s2, q⟩
  have Hr := Lib.hid hr
  have hb : mayB (2, n, big) = true := rfl
  have hp : preS s (2, n, big) = s := by unfold preS; rw [hb]; rfl
  have Hp := Lib.hid hp
  have Hb := Lib.hid hb
  clear h hs hr hb hp
  by_cases hz : s2.2.2 = 0
  · have Hz := Lib.hid hz
    clear hz
    go_enter Try.func37, Try.ntmps37
    go_wp2_with fail
    refine (may_any 2 n big _ true Hb.out).mono ?_
    rintro x w1 ⟨rfl, hb1⟩
    have HX0 : Blk w1 w.heap.size 68 #[.int .i64 2, .int .i64 n, .bool big] := Blk.below (Blk.alloc (Blk.new w _ _ _ rfl) _) hb1 (by simp; omega)
    have HR0 : Blk w1 (w.heap.size + 1) 70 #[.int .u64 0, .slice none 0 0] := Blk.below (Blk.new _ _ _ _ (by simp)) hb1 (by simp)
    have hb2 : Below w.heap.size w w1 := ((((Below.refl _ w).alloc (Nat.le_refl _) _).alloc (by simp) _)).trans (hb1.mono (by simp; omega))
    obtain ⟨wA, rfl⟩ : ∃ wA, wA = w1 := ⟨_, rfl⟩
    have HX := HX0
    have HR := HR0
    have hgA := grownOf hb2 (row := some g)
    have hRA := H.out.below hb2
    rw [← Hp.out] at hRA
    clear HX0 HR0 hb1 hb2
    have x0 : ∀ o, (wA.alloc o).cell? ⟨w.heap.size, 0, none⟩ = some (.int .i64 2) := fun o => Blk.cell (Blk.alloc HX o) 0
    have x1 : ∀ o, (wA.alloc o).cell? ⟨w.heap.size, 1, none⟩ = some (.int .i64 n) := fun o => Blk.cell (Blk.alloc HX o) 1
    have x2 : ∀ o, (wA.alloc o).cell? ⟨w.heap.size, 2, none⟩ = some (.bool big) := fun o => Blk.cell (Blk.alloc HX o) 2
    have HP : Blk (wA.alloc (.cells #[.int .u64 0, .slice none 0 0] 70)) wA.heap.size 70 #[.int .u64 0, .slice none 0 0] := Blk.new wA _ _ _ rfl
    have HR1 := Blk.alloc HR (.cells #[.int .u64 0, .slice none 0 0] 70)
    have hb3 := (Below.refl wA.heap.size wA).alloc (Nat.le_refl _) (.cells #[.int .u64 0, .slice none 0 0] 70)
    have hgB := grownTrans hgA (grownOf hb3 (row := some g))
    have hRB := hRA.below hb3
    have Hlt1 : Hid (w.heap.size + 1 < wA.heap.size) := HR.lt
    go_wp2_with fail
    refine (rdVar_any base g l (preS s (2, n, big)) _ hRB Hok.out hl).mono ?_
    rw [Hr.out]
    rintro x w3 ⟨rfl, hR3, hg3⟩
    have HP3 := Blk.grown HP hg3 (fun e => by injection e with e; have := Hlt.out; have := Hlt1.out; omega)
    have HR3 := Blk.grown HR1 hg3 (fun e => by injection e with e; have := Hlt.out; omega)
    have hgw := grownTrans hgB hg3
    have p0 : w3.cell? ⟨wA.heap.size, 0, none⟩ = some (.int .u64 0) := HP3.cell 0
    have pf := HP3.frozen 0
    clear HX HR HP HR1 x0 x1 x2 hRA hRB hgA hgB hb3
    have hne : wA.heap.size ≠ w.heap.size + 1 := by have := Hlt1.out; omega
    have hg4 := grownSet w3 ⟨wA.heap.size, 0, none⟩ (.int .u64 (q : Int))
    have hR4 := hR3.off hg4 HP3 (by decide) (by decide)
    have HP4 := Blk.set_ HP3 0 (.int .u64 (q : Int))
    have HR4 := Blk.far HR3 (p := ⟨wA.heap.size, 0, none⟩) (Ne.symm hne) (.int .u64 (q : Int))
    have hgw4 := grownSetNew hgw (p := ⟨wA.heap.size, 0, none⟩) (by have := Hlt1.out; simp only; omega) (.int .u64 (q : Int))
    clear hR3 hg3 HP3 HR3 hgw hg4
    go_wp2_with fail
    refine (check_ok base g l s2 _ hR4 Hz.out).mono ?_
    rintro x w5 ⟨rfl, rfl⟩
    have q0 : (w3.setCell ⟨wA.heap.size, 0, none⟩ (.int .u64 (q : Int))).cell? ⟨wA.heap.size, 0, none⟩ = some (.int .u64 (q : Int)) := HP4.cell 0
    have q1 : (w3.setCell ⟨wA.heap.size, 0, none⟩ (.int .u64 (q : Int))).cell? ⟨wA.heap.size, 1, none⟩ = some (.slice none 0 0) := HP4.cell 1
    have r0 : (w3.setCell ⟨wA.heap.size, 0, none⟩ (.int .u64 (q : Int))).cell? ⟨w.heap.size + 1, 0, none⟩ = some (.int .u64 0) := HR4.cell 0
    have r1 : (w3.setCell ⟨wA.heap.size, 0, none⟩ (.int .u64 (q : Int))).cell? ⟨w.heap.size + 1, 1, none⟩ = some (.slice none 0 0) := HR4.cell 1
    have rf : ∀ i, (w3.setCell ⟨wA.heap.size, 0, none⟩ (.int .u64 (q : Int))).frozen? ⟨w.heap.size + 1, i, none⟩ = false := fun i => HR4.frozen i
    have HE := Lib.hid (read_tail (q := q) (b := []) HR4 hR4 hgw4 Hz.out (World.ownsRow_nil _ _ _ _))
    clear HP4 hR4 hgw4
    go_wp2
    refine bodyPost_ret (v := .agg #[.int .u64 (q : Int), .slice none 0 0]) (results_cell_row (P := Try.prog) rfl _ _ (w.heap.size + 1) _ _ _ _ rfl HE.out.2 Try.underlying70 rfl (by kernel_rfl)) rfl HE.out.1
  · have Hz := Lib.hid hz
    clear hz
    go_enter Try.func37, Try.ntmps37
    go_wp2_with fail
    refine (may_any 2 n big _ true Hb.out).mono ?_
    rintro x w1 ⟨rfl, hb1⟩
    have HX0 : Blk w1 w.heap.size 68 #[.int .i64 2, .int .i64 n, .bool big] := Blk.below (Blk.alloc (Blk.new w _ _ _ rfl) _) hb1 (by simp; omega)
    have HR0 : Blk w1 (w.heap.size + 1) 70 #[.int .u64 0, .slice none 0 0] := Blk.below (Blk.new _ _ _ _ (by simp)) hb1 (by simp)
    have hb2 : Below w.heap.size w w1 := ((((Below.refl _ w).alloc (Nat.le_refl _) _).alloc (by simp) _)).trans (hb1.mono (by simp; omega))
    obtain ⟨wA, rfl⟩ : ∃ wA, wA = w1 := ⟨_, rfl⟩
    have HX := HX0
    have HR := HR0
    have hgA := grownOf hb2 (row := some g)
    have hRA := H.out.below hb2
    rw [← Hp.out] at hRA
    clear HX0 HR0 hb1 hb2
    have x0 : ∀ o, (wA.alloc o).cell? ⟨w.heap.size, 0, none⟩ = some (.int .i64 2) := fun o => Blk.cell (Blk.alloc HX o) 0
    have x1 : ∀ o, (wA.alloc o).cell? ⟨w.heap.size, 1, none⟩ = some (.int .i64 n) := fun o => Blk.cell (Blk.alloc HX o) 1
    have x2 : ∀ o, (wA.alloc o).cell? ⟨w.heap.size, 2, none⟩ = some (.bool big) := fun o => Blk.cell (Blk.alloc HX o) 2
    have HP : Blk (wA.alloc (.cells #[.int .u64 0, .slice none 0 0] 70)) wA.heap.size 70 #[.int .u64 0, .slice none 0 0] := Blk.new wA _ _ _ rfl
    have HR1 := Blk.alloc HR (.cells #[.int .u64 0, .slice none 0 0] 70)
    have hb3 := (Below.refl wA.heap.size wA).alloc (Nat.le_refl _) (.cells #[.int .u64 0, .slice none 0 0] 70)
    have hgB := grownTrans hgA (grownOf hb3 (row := some g))
    have hRB := hRA.below hb3
    have Hlt1 : Hid (w.heap.size + 1 < wA.heap.size) := HR.lt
    go_wp2_with fail
    refine (rdVar_any base g l (preS s (2, n, big)) _ hRB Hok.out hl).mono ?_
    rw [Hr.out]
    rintro x w3 ⟨rfl, hR3, hg3⟩
    have HP3 := Blk.grown HP hg3 (fun e => by injection e with e; have := Hlt.out; have := Hlt1.out; omega)
    have HR3 := Blk.grown HR1 hg3 (fun e => by injection e with e; have := Hlt.out; omega)
    have hgw := grownTrans hgB hg3
    have p0 : w3.cell? ⟨wA.heap.size, 0, none⟩ = some (.int .u64 0) := HP3.cell 0
    have pf := HP3.frozen 0
    clear HX HR HP HR1 x0 x1 x2 hRA hRB hgA hgB hb3
    have hne : wA.heap.size ≠ w.heap.size + 1 := by have := Hlt1.out; omega
    have hg4 := grownSet w3 ⟨wA.heap.size, 0, none⟩ (.int .u64 (q : Int))
    have hR4 := hR3.off hg4 HP3 (by decide) (by decide)
    have HP4 := Blk.set_ HP3 0 (.int .u64 (q : Int))
    have HR4 := Blk.far HR3 (p := ⟨wA.heap.size, 0, none⟩) (Ne.symm hne) (.int .u64 (q : Int))
    have hgw4 := grownSetNew hgw (p := ⟨wA.heap.size, 0, none⟩) (by have := Hlt1.out; simp only; omega) (.int .u64 (q : Int))
    clear hR3 hg3 HP3 HR3 hgw hg4
    go_wp2_with fail
    refine (check_bad base g l s2 _ hR4 Hz.out).mono ?_
    rintro x w5 ⟨hx, rfl⟩
    unfold spotPanic at hx
    subst hx
    go_wp2
    exact ⟨rfl, hR4, hgw4, .inr ⟨Hz.out, rfl⟩⟩

set_option maxHeartbeats 1600000 in
set_option maxRecDepth 100000 in
theorem read_take (base g : Nat) (l : List UInt8) (s : St) (w : World) (n : Int) (big : Bool) (h : RdW w base g l s) (hs : okS l s) (hl : l.length ≤ 1000000000) (hn : n < 9223372036854775808) :
    Calls Try.prog 37 #[.pointer (some ⟨g, 0, none⟩), .agg #[.int .i64 3, .int .i64 n, .bool big]] w (ReadIs w base g l (readS l s (3, n, big))) := by
  have H := Lib.hid h
  have Hs := Lib.hid hs
  have Hlt := Lib.hid h.lt
  have Hok := Lib.hid (ok_pre hs (3, n, big))
  have Hn := Lib.hid hn
  clear hn
  rw [show readS l s (3, n, big) = ((takeS l (preS s (3, n, big)) n).1, 0, (takeS l (preS s (3, n, big)) n).2) from rfl]
  rcases hr : takeS l (preS s (3, n, big)) n with ⟨s2, b⟩
  have Hr := Lib.hid hr
  rcases hb : mayB (3, n, big) with _ | _
  · have hp : preS s (3, n, big) = failS s 1 := by unfold preS; rw [hb]; rfl
    have Hp := Lib.hid hp
    have Hb := Lib.hid hb
    clear h hs hr hb hp
    by_cases hz : s2.2.2 = 0
    · have Hz := Lib.hid hz
      clear hz
      go_enter Try.func37, Try.ntmps37
      go_wp2_with fail
      refine (may_any 3 n big _ false Hb.out).mono ?_
      rintro x w1 ⟨rfl, hb1⟩
      have HX0 : Blk w1 w.heap.size 68 #[.int .i64 3, .int .i64 n, .bool big] := Blk.below (Blk.alloc (Blk.new w _ _ _ rfl) _) hb1 (by simp; omega)
      have HR0 : Blk w1 (w.heap.size + 1) 70 #[.int .u64 0, .slice none 0 0] := Blk.below (Blk.new _ _ _ _ (by simp)) hb1 (by simp)
      have hb2 : Below w.heap.size w w1 := ((((Below.refl _ w).alloc (Nat.le_refl _) _).alloc (by simp) _)).trans (hb1.mono (by simp; omega))
      go_wp2_with fail
      refine (rdFail_st base g l s 1 _ (H.out.below hb2)).mono ?_
      rintro x wA ⟨rfl, hRA, hgF⟩
      have HX := Blk.grown HX0 hgF (fun e => by injection e with e; have := Hlt.out; omega)
      have HR := Blk.grown HR0 hgF (fun e => by injection e with e; have := Hlt.out; omega)
      have hgA := grownTrans (grownOf hb2 (row := some g)) hgF
      rw [← Hp.out] at hRA
      clear HX0 HR0 hgF hb1 hb2
      have x0 : ∀ o, (wA.alloc o).cell? ⟨w.heap.size, 0, none⟩ = some (.int .i64 3) := fun o => Blk.cell (Blk.alloc HX o) 0
      have x1 : ∀ o, (wA.alloc o).cell? ⟨w.heap.size, 1, none⟩ = some (.int .i64 n) := fun o => Blk.cell (Blk.alloc HX o) 1
      have x2 : ∀ o, (wA.alloc o).cell? ⟨w.heap.size, 2, none⟩ = some (.bool big) := fun o => Blk.cell (Blk.alloc HX o) 2
      have HP : Blk (wA.alloc (.cells #[.int .u64 0, .slice none 0 0] 70)) wA.heap.size 70 #[.int .u64 0, .slice none 0 0] := Blk.new wA _ _ _ rfl
      have HR1 := Blk.alloc HR (.cells #[.int .u64 0, .slice none 0 0] 70)
      have hb3 := (Below.refl wA.heap.size wA).alloc (Nat.le_refl _) (.cells #[.int .u64 0, .slice none 0 0] 70)
      have hgB := grownTrans hgA (grownOf hb3 (row := some g))
      have hRB := hRA.below hb3
      have Hlt1 : Hid (w.heap.size + 1 < wA.heap.size) := HR.lt
      go_wp2_with fail
      refine (rdTake_any base g l (preS s (3, n, big)) _ n hRB Hok.out hl Hn.out).mono ?_
      rw [Hr.out]
      rintro x w3 ⟨A, c, rfl, hown, hR3, hg3⟩
      have HP3 := Blk.grown HP hg3 (fun e => by injection e with e; have := Hlt.out; have := Hlt1.out; omega)
      have HR3 := Blk.grown HR1 hg3 (fun e => by injection e with e; have := Hlt.out; omega)
      have hgw := grownTrans hgB hg3
      have p0 : w3.cell? ⟨wA.heap.size, 1, none⟩ = some (.slice none 0 0) := HP3.cell 1
      have pf := HP3.frozen 1
      clear HX HR HP HR1 x0 x1 x2 hRA hRB hgA hgB hb3
      have hne : wA.heap.size ≠ w.heap.size + 1 := by have := Hlt1.out; omega
      have hg4 := grownSet w3 ⟨wA.heap.size, 1, none⟩ (.slice A b.length c)
      have hR4 := hR3.off hg4 HP3 (by decide) (by decide)
      have HP4 := Blk.set_ HP3 1 (.slice A b.length c)
      have HR4 := Blk.far HR3 (p := ⟨wA.heap.size, 1, none⟩) (Ne.symm hne) (.slice A b.length c)
      have hgw4 := grownSetNew hgw (p := ⟨wA.heap.size, 1, none⟩) (by have := Hlt1.out; simp only; omega) (.slice A b.length c)
      have Hown4 := Lib.hid (own_base' (hown.kept hg4 (own_blk_ne hown HP3 (by decide))) (Nat.le_trans (Nat.le_trans (Nat.le_succ _) (Nat.le_of_lt Hlt1.out)) (by simp : wA.heap.size ≤ (wA.alloc (.cells #[.int .u64 0, .slice none 0 0] 70)).heap.size)))
      clear hown
      clear hR3 hg3 HP3 HR3 hgw hg4
      go_wp2_with fail
      refine (check_ok base g l s2 _ hR4 Hz.out).mono ?_
      rintro x w5 ⟨rfl, rfl⟩
      have q0 : (w3.setCell ⟨wA.heap.size, 1, none⟩ (.slice A b.length c)).cell? ⟨wA.heap.size, 0, none⟩ = some (.int .u64 0) := HP4.cell 0
      have q1 : (w3.setCell ⟨wA.heap.size, 1, none⟩ (.slice A b.length c)).cell? ⟨wA.heap.size, 1, none⟩ = some (.slice A b.length c) := HP4.cell 1
      have r0 : (w3.setCell ⟨wA.heap.size, 1, none⟩ (.slice A b.length c)).cell? ⟨w.heap.size + 1, 0, none⟩ = some (.int .u64 0) := HR4.cell 0
      have r1 : (w3.setCell ⟨wA.heap.size, 1, none⟩ (.slice A b.length c)).cell? ⟨w.heap.size + 1, 1, none⟩ = some (.slice none 0 0) := HR4.cell 1
      have rf : ∀ i, (w3.setCell ⟨wA.heap.size, 1, none⟩ (.slice A b.length c)).frozen? ⟨w.heap.size + 1, i, none⟩ = false := fun i => HR4.frozen i
      have HE := Lib.hid (read_tail (q := 0) (b := b) HR4 hR4 hgw4 Hz.out (Hown4.out))
      clear HP4 hR4 hgw4
      go_wp2
      refine bodyPost_ret (v := .agg #[.int .u64 0, .slice A b.length c]) (results_cell_row (P := Try.prog) rfl _ _ (w.heap.size + 1) _ _ _ _ rfl HE.out.2 Try.underlying70 rfl (by kernel_rfl)) rfl HE.out.1
    · have Hz := Lib.hid hz
      clear hz
      go_enter Try.func37, Try.ntmps37
      go_wp2_with fail
      refine (may_any 3 n big _ false Hb.out).mono ?_
      rintro x w1 ⟨rfl, hb1⟩
      have HX0 : Blk w1 w.heap.size 68 #[.int .i64 3, .int .i64 n, .bool big] := Blk.below (Blk.alloc (Blk.new w _ _ _ rfl) _) hb1 (by simp; omega)
      have HR0 : Blk w1 (w.heap.size + 1) 70 #[.int .u64 0, .slice none 0 0] := Blk.below (Blk.new _ _ _ _ (by simp)) hb1 (by simp)
      have hb2 : Below w.heap.size w w1 := ((((Below.refl _ w).alloc (Nat.le_refl _) _).alloc (by simp) _)).trans (hb1.mono (by simp; omega))
      go_wp2_with fail
      refine (rdFail_st base g l s 1 _ (H.out.below hb2)).mono ?_
      rintro x wA ⟨rfl, hRA, hgF⟩
      have HX := Blk.grown HX0 hgF (fun e => by injection e with e; have := Hlt.out; omega)
      have HR := Blk.grown HR0 hgF (fun e => by injection e with e; have := Hlt.out; omega)
      have hgA := grownTrans (grownOf hb2 (row := some g)) hgF
      rw [← Hp.out] at hRA
      clear HX0 HR0 hgF hb1 hb2
      have x0 : ∀ o, (wA.alloc o).cell? ⟨w.heap.size, 0, none⟩ = some (.int .i64 3) := fun o => Blk.cell (Blk.alloc HX o) 0
      have x1 : ∀ o, (wA.alloc o).cell? ⟨w.heap.size, 1, none⟩ = some (.int .i64 n) := fun o => Blk.cell (Blk.alloc HX o) 1
      have x2 : ∀ o, (wA.alloc o).cell? ⟨w.heap.size, 2, none⟩ = some (.bool big) := fun o => Blk.cell (Blk.alloc HX o) 2
      have HP : Blk (wA.alloc (.cells #[.int .u64 0, .slice none 0 0] 70)) wA.heap.size 70 #[.int .u64 0, .slice none 0 0] := Blk.new wA _ _ _ rfl
      have HR1 := Blk.alloc HR (.cells #[.int .u64 0, .slice none 0 0] 70)
      have hb3 := (Below.refl wA.heap.size wA).alloc (Nat.le_refl _) (.cells #[.int .u64 0, .slice none 0 0] 70)
      have hgB := grownTrans hgA (grownOf hb3 (row := some g))
      have hRB := hRA.below hb3
      have Hlt1 : Hid (w.heap.size + 1 < wA.heap.size) := HR.lt
      go_wp2_with fail
      refine (rdTake_any base g l (preS s (3, n, big)) _ n hRB Hok.out hl Hn.out).mono ?_
      rw [Hr.out]
      rintro x w3 ⟨A, c, rfl, hown, hR3, hg3⟩
      have HP3 := Blk.grown HP hg3 (fun e => by injection e with e; have := Hlt.out; have := Hlt1.out; omega)
      have HR3 := Blk.grown HR1 hg3 (fun e => by injection e with e; have := Hlt.out; omega)
      have hgw := grownTrans hgB hg3
      have p0 : w3.cell? ⟨wA.heap.size, 1, none⟩ = some (.slice none 0 0) := HP3.cell 1
      have pf := HP3.frozen 1
      clear HX HR HP HR1 x0 x1 x2 hRA hRB hgA hgB hb3
      have hne : wA.heap.size ≠ w.heap.size + 1 := by have := Hlt1.out; omega
      have hg4 := grownSet w3 ⟨wA.heap.size, 1, none⟩ (.slice A b.length c)
      have hR4 := hR3.off hg4 HP3 (by decide) (by decide)
      have HP4 := Blk.set_ HP3 1 (.slice A b.length c)
      have HR4 := Blk.far HR3 (p := ⟨wA.heap.size, 1, none⟩) (Ne.symm hne) (.slice A b.length c)
      have hgw4 := grownSetNew hgw (p := ⟨wA.heap.size, 1, none⟩) (by have := Hlt1.out; simp only; omega) (.slice A b.length c)
      have Hown4 := Lib.hid (own_base' (hown.kept hg4 (own_blk_ne hown HP3 (by decide))) (Nat.le_trans (Nat.le_trans (Nat.le_succ _) (Nat.le_of_lt Hlt1.out)) (by simp : wA.heap.size ≤ (wA.alloc (.cells #[.int .u64 0, .slice none 0 0] 70)).heap.size)))
      clear hown
      clear hR3 hg3 HP3 HR3 hgw hg4
      go_wp2_with fail
      refine (check_bad base g l s2 _ hR4 Hz.out).mono ?_
      rintro x w5 ⟨hx, rfl⟩
      unfold spotPanic at hx
      subst hx
      go_wp2
      exact ⟨rfl, hR4, hgw4, .inr ⟨Hz.out, rfl⟩⟩
  · have hp : preS s (3, n, big) = s := by unfold preS; rw [hb]; rfl
    have Hp := Lib.hid hp
    have Hb := Lib.hid hb
    clear h hs hr hb hp
    by_cases hz : s2.2.2 = 0
    · have Hz := Lib.hid hz
      clear hz
      go_enter Try.func37, Try.ntmps37
      go_wp2_with fail
      refine (may_any 3 n big _ true Hb.out).mono ?_
      rintro x w1 ⟨rfl, hb1⟩
      have HX0 : Blk w1 w.heap.size 68 #[.int .i64 3, .int .i64 n, .bool big] := Blk.below (Blk.alloc (Blk.new w _ _ _ rfl) _) hb1 (by simp; omega)
      have HR0 : Blk w1 (w.heap.size + 1) 70 #[.int .u64 0, .slice none 0 0] := Blk.below (Blk.new _ _ _ _ (by simp)) hb1 (by simp)
      have hb2 : Below w.heap.size w w1 := ((((Below.refl _ w).alloc (Nat.le_refl _) _).alloc (by simp) _)).trans (hb1.mono (by simp; omega))
      obtain ⟨wA, rfl⟩ : ∃ wA, wA = w1 := ⟨_, rfl⟩
      have HX := HX0
      have HR := HR0
      have hgA := grownOf hb2 (row := some g)
      have hRA := H.out.below hb2
      rw [← Hp.out] at hRA
      clear HX0 HR0 hb1 hb2
      have x0 : ∀ o, (wA.alloc o).cell? ⟨w.heap.size, 0, none⟩ = some (.int .i64 3) := fun o => Blk.cell (Blk.alloc HX o) 0
      have x1 : ∀ o, (wA.alloc o).cell? ⟨w.heap.size, 1, none⟩ = some (.int .i64 n) := fun o => Blk.cell (Blk.alloc HX o) 1
      have x2 : ∀ o, (wA.alloc o).cell? ⟨w.heap.size, 2, none⟩ = some (.bool big) := fun o => Blk.cell (Blk.alloc HX o) 2
      have HP : Blk (wA.alloc (.cells #[.int .u64 0, .slice none 0 0] 70)) wA.heap.size 70 #[.int .u64 0, .slice none 0 0] := Blk.new wA _ _ _ rfl
      have HR1 := Blk.alloc HR (.cells #[.int .u64 0, .slice none 0 0] 70)
      have hb3 := (Below.refl wA.heap.size wA).alloc (Nat.le_refl _) (.cells #[.int .u64 0, .slice none 0 0] 70)
      have hgB := grownTrans hgA (grownOf hb3 (row := some g))
      have hRB := hRA.below hb3
      have Hlt1 : Hid (w.heap.size + 1 < wA.heap.size) := HR.lt
      go_wp2_with fail
      refine (rdTake_any base g l (preS s (3, n, big)) _ n hRB Hok.out hl Hn.out).mono ?_
      rw [Hr.out]
      rintro x w3 ⟨A, c, rfl, hown, hR3, hg3⟩
      have HP3 := Blk.grown HP hg3 (fun e => by injection e with e; have := Hlt.out; have := Hlt1.out; omega)
      have HR3 := Blk.grown HR1 hg3 (fun e => by injection e with e; have := Hlt.out; omega)
      have hgw := grownTrans hgB hg3
      have p0 : w3.cell? ⟨wA.heap.size, 1, none⟩ = some (.slice none 0 0) := HP3.cell 1
      have pf := HP3.frozen 1
      clear HX HR HP HR1 x0 x1 x2 hRA hRB hgA hgB hb3
      have hne : wA.heap.size ≠ w.heap.size + 1 := by have := Hlt1.out; omega
      have hg4 := grownSet w3 ⟨wA.heap.size, 1, none⟩ (.slice A b.length c)
      have hR4 := hR3.off hg4 HP3 (by decide) (by decide)
      have HP4 := Blk.set_ HP3 1 (.slice A b.length c)
      have HR4 := Blk.far HR3 (p := ⟨wA.heap.size, 1, none⟩) (Ne.symm hne) (.slice A b.length c)
      have hgw4 := grownSetNew hgw (p := ⟨wA.heap.size, 1, none⟩) (by have := Hlt1.out; simp only; omega) (.slice A b.length c)
      have Hown4 := Lib.hid (own_base' (hown.kept hg4 (own_blk_ne hown HP3 (by decide))) (Nat.le_trans (Nat.le_trans (Nat.le_succ _) (Nat.le_of_lt Hlt1.out)) (by simp : wA.heap.size ≤ (wA.alloc (.cells #[.int .u64 0, .slice none 0 0] 70)).heap.size)))
      clear hown
      clear hR3 hg3 HP3 HR3 hgw hg4
      go_wp2_with fail
      refine (check_ok base g l s2 _ hR4 Hz.out).mono ?_
      rintro x w5 ⟨rfl, rfl⟩
      have q0 : (w3.setCell ⟨wA.heap.size, 1, none⟩ (.slice A b.length c)).cell? ⟨wA.heap.size, 0, none⟩ = some (.int .u64 0) := HP4.cell 0
      have q1 : (w3.setCell ⟨wA.heap.size, 1, none⟩ (.slice A b.length c)).cell? ⟨wA.heap.size, 1, none⟩ = some (.slice A b.length c) := HP4.cell 1
      have r0 : (w3.setCell ⟨wA.heap.size, 1, none⟩ (.slice A b.length c)).cell? ⟨w.heap.size + 1, 0, none⟩ = some (.int .u64 0) := HR4.cell 0
      have r1 : (w3.setCell ⟨wA.heap.size, 1, none⟩ (.slice A b.length c)).cell? ⟨w.heap.size + 1, 1, none⟩ = some (.slice none 0 0) := HR4.cell 1
      have rf : ∀ i, (w3.setCell ⟨wA.heap.size, 1, none⟩ (.slice A b.length c)).frozen? ⟨w.heap.size + 1, i, none⟩ = false := fun i => HR4.frozen i
      have HE := Lib.hid (read_tail (q := 0) (b := b) HR4 hR4 hgw4 Hz.out (Hown4.out))
      clear HP4 hR4 hgw4
      go_wp2
      refine bodyPost_ret (v := .agg #[.int .u64 0, .slice A b.length c]) (results_cell_row (P := Try.prog) rfl _ _ (w.heap.size + 1) _ _ _ _ rfl HE.out.2 Try.underlying70 rfl (by kernel_rfl)) rfl HE.out.1
    · have Hz := Lib.hid hz
      clear hz
      go_enter Try.func37, Try.ntmps37
      go_wp2_with fail
      refine (may_any 3 n big _ true Hb.out).mono ?_
      rintro x w1 ⟨rfl, hb1⟩
      have HX0 : Blk w1 w.heap.size 68 #[.int .i64 3, .int .i64 n, .bool big] := Blk.below (Blk.alloc (Blk.new w _ _ _ rfl) _) hb1 (by simp; omega)
      have HR0 : Blk w1 (w.heap.size + 1) 70 #[.int .u64 0, .slice none 0 0] := Blk.below (Blk.new _ _ _ _ (by simp)) hb1 (by simp)
      have hb2 : Below w.heap.size w w1 := ((((Below.refl _ w).alloc (Nat.le_refl _) _).alloc (by simp) _)).trans (hb1.mono (by simp; omega))
      obtain ⟨wA, rfl⟩ : ∃ wA, wA = w1 := ⟨_, rfl⟩
      have HX := HX0
      have HR := HR0
      have hgA := grownOf hb2 (row := some g)
      have hRA := H.out.below hb2
      rw [← Hp.out] at hRA
      clear HX0 HR0 hb1 hb2
      have x0 : ∀ o, (wA.alloc o).cell? ⟨w.heap.size, 0, none⟩ = some (.int .i64 3) := fun o => Blk.cell (Blk.alloc HX o) 0
      have x1 : ∀ o, (wA.alloc o).cell? ⟨w.heap.size, 1, none⟩ = some (.int .i64 n) := fun o => Blk.cell (Blk.alloc HX o) 1
      have x2 : ∀ o, (wA.alloc o).cell? ⟨w.heap.size, 2, none⟩ = some (.bool big) := fun o => Blk.cell (Blk.alloc HX o) 2
      have HP : Blk (wA.alloc (.cells #[.int .u64 0, .slice none 0 0] 70)) wA.heap.size 70 #[.int .u64 0, .slice none 0 0] := Blk.new wA _ _ _ rfl
      have HR1 := Blk.alloc HR (.cells #[.int .u64 0, .slice none 0 0] 70)
      have hb3 := (Below.refl wA.heap.size wA).alloc (Nat.le_refl _) (.cells #[.int .u64 0, .slice none 0 0] 70)
      have hgB := grownTrans hgA (grownOf hb3 (row := some g))
      have hRB := hRA.below hb3
      have Hlt1 : Hid (w.heap.size + 1 < wA.heap.size) := HR.lt
      go_wp2_with fail
      refine (rdTake_any base g l (preS s (3, n, big)) _ n hRB Hok.out hl Hn.out).mono ?_
      rw [Hr.out]
      rintro x w3 ⟨A, c, rfl, hown, hR3, hg3⟩
      have HP3 := Blk.grown HP hg3 (fun e => by injection e with e; have := Hlt.out; have := Hlt1.out; omega)
      have HR3 := Blk.grown HR1 hg3 (fun e => by injection e with e; have := Hlt.out; omega)
      have hgw := grownTrans hgB hg3
      have p0 : w3.cell? ⟨wA.heap.size, 1, none⟩ = some (.slice none 0 0) := HP3.cell 1
      have pf := HP3.frozen 1
      clear HX HR HP HR1 x0 x1 x2 hRA hRB hgA hgB hb3
      have hne : wA.heap.size ≠ w.heap.size + 1 := by have := Hlt1.out; omega
      have hg4 := grownSet w3 ⟨wA.heap.size, 1, none⟩ (.slice A b.length c)
      have hR4 := hR3.off hg4 HP3 (by decide) (by decide)
      have HP4 := Blk.set_ HP3 1 (.slice A b.length c)
      have HR4 := Blk.far HR3 (p := ⟨wA.heap.size, 1, none⟩) (Ne.symm hne) (.slice A b.length c)
      have hgw4 := grownSetNew hgw (p := ⟨wA.heap.size, 1, none⟩) (by have := Hlt1.out; simp only; omega) (.slice A b.length c)
      have Hown4 := Lib.hid (own_base' (hown.kept hg4 (own_blk_ne hown HP3 (by decide))) (Nat.le_trans (Nat.le_trans (Nat.le_succ _) (Nat.le_of_lt Hlt1.out)) (by simp : wA.heap.size ≤ (wA.alloc (.cells #[.int .u64 0, .slice none 0 0] 70)).heap.size)))
      clear hown
      clear hR3 hg3 HP3 HR3 hgw hg4
      go_wp2_with fail
      refine (check_bad base g l s2 _ hR4 Hz.out).mono ?_
      rintro x w5 ⟨hx, rfl⟩
      unfold spotPanic at hx
      subst hx
      go_wp2
      exact ⟨rfl, hR4, hgw4, .inr ⟨Hz.out, rfl⟩⟩

set_option maxHeartbeats 1600000 in
set_option maxRecDepth 100000 in
theorem read_text (base g : Nat) (l : List UInt8) (s : St) (w : World) (n : Int) (big : Bool) (h : RdW w base g l s) (hs : okS l s) (hl : l.length ≤ 1000000000) (hn : n < 9223372036854775808) :
    Calls Try.prog 37 #[.pointer (some ⟨g, 0, none⟩), .agg #[.int .i64 4, .int .i64 n, .bool big]] w (ReadIs w base g l (readS l s (4, n, big))) := by
  have H := Lib.hid h
  have Hs := Lib.hid hs
  have Hlt := Lib.hid h.lt
  have Hok := Lib.hid (ok_pre hs (4, n, big))
  have Hn := Lib.hid hn
  clear hn
  rw [show readS l s (4, n, big) = ((textS l (preS s (4, n, big)) n).1, 0, (textS l (preS s (4, n, big)) n).2) from rfl]
  rcases hr : textS l (preS s (4, n, big)) n with ⟨s2, b⟩
  have Hr := Lib.hid hr
  rcases hb : mayB (4, n, big) with _ | _
  · have hp : preS s (4, n, big) = failS s 1 := by unfold preS; rw [hb]; rfl
    have Hp := Lib.hid hp
    have Hb := Lib.hid hb
    clear h hs hr hb hp
    by_cases hz : s2.2.2 = 0
    · have Hz := Lib.hid hz
      clear hz
      go_enter Try.func37, Try.ntmps37
      go_wp2_with fail
      refine (may_any 4 n big _ false Hb.out).mono ?_
      rintro x w1 ⟨rfl, hb1⟩
      have HX0 : Blk w1 w.heap.size 68 #[.int .i64 4, .int .i64 n, .bool big] := Blk.below (Blk.alloc (Blk.new w _ _ _ rfl) _) hb1 (by simp; omega)
      have HR0 : Blk w1 (w.heap.size + 1) 70 #[.int .u64 0, .slice none 0 0] := Blk.below (Blk.new _ _ _ _ (by simp)) hb1 (by simp)
      have hb2 : Below w.heap.size w w1 := ((((Below.refl _ w).alloc (Nat.le_refl _) _).alloc (by simp) _)).trans (hb1.mono (by simp; omega))
      go_wp2_with fail
      refine (rdFail_st base g l s 1 _ (H.out.below hb2)).mono ?_
      rintro x wA ⟨rfl, hRA, hgF⟩
      have HX := Blk.grown HX0 hgF (fun e => by injection e with e; have := Hlt.out; omega)
      have HR := Blk.grown HR0 hgF (fun e => by injection e with e; have := Hlt.out; omega)
      have hgA := grownTrans (grownOf hb2 (row := some g)) hgF
      rw [← Hp.out] at hRA
      clear HX0 HR0 hgF hb1 hb2
      have x0 : ∀ o, (wA.alloc o).cell? ⟨w.heap.size, 0, none⟩ = some (.int .i64 4) := fun o => Blk.cell (Blk.alloc HX o) 0
      have x1 : ∀ o, (wA.alloc o).cell? ⟨w.heap.size, 1, none⟩ = some (.int .i64 n) := fun o => Blk.cell (Blk.alloc HX o) 1
      have x2 : ∀ o, (wA.alloc o).cell? ⟨w.heap.size, 2, none⟩ = some (.bool big) := fun o => Blk.cell (Blk.alloc HX o) 2
      have HP : Blk (wA.alloc (.cells #[.int .u64 0, .slice none 0 0] 70)) wA.heap.size 70 #[.int .u64 0, .slice none 0 0] := Blk.new wA _ _ _ rfl
      have HR1 := Blk.alloc HR (.cells #[.int .u64 0, .slice none 0 0] 70)
      have hb3 := (Below.refl wA.heap.size wA).alloc (Nat.le_refl _) (.cells #[.int .u64 0, .slice none 0 0] 70)
      have hgB := grownTrans hgA (grownOf hb3 (row := some g))
      have hRB := hRA.below hb3
      have Hlt1 : Hid (w.heap.size + 1 < wA.heap.size) := HR.lt
      go_wp2_with fail
      refine (rdText_any base g l (preS s (4, n, big)) _ n hRB Hok.out hl Hn.out).mono ?_
      rw [Hr.out]
      rintro x w3 ⟨A, c, rfl, hown, hR3, hg3⟩
      have HP3 := Blk.grown HP hg3 (fun e => by injection e with e; have := Hlt.out; have := Hlt1.out; omega)
      have HR3 := Blk.grown HR1 hg3 (fun e => by injection e with e; have := Hlt.out; omega)
      have hgw := grownTrans hgB hg3
      have p0 : w3.cell? ⟨wA.heap.size, 1, none⟩ = some (.slice none 0 0) := HP3.cell 1
      have pf := HP3.frozen 1
      clear HX HR HP HR1 x0 x1 x2 hRA hRB hgA hgB hb3
      have hne : wA.heap.size ≠ w.heap.size + 1 := by have := Hlt1.out; omega
      have hg4 := grownSet w3 ⟨wA.heap.size, 1, none⟩ (.slice A b.length c)
      have hR4 := hR3.off hg4 HP3 (by decide) (by decide)
      have HP4 := Blk.set_ HP3 1 (.slice A b.length c)
      have HR4 := Blk.far HR3 (p := ⟨wA.heap.size, 1, none⟩) (Ne.symm hne) (.slice A b.length c)
      have hgw4 := grownSetNew hgw (p := ⟨wA.heap.size, 1, none⟩) (by have := Hlt1.out; simp only; omega) (.slice A b.length c)
      have Hown4 := Lib.hid (own_base' (hown.kept hg4 (own_blk_ne hown HP3 (by decide))) (Nat.le_trans (Nat.le_trans (Nat.le_succ _) (Nat.le_of_lt Hlt1.out)) (by simp : wA.heap.size ≤ (wA.alloc (.cells #[.int .u64 0, .slice none 0 0] 70)).heap.size)))
      clear hown
      clear hR3 hg3 HP3 HR3 hgw hg4
      go_wp2_with fail
      refine (check_ok base g l s2 _ hR4 Hz.out).mono ?_
      rintro x w5 ⟨rfl, rfl⟩
      have q0 : (w3.setCell ⟨wA.heap.size, 1, none⟩ (.slice A b.length c)).cell? ⟨wA.heap.size, 0, none⟩ = some (.int .u64 0) := HP4.cell 0
      have q1 : (w3.setCell ⟨wA.heap.size, 1, none⟩ (.slice A b.length c)).cell? ⟨wA.heap.size, 1, none⟩ = some (.slice A b.length c) := HP4.cell 1
      have r0 : (w3.setCell ⟨wA.heap.size, 1, none⟩ (.slice A b.length c)).cell? ⟨w.heap.size + 1, 0, none⟩ = some (.int .u64 0) := HR4.cell 0
      have r1 : (w3.setCell ⟨wA.heap.size, 1, none⟩ (.slice A b.length c)).cell? ⟨w.heap.size + 1, 1, none⟩ = some (.slice none 0 0) := HR4.cell 1
      have rf : ∀ i, (w3.setCell ⟨wA.heap.size, 1, none⟩ (.slice A b.length c)).frozen? ⟨w.heap.size + 1, i, none⟩ = false := fun i => HR4.frozen i
      have HE := Lib.hid (read_tail (q := 0) (b := b) HR4 hR4 hgw4 Hz.out (Hown4.out))
      clear HP4 hR4 hgw4
      go_wp2
      refine bodyPost_ret (v := .agg #[.int .u64 0, .slice A b.length c]) (results_cell_row (P := Try.prog) rfl _ _ (w.heap.size + 1) _ _ _ _ rfl HE.out.2 Try.underlying70 rfl (by kernel_rfl)) rfl HE.out.1
    · have Hz := Lib.hid hz
      clear hz
      go_enter Try.func37, Try.ntmps37
      go_wp2_with fail
      refine (may_any 4 n big _ false Hb.out).mono ?_
      rintro x w1 ⟨rfl, hb1⟩
      have HX0 : Blk w1 w.heap.size 68 #[.int .i64 4, .int .i64 n, .bool big] := Blk.below (Blk.alloc (Blk.new w _ _ _ rfl) _) hb1 (by simp; omega)
      have HR0 : Blk w1 (w.heap.size + 1) 70 #[.int .u64 0, .slice none 0 0] := Blk.below (Blk.new _ _ _ _ (by simp)) hb1 (by simp)
      have hb2 : Below w.heap.size w w1 := ((((Below.refl _ w).alloc (Nat.le_refl _) _).alloc (by simp) _)).trans (hb1.mono (by simp; omega))
      go_wp2_with fail
      refine (rdFail_st base g l s 1 _ (H.out.below hb2)).mono ?_
      rintro x wA ⟨rfl, hRA, hgF⟩
      have HX := Blk.grown HX0 hgF (fun e => by injection e with e; have := Hlt.out; omega)
      have HR := Blk.grown HR0 hgF (fun e => by injection e with e; have := Hlt.out; omega)
      have hgA := grownTrans (grownOf hb2 (row := some g)) hgF
      rw [← Hp.out] at hRA
      clear HX0 HR0 hgF hb1 hb2
      have x0 : ∀ o, (wA.alloc o).cell? ⟨w.heap.size, 0, none⟩ = some (.int .i64 4) := fun o => Blk.cell (Blk.alloc HX o) 0
      have x1 : ∀ o, (wA.alloc o).cell? ⟨w.heap.size, 1, none⟩ = some (.int .i64 n) := fun o => Blk.cell (Blk.alloc HX o) 1
      have x2 : ∀ o, (wA.alloc o).cell? ⟨w.heap.size, 2, none⟩ = some (.bool big) := fun o => Blk.cell (Blk.alloc HX o) 2
      have HP : Blk (wA.alloc (.cells #[.int .u64 0, .slice none 0 0] 70)) wA.heap.size 70 #[.int .u64 0, .slice none 0 0] := Blk.new wA _ _ _ rfl
      have HR1 := Blk.alloc HR (.cells #[.int .u64 0, .slice none 0 0] 70)
      have hb3 := (Below.refl wA.heap.size wA).alloc (Nat.le_refl _) (.cells #[.int .u64 0, .slice none 0 0] 70)
      have hgB := grownTrans hgA (grownOf hb3 (row := some g))
      have hRB := hRA.below hb3
      have Hlt1 : Hid (w.heap.size + 1 < wA.heap.size) := HR.lt
      go_wp2_with fail
      refine (rdText_any base g l (preS s (4, n, big)) _ n hRB Hok.out hl Hn.out).mono ?_
      rw [Hr.out]
      rintro x w3 ⟨A, c, rfl, hown, hR3, hg3⟩
      have HP3 := Blk.grown HP hg3 (fun e => by injection e with e; have := Hlt.out; have := Hlt1.out; omega)
      have HR3 := Blk.grown HR1 hg3 (fun e => by injection e with e; have := Hlt.out; omega)
      have hgw := grownTrans hgB hg3
      have p0 : w3.cell? ⟨wA.heap.size, 1, none⟩ = some (.slice none 0 0) := HP3.cell 1
      have pf := HP3.frozen 1
      clear HX HR HP HR1 x0 x1 x2 hRA hRB hgA hgB hb3
      have hne : wA.heap.size ≠ w.heap.size + 1 := by have := Hlt1.out; omega
      have hg4 := grownSet w3 ⟨wA.heap.size, 1, none⟩ (.slice A b.length c)
      have hR4 := hR3.off hg4 HP3 (by decide) (by decide)
      have HP4 := Blk.set_ HP3 1 (.slice A b.length c)
      have HR4 := Blk.far HR3 (p := ⟨wA.heap.size, 1, none⟩) (Ne.symm hne) (.slice A b.length c)
      have hgw4 := grownSetNew hgw (p := ⟨wA.heap.size, 1, none⟩) (by have := Hlt1.out; simp only; omega) (.slice A b.length c)
      have Hown4 := Lib.hid (own_base' (hown.kept hg4 (own_blk_ne hown HP3 (by decide))) (Nat.le_trans (Nat.le_trans (Nat.le_succ _) (Nat.le_of_lt Hlt1.out)) (by simp : wA.heap.size ≤ (wA.alloc (.cells #[.int .u64 0, .slice none 0 0] 70)).heap.size)))
      clear hown
      clear hR3 hg3 HP3 HR3 hgw hg4
      go_wp2_with fail
      refine (check_bad base g l s2 _ hR4 Hz.out).mono ?_
      rintro x w5 ⟨hx, rfl⟩
      unfold spotPanic at hx
      subst hx
      go_wp2
      exact ⟨rfl, hR4, hgw4, .inr ⟨Hz.out, rfl⟩⟩
  · have hp : preS s (4, n, big) = s := by unfold preS; rw [hb]; rfl
    have Hp := Lib.hid hp
    have Hb := Lib.hid hb
    clear h hs hr hb hp
    by_cases hz : s2.2.2 = 0
    · have Hz := Lib.hid hz
      clear hz
      go_enter Try.func37, Try.ntmps37
      go_wp2_with fail
      refine (may_any 4 n big _ true Hb.out).mono ?_
      rintro x w1 ⟨rfl, hb1⟩
      have HX0 : Blk w1 w.heap.size 68 #[.int .i64 4, .int .i64 n, .bool big] := Blk.below (Blk.alloc (Blk.new w _ _ _ rfl) _) hb1 (by simp; omega)
      have HR0 : Blk w1 (w.heap.size + 1) 70 #[.int .u64 0, .slice none 0 0] := Blk.below (Blk.new _ _ _ _ (by simp)) hb1 (by simp)
      have hb2 : Below w.heap.size w w1 := ((((Below.refl _ w).alloc (Nat.le_refl _) _).alloc (by simp) _)).trans (hb1.mono (by simp; omega))
      obtain ⟨wA, rfl⟩ : ∃ wA, wA = w1 := ⟨_, rfl⟩
      have HX := HX0
      have HR := HR0
      have hgA := grownOf hb2 (row := some g)
      have hRA := H.out.below hb2
      rw [← Hp.out] at hRA
      clear HX0 HR0 hb1 hb2
      have x0 : ∀ o, (wA.alloc o).cell? ⟨w.heap.size, 0, none⟩ = some (.int .i64 4) := fun o => Blk.cell (Blk.alloc HX o) 0
      have x1 : ∀ o, (wA.alloc o).cell? ⟨w.heap.size, 1, none⟩ = some (.int .i64 n) := fun o => Blk.cell (Blk.alloc HX o) 1
      have x2 : ∀ o, (wA.alloc o).cell? ⟨w.heap.size, 2, none⟩ = some (.bool big) := fun o => Blk.cell (Blk.alloc HX o) 2
      have HP : Blk (wA.alloc (.cells #[.int .u64 0, .slice none 0 0] 70)) wA.heap.size 70 #[.int .u64 0, .slice none 0 0] := Blk.new wA _ _ _ rfl
      have HR1 := Blk.alloc HR (.cells #[.int .u64 0, .slice none 0 0] 70)
      have hb3 := (Below.refl wA.heap.size wA).alloc (Nat.le_refl _) (.cells #[.int .u64 0, .slice none 0 0] 70)
      have hgB := grownTrans hgA (grownOf hb3 (row := some g))
      have hRB := hRA.below hb3
      have Hlt1 : Hid (w.heap.size + 1 < wA.heap.size) := HR.lt
      go_wp2_with fail
      refine (rdText_any base g l (preS s (4, n, big)) _ n hRB Hok.out hl Hn.out).mono ?_
      rw [Hr.out]
      rintro x w3 ⟨A, c, rfl, hown, hR3, hg3⟩
      have HP3 := Blk.grown HP hg3 (fun e => by injection e with e; have := Hlt.out; have := Hlt1.out; omega)
      have HR3 := Blk.grown HR1 hg3 (fun e => by injection e with e; have := Hlt.out; omega)
      have hgw := grownTrans hgB hg3
      have p0 : w3.cell? ⟨wA.heap.size, 1, none⟩ = some (.slice none 0 0) := HP3.cell 1
      have pf := HP3.frozen 1
      clear HX HR HP HR1 x0 x1 x2 hRA hRB hgA hgB hb3
      have hne : wA.heap.size ≠ w.heap.size + 1 := by have := Hlt1.out; omega
      have hg4 := grownSet w3 ⟨wA.heap.size, 1, none⟩ (.slice A b.length c)
      have hR4 := hR3.off hg4 HP3 (by decide) (by decide)
      have HP4 := Blk.set_ HP3 1 (.slice A b.length c)
      have HR4 := Blk.far HR3 (p := ⟨wA.heap.size, 1, none⟩) (Ne.symm hne) (.slice A b.length c)
      have hgw4 := grownSetNew hgw (p := ⟨wA.heap.size, 1, none⟩) (by have := Hlt1.out; simp only; omega) (.slice A b.length c)
      have Hown4 := Lib.hid (own_base' (hown.kept hg4 (own_blk_ne hown HP3 (by decide))) (Nat.le_trans (Nat.le_trans (Nat.le_succ _) (Nat.le_of_lt Hlt1.out)) (by simp : wA.heap.size ≤ (wA.alloc (.cells #[.int .u64 0, .slice none 0 0] 70)).heap.size)))
      clear hown
      clear hR3 hg3 HP3 HR3 hgw hg4
      go_wp2_with fail
      refine (check_ok base g l s2 _ hR4 Hz.out).mono ?_
      rintro x w5 ⟨rfl, rfl⟩
      have q0 : (w3.setCell ⟨wA.heap.size, 1, none⟩ (.slice A b.length c)).cell? ⟨wA.heap.size, 0, none⟩ = some (.int .u64 0) := HP4.cell 0
      have q1 : (w3.setCell ⟨wA.heap.size, 1, none⟩ (.slice A b.length c)).cell? ⟨wA.heap.size, 1, none⟩ = some (.slice A b.length c) := HP4.cell 1
      have r0 : (w3.setCell ⟨wA.heap.size, 1, none⟩ (.slice A b.length c)).cell? ⟨w.heap.size + 1, 0, none⟩ = some (.int .u64 0) := HR4.cell 0
      have r1 : (w3.setCell ⟨wA.heap.size, 1, none⟩ (.slice A b.length c)).cell? ⟨w.heap.size + 1, 1, none⟩ = some (.slice none 0 0) := HR4.cell 1
      have rf : ∀ i, (w3.setCell ⟨wA.heap.size, 1, none⟩ (.slice A b.length c)).frozen? ⟨w.heap.size + 1, i, none⟩ = false := fun i => HR4.frozen i
      have HE := Lib.hid (read_tail (q := 0) (b := b) HR4 hR4 hgw4 Hz.out (Hown4.out))
      clear HP4 hR4 hgw4
      go_wp2
      refine bodyPost_ret (v := .agg #[.int .u64 0, .slice A b.length c]) (results_cell_row (P := Try.prog) rfl _ _ (w.heap.size + 1) _ _ _ _ rfl HE.out.2 Try.underlying70 rfl (by kernel_rfl)) rfl HE.out.1
    · have Hz := Lib.hid hz
      clear hz
      go_enter Try.func37, Try.ntmps37
      go_wp2_with fail
      refine (may_any 4 n big _ true Hb.out).mono ?_
      rintro x w1 ⟨rfl, hb1⟩
      have HX0 : Blk w1 w.heap.size 68 #[.int .i64 4, .int .i64 n, .bool big] := Blk.below (Blk.alloc (Blk.new w _ _ _ rfl) _) hb1 (by simp; omega)
      have HR0 : Blk w1 (w.heap.size + 1) 70 #[.int .u64 0, .slice none 0 0] := Blk.below (Blk.new _ _ _ _ (by simp)) hb1 (by simp)
      have hb2 : Below w.heap.size w w1 := ((((Below.refl _ w).alloc (Nat.le_refl _) _).alloc (by simp) _)).trans (hb1.mono (by simp; omega))
      obtain ⟨wA, rfl⟩ : ∃ wA, wA = w1 := ⟨_, rfl⟩
      have HX := HX0
      have HR := HR0
      have hgA := grownOf hb2 (row := some g)
      have hRA := H.out.below hb2
      rw [← Hp.out] at hRA
      clear HX0 HR0 hb1 hb2
      have x0 : ∀ o, (wA.alloc o).cell? ⟨w.heap.size, 0, none⟩ = some (.int .i64 4) := fun o => Blk.cell (Blk.alloc HX o) 0
      have x1 : ∀ o, (wA.alloc o).cell? ⟨w.heap.size, 1, none⟩ = some (.int .i64 n) := fun o => Blk.cell (Blk.alloc HX o) 1
      have x2 : ∀ o, (wA.alloc o).cell? ⟨w.heap.size, 2, none⟩ = some (.bool big) := fun o => Blk.cell (Blk.alloc HX o) 2
      have HP : Blk (wA.alloc (.cells #[.int .u64 0, .slice none 0 0] 70)) wA.heap.size 70 #[.int .u64 0, .slice none 0 0] := Blk.new wA _ _ _ rfl
      have HR1 := Blk.alloc HR (.cells #[.int .u64 0, .slice none 0 0] 70)
      have hb3 := (Below.refl wA.heap.size wA).alloc (Nat.le_refl _) (.cells #[.int .u64 0, .slice none 0 0] 70)
      have hgB := grownTrans hgA (grownOf hb3 (row := some g))
      have hRB := hRA.below hb3
      have Hlt1 : Hid (w.heap.size + 1 < wA.heap.size) := HR.lt
      go_wp2_with fail
      refine (rdText_any base g l (preS s (4, n, big)) _ n hRB Hok.out hl Hn.out).mono ?_
      rw [Hr.out]
      rintro x w3 ⟨A, c, rfl, hown, hR3, hg3⟩
      have HP3 := Blk.grown HP hg3 (fun e => by injection e with e; have := Hlt.out; have := Hlt1.out; omega)
      have HR3 := Blk.grown HR1 hg3 (fun e => by injection e with e; have := Hlt.out; omega)
      have hgw := grownTrans hgB hg3
      have p0 : w3.cell? ⟨wA.heap.size, 1, none⟩ = some (.slice none 0 0) := HP3.cell 1
      have pf := HP3.frozen 1
      clear HX HR HP HR1 x0 x1 x2 hRA hRB hgA hgB hb3
      have hne : wA.heap.size ≠ w.heap.size + 1 := by have := Hlt1.out; omega
      have hg4 := grownSet w3 ⟨wA.heap.size, 1, none⟩ (.slice A b.length c)
      have hR4 := hR3.off hg4 HP3 (by decide) (by decide)
      have HP4 := Blk.set_ HP3 1 (.slice A b.length c)
      have HR4 := Blk.far HR3 (p := ⟨wA.heap.size, 1, none⟩) (Ne.symm hne) (.slice A b.length c)
      have hgw4 := grownSetNew hgw (p := ⟨wA.heap.size, 1, none⟩) (by have := Hlt1.out; simp only; omega) (.slice A b.length c)
      have Hown4 := Lib.hid (own_base' (hown.kept hg4 (own_blk_ne hown HP3 (by decide))) (Nat.le_trans (Nat.le_trans (Nat.le_succ _) (Nat.le_of_lt Hlt1.out)) (by simp : wA.heap.size ≤ (wA.alloc (.cells #[.int .u64 0, .slice none 0 0] 70)).heap.size)))
      clear hown
      clear hR3 hg3 HP3 HR3 hgw hg4
      go_wp2_with fail
      refine (check_bad base g l s2 _ hR4 Hz.out).mono ?_
      rintro x w5 ⟨hx, rfl⟩
      unfold spotPanic at hx
      subst hx
      go_wp2
      exact ⟨rfl, hR4, hgw4, .inr ⟨Hz.out, rfl⟩⟩

set_option maxHeartbeats 1600000 in
set_option maxRecDepth 100000 in
theorem read_other (base g : Nat) (l : List UInt8) (s : St) (w : World) (k : Int) (n : Int) (big : Bool) (h : RdW w base g l s) (hs : okS l s) (hl : l.length ≤ 1000000000) (h1 : k ≠ 1) (h2 : k ≠ 2) (h3 : k ≠ 3) (h4 : k ≠ 4) :
    Calls Try.prog 37 #[.pointer (some ⟨g, 0, none⟩), .agg #[.int .i64 k, .int .i64 n, .bool big]] w (ReadIs w base g l (readS l s (k, n, big))) := by
  have H := Lib.hid h
  have Hs := Lib.hid hs
  have Hlt := Lib.hid h.lt
  have Hok := Lib.hid (ok_pre hs (k, n, big))
  have hb : mayB (k, n, big) = false := by unfold mayB; rw [if_neg h1, if_neg (by simp only; omega)]; exact decide_eq_false h2
  have hp : preS s (k, n, big) = failS s 1 := by unfold preS; rw [hb]; rfl
  have hz : (failS s 1).2.2 ≠ 0 := by unfold failS; split <;> simp_all
  obtain ⟨s2, hs2⟩ : ∃ s2, s2 = failS s 1 := ⟨_, rfl⟩
  rw [show readS l s (k, n, big) = (s2, 0, []) by unfold readS; rw [if_neg h1, if_neg h2, if_neg h3, if_neg h4, hp, hs2]]
  rw [← hs2] at hz
  have Hz := Lib.hid hz
  have Hp := Lib.hid hs2
  have Hb := Lib.hid hb
  have g1 : (k == 1) = false := by simp; exact h1
  have g2 : (k == 2) = false := by simp; exact h2
  have g3 : (k == 3) = false := by simp; exact h3
  have g4 : (k == 4) = false := by simp; exact h4
  clear h hs hb hp hz hs2 h1 h2 h3 h4
  go_enter Try.func37, Try.ntmps37
  go_wp2_with fail
  refine (may_any k n big _ false Hb.out).mono ?_
  rintro x w1 ⟨rfl, hb1⟩
  have HX0 : Blk w1 w.heap.size 68 #[.int .i64 k, .int .i64 n, .bool big] := Blk.below (Blk.alloc (Blk.new w _ _ _ rfl) _) hb1 (by simp; omega)
  have HR0 : Blk w1 (w.heap.size + 1) 70 #[.int .u64 0, .slice none 0 0] := Blk.below (Blk.new _ _ _ _ (by simp)) hb1 (by simp)
  have hb2 : Below w.heap.size w w1 := ((((Below.refl _ w).alloc (Nat.le_refl _) _).alloc (by simp) _)).trans (hb1.mono (by simp; omega))
  go_wp2_with fail
  refine (rdFail_st base g l s 1 _ (H.out.below hb2)).mono ?_
  rintro x wA ⟨rfl, hRA, hgF⟩
  have HX := Blk.grown HX0 hgF (fun e => by injection e with e; have := Hlt.out; omega)
  have HR := Blk.grown HR0 hgF (fun e => by injection e with e; have := Hlt.out; omega)
  have hgA := grownTrans (grownOf hb2 (row := some g)) hgF
  rw [← Hp.out] at hRA
  clear HX0 HR0 hgF hb1 hb2
  have x0 : ∀ o, (wA.alloc o).cell? ⟨w.heap.size, 0, none⟩ = some (.int .i64 k) := fun o => Blk.cell (Blk.alloc HX o) 0
  have x1 : ∀ o, (wA.alloc o).cell? ⟨w.heap.size, 1, none⟩ = some (.int .i64 n) := fun o => Blk.cell (Blk.alloc HX o) 1
  have x2 : ∀ o, (wA.alloc o).cell? ⟨w.heap.size, 2, none⟩ = some (.bool big) := fun o => Blk.cell (Blk.alloc HX o) 2
  have HP : Blk (wA.alloc (.cells #[.int .u64 0, .slice none 0 0] 70)) wA.heap.size 70 #[.int .u64 0, .slice none 0 0] := Blk.new wA _ _ _ rfl
  have HR1 := Blk.alloc HR (.cells #[.int .u64 0, .slice none 0 0] 70)
  have hb3 := (Below.refl wA.heap.size wA).alloc (Nat.le_refl _) (.cells #[.int .u64 0, .slice none 0 0] 70)
  have hgB := grownTrans hgA (grownOf hb3 (row := some g))
  have hRB := hRA.below hb3
  have Hlt1 : Hid (w.heap.size + 1 < wA.heap.size) := HR.lt
  have HP4 := HP
  have HR4 := HR1
  have hR4 := hRB
  have hgw4 := hgB
  have hne : wA.heap.size ≠ w.heap.size + 1 := by have := Hlt1.out; omega
  clear HX HR HR1 HP hRA hRB hgA hgB hb3
  go_wp2_with fail
  refine (check_bad base g l s2 _ hR4 Hz.out).mono ?_
  rintro x w5 ⟨hx, rfl⟩
  unfold spotPanic at hx
  subst hx
  go_wp2
  exact ⟨rfl, hR4, hgw4, .inr ⟨Hz.out, rfl⟩⟩

theorem read_any (base g : Nat) (l : List UInt8) (s : St) (w : World) (k n : Int) (big : Bool) (h : RdW w base g l s) (hs : okS l s) (hl : l.length ≤ 1000000000) (hn : n < 9223372036854775808) :
    Calls Try.prog 37 #[.pointer (some ⟨g, 0, none⟩), .agg #[.int .i64 k, .int .i64 n, .bool big]] w (ReadIs w base g l (readS l s (k, n, big))) := by
  by_cases h1 : k = 1
  · subst h1; exact read_num base g l s w n big h hs hl
  · by_cases h2 : k = 2
    · subst h2; exact read_var base g l s w n big h hs hl
    · by_cases h3 : k = 3
      · subst h3; exact read_take base g l s w n big h hs hl hn
      · by_cases h4 : k = 4
        · subst h4; exact read_text base g l s w n big h hs hl hn
        · exact read_other base g l s w k n big h hs hl h1 h2 h3 h4
end Go.Proofs.Ytpeknjbcjpdmnab
