/- The walks of the document's Part: take, num, text, flag, weight (printed by gen_evpa.py). -/
import Derived.Test.YtgohhojoahlfiaaEvPP
import Derived.Test.YtgohhojoahlfiaaEvA
namespace Go.Proofs.Ytgohhojoahlfiaa
open Go.RowKit
set_option linter.unusedVariables false
set_option linter.unusedSimpArgs false

/-- A Part in block g: what is left stands below B. -/
def PW (w : World) (B g : Nat) (st : PS) : Prop := ∃ A c, Blk w g 68 #[.slice A st.1.length c, .bool st.2] ∧ BS w B A st.1 ∧ st.1.length ≤ c ∧ B ≤ g
section
variable {w w' : World} {B g : Nat} {st : PS}
theorem PW.lt (h : PW w B g st) : g < w.heap.size := by obtain ⟨A, c, h1, _⟩ := h; exact h1.lt
theorem PW.le (h : PW w B g st) : B ≤ g := by obtain ⟨A, c, _, _, _, h4⟩ := h; exact h4
theorem PW.off (h : PW w B g st) {row : Option Nat} (hg : w.grownBy w' row) (hr : row ≠ some g) (hB : ∀ k, row = some k → B ≤ k) : PW w' B g st := by
  obtain ⟨A, c, h1, h2, h3, h4⟩ := h
  exact ⟨A, c, Blk.grown h1 hg (fun e => hr e.symm), h2.grown hg (by have := h1.lt; omega) hB, h3, h4⟩
theorem PW.below (h : PW w B g st) (hb : Below w.heap.size w w') : PW w' B g st := h.off (row := none) (grownOf hb) (by simp) (fun k hk => by cases hk)
end
theorem made_zero (n : Nat) : (madeCells (Value.int .u8 0).cells (n * 1)).toList = bcells (List.replicate n 0) := by
  rw [Nat.mul_one, show (Value.int .u8 0).cells = #[.int .u8 0] from rfl, toList_madeCells_one, bcells, List.map_replicate]
  rfl
/-- What take answers. -/
def PTakeIs (B g : Nat) (st : PS) (n : Nat) (w : World) (e : Ending) (w' : World) : Prop :=
  ∃ A c, e = .returned (.slice A n c) ∧ w'.ownsRow w.heap.size 5 1 (.slice A n c) n (bcells (takeP st n).2) ∧ PW w' B g (takeP st n).1 ∧ w.grownBy w' (some g)
theorem ptake_bad {B g : Nat} {st : PS} {n : Nat} (h : st.2 = true ∨ st.1.length < n) : takeP st n = ((st.1, true), List.replicate n 0) := by unfold takeP; rw [if_pos h]
set_option maxHeartbeats 1000000 in
set_option maxRecDepth 100000 in
theorem ptake_any (B g : Nat) (st : PS) (n : Nat) (w : World) (h : PW w B g st) (hn : n ≤ 1000000) (hr : st.1.length ≤ 1000000000) :
    Calls Try.prog 62 #[.pointer (some ⟨g, 0, none⟩), .int .i64 (n : Int)] w (PTakeIs B g st n w) := by
  obtain ⟨i0, hi0, hz0, hz1, hz2⟩ := info_parts u8_infoO
  obtain ⟨A, c, hX, hbs, hc, hBg⟩ := h
  obtain ⟨r, b⟩ := st
  simp only at hX hbs hc hr
  have hgl := hX.lt
  have hn0 : (0 : Int) ≤ (n : Int) := by omega
  have d0 : w.cell? ⟨g, 0, none⟩ = some (.slice A r.length c) := hX.cell 0
  have d1 : w.cell? ⟨g, 1, none⟩ = some (.bool b) := hX.cell 1
  have df := hX.frozen 1
  have HX := Lib.hid hX
  have Hbs := Lib.hid hbs
  clear hX hbs
  have hbad : (b = true ∨ r.length < n) → Calls Try.prog 62 #[.pointer (some ⟨g, 0, none⟩), .int .i64 (n : Int)] w (PTakeIs B g (r, b) n w) := by
    intro hq
    have Hq := Lib.hid (ptake_bad (B := B) (g := g) (st := (r, b)) hq)
    obtain ⟨W1, hW1⟩ : ∃ W, W = w.setCell ⟨g, 1, none⟩ (.bool true) := ⟨_, rfl⟩
    have hX1 : Blk W1 g 68 #[.slice A r.length c, .bool true] := by rw [hW1]; exact Blk.set_ HX.out 1 (.bool true)
    have hg1 : w.grownBy W1 (some g) := by rw [hW1]; exact grownSet w ⟨g, 1, none⟩ (.bool true)
    have hsz1 : w.heap.size ≤ W1.heap.size := hg1.size
    have HW1 := Lib.hid hW1
    have HX1 := Lib.hid hX1
    have Hg1 := Lib.hid hg1
    have Hb1 := Lib.hid (Hbs.out.grown hg1 (by omega) (fun k hk => by injection hk with hk; omega))
    clear hW1 hX1 hg1
    have hfin : ∀ w2, w2.ownsRow w.heap.size 5 1 (.slice (some ⟨W1.heap.size, 0, none⟩) n n) n (madeCells (Value.int .u8 0).cells (n * 1)).toList → W1.grownBy w2 none → PTakeIs B g (r, b) n w (.returned (.slice (some ⟨W1.heap.size, 0, none⟩) n n)) w2 := by
      intro w2 hown2 hg2
      rw [made_zero] at hown2
      refine ⟨_, _, rfl, ?_, ?_, grownTrans Hg1.out (grownOf ⟨hg2.os, hg2.tape, hg2.output, hg2.size, fun k hk => hg2.block k hk (by simp)⟩)⟩
      · rw [Hq.out]; exact hown2
      · rw [Hq.out]
        exact ⟨A, c, Blk.grown HX1.out hg2 (by simp), Hb1.out.grown hg2 (by omega) (fun k hk => by cases hk), hc, hBg⟩
    have Hfin := Lib.hid hfin
    clear hfin
    rcases b with _ | _
    · have hlt : (r.length : Int) < (n : Int) := by
        rcases hq with hq | hq
        · cases hq
        · omega
      go_enter Try.func62, Try.ntmps62
      go_upto_region 3 with fail
      rw [← HW1.out]
      clear d0 d1 df
      go_wp2_with (at_make; refine wpList_make_full _ rfl _ _ 22 rfl w.heap.size 5 i0 (.int .u8 0) 1 Try.underlying22 hi0 hz0 hz1 .i64 .i64 _ _ n rfl rfl rfl rfl (by rw [hz2]; omega) (by unfold maxLen; omega) hsz1 ?_; intro w2 hown2 hg2)
      go_ret
      exact Hfin.out w2 hown2 hg2
    · go_enter Try.func62, Try.ntmps62
      go_upto_region 3 with fail
      rw [← HW1.out]
      clear d0 d1 df
      go_wp2_with (at_make; refine wpList_make_full _ rfl _ _ 22 rfl w.heap.size 5 i0 (.int .u8 0) 1 Try.underlying22 hi0 hz0 hz1 .i64 .i64 _ _ n rfl rfl rfl rfl (by rw [hz2]; omega) (by unfold maxLen; omega) hsz1 ?_; intro w2 hown2 hg2)
      go_ret
      exact Hfin.out w2 hown2 hg2
  by_cases hq : b = true ∨ r.length < n
  · exact hbad hq
  · clear hbad
    have hb : b = false := by
      rcases b with _ | _
      · rfl
      · exact absurd (Or.inl rfl) hq
    subst hb
    have hnr : n ≤ r.length := by
      by_cases h : r.length < n
      · exact absurd (Or.inr h) hq
      · omega
    have Ht : Hid (takeP (r, false) n = ((r.drop n, false), r.take n)) := by show _ = _; unfold takeP; rw [if_neg hq]
    clear hq
    have hltI : ¬ (r.length : Int) < (n : Int) := by omega
    have hncI : (n : Int) ≤ (c : Int) := by omega
    have hnrI : (n : Int) ≤ (r.length : Int) := by omega
    obtain ⟨x, hx⟩ : ∃ x, x = r.take n := ⟨_, rfl⟩
    have Hxl : Hid (x.length = n) := by show _ = _; rw [hx, List.length_take]; omega
    have Hbx : Hid (BS w B A x) := by rw [hx]; exact Hbs.out.take n
    have Hx := Lib.hid hx
    clear hx df
    have hxb : x.length ≤ 1000000 := by rw [Hxl.out]; exact hn
    have hBs : B ≤ w.heap.size := by omega
    go_enter Try.func62, Try.ntmps62
    go_upto_region 5 with (at_builtin; refine wpList_append_bytes _ rfl (.tmp 24) (.tmp 30) 22 rfl w.heap.size 5 i0 (.int .u8 0) 1 Try.underlying22 hi0 hz0 hz1 hz2 rfl (.slice (some ⟨w.heap.size, 0, none⟩) 0 0) [] rfl (own_none w _ _ (Nat.le_refl _) _ rfl) B A _ c x rfl Hxl.out.symm (Hbx.out.alloc hBs _) ?_ ?_ ?_ ?_; (go_loud (simp; unfold maxLen; omega)); (go_loud (simp; omega)); (go_loud (simp)); intro A5 c5 x5 hown5 hg5 _)
    have hg5' : w.grownBy x5 none := grownOf (((Below.refl _ _).alloc (Nat.le_refl _) _).grown hg5 (by simp) (fun k hk => by simp [Value.ownBlock] at hk; omega))
    have hown5' : x5.ownsRow w.heap.size 5 1 (.slice A5 n c5) n (bcells x) := by
      have := hown5
      simp only [List.nil_append] at this
      rw [Hxl.out] at this
      exact this
    have hX5 := Blk.grown HX.out hg5' (by simp)
    have hb5 := Hbs.out.grown hg5' hBs (fun k hk => by cases hk)
    have d0' : x5.cell? ⟨g, 0, none⟩ = some (.slice A r.length c) := hX5.cell 0
    have df' := hX5.frozen 0
    have HX5 := Lib.hid hX5
    have Hb5 := Lib.hid hb5
    have Hg5 := Lib.hid hg5'
    have Hown5 := Lib.hid hown5'
    clear hown5 hg5 hg5' hown5' hX5 hb5 d0 d1
    by_cases hcn : c = n
    · obtain ⟨W6, hW6⟩ : ∃ W, W = x5.setCell ⟨g, 0, none⟩ (.slice A (r.length - n) 0) := ⟨_, rfl⟩
      have hdl : (r.drop n).length = r.length - n := List.length_drop
      have hd0 : r.drop n = [] := List.eq_nil_of_length_eq_zero (by omega)
      have hX6 : Blk W6 g 68 #[.slice A (r.drop n).length 0, .bool false] := by rw [hW6, hdl]; exact Blk.set_ HX5.out 0 _
      have hp6 : PW W6 B g (r.drop n, false) := ⟨A, 0, hX6, by rw [hd0]; exact BS.nil _ _ _, by rw [hd0]; exact Nat.le_refl 0, hBg⟩
      have hg6 : x5.grownBy W6 (some g) := by rw [hW6]; exact grownSet x5 ⟨g, 0, none⟩ _
      have ho6 : W6.ownsRow w.heap.size 5 1 (.slice A5 n c5) n (bcells x) := Hown5.out.kept hg6 (by rw [hW6] at *; exact own_blk_ne Hown5.out HX5.out (by decide))
      have HW6 := Lib.hid hW6
      have Hp6 := Lib.hid hp6
      have Hg6 := Lib.hid hg6
      have Ho6 := Lib.hid ho6
      clear hW6 hdl hd0 hX6 hp6 hg6 ho6
      go_upto_region 6 with fail
      rw [← HW6.out]
      go_wp2
      go_ret
      refine ⟨A5, c5, by first | rfl | (rw [Hxl.out]; first | done | rfl), ?_, ?_, grownTrans (grownOf ⟨Hg5.out.os, Hg5.out.tape, Hg5.out.output, Hg5.out.size, fun k hk => Hg5.out.block k hk (by simp)⟩) Hg6.out⟩
      · rw [Ht.out, ← Hx.out]; exact Ho6.out
      · rw [Ht.out]; exact Hp6.out
    · obtain ⟨W6, hW6⟩ : ∃ W, W = x5.setCell ⟨g, 0, none⟩ (.slice (A.map fun x => x.add n) (r.length - n) (c - n)) := ⟨_, rfl⟩
      have hdl : (r.drop n).length = r.length - n := List.length_drop
      have hX6 : Blk W6 g 68 #[.slice (A.map fun x => x.add n) (r.drop n).length (c - n), .bool false] := by rw [hW6, hdl]; exact Blk.set_ HX5.out 0 _
      have hg6 : x5.grownBy W6 (some g) := by rw [hW6]; exact grownSet x5 ⟨g, 0, none⟩ _
      have hb6 : BS W6 B (A.map fun x => x.add n) (r.drop n) := by
        have h := (Hb5.out.grown hg6 (by have := Hg5.out.size; omega) (fun k hk => by injection hk with hk; omega)).drop (k := n) (cap := c) hc
        rw [if_neg hcn] at h
        exact h
      have hp6 : PW W6 B g (r.drop n, false) := ⟨_, c - n, hX6, hb6, by rw [hdl]; omega, hBg⟩
      have ho6 : W6.ownsRow w.heap.size 5 1 (.slice A5 n c5) n (bcells x) := Hown5.out.kept hg6 (by rw [hW6] at *; exact own_blk_ne Hown5.out HX5.out (by decide))
      have HW6 := Lib.hid hW6
      have Hp6 := Lib.hid hp6
      have Hg6 := Lib.hid hg6
      have Ho6 := Lib.hid ho6
      clear hW6 hdl hX6 hb6 hp6 hg6 ho6
      go_upto_region 6 with fail
      rw [← HW6.out]
      go_wp2
      go_ret
      refine ⟨A5, c5, by first | rfl | (rw [Hxl.out]; first | done | rfl), ?_, ?_, grownTrans (grownOf ⟨Hg5.out.os, Hg5.out.tape, Hg5.out.output, Hg5.out.size, fun k hk => Hg5.out.block k hk (by simp)⟩) Hg6.out⟩
      · rw [Ht.out, ← Hx.out]; exact Ho6.out
      · rw [Ht.out]; exact Hp6.out
theorem PW.bad_ {w : World} {B g : Nat} {st : PS} (h : PW w B g st) : PW (w.setCell ⟨g, 1, none⟩ (.bool true)) B g (st.1, true) := by
  obtain ⟨A, c, h1, h2, h3, h4⟩ := h
  exact ⟨A, c, Blk.set_ h1 1 (.bool true), h2.setCell h4 _, h3, h4⟩
/-- What num answers. -/
def PNumIs (B g : Nat) (st : PS) (m : Nat) (w : World) (e : Ending) (w' : World) : Prop :=
  e = .returned (.int .i64 ((numP st m).2 : Int)) ∧ PW w' B g (numP st m).1 ∧ w.grownBy w' (some g)
set_option maxHeartbeats 1000000 in
set_option maxRecDepth 100000 in
theorem pnum_any (B g : Nat) (st : PS) (m : Nat) (w : World) (h : PW w B g st) (hm : m ≤ 1099511627776) (hr : st.1.length ≤ 1000000000) :
    Calls Try.prog 66 #[.pointer (some ⟨g, 0, none⟩), .int .u64 (m : Int)] w (PNumIs B g st m w) := by
  have hP := h
  obtain ⟨A, c, hX, hbs, hc, hBg⟩ := h
  obtain ⟨r, b⟩ := st
  simp only at hX hbs hc hr
  have hgl := hX.lt
  have d0 : w.cell? ⟨g, 0, none⟩ = some (.slice A r.length c) := hX.cell 0
  have d1 : w.cell? ⟨g, 1, none⟩ = some (.bool b) := hX.cell 1
  have df := hX.frozen 1
  have df0 := hX.frozen 0
  rcases hv : vgetS r with ⟨q, k, e⟩
  have HX := Lib.hid hX
  have Hbs := Lib.hid hbs
  have Hv := Lib.hid hv
  have HP := Lib.hid hP
  clear hX hbs hv hP
  have hbad : (b = true ∨ e ≠ 0 ∨ m < q) → Hid (numP (r, b) m = ((r, true), 0)) := fun hq => by
    show _ = _
    unfold numP
    rw [Hv.out, if_pos hq]
  obtain ⟨W1, hW1⟩ : ∃ W, W = w.setCell ⟨g, 1, none⟩ (.bool true) := ⟨_, rfl⟩
  have hp1 : PW W1 B g (r, true) := by rw [hW1]; exact HP.out.bad_
  have hg1 : w.grownBy W1 (some g) := by rw [hW1]; exact grownSet w ⟨g, 1, none⟩ (.bool true)
  have HW1 := Lib.hid hW1
  have Hp1 := Lib.hid hp1
  have Hg1 := Lib.hid hg1
  clear hW1 hp1 hg1
  go_enter Try.func66, Try.ntmps66
  go_wp2_with fail
  refine (refGet_eq A _ c r w B rfl Hbs.out (by unfold maxLen; omega) Hv.out).mono ?_
  rintro x w2 ⟨rfl, rfl⟩
  rcases b with _ | _
  rotate_left
  · have Hq := hbad (.inl rfl)
    clear hbad
    go_upto_region 4 with fail
    rw [← HW1.out]
    go_wp2
    go_ret
    exact ⟨by rw [Hq.out]; rfl, by rw [Hq.out]; exact Hp1.out, Hg1.out⟩
  · by_cases he : e = 0
    rotate_left
    · have Hq := hbad (.inr (.inl he))
      have heI : ¬ (e : Int) = 0 := by omega
      clear hbad
      go_upto_region 4 with fail
      rw [← HW1.out]
      go_wp2
      go_ret
      exact ⟨by rw [Hq.out]; rfl, by rw [Hq.out]; exact Hp1.out, Hg1.out⟩
    · have heI : (e : Int) = 0 := by omega
      by_cases hq : m < q
      · have Hq := hbad (.inr (.inr hq))
        have hqI : (m : Int) < (q : Int) := by omega
        clear hbad
        go_upto_region 4 with fail
        rw [← HW1.out]
        go_wp2
        go_ret
        exact ⟨by rw [Hq.out]; rfl, by rw [Hq.out]; exact Hp1.out, Hg1.out⟩
      · have hqI : ¬ (m : Int) < (q : Int) := by omega
        have hkr : k ≤ r.length := by have := Hv.out; rw [he] at this; exact (vget_only this).2.2.1
        have Hn : Hid (numP (r, false) m = ((r.drop k, false), q)) := by
          show _ = _
          unfold numP
          rw [Hv.out, if_neg (by simp only [Bool.false_eq_true, false_or, not_or]; exact ⟨fun h => h he, hq⟩)]
        have hk0 : (0 : Int) ≤ (k : Int) := by omega
        have hkI : (k : Int) ≤ (r.length : Int) := by omega
        have hkc : (k : Int) ≤ (c : Int) := by omega
        have hwq : IntKind.i64.wrap (q : Int) = (q : Int) := IntWalk.i64_in _ (by omega)
        clear hbad Hp1 HW1 Hg1 df
        by_cases hcn : c = k
        · obtain ⟨W6, hW6⟩ : ∃ W, W = w.setCell ⟨g, 0, none⟩ (.slice A (r.length - k) 0) := ⟨_, rfl⟩
          have hdl : (r.drop k).length = r.length - k := List.length_drop
          have hd0 : r.drop k = [] := List.eq_nil_of_length_eq_zero (by omega)
          have hX6 : Blk W6 g 68 #[.slice A (r.drop k).length 0, .bool false] := by rw [hW6, hdl]; exact Blk.set_ HX.out 0 _
          have hp6 : PW W6 B g (r.drop k, false) := ⟨A, 0, hX6, by rw [hd0]; exact BS.nil _ _ _, by rw [hd0]; exact Nat.le_refl 0, hBg⟩
          have hg6 : w.grownBy W6 (some g) := by rw [hW6]; exact grownSet w ⟨g, 0, none⟩ _
          have HW6 := Lib.hid hW6
          have Hp6 := Lib.hid hp6
          have Hg6 := Lib.hid hg6
          clear hW6 hdl hd0 hX6 hp6 hg6
          go_upto_region 6 with fail
          rw [← HW6.out]
          clear d0 d1 df0
          go_wp2
          go_ret
          exact ⟨by rw [Hn.out]; first | done | rfl, by rw [Hn.out]; exact Hp6.out, Hg6.out⟩
        · obtain ⟨W6, hW6⟩ : ∃ W, W = w.setCell ⟨g, 0, none⟩ (.slice (A.map fun x => x.add k) (r.length - k) (c - k)) := ⟨_, rfl⟩
          have hdl : (r.drop k).length = r.length - k := List.length_drop
          have hX6 : Blk W6 g 68 #[.slice (A.map fun x => x.add k) (r.drop k).length (c - k), .bool false] := by rw [hW6, hdl]; exact Blk.set_ HX.out 0 _
          have hg6 : w.grownBy W6 (some g) := by rw [hW6]; exact grownSet w ⟨g, 0, none⟩ _
          have hb6 : BS W6 B (A.map fun x => x.add k) (r.drop k) := by
            have h := (Hbs.out.grown hg6 (by omega) (fun k hk => by injection hk with hk; omega)).drop (k := k) (cap := c) hc
            rw [if_neg hcn] at h
            exact h
          have hp6 : PW W6 B g (r.drop k, false) := ⟨_, c - k, hX6, hb6, by rw [hdl]; omega, hBg⟩
          have HW6 := Lib.hid hW6
          have Hp6 := Lib.hid hp6
          have Hg6 := Lib.hid hg6
          clear hW6 hdl hX6 hb6 hp6 hg6
          go_upto_region 6 with fail
          rw [← HW6.out]
          clear d0 d1 df0
          go_wp2
          go_ret
          exact ⟨by rw [Hn.out]; first | done | rfl, by rw [Hn.out]; exact Hp6.out, Hg6.out⟩
theorem numP_le (st : PS) (m : Nat) : (numP st m).2 ≤ m := by
  unfold numP
  split
  · omega
  · rename_i h
    simp only
    by_cases h2 : m < (vgetS st.1).1
    · exact absurd (Or.inr (Or.inr h2)) h
    · omega
theorem numP_len (st : PS) (m : Nat) : (numP st m).1.1.length ≤ st.1.length := by
  unfold numP
  split
  · exact Nat.le_refl _
  · simp only [List.length_drop]; omega
theorem takeP_lenL (st : PS) (n : Nat) : (takeP st n).1.1.length ≤ st.1.length := by
  unfold takeP
  split
  · exact Nat.le_refl _
  · simp only [List.length_drop]; omega
/-- What text answers. -/
def PTextIs (B g : Nat) (st : PS) (m : Nat) (w : World) (e : Ending) (w' : World) : Prop :=
  e = .returned (.string ⟨(textP st m).2.toArray⟩) ∧ PW w' B g (textP st m).1 ∧ w.grownBy w' (some g)
set_option maxHeartbeats 1000000 in
set_option maxRecDepth 100000 in
theorem ptext_any (B g : Nat) (st : PS) (m : Nat) (w : World) (h : PW w B g st) (hm : m ≤ 1000000) (hr : st.1.length ≤ 1000000000) :
    Calls Try.prog 63 #[.pointer (some ⟨g, 0, none⟩), .int .i64 (m : Int)] w (PTextIs B g st m w) := by
  have HP := Lib.hid h
  have hwm : IntKind.u64.wrap (m : Int) = (m : Int) := IntWalk.u64_in _ (by omega)
  clear h
  go_enter Try.func63, Try.ntmps63
  go_wp2_with fail
  refine (pnum_any B g st m w HP.out (by omega) hr).mono ?_
  rintro e w2 ⟨rfl, hp2, hg2⟩
  have hle := numP_le st m
  have hlen := numP_len st m
  obtain ⟨st2, hst2⟩ : ∃ z, z = (numP st m).1 := ⟨_, rfl⟩
  obtain ⟨n2, hn2⟩ : ∃ z, z = (numP st m).2 := ⟨_, rfl⟩
  rw [← hst2] at hp2 hlen
  rw [← hn2] at hle ⊢
  have Htx : Hid (textP st m = takeP st2 n2) := by show _ = _; unfold textP; rw [← hst2, ← hn2]
  have Hp2 := Lib.hid hp2
  have Hg2 := Lib.hid hg2
  clear hp2 hg2 hst2 hn2 hwm
  go_wp2_with fail
  refine (ptake_any B g st2 n2 w2 Hp2.out (by omega) (by omega)).mono ?_
  rintro e w3 ⟨A3, c3, rfl, hown3, hp3, hg3⟩
  have hl := takeP_len st2 n2
  have Hb3 := Lib.hid (BS.of_own hown3).1
  have Hl := Lib.hid hl
  have Hp3 := Lib.hid hp3
  have Hg3 := Lib.hid hg3
  obtain ⟨x, hx⟩ : ∃ x, x = (takeP st2 n2).2 := ⟨_, rfl⟩
  rw [← hx] at Hb3 Hl
  have Hx := Lib.hid hx
  clear hown3 hp3 hg3 hl hx
  have hconv := run_convert_bs (P := Try.prog) 22 9 5 Try.underlying22 Try.underlying5 Try.underlying9 w3 _ A3 x Hb3.out n2 c3 Hl.out.symm
  go_wp2
  go_ret
  exact ⟨by rw [Htx.out, ← Hx.out]; first | done | rfl, by rw [Htx.out]; exact Hp3.out, grownTrans Hg2.out Hg3.out⟩
/-- One byte: what flag, and the kinds, are read by. -/
def POneIs (B g : Nat) (st : PS) (w : World) (e : Ending) (w' : World) : Prop :=
  ∃ (b c : Nat), e = .returned (.slice (some ⟨b, 0, none⟩) 1 c) ∧ w'.cell? ⟨b, 0, none⟩ = some (.int .u8 ((oneP st).2 : Int)) ∧ (oneP st).2 ≤ 255 ∧ 1 ≤ c ∧ w.heap.size ≤ b ∧ PW w' B g (oneP st).1 ∧ w.grownBy w' (some g)
theorem pone_any (B g : Nat) (st : PS) (w : World) (h : PW w B g st) (hr : st.1.length ≤ 1000000000) :
    Calls Try.prog 62 #[.pointer (some ⟨g, 0, none⟩), .int .i64 1] w (POneIs B g st w) := by
  refine (ptake_any B g st 1 w h (by decide) hr).mono ?_
  rintro e w' ⟨A, c, rfl, hown, hp, hg⟩
  obtain ⟨x, hx⟩ := len_one (takeP_len st 1)
  have h1 : (oneP st).2 = x.toNat := by unfold oneP; rw [hx]; rfl
  have hlt := x.toNat_lt
  have hc := own_le hown
  rw [hx] at hown
  obtain ⟨b, cap, hv, h2, h3⟩ := hown.form (by decide)
  injection hv with hA hn hc'
  subst hA hc'
  have hcell := hown.cellAt (g := b) 0 (by decide)
  refine ⟨b, c, rfl, ?_, by omega, hc, h2, hp, hg⟩
  rw [h1, hcell]
  rfl
theorem oneP_len (st : PS) : (oneP st).1.1.length ≤ st.1.length := takeP_lenL st 1
/-- What flag answers. -/
def PFlagIs (B g : Nat) (st : PS) (w : World) (e : Ending) (w' : World) : Prop :=
  e = .returned (.bool (flagP st).2) ∧ PW w' B g (flagP st).1 ∧ w.grownBy w' (some g)
set_option maxHeartbeats 1000000 in
set_option maxRecDepth 100000 in
theorem pflag_any (B g : Nat) (st : PS) (w : World) (h : PW w B g st) (hr : st.1.length ≤ 1000000000) :
    Calls Try.prog 65 #[.pointer (some ⟨g, 0, none⟩)] w (PFlagIs B g st w) := by
  have HP := Lib.hid h
  clear h
  go_enter Try.func65, Try.ntmps65
  go_wp2_with fail
  refine (pone_any B g st w HP.out hr).mono ?_
  rintro e w2 ⟨ba, c, rfl, d0, hle, hc, hba, hp2, hg2⟩
  have hgw := HP.out.lt
  have hgb : g ≠ ba := by omega
  obtain ⟨st2, hst2⟩ : ∃ z, z = (oneP st).1 := ⟨_, rfl⟩
  obtain ⟨v, hv⟩ : ∃ z, z = (oneP st).2 := ⟨_, rfl⟩
  have Hfl : Hid (flagP st = ((st2.1, st2.2 || decide (1 < v)), v == 1)) := by show _ = _; unfold flagP; rw [← hst2, ← hv]
  rw [← hst2] at hp2
  rw [← hv] at d0 hle
  clear hst2 hv
  have Hp2 := Lib.hid hp2
  have Hg2 := Lib.hid hg2
  obtain ⟨A2, c2, hX2, _⟩ := hp2
  have df := hX2.frozen 1
  have d1 : w2.cell? ⟨g, 1, none⟩ = some (.bool st2.2) := hX2.cell 1
  have HX2 := Lib.hid hX2
  clear hX2 hg2
  by_cases hv : 1 < v
  · have hvI : (1 : Int) < (v : Int) := by omega
    have hv1 : ((v : Int) == 1) = false := beq_eq_false_iff_ne.2 (by omega)
    have Hr : Hid (flagP st = ((st2.1, true), false)) := by show _ = _; rw [Hfl.out, decide_eq_true hv, Bool.or_true, show (v == 1) = false from beq_eq_false_iff_ne.2 (by omega)]
    obtain ⟨W3, hW3⟩ : ∃ W, W = w2.setCell ⟨g, 1, none⟩ (.bool true) := ⟨_, rfl⟩
    have Hp3 : Hid (PW W3 B g (st2.1, true)) := by rw [hW3]; exact Hp2.out.bad_
    have Hg3 : Hid (w.grownBy W3 (some g)) := by rw [hW3]; exact grownTrans Hg2.out (grownSet w2 ⟨g, 1, none⟩ (.bool true))
    have d3 : W3.cell? ⟨ba, 0, none⟩ = some (.int .u8 (v : Int)) := by
      rw [hW3, World.cell?_setCell_other _ _ _ _ (fun e => hgb (by injection e))]
      exact d0
    have HW3 := Lib.hid hW3
    clear hW3
    go_upto_region 4 with fail
    rw [← HW3.out]
    clear d0 d1 df
    go_wp2
    go_ret
    exact ⟨by rw [Hr.out]; first | done | rfl, by rw [Hr.out]; exact Hp3.out, Hg3.out⟩
  · have hvI : ¬ (1 : Int) < (v : Int) := by omega
    have Hr : Hid (flagP st = (st2, v == 1)) := by show _ = _; rw [Hfl.out, decide_eq_false hv, Bool.or_false]
    have hvb : ((v : Int) == 1) = (v == 1) := by
      rcases (by omega : v = 0 ∨ v = 1) with e | e
      · subst e; rfl
      · subst e; rfl
    go_wp2
    go_ret
    exact ⟨by rw [Hr.out]; first | done | rfl | (rw [← hvb]; first | done | rfl), by rw [Hr.out]; exact Hp2.out, Hg2.out⟩
end Go.Proofs.Ytgohhojoahlfiaa
