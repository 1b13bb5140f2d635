/- EventBackends: a backend's bytes; the backend that stands at a place, with the reader behind it (printed by gen_ebacks.py). -/
import Derived.Test.YtgohhojoahlfiaaEwN
import Derived.Test.YtgohhojoahlfiaaEvPb
import Derived.Test.YtgohhojoahlfiaaEvPt
import Derived.Test.YtgohhojoahlfiaaTrodE
namespace Go.Proofs.Ytgohhojoahlfiaa
open Go.RowKit
set_option linter.unusedVariables false
set_option linter.unusedSimpArgs false

theorem normB_shape {b : BackP} (h : BackShape b) : BackShape (normB b) := ⟨h.addr, h.mac, wbits_lt h.wt⟩
theorem normB_can (b : BackP) : canB (normB b) := wbits_idem _
theorem normB_bytes (b : BackP) : backBytes (normB b) = backBytes b := by unfold backBytes normB; simp only [norm_wput]
theorem normB_same (b : BackP) : sameBackB (normB b) b = true := by simp [sameBackB, normB, wbits_idem]
theorem normB_take {b : BackP} (hs : BackShape b) (ht : toldB b = true) : takeBackS (backBytes b) (0, 0, 0) = (normB b, true) := by
  have h := back_F (l := backBytes (normB b)) (s := (0, 0, 0)) (r := []) (bad := false) (normB_shape hs) ht (normB_can b) rfl (Nat.zero_le _) (by rw [List.append_nil]; rfl)
  rw [normB_bytes] at h
  unfold takeBackS
  rw [h, if_pos (by simp [okayB, adv])]
/-- The reader and the document's Part. -/
theorem backs_sim {l : List UInt8} {n : Nat} (hn : n ≤ l.length) :
    (∃ D K, takeBackS l (n, 0, 0) = (D, true) ∧ (backS l (n, 0, 0) false).1 = (K, 0, 0) ∧ takeBP (l.drop n, false) = ((l.drop K, false), D) ∧ BackShape D ∧ K ≤ l.length) ∨
    (takeBackS l (n, 0, 0) = (back0, false) ∧ ∃ r', takeBP (l.drop n, false) = ((r', true), back0)) := by
  have ok : okS l (n, 0, 0) := ⟨hn, Nat.zero_le _, Nat.zero_le _⟩
  by_cases hok : okayB (backS l (n, 0, 0) false).1 (backS l (n, 0, 0) false).2.1 = true
  · left
    have hok' := hok
    unfold okayB at hok'
    simp only [Bool.and_eq_true, Bool.not_eq_true', decide_eq_true_eq] at hok'
    obtain ⟨hbad, _, hz⟩ := hok'
    obtain ⟨_, E, ht, hc, _⟩ := back_B ok hz hbad
    have hsh := back_shape l (n, 0, 0) false
    obtain ⟨D, hD⟩ : ∃ D, D = (backS l (n, 0, 0) false).2.2 := ⟨_, rfl⟩
    rw [← hD] at E ht hc hsh
    have hto := E.to
    have heq := E.eq
    have hle := E.le
    simp only at heq hle
    refine ⟨D, n + (backBytes D).length, ?_, hto, ?_, hsh, hle⟩
    · unfold takeBackS
      rw [if_pos hok, ← hD]
    · rw [heq]
      exact takeBP_F hsh ht hc
  · right
    have h1 : takeBackS l (n, 0, 0) = (back0, false) := by unfold takeBackS; rw [if_neg hok]
    refine ⟨h1, ?_⟩
    rcases hb : (backP (l.drop n, false)).1.2 with _ | _
    · exfalso
      obtain ⟨E, ht, hc⟩ := backP_B hb
      have hsh := backP_shape (l.drop n, false)
      have h2 := back_F (l := l) (s := (n, 0, 0)) (r := (backP (l.drop n, false)).1.1) (bad := false) hsh ht hc rfl hn E.eq
      apply hok
      rw [h2]
      simp [okayB, adv]
    · refine ⟨(backP (l.drop n, false)).1.1, ?_⟩
      unfold takeBP
      rw [if_pos hb]
      exact Prod.ext (Prod.ext rfl hb) rfl
theorem take_allE {l : List UInt8} {N : Nat} (h : N ≤ l.length) : takeS l (0, 0, 0) (N : Int) = ((N, 0, 0), l.take N) := by
  have hl : (l.take N).length = N := by rw [List.length_take]; omega
  have := take_F (l := l) (s := (0, 0, 0)) (x := l.take N) (r := l.drop N) (n := (N : Int)) rfl (Nat.zero_le _) (by rw [hl]) (by rw [List.drop_zero, List.take_append_drop])
  rw [this, hl]
  simp [adv]
theorem pbE_no (b : BackP) (hs : BackShape b) (ht : toldB b = false) (w : World) : Calls Try.prog 24 #[.agg (backCs b).toArray] w fun x w' => x = .returned (.tuple #[.slice none 0 0, .int .i64 1]) ∧ Below w.heap.size w w' := by
  refine (putBackend_any b hs w).mono ?_
  rintro x w' ⟨h1, h2, _⟩
  exact ⟨h2 ht, h1⟩
theorem pbE_yes (b : BackP) (hs : BackShape b) (ht : toldB b = true) (m : List UInt8) (hm : backBytes b = m) (w : World) : Calls Try.prog 24 #[.agg (backCs b).toArray] w fun x w' => ∃ A' c', x = .returned (.tuple #[.slice A' m.length c', .int .i64 0]) ∧ BS w' w'.heap.size A' m ∧ Below w.heap.size w w' := by
  subst hm
  refine (putBackend_any b hs w).mono ?_
  rintro x w' ⟨h1, _, h3⟩
  obtain ⟨A', c', h4, h5⟩ := h3 ht
  exact ⟨A', c', h4, (BS.of_own h5).1, h1⟩
theorem rbE (b : BackP) (hs : BackShape b) (ht : toldB b = true) (m : List UInt8) (hm : backBytes b = m) (w : World) : Calls Try.prog 26 #[.slice none 0 0, .agg (backCs b).toArray] w fun x w' => ∃ A' c', x = .returned (.slice A' m.length c') ∧ BS w' w'.heap.size A' m ∧ Below w.heap.size w w' := by
  subst hm
  refine (rbackD_any w.heap.size none 0 [] b hs ht w (Nat.le_refl _) (World.ownsRow_nil _ _ _ _) (by decide)).mono ?_
  rintro x w' ⟨A', c', h1, h2, h3⟩
  exact ⟨A', c', h1, (BS.of_own h2).1, h3.below (Nat.le_refl _)⟩
theorem sameOneE (a b : BackP) (ha : BackShape a) (hb : BackShape b) (w : World) (r : Bool) (hr : sameBackB a b = r) :
    Calls Try.prog 29 #[.agg (backCs a).toArray, .agg (backCs b).toArray] w fun e w' => e = .returned (.bool r) ∧ Below w.heap.size w w' := by
  subst hr
  exact sameOne_any a b ha hb w
theorem rdAt_rdE (base g : Nat) (l : List UInt8) (s : St) (w : World) (h : RdW w base g l s) :
    Calls Try.prog 32 #[.pointer (some ⟨g, 0, none⟩)] w fun e w' => e = .returned (.int .i64 (s.1 : Int)) ∧ Below w.heap.size w w' := by
  obtain ⟨A, c, hr, _⟩ := h
  refine (rdAt_any g A l.length c s.1 s.2.1 s.2.2 w hr).mono ?_
  rintro e w' ⟨h1, rfl⟩
  exact ⟨h1, Below.refl _ _⟩
theorem rdFault_sE (base g : Nat) (l : List UInt8) (s : St) (w : World) (h : RdW w base g l s) :
    Calls Try.prog 33 #[.pointer (some ⟨g, 0, none⟩)] w fun e w' => e = .returned (.agg #[.int .i64 (s.2.1 : Int), .int .i64 (s.2.2 : Int)]) ∧ Below w.heap.size w w' := by
  obtain ⟨A, c, hr, _⟩ := h
  exact rdFault_any g A l.length c s.1 s.2.1 s.2.2 w hr

set_option maxHeartbeats 4000000 in
set_option maxRecDepth 100000 in
theorem walk_eventBackends (w : World) (b : BackP) (hs : BackShape b) (hw : BackWf b) (A0 : Option Addr) (n0 c0 : Nat) (l : List UInt8) (hn0 : n0 = l.length) (hc0 : n0 ≤ c0) (hm0 : n0 ≤ maxLen) (hb0 : BS w w.heap.size A0 l) (at_ : Int) (wat : (Lit.int .u8 at_).wf = true) :
    Calls Try.prog 9 #[.agg (backCs b).toArray, .slice A0 n0 c0, .int .u8 at_] w fun e w' => e = .returned (.bool true) ∧ Below w.heap.size w w' := by
  subst hn0
  obtain ⟨at', rfl, hat'⟩ : ∃ k : Nat, at_ = (k : Int) ∧ k ≤ 255 := by have := bounds_u8 wat; exact ⟨at_.toNat, by omega, by omega⟩
  obtain ⟨W0, hW⟩ : ∃ W, W = w.alloc (.cells (backCs b).toArray 29) := ⟨_, rfl⟩
  have H3 : Hid (Blk W0 w.heap.size 29 (backCs b).toArray) := by rw [hW]; exact Blk.new w _ _ _ rfl
  have hB : Below w.heap.size w W0 := by rw [hW]; exact (Below.refl _ _).alloc (Nat.le_refl _) _
  have Bw := Lib.hid hB
  have Hm := Lib.hid ((hb0.below hB).more hB.size)
  have Hs := Lib.hid hs
  have HW := Lib.hid hW
  unfold maxLen at hm0
  clear hW hB hb0 hs hw wat
  by_cases hn4 : b.name.length ≤ 400
  rotate_left
  · have hnI : (400 : Int) < (b.name.length : Int) := by omega
    go_enter Try.func9, Try.ntmps9
    go_upto_region 1 with fail
    rw [← HW.out]
    clear HW
    go_wp2_with fail
    refine (awake28 W0).mono ?_
    rintro e w1 ⟨rfl, hb1⟩
    have Hb1 := Lib.hid hb1
    clear hb1
    have H3' := Lib.hid (Blk.below H3.out Hb1.out H3.out.lt)
    clear H3
    have H3 := H3'
    clear H3'
    have Hm' := Lib.hid ((Hm.out.below Hb1.out).more Hb1.out.size)
    clear Hm
    have Hm := Hm'
    clear Hm'
    have Bw' : Hid (Below w.heap.size w w1) := Bw.out.trans (Hb1.out.mono Bw.out.size)
    clear Bw
    have Bw := Bw'
    clear Bw'
    clear Hb1
    have dnm := cb_name H3.out
    go_wp2_with fail
    clear dnm
    refine (awake28 w1).mono ?_
    rintro e wz ⟨rfl, hb2⟩
    have Hb2 := Lib.hid hb2
    clear hb2
    have H3' := Lib.hid (Blk.below H3.out Hb2.out H3.out.lt)
    clear H3
    have H3 := H3'
    clear H3'
    have Hm' := Lib.hid ((Hm.out.below Hb2.out).more Hb2.out.size)
    clear Hm
    have Hm := Hm'
    clear Hm'
    have Bw' : Hid (Below w.heap.size w wz) := Bw.out.trans (Hb2.out.mono Bw.out.size)
    clear Bw
    have Bw := Bw'
    clear Bw'
    clear Hb2
    go_wp2
    go_ret
    exact ⟨rfl, Bw.out⟩
  have hnI : ¬ (400 : Int) < (b.name.length : Int) := by omega
  by_cases h2 : l.length ≤ 1000
  rotate_left
  · have hlI : (1000 : Int) < (l.length : Int) := by omega
    go_enter Try.func9, Try.ntmps9
    go_upto_region 1 with fail
    rw [← HW.out]
    clear HW
    go_wp2_with fail
    refine (awake28 W0).mono ?_
    rintro e w1 ⟨rfl, hb3⟩
    have Hb3 := Lib.hid hb3
    clear hb3
    have H3' := Lib.hid (Blk.below H3.out Hb3.out H3.out.lt)
    clear H3
    have H3 := H3'
    clear H3'
    have Hm' := Lib.hid ((Hm.out.below Hb3.out).more Hb3.out.size)
    clear Hm
    have Hm := Hm'
    clear Hm'
    have Bw' : Hid (Below w.heap.size w w1) := Bw.out.trans (Hb3.out.mono Bw.out.size)
    clear Bw
    have Bw := Bw'
    clear Bw'
    clear Hb3
    have dnm := cb_name H3.out
    go_wp2_with fail
    clear dnm
    refine (awake28 w1).mono ?_
    rintro e wz ⟨rfl, hb4⟩
    have Hb4 := Lib.hid hb4
    clear hb4
    have H3' := Lib.hid (Blk.below H3.out Hb4.out H3.out.lt)
    clear H3
    have H3 := H3'
    clear H3'
    have Hm' := Lib.hid ((Hm.out.below Hb4.out).more Hb4.out.size)
    clear Hm
    have Hm := Hm'
    clear Hm'
    have Bw' : Hid (Below w.heap.size w wz) := Bw.out.trans (Hb4.out.mono Bw.out.size)
    clear Bw
    have Bw := Bw'
    clear Bw'
    clear Hb4
    go_wp2
    go_ret
    exact ⟨rfl, Bw.out⟩
  have hlI : ¬ (1000 : Int) < (l.length : Int) := by omega
  obtain ⟨N, hN⟩ : ∃ N, N = min at' l.length := ⟨_, rfl⟩
  have hNl : N ≤ l.length := by omega
  have hNc : N ≤ c0 := by omega
  have hN255 : N ≤ 255 := by omega
  have HmI : Hid (min (at' : Int) (l.length : Int) = (N : Int)) := by show _ = _; omega
  clear hN
  rcases ht : toldB b with _ | _
  · have Ht := Lib.hid ht
    clear ht
    go_enter Try.func9, Try.ntmps9
    go_upto_region 1 with fail
    rw [← HW.out]
    clear HW
    go_wp2_with fail
    refine (awake28 W0).mono ?_
    rintro e w1 ⟨rfl, hb5⟩
    have Hb5 := Lib.hid hb5
    clear hb5
    have H3' := Lib.hid (Blk.below H3.out Hb5.out H3.out.lt)
    clear H3
    have H3 := H3'
    clear H3'
    have Hm' := Lib.hid ((Hm.out.below Hb5.out).more Hb5.out.size)
    clear Hm
    have Hm := Hm'
    clear Hm'
    have Bw' : Hid (Below w.heap.size w w1) := Bw.out.trans (Hb5.out.mono Bw.out.size)
    clear Bw
    have Bw := Bw'
    clear Bw'
    clear Hb5
    have dnm := cb_name H3.out
    have R3 := Lib.hid (blk_range H3.out)
    go_wp2_with (first
      | ((with_reducible refine gateL 29 ?_); refine wpList_load_g (by rfl) 29 (.tmp 3) rfl w.heap.size 0 rfl (backCs b) _ R3.out back_under rfl (back_sz Hs.out) ?_))
    clear R3
    clear dnm
    refine (pbE_no b Hs.out Ht.out w1).mono ?_
    rintro e w2 ⟨rfl, hb6⟩
    have Hb6 := Lib.hid hb6
    clear hb6
    have H3' := Lib.hid (Blk.below H3.out Hb6.out H3.out.lt)
    clear H3
    have H3 := H3'
    clear H3'
    have Hm' := Lib.hid ((Hm.out.below Hb6.out).more Hb6.out.size)
    clear Hm
    have Hm := Hm'
    clear Hm'
    have Bw' : Hid (Below w.heap.size w w2) := Bw.out.trans (Hb6.out.mono Bw.out.size)
    clear Bw
    have Bw := Bw'
    clear Bw'
    clear Hb6
    go_upto_region 4 with fail
    go_cut [65] from 36 to 65 (fun v65 wc => v65 = .bool false ∧ Hid (Below w2.heap.size w2 wc))
    case first =>
      refine wp_region_noPanic ?_
      refine wp_region_held_drew (S := fun w' => Below w2.heap.size w2 w') (by kernel_rfl) ((Below.refl _ _).drew) (fun hHeld => ?_)
      refine wpAnyH_take (i := 0) (v := ?_) rfl (by kernel_rfl) (by kernel_rfl) (by kernel_rfl) (fun _ _ _ h => h) (Or.inl ⟨by rfl, ?_⟩) hHeld ?_
      rotate_left
      · intro w' hSw
        skip
        go_simp
        try with_reducible rfl
      try (simp only [Act.put, List.getElem_toArray, List.getElem_cons_succ, List.getElem_cons_zero, List.setIfInBounds_toArray, List.set_cons_zero, List.set_cons_succ])
      refine wpAnyH_take (i := 1) (v := ?_) rfl (by kernel_rfl) (by kernel_rfl) (by kernel_rfl) (fun _ _ _ h => h) (Or.inl ⟨by rfl, ?_⟩) hHeld ?_
      rotate_left
      · intro w' hSw
        skip
        go_simp
        try with_reducible rfl
      try (simp only [Act.put, List.getElem_toArray, List.getElem_cons_succ, List.getElem_cons_zero, List.setIfInBounds_toArray, List.set_cons_zero, List.set_cons_succ])
      refine wpAnyH_take (i := 2) rfl (by kernel_rfl) (by kernel_rfl) (by kernel_rfl) (fun _ _ _ h => h) (yieldsIf_load_mid (by rfl) 29 (.tmp 3) rfl (w.heap.size) (0) rfl (backCs b) _ (fun w' hSw => blk_range (Blk.below H3.out hSw H3.out.lt)) Try.underlying29 rfl (back_sz Hs.out)) hHeld ?_
      try (simp only [Act.put, List.getElem_toArray, List.getElem_cons_succ, List.getElem_cons_zero, List.setIfInBounds_toArray, List.set_cons_zero, List.set_cons_succ])
      refine wpAnyH_ready (rs := [3]) (by kernel_rfl) (by simp) ?_
      refine AllReadyH.cons (i := 3) rfl (fun K hK => ?_) AllReadyH.nil
      go_simp
      refine (rtoldE b Hs.out _ false Ht.out).mono ?_
      rintro e wq1 ⟨rfl, hbq⟩
      have hBehind : Below w2.heap.size w2 wq1 := hHeld.trans (hbq.mono hHeld.size)
      clear hbq
      go_wp2_with fail
      refine hK.out _ _ hBehind (fun hHeld => ?_)
      clear hK K hBehind
      try (simp only [Act.put, List.getElem_toArray, List.getElem_cons_succ, List.getElem_cons_zero, List.setIfInBounds_toArray, List.set_cons_zero, List.set_cons_succ])
      refine wpAnyH_take (i := 4) (v := ?_) rfl (by kernel_rfl) (by kernel_rfl) (by kernel_rfl) (fun _ _ _ h => h) (Or.inl ⟨by rfl, ?_⟩) hHeld ?_
      rotate_left
      · intro w' hSw
        skip
        go_simp
        try with_reducible rfl
      try (simp only [Act.put, List.getElem_toArray, List.getElem_cons_succ, List.getElem_cons_zero, List.setIfInBounds_toArray, List.set_cons_zero, List.set_cons_succ])
      refine wpAnyH_take (i := 5) (v := ?_) rfl (by kernel_rfl) (by kernel_rfl) (by kernel_rfl) (fun _ _ _ h => h) (Or.inl ⟨by rfl, ?_⟩) hHeld ?_
      rotate_left
      · intro w' hSw
        skip
        go_simp
        try with_reducible rfl
      try (simp only [Act.put, List.getElem_toArray, List.getElem_cons_succ, List.getElem_cons_zero, List.setIfInBounds_toArray, List.set_cons_zero, List.set_cons_succ])
      refine wpAnyH_take (i := 6) (v := ?_) rfl (by kernel_rfl) (by kernel_rfl) (by kernel_rfl) (fun _ _ _ h => h) (Or.inl ⟨by rfl, ?_⟩) hHeld ?_
      rotate_left
      · intro w' hSw
        skip
        go_simp
        try with_reducible rfl
      try (simp only [Act.put, List.getElem_toArray, List.getElem_cons_succ, List.getElem_cons_zero, List.setIfInBounds_toArray, List.set_cons_zero, List.set_cons_succ])
      refine wpAnyH_take (i := 7) (v := ?_) rfl (by kernel_rfl) (by kernel_rfl) (by kernel_rfl) (fun _ _ _ h => h) (Or.inl ⟨by rfl, ?_⟩) hHeld ?_
      rotate_left
      · intro w' hSw
        skip
        go_simp
        try with_reducible rfl
      try (simp only [Act.put, List.getElem_toArray, List.getElem_cons_succ, List.getElem_cons_zero, List.setIfInBounds_toArray, List.set_cons_zero, List.set_cons_succ])
      refine wpAnyH_take (i := 8) (v := ?_) rfl (by kernel_rfl) (by kernel_rfl) (by kernel_rfl) (fun _ _ _ h => h) (Or.inl ⟨by rfl, ?_⟩) hHeld ?_
      rotate_left
      · intro w' hSw
        skip
        go_simp
        try with_reducible rfl
      try (simp only [Act.put, List.getElem_toArray, List.getElem_cons_succ, List.getElem_cons_zero, List.setIfInBounds_toArray, List.set_cons_zero, List.set_cons_succ])
      refine wpAnyH_take (i := 9) (v := ?_) rfl (by kernel_rfl) (by kernel_rfl) (by kernel_rfl) (fun _ _ _ h => h) (Or.inl ⟨by rfl, ?_⟩) hHeld ?_
      rotate_left
      · intro w' hSw
        skip
        go_simp
        try with_reducible rfl
      try (simp only [Act.put, List.getElem_toArray, List.getElem_cons_succ, List.getElem_cons_zero, List.setIfInBounds_toArray, List.set_cons_zero, List.set_cons_succ])
      refine wpAnyH_take (i := 10) (v := ?_) rfl (by kernel_rfl) (by kernel_rfl) (by kernel_rfl) (fun _ _ _ h => h) (Or.inl ⟨by rfl, ?_⟩) hHeld ?_
      rotate_left
      · intro w' hSw
        skip
        go_simp
        try with_reducible rfl
      try (simp only [Act.put, List.getElem_toArray, List.getElem_cons_succ, List.getElem_cons_zero, List.setIfInBounds_toArray, List.set_cons_zero, List.set_cons_succ])
      refine wpAnyH_take (i := 11) (v := ?_) rfl (by kernel_rfl) (by kernel_rfl) (by kernel_rfl) (fun _ _ _ h => h) (Or.inl ⟨by rfl, ?_⟩) hHeld ?_
      rotate_left
      · intro w' hSw
        skip
        go_simp
        try with_reducible rfl
      try (simp only [Act.put, List.getElem_toArray, List.getElem_cons_succ, List.getElem_cons_zero, List.setIfInBounds_toArray, List.set_cons_zero, List.set_cons_succ])
      refine wpAnyH_take (i := 12) (v := ?_) rfl (by kernel_rfl) (by kernel_rfl) (by kernel_rfl) (fun _ _ _ h => h) (Or.inl ⟨by rfl, ?_⟩) hHeld ?_
      rotate_left
      · intro w' hSw
        skip
        go_simp
        try with_reducible rfl
      try (simp only [Act.put, List.getElem_toArray, List.getElem_cons_succ, List.getElem_cons_zero, List.setIfInBounds_toArray, List.set_cons_zero, List.set_cons_succ])
      refine wpAnyH_take (i := 13) (v := ?_) rfl (by kernel_rfl) (by kernel_rfl) (by kernel_rfl) (fun _ _ _ h => h) (Or.inl ⟨by rfl, ?_⟩) hHeld ?_
      rotate_left
      · intro w' hSw
        skip
        go_simp
        try with_reducible rfl
      try (simp only [Act.put, List.getElem_toArray, List.getElem_cons_succ, List.getElem_cons_zero, List.setIfInBounds_toArray, List.set_cons_zero, List.set_cons_succ])
      refine wpAnyH_take (i := 14) (v := ?_) rfl (by kernel_rfl) (by kernel_rfl) (by kernel_rfl) (fun _ _ _ h => h) (Or.inl ⟨by rfl, ?_⟩) hHeld ?_
      rotate_left
      · intro w' hSw
        skip
        go_simp
        try with_reducible rfl
      try (simp only [Act.put, List.getElem_toArray, List.getElem_cons_succ, List.getElem_cons_zero, List.setIfInBounds_toArray, List.set_cons_zero, List.set_cons_succ])
      refine wpAnyH_take (i := 15) (v := ?_) rfl (by kernel_rfl) (by kernel_rfl) (by kernel_rfl) (fun _ _ _ h => h) (Or.inl ⟨by rfl, ?_⟩) hHeld ?_
      rotate_left
      · intro w' hSw
        skip
        go_simp
        try with_reducible rfl
      try (simp only [Act.put, List.getElem_toArray, List.getElem_cons_succ, List.getElem_cons_zero, List.setIfInBounds_toArray, List.set_cons_zero, List.set_cons_succ])
      refine wpAnyH_take (i := 16) (v := ?_) rfl (by kernel_rfl) (by kernel_rfl) (by kernel_rfl) (fun _ _ _ h => h) (Or.inl ⟨by rfl, ?_⟩) hHeld ?_
      rotate_left
      · intro w' hSw
        skip
        go_simp
        try with_reducible rfl
      try (simp only [Act.put, List.getElem_toArray, List.getElem_cons_succ, List.getElem_cons_zero, List.setIfInBounds_toArray, List.set_cons_zero, List.set_cons_succ])
      refine wpAnyH_take (i := 17) (v := ?_) rfl (by kernel_rfl) (by kernel_rfl) (by kernel_rfl) (fun _ _ _ h => h) (Or.inl ⟨by rfl, ?_⟩) hHeld ?_
      rotate_left
      · intro w' hSw
        skip
        go_simp
        try with_reducible rfl
      try (simp only [Act.put, List.getElem_toArray, List.getElem_cons_succ, List.getElem_cons_zero, List.setIfInBounds_toArray, List.set_cons_zero, List.set_cons_succ])
      refine wpAnyH_take (i := 18) (v := ?_) rfl (by kernel_rfl) (by kernel_rfl) (by kernel_rfl) (fun _ _ _ h => h) (Or.inl ⟨by rfl, ?_⟩) hHeld ?_
      rotate_left
      · intro w' hSw
        skip
        go_simp
        try with_reducible rfl
      try (simp only [Act.put, List.getElem_toArray, List.getElem_cons_succ, List.getElem_cons_zero, List.setIfInBounds_toArray, List.set_cons_zero, List.set_cons_succ])
      refine wpAnyH_take (i := 19) (v := ?_) rfl (by kernel_rfl) (by kernel_rfl) (by kernel_rfl) (fun _ _ _ h => h) (Or.inl ⟨by rfl, ?_⟩) hHeld ?_
      rotate_left
      · intro w' hSw
        skip
        go_simp
        try with_reducible rfl
      try (simp only [Act.put, List.getElem_toArray, List.getElem_cons_succ, List.getElem_cons_zero, List.setIfInBounds_toArray, List.set_cons_zero, List.set_cons_succ])
      refine wpAnyH_take (i := 20) (v := ?_) rfl (by kernel_rfl) (by kernel_rfl) (by kernel_rfl) (fun _ _ _ h => h) (Or.inl ⟨by rfl, ?_⟩) hHeld ?_
      rotate_left
      · intro w' hSw
        skip
        go_simp
        try with_reducible rfl
      try (simp only [Act.put, List.getElem_toArray, List.getElem_cons_succ, List.getElem_cons_zero, List.setIfInBounds_toArray, List.set_cons_zero, List.set_cons_succ])
      refine wpAnyH_take (i := 21) (v := ?_) rfl (by kernel_rfl) (by kernel_rfl) (by kernel_rfl) (fun _ _ _ h => h) (Or.inl ⟨by rfl, ?_⟩) hHeld ?_
      rotate_left
      · intro w' hSw
        skip
        go_simp
        try with_reducible rfl
      try (simp only [Act.put, List.getElem_toArray, List.getElem_cons_succ, List.getElem_cons_zero, List.setIfInBounds_toArray, List.set_cons_zero, List.set_cons_succ])
      refine wpAnyH_take (i := 22) (v := undef) rfl (by kernel_rfl) (by kernel_rfl) (by kernel_rfl) (fun _ _ _ h => h) (Or.inr ⟨by rfl, rfl⟩) hHeld ?_
      try (simp only [Act.put, List.getElem_toArray, List.getElem_cons_succ, List.getElem_cons_zero, List.setIfInBounds_toArray, List.set_cons_zero, List.set_cons_succ])
      refine wpAnyH_take (i := 23) (v := undef) rfl (by kernel_rfl) (by kernel_rfl) (by kernel_rfl) (fun _ _ _ h => h) (Or.inr ⟨by rfl, rfl⟩) hHeld ?_
      try (simp only [Act.put, List.getElem_toArray, List.getElem_cons_succ, List.getElem_cons_zero, List.setIfInBounds_toArray, List.set_cons_zero, List.set_cons_succ])
      refine wpAnyH_take (i := 24) (v := undef) rfl (by kernel_rfl) (by kernel_rfl) (by kernel_rfl) (fun _ _ _ h => h) (Or.inr ⟨by rfl, rfl⟩) hHeld ?_
      try (simp only [Act.put, List.getElem_toArray, List.getElem_cons_succ, List.getElem_cons_zero, List.setIfInBounds_toArray, List.set_cons_zero, List.set_cons_succ])
      refine wpAnyH_take (i := 25) (v := undef) rfl (by kernel_rfl) (by kernel_rfl) (by kernel_rfl) (fun _ _ _ h => h) (Or.inr ⟨by rfl, rfl⟩) hHeld ?_
      try (simp only [Act.put, List.getElem_toArray, List.getElem_cons_succ, List.getElem_cons_zero, List.setIfInBounds_toArray, List.set_cons_zero, List.set_cons_succ])
      refine wpAnyH_take (i := 26) (v := undef) rfl (by kernel_rfl) (by kernel_rfl) (by kernel_rfl) (fun _ _ _ h => h) (Or.inr ⟨by rfl, rfl⟩) hHeld ?_
      try (simp only [Act.put, List.getElem_toArray, List.getElem_cons_succ, List.getElem_cons_zero, List.setIfInBounds_toArray, List.set_cons_zero, List.set_cons_succ])
      refine wpAnyH_take (i := 27) (v := undef) rfl (by kernel_rfl) (by kernel_rfl) (by kernel_rfl) (fun _ _ _ h => h) (Or.inr ⟨by rfl, rfl⟩) hHeld ?_
      try (simp only [Act.put, List.getElem_toArray, List.getElem_cons_succ, List.getElem_cons_zero, List.setIfInBounds_toArray, List.set_cons_zero, List.set_cons_succ])
      refine wpAnyH_take (i := 28) (v := ?_) rfl (by kernel_rfl) (by kernel_rfl) (by kernel_rfl) (fun _ _ _ h => h) (Or.inl ⟨by rfl, ?_⟩) hHeld ?_
      rotate_left
      · intro w' hSw
        skip
        go_simp
        try with_reducible rfl
      try (simp only [Act.put, List.getElem_toArray, List.getElem_cons_succ, List.getElem_cons_zero, List.setIfInBounds_toArray, List.set_cons_zero, List.set_cons_succ])
      refine wpAnyH_take (i := 29) (v := ?_) rfl (by kernel_rfl) (by kernel_rfl) (by kernel_rfl) (fun _ _ _ h => h) (Or.inl ⟨by rfl, ?_⟩) hHeld ?_
      rotate_left
      · intro w' hSw
        skip
        go_simp
        try with_reducible rfl
      try (simp only [Act.put, List.getElem_toArray, List.getElem_cons_succ, List.getElem_cons_zero, List.setIfInBounds_toArray, List.set_cons_zero, List.set_cons_succ])
      refine wpAnyH_done (by kernel_rfl) ?_ _
      refine NoPanic.normal ?_
      go_wp2
      go_meet
      case rel => exact ⟨rfl, Lib.hid hHeld⟩
    case rest =>
      obtain ⟨rfl, Hc⟩ := hcut
      have H3' := Lib.hid (Blk.below H3.out Hc.out H3.out.lt)
      clear H3
      have H3 := H3'
      clear H3'
      have Hm' := Lib.hid ((Hm.out.below Hc.out).more Hc.out.size)
      clear Hm
      have Hm := Hm'
      clear Hm'
      have Bw' : Hid (Below w.heap.size w wc) := Bw.out.trans (Hc.out.mono Bw.out.size)
      clear Bw
      have Bw := Bw'
      clear Bw'
      clear Hc
      clear H3
      rcases backs_sim hNl with ⟨D, Kp, q1, q2, q3, q4, q5⟩ | ⟨q1, r', q3⟩
      · have Q1 := Lib.hid q1
        have Q2 := Lib.hid q2
        have Q3 := Lib.hid q3
        have HD := Lib.hid q4
        clear q1 q2 q3 q4
        have hmI := HmI.out
        go_wp2_with fail
        refine (rdNew_any A0 _ c0 l wc rfl Hm.out (by omega)).mono ?_
        rintro e u3 ⟨g2, rfl, hg1, hg2, hR, hb1⟩
        have HR1 := Lib.hid hR
        have Hu1 := Lib.hid hb1
        have hT := rdTake_any _ g2 l (0, 0, 0) u3 (N : Int) hR ⟨Nat.zero_le _, Nat.zero_le _, Nat.zero_le _⟩ (by omega) (by omega)
        rw [take_allE hNl] at hT
        have HT := Lib.hid hT
        clear hR hb1 hT hmI
        go_wp2_with fail
        refine HT.out.mono ?_
        rintro e w8 ⟨Ax, cx, rfl, _, hR2, hgr⟩
        have HR2 := Lib.hid hR2
        have Hu2 : Hid (Below wc.heap.size wc w8) := Hu1.out.grown hgr Hu1.out.size (fun k hk => by simp only [Option.some.injEq] at hk; omega)
        clear hR2 hgr HR1 Hu1 HT
        go_wp2_with fail
        refine (takeB_any _ g2 l (N, 0, 0) w8 HR2.out ⟨hNl, Nat.zero_le _, Nat.zero_le _⟩ (by omega)).mono ?_
        unfold TakeBIs
        rw [Q1.out, Q2.out]
        rintro e w9 ⟨rfl, hR3, _, ho9⟩
        have HR3 := Lib.hid hR3
        have Hu3 : Hid (Below wc.heap.size wc w9) := Hu2.out.trans (ho9.below hg1 (fun k hk => by cases hk) Hu2.out.size)
        clear hR3 ho9 HR2 Hu2 Q1 Q2
        have Hm' := Lib.hid ((Hm.out.below Hu3.out).more Hu3.out.size)
        clear Hm
        have Hm := Hm'
        clear Hm'
        have Bw' : Hid (Below w.heap.size w w9) := Bw.out.trans (Hu3.out.mono Bw.out.size)
        clear Bw
        have Bw := Bw'
        clear Bw'
        clear Hu3
        obtain ⟨x7, hx7⟩ : ∃ W, W = w9.alloc (.cells (backCs back0).toArray 29) := ⟨_, rfl⟩
        obtain ⟨y7, hy7⟩ : ∃ W, W = x7.setCells w9.heap.size 0 (backCs D) := ⟨_, rfl⟩
        obtain ⟨hth7, hbx7, hbe7⟩ := boxed w9 x7 y7 29 (backCs back0) (backCs D) (by rw [back_len HD.out, back_len back0_shape]) hx7 hy7
        rw [back0_lit] at hx7
        have HX7 := Lib.hid hx7
        have HY7 := Lib.hid hy7
        have Hth7 := Lib.hid hth7
        have Hbe7 := Lib.hid hbe7
        have H13n := Lib.hid hbx7
        clear hx7 hy7 hth7 hbx7 hbe7
        go_upto_region 14 with (first
          | (rw [← HX7.out]; (with_reducible refine gateS 29 ?_); refine wpList_store_mid rfl 29 (.tmp 13) (.tmp 95) rfl w9.heap.size 0 (backCs D).toArray rfl rfl Hth7.out (back_szA HD.out) (back_one _) ?_))
        rw [← HY7.out]
        clear HX7 HY7 Hth7
        have Hm' := Lib.hid ((Hm.out.below Hbe7.out).more Hbe7.out.size)
        clear Hm
        have Hm := Hm'
        clear Hm'
        have HR3' := Lib.hid (HR3.out.below Hbe7.out)
        clear HR3
        have HR3 := HR3'
        clear HR3'
        have Bw' : Hid (Below w.heap.size w y7) := Bw.out.trans (Hbe7.out.mono Bw.out.size)
        clear Bw
        have Bw := Bw'
        clear Bw'
        have H13 := H13n
        clear H13n Hbe7
        by_cases hcN : c0 = N
        · obtain ⟨z1, hz1⟩ : ∃ W, W = y7.alloc (.cells #[.slice A0 (l.length - N) 0, .bool false] 68) := ⟨_, rfl⟩
          have hzb : Below y7.heap.size y7 z1 := by rw [hz1]; exact (Below.refl _ _).alloc (Nat.le_refl _) _
          have hdl : (l.drop N).length = l.length - N := List.length_drop
          have hpw : PW z1 y7.heap.size y7.heap.size (l.drop N, false) := by
            refine ⟨A0, 0, ?_, ?_, ?_, Nat.le_refl _⟩
            · rw [hz1, hdl]; exact Blk.new _ _ _ _ rfl
            · rw [List.eq_nil_of_length_eq_zero (show (l.drop N).length = 0 by omega)]; exact BS.nil _ _ _
            · rw [hdl]; omega
          have Hzb := Lib.hid hzb
          have Hpw := Lib.hid hpw
          have Hz1 := Lib.hid hz1
          obtain ⟨gp, hgp⟩ : ∃ z, z = y7.heap.size := ⟨_, rfl⟩
          have Hgp := Lib.hid hgp
          clear hz1 hzb hdl hpw hgp
          go_upto_region 15 with fail
          rw [← Hz1.out, ← Hgp.out]
          rw [← Hgp.out] at Hpw
          clear Hz1
          go_wp2_with fail
          refine (pTake_any gp gp (l.drop N, false) z1 Hpw.out (by rw [List.length_drop]; omega)).mono ?_
          unfold PTkIs
          rw [Q3.out]
          rintro e z2 ⟨rfl, hp2, hg2⟩
          have Hp2 := Lib.hid hp2
          have Hz2 : Hid (Below y7.heap.size y7 z2) := Hzb.out.grown hg2 Hzb.out.size (fun k hk => by injection hk with hk; have := Hgp.out; omega)
          clear hp2 hg2 Hpw Hzb Q3
          have H13' := Lib.hid (Blk.below H13.out Hz2.out H13.out.lt)
          clear H13
          have H13 := H13'
          clear H13'
          have Hm' := Lib.hid ((Hm.out.below Hz2.out).more Hz2.out.size)
          clear Hm
          have Hm := Hm'
          clear Hm'
          have HR3' := Lib.hid (HR3.out.below Hz2.out)
          clear HR3
          have HR3 := HR3'
          clear HR3'
          have Bw' : Hid (Below w.heap.size w z2) := Bw.out.trans (Hz2.out.mono Bw.out.size)
          clear Bw
          have Bw := Bw'
          clear Bw'
          clear Hz2
          obtain ⟨x8, hx8⟩ : ∃ W, W = z2.alloc (.cells (backCs back0).toArray 29) := ⟨_, rfl⟩
          obtain ⟨y8, hy8⟩ : ∃ W, W = x8.setCells z2.heap.size 0 (backCs D) := ⟨_, rfl⟩
          obtain ⟨hth8, hbx8, hbe8⟩ := boxed z2 x8 y8 29 (backCs back0) (backCs D) (by rw [back_len HD.out, back_len back0_shape]) hx8 hy8
          rw [back0_lit] at hx8
          have HX8 := Lib.hid hx8
          have HY8 := Lib.hid hy8
          have Hth8 := Lib.hid hth8
          have Hbe8 := Lib.hid hbe8
          have H16n := Lib.hid hbx8
          clear hx8 hy8 hth8 hbx8 hbe8
          have R13 := Lib.hid (blk_range H13.out)
          go_upto_region 16 with (first
            | ((with_reducible refine gateL 29 ?_); refine wpList_load_g (by rfl) 29 (.tmp 13) rfl w9.heap.size 0 rfl (backCs D) _ R13.out back_under rfl (back_sz HD.out) ?_)
            | (rw [← HX8.out]; (with_reducible refine gateS 29 ?_); refine wpList_store_mid rfl 29 (.tmp 16) (.tmp 103) rfl z2.heap.size 0 (backCs D).toArray rfl rfl Hth8.out (back_szA HD.out) (back_one _) ?_))
          clear R13
          rw [← HY8.out]
          clear HX8 HY8 Hth8
          have H13' := Lib.hid (Blk.below H13.out Hbe8.out H13.out.lt)
          clear H13
          have H13 := H13'
          clear H13'
          have Hm' := Lib.hid ((Hm.out.below Hbe8.out).more Hbe8.out.size)
          clear Hm
          have Hm := Hm'
          clear Hm'
          have HR3' := Lib.hid (HR3.out.below Hbe8.out)
          clear HR3
          have HR3 := HR3'
          clear HR3'
          have Hp2' := Lib.hid (Hp2.out.below Hbe8.out)
          clear Hp2
          have Hp2 := Hp2'
          clear Hp2'
          have Bw' : Hid (Below w.heap.size w y8) := Bw.out.trans (Hbe8.out.mono Bw.out.size)
          clear Bw
          have Bw := Bw'
          clear Bw'
          have H16 := H16n
          clear H16n Hbe8
          obtain ⟨Ap, cp, hXp, _⟩ := Hp2.out
          have HXp := Lib.hid hXp
          clear hXp
          go_upto_region 16 with fail
          refine wp_region_noPanic ?_
          refine wp_region_held_drew (S := fun w' => Below y8.heap.size y8 w') (by kernel_rfl) ((Below.refl _ _).drew) (fun hHeld => ?_)
          refine wpAnyH_take (i := 0) (v := ?_) rfl (by kernel_rfl) (by kernel_rfl) (by kernel_rfl) (fun _ _ _ h => h) (Or.inl ⟨by rfl, ?_⟩) hHeld ?_
          rotate_left
          · intro w' hSw
            skip
            go_simp
            try with_reducible rfl
          try (simp only [Act.put, List.getElem_toArray, List.getElem_cons_succ, List.getElem_cons_zero, List.setIfInBounds_toArray, List.set_cons_zero, List.set_cons_succ])
          refine wpAnyH_take (i := 1) (v := ?_) rfl (by kernel_rfl) (by kernel_rfl) (by kernel_rfl) (fun _ _ _ h => h) (Or.inl ⟨by rfl, ?_⟩) hHeld ?_
          rotate_left
          · intro w' hSw
            skip
            go_simp
            try with_reducible rfl
          try (simp only [Act.put, List.getElem_toArray, List.getElem_cons_succ, List.getElem_cons_zero, List.setIfInBounds_toArray, List.set_cons_zero, List.set_cons_succ])
          refine wpAnyH_take (i := 2) (v := ?_) rfl (by kernel_rfl) (by kernel_rfl) (by kernel_rfl) (fun _ _ _ h => h) (Or.inl ⟨by rfl, ?_⟩) hHeld ?_
          rotate_left
          · intro w' hSw
            skip
            go_simp
            try with_reducible rfl
          try (simp only [Act.put, List.getElem_toArray, List.getElem_cons_succ, List.getElem_cons_zero, List.setIfInBounds_toArray, List.set_cons_zero, List.set_cons_succ])
          refine wpAnyH_take (i := 3) (v := ?_) rfl (by kernel_rfl) (by kernel_rfl) (by kernel_rfl) (fun _ _ _ h => h) (Or.inl ⟨by rfl, ?_⟩) hHeld ?_
          rotate_left
          · intro w' hSw
            skip
            go_simp
            try with_reducible rfl
          try (simp only [Act.put, List.getElem_toArray, List.getElem_cons_succ, List.getElem_cons_zero, List.setIfInBounds_toArray, List.set_cons_zero, List.set_cons_succ])
          refine wpAnyH_take (i := 4) (v := ?_) rfl (by kernel_rfl) (by kernel_rfl) (by kernel_rfl) (fun _ _ _ h => h) (Or.inl ⟨by rfl, ?_⟩) hHeld ?_
          rotate_left
          · intro w' hSw
            have e9 : w'.cell? ⟨gp, 1, none⟩ = some (.bool false) := (Blk.below HXp.out hSw HXp.out.lt).cell 1
            go_simp
            try with_reducible rfl
          try (simp only [Act.put, List.getElem_toArray, List.getElem_cons_succ, List.getElem_cons_zero, List.setIfInBounds_toArray, List.set_cons_zero, List.set_cons_succ])
          refine wpAnyH_take (i := 5) (v := ?_) rfl (by kernel_rfl) (by kernel_rfl) (by kernel_rfl) (fun _ _ _ h => h) (Or.inl ⟨by rfl, ?_⟩) hHeld ?_
          rotate_left
          · intro w' hSw
            skip
            go_simp
            try with_reducible rfl
          try (simp only [Act.put, List.getElem_toArray, List.getElem_cons_succ, List.getElem_cons_zero, List.setIfInBounds_toArray, List.set_cons_zero, List.set_cons_succ])
          refine wpAnyH_take (i := 6) (v := ?_) rfl (by kernel_rfl) (by kernel_rfl) (by kernel_rfl) (fun _ _ _ h => h) (Or.inl ⟨by rfl, ?_⟩) hHeld ?_
          rotate_left
          · intro w' hSw
            skip
            go_simp
            try with_reducible rfl
          try (simp only [Act.put, List.getElem_toArray, List.getElem_cons_succ, List.getElem_cons_zero, List.setIfInBounds_toArray, List.set_cons_zero, List.set_cons_succ])
          refine wpAnyH_take (i := 7) (v := ?_) rfl (by kernel_rfl) (by kernel_rfl) (by kernel_rfl) (fun _ _ _ h => h) (Or.inl ⟨by rfl, ?_⟩) hHeld ?_
          rotate_left
          · intro w' hSw
            skip
            go_simp
            try with_reducible rfl
          try (simp only [Act.put, List.getElem_toArray, List.getElem_cons_succ, List.getElem_cons_zero, List.setIfInBounds_toArray, List.set_cons_zero, List.set_cons_succ])
          refine wpAnyH_take (i := 8) rfl (by kernel_rfl) (by kernel_rfl) (by kernel_rfl) (fun _ _ _ h => h) (yieldsIf_load_mid (by rfl) 29 (.tmp 13) rfl (w9.heap.size) (0) rfl (backCs D) _ (fun w' hSw => blk_range (Blk.below H13.out hSw H13.out.lt)) Try.underlying29 rfl (back_sz HD.out)) hHeld ?_
          try (simp only [Act.put, List.getElem_toArray, List.getElem_cons_succ, List.getElem_cons_zero, List.setIfInBounds_toArray, List.set_cons_zero, List.set_cons_succ])
          refine wpAnyH_take (i := 9) rfl (by kernel_rfl) (by kernel_rfl) (by kernel_rfl) (fun _ _ _ h => h) (yieldsIf_load_mid (by rfl) 29 (.tmp 16) rfl (z2.heap.size) (0) rfl (backCs D) _ (fun w' hSw => blk_range (Blk.below H16.out hSw H16.out.lt)) Try.underlying29 rfl (back_sz HD.out)) hHeld ?_
          try (simp only [Act.put, List.getElem_toArray, List.getElem_cons_succ, List.getElem_cons_zero, List.setIfInBounds_toArray, List.set_cons_zero, List.set_cons_succ])
          refine wpAnyH_ready (rs := [10]) (by kernel_rfl) (by simp) ?_
          refine AllReadyH.cons (i := 10) rfl (fun K hK => ?_) AllReadyH.nil
          go_simp
          refine (sameOneE D D HD.out HD.out _ true (sameBack_self D)).mono ?_
          rintro e wq2 ⟨rfl, hbq⟩
          have hBehind : Below y8.heap.size y8 wq2 := hHeld.trans (hbq.mono hHeld.size)
          clear hbq
          go_wp2_with fail
          refine hK.out _ _ hBehind (fun hHeld => ?_)
          clear hK K hBehind
          try (simp only [Act.put, List.getElem_toArray, List.getElem_cons_succ, List.getElem_cons_zero, List.setIfInBounds_toArray, List.set_cons_zero, List.set_cons_succ])
          refine wpAnyH_take (i := 11) (v := ?_) rfl (by kernel_rfl) (by kernel_rfl) (by kernel_rfl) (fun _ _ _ h => h) (Or.inl ⟨by rfl, ?_⟩) hHeld ?_
          rotate_left
          · intro w' hSw
            skip
            go_simp
            try with_reducible rfl
          try (simp only [Act.put, List.getElem_toArray, List.getElem_cons_succ, List.getElem_cons_zero, List.setIfInBounds_toArray, List.set_cons_zero, List.set_cons_succ])
          refine wpAnyH_take (i := 12) (v := ?_) rfl (by kernel_rfl) (by kernel_rfl) (by kernel_rfl) (fun _ _ _ h => h) (Or.inl ⟨by rfl, ?_⟩) hHeld ?_
          rotate_left
          · intro w' hSw
            skip
            go_simp
            try with_reducible rfl
          try (simp only [Act.put, List.getElem_toArray, List.getElem_cons_succ, List.getElem_cons_zero, List.setIfInBounds_toArray, List.set_cons_zero, List.set_cons_succ])
          refine wpAnyH_take (i := 13) (v := ?_) rfl (by kernel_rfl) (by kernel_rfl) (by kernel_rfl) (fun _ _ _ h => h) (Or.inl ⟨by rfl, ?_⟩) hHeld ?_
          rotate_left
          · intro w' hSw
            skip
            go_simp
            try with_reducible rfl
          try (simp only [Act.put, List.getElem_toArray, List.getElem_cons_succ, List.getElem_cons_zero, List.setIfInBounds_toArray, List.set_cons_zero, List.set_cons_succ])
          refine wpAnyH_take (i := 14) (v := ?_) rfl (by kernel_rfl) (by kernel_rfl) (by kernel_rfl) (fun _ _ _ h => h) (Or.inl ⟨by rfl, ?_⟩) hHeld ?_
          rotate_left
          · intro w' hSw
            skip
            go_simp
            try with_reducible rfl
          try (simp only [Act.put, List.getElem_toArray, List.getElem_cons_succ, List.getElem_cons_zero, List.setIfInBounds_toArray, List.set_cons_zero, List.set_cons_succ])
          refine wpAnyH_take (i := 15) (v := ?_) rfl (by kernel_rfl) (by kernel_rfl) (by kernel_rfl) (fun _ _ _ h => h) (Or.inl ⟨by rfl, ?_⟩) hHeld ?_
          rotate_left
          · intro w' hSw
            skip
            go_simp
            try with_reducible rfl
          try (simp only [Act.put, List.getElem_toArray, List.getElem_cons_succ, List.getElem_cons_zero, List.setIfInBounds_toArray, List.set_cons_zero, List.set_cons_succ])
          refine wpAnyH_take (i := 16) (v := ?_) rfl (by kernel_rfl) (by kernel_rfl) (by kernel_rfl) (fun _ _ _ h => h) (Or.inl ⟨by rfl, ?_⟩) hHeld ?_
          rotate_left
          · intro w' hSw
            skip
            go_simp
            try with_reducible rfl
          try (simp only [Act.put, List.getElem_toArray, List.getElem_cons_succ, List.getElem_cons_zero, List.setIfInBounds_toArray, List.set_cons_zero, List.set_cons_succ])
          refine wpAnyH_take (i := 18) (v := ?_) rfl (by kernel_rfl) (by kernel_rfl) (by kernel_rfl) (fun _ _ _ h => h) (Or.inl ⟨by rfl, ?_⟩) hHeld ?_
          rotate_left
          · intro w' hSw
            skip
            go_simp
            try with_reducible rfl
          try (simp only [Act.put, List.getElem_toArray, List.getElem_cons_succ, List.getElem_cons_zero, List.setIfInBounds_toArray, List.set_cons_zero, List.set_cons_succ])
          refine wpAnyH_take (i := 19) (v := ?_) rfl (by kernel_rfl) (by kernel_rfl) (by kernel_rfl) (fun _ _ _ h => h) (Or.inl ⟨by rfl, ?_⟩) hHeld ?_
          rotate_left
          · intro w' hSw
            skip
            go_simp
            try with_reducible rfl
          try (simp only [Act.put, List.getElem_toArray, List.getElem_cons_succ, List.getElem_cons_zero, List.setIfInBounds_toArray, List.set_cons_zero, List.set_cons_succ])
          refine wpAnyH_take (i := 20) (v := ?_) rfl (by kernel_rfl) (by kernel_rfl) (by kernel_rfl) (fun _ _ _ h => h) (Or.inl ⟨by rfl, ?_⟩) hHeld ?_
          rotate_left
          · intro w' hSw
            skip
            go_simp
            try with_reducible rfl
          try (simp only [Act.put, List.getElem_toArray, List.getElem_cons_succ, List.getElem_cons_zero, List.setIfInBounds_toArray, List.set_cons_zero, List.set_cons_succ])
          refine wpAnyH_take (i := 21) (v := ?_) rfl (by kernel_rfl) (by kernel_rfl) (by kernel_rfl) (fun _ _ _ h => h) (Or.inl ⟨by rfl, ?_⟩) hHeld ?_
          rotate_left
          · intro w' hSw
            skip
            go_simp
            try with_reducible rfl
          try (simp only [Act.put, List.getElem_toArray, List.getElem_cons_succ, List.getElem_cons_zero, List.setIfInBounds_toArray, List.set_cons_zero, List.set_cons_succ])
          refine wpAnyH_take (i := 22) (v := ?_) rfl (by kernel_rfl) (by kernel_rfl) (by kernel_rfl) (fun _ _ _ h => h) (Or.inl ⟨by rfl, ?_⟩) hHeld ?_
          rotate_left
          · intro w' hSw
            skip
            go_simp
            try with_reducible rfl
          try (simp only [Act.put, List.getElem_toArray, List.getElem_cons_succ, List.getElem_cons_zero, List.setIfInBounds_toArray, List.set_cons_zero, List.set_cons_succ])
          refine wpAnyH_take (i := 23) (v := ?_) rfl (by kernel_rfl) (by kernel_rfl) (by kernel_rfl) (fun _ _ _ h => h) (Or.inl ⟨by rfl, ?_⟩) hHeld ?_
          rotate_left
          · intro w' hSw
            have e9 : w'.cell? ⟨gp, 0, none⟩ = some (.slice Ap (l.drop Kp).length cp) := (Blk.below HXp.out hSw HXp.out.lt).cell 0
            go_simp
            try with_reducible rfl
          try (simp only [Act.put, List.getElem_toArray, List.getElem_cons_succ, List.getElem_cons_zero, List.setIfInBounds_toArray, List.set_cons_zero, List.set_cons_succ])
          refine wpAnyH_take (i := 24) (v := ?_) rfl (by kernel_rfl) (by kernel_rfl) (by kernel_rfl) (fun _ _ _ h => h) (Or.inl ⟨by rfl, ?_⟩) hHeld ?_
          rotate_left
          · intro w' hSw
            skip
            go_simp
            try with_reducible rfl
          try (simp only [Act.put, List.getElem_toArray, List.getElem_cons_succ, List.getElem_cons_zero, List.setIfInBounds_toArray, List.set_cons_zero, List.set_cons_succ])
          refine wpAnyH_take (i := 25) (v := ?_) rfl (by kernel_rfl) (by kernel_rfl) (by kernel_rfl) (fun _ _ _ h => h) (Or.inl ⟨by rfl, ?_⟩) hHeld ?_
          rotate_left
          · intro w' hSw
            have e9 : IntKind.i64.wrap ((l.length : Int) - (((l.drop Kp).length : Nat) : Int)) = (Kp : Int) := (by rw [List.length_drop, IntWalk.i64_in _ (by omega)]; omega); have e8 : IntKind.i64.wrap ((l.length : Int) - ((l.length - Kp : Nat) : Int)) = (Kp : Int) := (by rw [IntWalk.i64_in _ (by omega)]; omega)
            go_simp
            try with_reducible rfl
          try (simp only [Act.put, List.getElem_toArray, List.getElem_cons_succ, List.getElem_cons_zero, List.setIfInBounds_toArray, List.set_cons_zero, List.set_cons_succ])
          refine wpAnyH_ready (rs := [17]) (by kernel_rfl) (by simp) ?_
          refine AllReadyH.cons (i := 17) rfl (fun K hK => ?_) AllReadyH.nil
          go_simp
          refine (rdAt_rdE _ g2 l (Kp, 0, 0) _ (HR3.out.below hHeld)).mono ?_
          rintro e wq3 ⟨rfl, hbq⟩
          have hBehind : Below y8.heap.size y8 wq3 := hHeld.trans (hbq.mono hHeld.size)
          clear hbq
          go_wp2_with fail
          refine hK.out _ _ hBehind (fun hHeld => ?_)
          clear hK K hBehind
          try (simp only [Act.put, List.getElem_toArray, List.getElem_cons_succ, List.getElem_cons_zero, List.setIfInBounds_toArray, List.set_cons_zero, List.set_cons_succ])
          refine wpAnyH_take (i := 26) (v := ?_) rfl (by kernel_rfl) (by kernel_rfl) (by kernel_rfl) (fun _ _ _ h => h) (Or.inl ⟨by rfl, ?_⟩) hHeld ?_
          rotate_left
          · intro w' hSw
            skip
            go_simp
            try with_reducible rfl
          try (simp only [Act.put, List.getElem_toArray, List.getElem_cons_succ, List.getElem_cons_zero, List.setIfInBounds_toArray, List.set_cons_zero, List.set_cons_succ])
          refine wpAnyH_take (i := 27) (v := ?_) rfl (by kernel_rfl) (by kernel_rfl) (by kernel_rfl) (fun _ _ _ h => h) (Or.inl ⟨by rfl, ?_⟩) hHeld ?_
          rotate_left
          · intro w' hSw
            skip
            go_simp
            try with_reducible rfl
          try (simp only [Act.put, List.getElem_toArray, List.getElem_cons_succ, List.getElem_cons_zero, List.setIfInBounds_toArray, List.set_cons_zero, List.set_cons_succ])
          refine wpAnyH_take (i := 28) (v := ?_) rfl (by kernel_rfl) (by kernel_rfl) (by kernel_rfl) (fun _ _ _ h => h) (Or.inl ⟨by rfl, ?_⟩) hHeld ?_
          rotate_left
          · intro w' hSw
            skip
            go_simp
            try with_reducible rfl
          try (simp only [Act.put, List.getElem_toArray, List.getElem_cons_succ, List.getElem_cons_zero, List.setIfInBounds_toArray, List.set_cons_zero, List.set_cons_succ])
          refine wpAnyH_take (i := 30) (v := ?_) rfl (by kernel_rfl) (by kernel_rfl) (by kernel_rfl) (fun _ _ _ h => h) (Or.inl ⟨by rfl, ?_⟩) hHeld ?_
          rotate_left
          · intro w' hSw
            skip
            go_simp
            try with_reducible rfl
          try (simp only [Act.put, List.getElem_toArray, List.getElem_cons_succ, List.getElem_cons_zero, List.setIfInBounds_toArray, List.set_cons_zero, List.set_cons_succ])
          refine wpAnyH_ready (rs := [29]) (by kernel_rfl) (by simp) ?_
          refine AllReadyH.cons (i := 29) rfl (fun K hK => ?_) AllReadyH.nil
          go_simp
          refine (rdFault_sE _ g2 l (Kp, 0, 0) _ (HR3.out.below hHeld)).mono ?_
          rintro e wq4 ⟨rfl, hbq⟩
          have hBehind : Below y8.heap.size y8 wq4 := hHeld.trans (hbq.mono hHeld.size)
          clear hbq
          go_wp2_with fail
          refine hK.out _ _ hBehind (fun hHeld => ?_)
          clear hK K hBehind
          try (simp only [Act.put, List.getElem_toArray, List.getElem_cons_succ, List.getElem_cons_zero, List.setIfInBounds_toArray, List.set_cons_zero, List.set_cons_succ])
          refine wpAnyH_take (i := 31) (v := ?_) rfl (by kernel_rfl) (by kernel_rfl) (by kernel_rfl) (fun _ _ _ h => h) (Or.inl ⟨by rfl, ?_⟩) hHeld ?_
          rotate_left
          · intro w' hSw
            skip
            go_simp
            try with_reducible rfl
          try (simp only [Act.put, List.getElem_toArray, List.getElem_cons_succ, List.getElem_cons_zero, List.setIfInBounds_toArray, List.set_cons_zero, List.set_cons_succ])
          refine wpAnyH_take (i := 32) (v := ?_) rfl (by kernel_rfl) (by kernel_rfl) (by kernel_rfl) (fun _ _ _ h => h) (Or.inl ⟨by rfl, ?_⟩) hHeld ?_
          rotate_left
          · intro w' hSw
            skip
            go_simp
            try with_reducible rfl
          try (simp only [Act.put, List.getElem_toArray, List.getElem_cons_succ, List.getElem_cons_zero, List.setIfInBounds_toArray, List.set_cons_zero, List.set_cons_succ])
          refine wpAnyH_take (i := 33) (v := ?_) rfl (by kernel_rfl) (by kernel_rfl) (by kernel_rfl) (fun _ _ _ h => h) (Or.inl ⟨by rfl, ?_⟩) hHeld ?_
          rotate_left
          · intro w' hSw
            skip
            go_simp
            try with_reducible rfl
          try (simp only [Act.put, List.getElem_toArray, List.getElem_cons_succ, List.getElem_cons_zero, List.setIfInBounds_toArray, List.set_cons_zero, List.set_cons_succ])
          refine wpAnyH_take (i := 34) (v := ?_) rfl (by kernel_rfl) (by kernel_rfl) (by kernel_rfl) (fun _ _ _ h => h) (Or.inl ⟨by rfl, ?_⟩) hHeld ?_
          rotate_left
          · intro w' hSw
            skip
            go_simp
            try with_reducible rfl
          try (simp only [Act.put, List.getElem_toArray, List.getElem_cons_succ, List.getElem_cons_zero, List.setIfInBounds_toArray, List.set_cons_zero, List.set_cons_succ])
          refine wpAnyH_take (i := 35) (v := ?_) rfl (by kernel_rfl) (by kernel_rfl) (by kernel_rfl) (fun _ _ _ h => h) (Or.inl ⟨by rfl, ?_⟩) hHeld ?_
          rotate_left
          · intro w' hSw
            skip
            go_simp
            try with_reducible rfl
          try (simp only [Act.put, List.getElem_toArray, List.getElem_cons_succ, List.getElem_cons_zero, List.setIfInBounds_toArray, List.set_cons_zero, List.set_cons_succ])
          refine wpAnyH_done (by kernel_rfl) ?_ _
          refine NoPanic.normal ?_
          go_wp2
          go_ret
          exact ⟨rfl, Bw.out.trans (hHeld.mono Bw.out.size)⟩
        · obtain ⟨z1, hz1⟩ : ∃ W, W = y7.alloc (.cells #[.slice (A0.map fun x => x.add N) (l.length - N) (c0 - N), .bool false] 68) := ⟨_, rfl⟩
          have hzb : Below y7.heap.size y7 z1 := by rw [hz1]; exact (Below.refl _ _).alloc (Nat.le_refl _) _
          have hdl : (l.drop N).length = l.length - N := List.length_drop
          have hpw : PW z1 y7.heap.size y7.heap.size (l.drop N, false) := by
            refine ⟨(A0.map fun x => x.add N), (c0 - N), ?_, ?_, ?_, Nat.le_refl _⟩
            · rw [hz1, hdl]; exact Blk.new _ _ _ _ rfl
            · have h := (Hm.out.below hzb).drop (k := N) (cap := c0) hc0; rw [if_neg hcN] at h; exact h
            · rw [hdl]; omega
          have Hzb := Lib.hid hzb
          have Hpw := Lib.hid hpw
          have Hz1 := Lib.hid hz1
          obtain ⟨gp, hgp⟩ : ∃ z, z = y7.heap.size := ⟨_, rfl⟩
          have Hgp := Lib.hid hgp
          clear hz1 hzb hdl hpw hgp
          go_upto_region 15 with fail
          rw [← Hz1.out, ← Hgp.out]
          rw [← Hgp.out] at Hpw
          clear Hz1
          go_wp2_with fail
          refine (pTake_any gp gp (l.drop N, false) z1 Hpw.out (by rw [List.length_drop]; omega)).mono ?_
          unfold PTkIs
          rw [Q3.out]
          rintro e z2 ⟨rfl, hp2, hg2⟩
          have Hp2 := Lib.hid hp2
          have Hz2 : Hid (Below y7.heap.size y7 z2) := Hzb.out.grown hg2 Hzb.out.size (fun k hk => by injection hk with hk; have := Hgp.out; omega)
          clear hp2 hg2 Hpw Hzb Q3
          have H13' := Lib.hid (Blk.below H13.out Hz2.out H13.out.lt)
          clear H13
          have H13 := H13'
          clear H13'
          have Hm' := Lib.hid ((Hm.out.below Hz2.out).more Hz2.out.size)
          clear Hm
          have Hm := Hm'
          clear Hm'
          have HR3' := Lib.hid (HR3.out.below Hz2.out)
          clear HR3
          have HR3 := HR3'
          clear HR3'
          have Bw' : Hid (Below w.heap.size w z2) := Bw.out.trans (Hz2.out.mono Bw.out.size)
          clear Bw
          have Bw := Bw'
          clear Bw'
          clear Hz2
          obtain ⟨x9, hx9⟩ : ∃ W, W = z2.alloc (.cells (backCs back0).toArray 29) := ⟨_, rfl⟩
          obtain ⟨y9, hy9⟩ : ∃ W, W = x9.setCells z2.heap.size 0 (backCs D) := ⟨_, rfl⟩
          obtain ⟨hth9, hbx9, hbe9⟩ := boxed z2 x9 y9 29 (backCs back0) (backCs D) (by rw [back_len HD.out, back_len back0_shape]) hx9 hy9
          rw [back0_lit] at hx9
          have HX9 := Lib.hid hx9
          have HY9 := Lib.hid hy9
          have Hth9 := Lib.hid hth9
          have Hbe9 := Lib.hid hbe9
          have H16n := Lib.hid hbx9
          clear hx9 hy9 hth9 hbx9 hbe9
          have R13 := Lib.hid (blk_range H13.out)
          go_upto_region 16 with (first
            | ((with_reducible refine gateL 29 ?_); refine wpList_load_g (by rfl) 29 (.tmp 13) rfl w9.heap.size 0 rfl (backCs D) _ R13.out back_under rfl (back_sz HD.out) ?_)
            | (rw [← HX9.out]; (with_reducible refine gateS 29 ?_); refine wpList_store_mid rfl 29 (.tmp 16) (.tmp 103) rfl z2.heap.size 0 (backCs D).toArray rfl rfl Hth9.out (back_szA HD.out) (back_one _) ?_))
          clear R13
          rw [← HY9.out]
          clear HX9 HY9 Hth9
          have H13' := Lib.hid (Blk.below H13.out Hbe9.out H13.out.lt)
          clear H13
          have H13 := H13'
          clear H13'
          have Hm' := Lib.hid ((Hm.out.below Hbe9.out).more Hbe9.out.size)
          clear Hm
          have Hm := Hm'
          clear Hm'
          have HR3' := Lib.hid (HR3.out.below Hbe9.out)
          clear HR3
          have HR3 := HR3'
          clear HR3'
          have Hp2' := Lib.hid (Hp2.out.below Hbe9.out)
          clear Hp2
          have Hp2 := Hp2'
          clear Hp2'
          have Bw' : Hid (Below w.heap.size w y9) := Bw.out.trans (Hbe9.out.mono Bw.out.size)
          clear Bw
          have Bw := Bw'
          clear Bw'
          have H16 := H16n
          clear H16n Hbe9
          obtain ⟨Ap, cp, hXp, _⟩ := Hp2.out
          have HXp := Lib.hid hXp
          clear hXp
          go_upto_region 16 with fail
          refine wp_region_noPanic ?_
          refine wp_region_held_drew (S := fun w' => Below y9.heap.size y9 w') (by kernel_rfl) ((Below.refl _ _).drew) (fun hHeld => ?_)
          refine wpAnyH_take (i := 0) (v := ?_) rfl (by kernel_rfl) (by kernel_rfl) (by kernel_rfl) (fun _ _ _ h => h) (Or.inl ⟨by rfl, ?_⟩) hHeld ?_
          rotate_left
          · intro w' hSw
            skip
            go_simp
            try with_reducible rfl
          try (simp only [Act.put, List.getElem_toArray, List.getElem_cons_succ, List.getElem_cons_zero, List.setIfInBounds_toArray, List.set_cons_zero, List.set_cons_succ])
          refine wpAnyH_take (i := 1) (v := ?_) rfl (by kernel_rfl) (by kernel_rfl) (by kernel_rfl) (fun _ _ _ h => h) (Or.inl ⟨by rfl, ?_⟩) hHeld ?_
          rotate_left
          · intro w' hSw
            skip
            go_simp
            try with_reducible rfl
          try (simp only [Act.put, List.getElem_toArray, List.getElem_cons_succ, List.getElem_cons_zero, List.setIfInBounds_toArray, List.set_cons_zero, List.set_cons_succ])
          refine wpAnyH_take (i := 2) (v := ?_) rfl (by kernel_rfl) (by kernel_rfl) (by kernel_rfl) (fun _ _ _ h => h) (Or.inl ⟨by rfl, ?_⟩) hHeld ?_
          rotate_left
          · intro w' hSw
            skip
            go_simp
            try with_reducible rfl
          try (simp only [Act.put, List.getElem_toArray, List.getElem_cons_succ, List.getElem_cons_zero, List.setIfInBounds_toArray, List.set_cons_zero, List.set_cons_succ])
          refine wpAnyH_take (i := 3) (v := ?_) rfl (by kernel_rfl) (by kernel_rfl) (by kernel_rfl) (fun _ _ _ h => h) (Or.inl ⟨by rfl, ?_⟩) hHeld ?_
          rotate_left
          · intro w' hSw
            skip
            go_simp
            try with_reducible rfl
          try (simp only [Act.put, List.getElem_toArray, List.getElem_cons_succ, List.getElem_cons_zero, List.setIfInBounds_toArray, List.set_cons_zero, List.set_cons_succ])
          refine wpAnyH_take (i := 4) (v := ?_) rfl (by kernel_rfl) (by kernel_rfl) (by kernel_rfl) (fun _ _ _ h => h) (Or.inl ⟨by rfl, ?_⟩) hHeld ?_
          rotate_left
          · intro w' hSw
            have e9 : w'.cell? ⟨gp, 1, none⟩ = some (.bool false) := (Blk.below HXp.out hSw HXp.out.lt).cell 1
            go_simp
            try with_reducible rfl
          try (simp only [Act.put, List.getElem_toArray, List.getElem_cons_succ, List.getElem_cons_zero, List.setIfInBounds_toArray, List.set_cons_zero, List.set_cons_succ])
          refine wpAnyH_take (i := 5) (v := ?_) rfl (by kernel_rfl) (by kernel_rfl) (by kernel_rfl) (fun _ _ _ h => h) (Or.inl ⟨by rfl, ?_⟩) hHeld ?_
          rotate_left
          · intro w' hSw
            skip
            go_simp
            try with_reducible rfl
          try (simp only [Act.put, List.getElem_toArray, List.getElem_cons_succ, List.getElem_cons_zero, List.setIfInBounds_toArray, List.set_cons_zero, List.set_cons_succ])
          refine wpAnyH_take (i := 6) (v := ?_) rfl (by kernel_rfl) (by kernel_rfl) (by kernel_rfl) (fun _ _ _ h => h) (Or.inl ⟨by rfl, ?_⟩) hHeld ?_
          rotate_left
          · intro w' hSw
            skip
            go_simp
            try with_reducible rfl
          try (simp only [Act.put, List.getElem_toArray, List.getElem_cons_succ, List.getElem_cons_zero, List.setIfInBounds_toArray, List.set_cons_zero, List.set_cons_succ])
          refine wpAnyH_take (i := 7) (v := ?_) rfl (by kernel_rfl) (by kernel_rfl) (by kernel_rfl) (fun _ _ _ h => h) (Or.inl ⟨by rfl, ?_⟩) hHeld ?_
          rotate_left
          · intro w' hSw
            skip
            go_simp
            try with_reducible rfl
          try (simp only [Act.put, List.getElem_toArray, List.getElem_cons_succ, List.getElem_cons_zero, List.setIfInBounds_toArray, List.set_cons_zero, List.set_cons_succ])
          refine wpAnyH_take (i := 8) rfl (by kernel_rfl) (by kernel_rfl) (by kernel_rfl) (fun _ _ _ h => h) (yieldsIf_load_mid (by rfl) 29 (.tmp 13) rfl (w9.heap.size) (0) rfl (backCs D) _ (fun w' hSw => blk_range (Blk.below H13.out hSw H13.out.lt)) Try.underlying29 rfl (back_sz HD.out)) hHeld ?_
          try (simp only [Act.put, List.getElem_toArray, List.getElem_cons_succ, List.getElem_cons_zero, List.setIfInBounds_toArray, List.set_cons_zero, List.set_cons_succ])
          refine wpAnyH_take (i := 9) rfl (by kernel_rfl) (by kernel_rfl) (by kernel_rfl) (fun _ _ _ h => h) (yieldsIf_load_mid (by rfl) 29 (.tmp 16) rfl (z2.heap.size) (0) rfl (backCs D) _ (fun w' hSw => blk_range (Blk.below H16.out hSw H16.out.lt)) Try.underlying29 rfl (back_sz HD.out)) hHeld ?_
          try (simp only [Act.put, List.getElem_toArray, List.getElem_cons_succ, List.getElem_cons_zero, List.setIfInBounds_toArray, List.set_cons_zero, List.set_cons_succ])
          refine wpAnyH_ready (rs := [10]) (by kernel_rfl) (by simp) ?_
          refine AllReadyH.cons (i := 10) rfl (fun K hK => ?_) AllReadyH.nil
          go_simp
          refine (sameOneE D D HD.out HD.out _ true (sameBack_self D)).mono ?_
          rintro e wq5 ⟨rfl, hbq⟩
          have hBehind : Below y9.heap.size y9 wq5 := hHeld.trans (hbq.mono hHeld.size)
          clear hbq
          go_wp2_with fail
          refine hK.out _ _ hBehind (fun hHeld => ?_)
          clear hK K hBehind
          try (simp only [Act.put, List.getElem_toArray, List.getElem_cons_succ, List.getElem_cons_zero, List.setIfInBounds_toArray, List.set_cons_zero, List.set_cons_succ])
          refine wpAnyH_take (i := 11) (v := ?_) rfl (by kernel_rfl) (by kernel_rfl) (by kernel_rfl) (fun _ _ _ h => h) (Or.inl ⟨by rfl, ?_⟩) hHeld ?_
          rotate_left
          · intro w' hSw
            skip
            go_simp
            try with_reducible rfl
          try (simp only [Act.put, List.getElem_toArray, List.getElem_cons_succ, List.getElem_cons_zero, List.setIfInBounds_toArray, List.set_cons_zero, List.set_cons_succ])
          refine wpAnyH_take (i := 12) (v := ?_) rfl (by kernel_rfl) (by kernel_rfl) (by kernel_rfl) (fun _ _ _ h => h) (Or.inl ⟨by rfl, ?_⟩) hHeld ?_
          rotate_left
          · intro w' hSw
            skip
            go_simp
            try with_reducible rfl
          try (simp only [Act.put, List.getElem_toArray, List.getElem_cons_succ, List.getElem_cons_zero, List.setIfInBounds_toArray, List.set_cons_zero, List.set_cons_succ])
          refine wpAnyH_take (i := 13) (v := ?_) rfl (by kernel_rfl) (by kernel_rfl) (by kernel_rfl) (fun _ _ _ h => h) (Or.inl ⟨by rfl, ?_⟩) hHeld ?_
          rotate_left
          · intro w' hSw
            skip
            go_simp
            try with_reducible rfl
          try (simp only [Act.put, List.getElem_toArray, List.getElem_cons_succ, List.getElem_cons_zero, List.setIfInBounds_toArray, List.set_cons_zero, List.set_cons_succ])
          refine wpAnyH_take (i := 14) (v := ?_) rfl (by kernel_rfl) (by kernel_rfl) (by kernel_rfl) (fun _ _ _ h => h) (Or.inl ⟨by rfl, ?_⟩) hHeld ?_
          rotate_left
          · intro w' hSw
            skip
            go_simp
            try with_reducible rfl
          try (simp only [Act.put, List.getElem_toArray, List.getElem_cons_succ, List.getElem_cons_zero, List.setIfInBounds_toArray, List.set_cons_zero, List.set_cons_succ])
          refine wpAnyH_take (i := 15) (v := ?_) rfl (by kernel_rfl) (by kernel_rfl) (by kernel_rfl) (fun _ _ _ h => h) (Or.inl ⟨by rfl, ?_⟩) hHeld ?_
          rotate_left
          · intro w' hSw
            skip
            go_simp
            try with_reducible rfl
          try (simp only [Act.put, List.getElem_toArray, List.getElem_cons_succ, List.getElem_cons_zero, List.setIfInBounds_toArray, List.set_cons_zero, List.set_cons_succ])
          refine wpAnyH_take (i := 16) (v := ?_) rfl (by kernel_rfl) (by kernel_rfl) (by kernel_rfl) (fun _ _ _ h => h) (Or.inl ⟨by rfl, ?_⟩) hHeld ?_
          rotate_left
          · intro w' hSw
            skip
            go_simp
            try with_reducible rfl
          try (simp only [Act.put, List.getElem_toArray, List.getElem_cons_succ, List.getElem_cons_zero, List.setIfInBounds_toArray, List.set_cons_zero, List.set_cons_succ])
          refine wpAnyH_take (i := 18) (v := ?_) rfl (by kernel_rfl) (by kernel_rfl) (by kernel_rfl) (fun _ _ _ h => h) (Or.inl ⟨by rfl, ?_⟩) hHeld ?_
          rotate_left
          · intro w' hSw
            skip
            go_simp
            try with_reducible rfl
          try (simp only [Act.put, List.getElem_toArray, List.getElem_cons_succ, List.getElem_cons_zero, List.setIfInBounds_toArray, List.set_cons_zero, List.set_cons_succ])
          refine wpAnyH_take (i := 19) (v := ?_) rfl (by kernel_rfl) (by kernel_rfl) (by kernel_rfl) (fun _ _ _ h => h) (Or.inl ⟨by rfl, ?_⟩) hHeld ?_
          rotate_left
          · intro w' hSw
            skip
            go_simp
            try with_reducible rfl
          try (simp only [Act.put, List.getElem_toArray, List.getElem_cons_succ, List.getElem_cons_zero, List.setIfInBounds_toArray, List.set_cons_zero, List.set_cons_succ])
          refine wpAnyH_take (i := 20) (v := ?_) rfl (by kernel_rfl) (by kernel_rfl) (by kernel_rfl) (fun _ _ _ h => h) (Or.inl ⟨by rfl, ?_⟩) hHeld ?_
          rotate_left
          · intro w' hSw
            skip
            go_simp
            try with_reducible rfl
          try (simp only [Act.put, List.getElem_toArray, List.getElem_cons_succ, List.getElem_cons_zero, List.setIfInBounds_toArray, List.set_cons_zero, List.set_cons_succ])
          refine wpAnyH_take (i := 21) (v := ?_) rfl (by kernel_rfl) (by kernel_rfl) (by kernel_rfl) (fun _ _ _ h => h) (Or.inl ⟨by rfl, ?_⟩) hHeld ?_
          rotate_left
          · intro w' hSw
            skip
            go_simp
            try with_reducible rfl
          try (simp only [Act.put, List.getElem_toArray, List.getElem_cons_succ, List.getElem_cons_zero, List.setIfInBounds_toArray, List.set_cons_zero, List.set_cons_succ])
          refine wpAnyH_take (i := 22) (v := ?_) rfl (by kernel_rfl) (by kernel_rfl) (by kernel_rfl) (fun _ _ _ h => h) (Or.inl ⟨by rfl, ?_⟩) hHeld ?_
          rotate_left
          · intro w' hSw
            skip
            go_simp
            try with_reducible rfl
          try (simp only [Act.put, List.getElem_toArray, List.getElem_cons_succ, List.getElem_cons_zero, List.setIfInBounds_toArray, List.set_cons_zero, List.set_cons_succ])
          refine wpAnyH_take (i := 23) (v := ?_) rfl (by kernel_rfl) (by kernel_rfl) (by kernel_rfl) (fun _ _ _ h => h) (Or.inl ⟨by rfl, ?_⟩) hHeld ?_
          rotate_left
          · intro w' hSw
            have e9 : w'.cell? ⟨gp, 0, none⟩ = some (.slice Ap (l.drop Kp).length cp) := (Blk.below HXp.out hSw HXp.out.lt).cell 0
            go_simp
            try with_reducible rfl
          try (simp only [Act.put, List.getElem_toArray, List.getElem_cons_succ, List.getElem_cons_zero, List.setIfInBounds_toArray, List.set_cons_zero, List.set_cons_succ])
          refine wpAnyH_take (i := 24) (v := ?_) rfl (by kernel_rfl) (by kernel_rfl) (by kernel_rfl) (fun _ _ _ h => h) (Or.inl ⟨by rfl, ?_⟩) hHeld ?_
          rotate_left
          · intro w' hSw
            skip
            go_simp
            try with_reducible rfl
          try (simp only [Act.put, List.getElem_toArray, List.getElem_cons_succ, List.getElem_cons_zero, List.setIfInBounds_toArray, List.set_cons_zero, List.set_cons_succ])
          refine wpAnyH_take (i := 25) (v := ?_) rfl (by kernel_rfl) (by kernel_rfl) (by kernel_rfl) (fun _ _ _ h => h) (Or.inl ⟨by rfl, ?_⟩) hHeld ?_
          rotate_left
          · intro w' hSw
            have e9 : IntKind.i64.wrap ((l.length : Int) - (((l.drop Kp).length : Nat) : Int)) = (Kp : Int) := (by rw [List.length_drop, IntWalk.i64_in _ (by omega)]; omega); have e8 : IntKind.i64.wrap ((l.length : Int) - ((l.length - Kp : Nat) : Int)) = (Kp : Int) := (by rw [IntWalk.i64_in _ (by omega)]; omega)
            go_simp
            try with_reducible rfl
          try (simp only [Act.put, List.getElem_toArray, List.getElem_cons_succ, List.getElem_cons_zero, List.setIfInBounds_toArray, List.set_cons_zero, List.set_cons_succ])
          refine wpAnyH_ready (rs := [17]) (by kernel_rfl) (by simp) ?_
          refine AllReadyH.cons (i := 17) rfl (fun K hK => ?_) AllReadyH.nil
          go_simp
          refine (rdAt_rdE _ g2 l (Kp, 0, 0) _ (HR3.out.below hHeld)).mono ?_
          rintro e wq6 ⟨rfl, hbq⟩
          have hBehind : Below y9.heap.size y9 wq6 := hHeld.trans (hbq.mono hHeld.size)
          clear hbq
          go_wp2_with fail
          refine hK.out _ _ hBehind (fun hHeld => ?_)
          clear hK K hBehind
          try (simp only [Act.put, List.getElem_toArray, List.getElem_cons_succ, List.getElem_cons_zero, List.setIfInBounds_toArray, List.set_cons_zero, List.set_cons_succ])
          refine wpAnyH_take (i := 26) (v := ?_) rfl (by kernel_rfl) (by kernel_rfl) (by kernel_rfl) (fun _ _ _ h => h) (Or.inl ⟨by rfl, ?_⟩) hHeld ?_
          rotate_left
          · intro w' hSw
            skip
            go_simp
            try with_reducible rfl
          try (simp only [Act.put, List.getElem_toArray, List.getElem_cons_succ, List.getElem_cons_zero, List.setIfInBounds_toArray, List.set_cons_zero, List.set_cons_succ])
          refine wpAnyH_take (i := 27) (v := ?_) rfl (by kernel_rfl) (by kernel_rfl) (by kernel_rfl) (fun _ _ _ h => h) (Or.inl ⟨by rfl, ?_⟩) hHeld ?_
          rotate_left
          · intro w' hSw
            skip
            go_simp
            try with_reducible rfl
          try (simp only [Act.put, List.getElem_toArray, List.getElem_cons_succ, List.getElem_cons_zero, List.setIfInBounds_toArray, List.set_cons_zero, List.set_cons_succ])
          refine wpAnyH_take (i := 28) (v := ?_) rfl (by kernel_rfl) (by kernel_rfl) (by kernel_rfl) (fun _ _ _ h => h) (Or.inl ⟨by rfl, ?_⟩) hHeld ?_
          rotate_left
          · intro w' hSw
            skip
            go_simp
            try with_reducible rfl
          try (simp only [Act.put, List.getElem_toArray, List.getElem_cons_succ, List.getElem_cons_zero, List.setIfInBounds_toArray, List.set_cons_zero, List.set_cons_succ])
          refine wpAnyH_take (i := 30) (v := ?_) rfl (by kernel_rfl) (by kernel_rfl) (by kernel_rfl) (fun _ _ _ h => h) (Or.inl ⟨by rfl, ?_⟩) hHeld ?_
          rotate_left
          · intro w' hSw
            skip
            go_simp
            try with_reducible rfl
          try (simp only [Act.put, List.getElem_toArray, List.getElem_cons_succ, List.getElem_cons_zero, List.setIfInBounds_toArray, List.set_cons_zero, List.set_cons_succ])
          refine wpAnyH_ready (rs := [29]) (by kernel_rfl) (by simp) ?_
          refine AllReadyH.cons (i := 29) rfl (fun K hK => ?_) AllReadyH.nil
          go_simp
          refine (rdFault_sE _ g2 l (Kp, 0, 0) _ (HR3.out.below hHeld)).mono ?_
          rintro e wq7 ⟨rfl, hbq⟩
          have hBehind : Below y9.heap.size y9 wq7 := hHeld.trans (hbq.mono hHeld.size)
          clear hbq
          go_wp2_with fail
          refine hK.out _ _ hBehind (fun hHeld => ?_)
          clear hK K hBehind
          try (simp only [Act.put, List.getElem_toArray, List.getElem_cons_succ, List.getElem_cons_zero, List.setIfInBounds_toArray, List.set_cons_zero, List.set_cons_succ])
          refine wpAnyH_take (i := 31) (v := ?_) rfl (by kernel_rfl) (by kernel_rfl) (by kernel_rfl) (fun _ _ _ h => h) (Or.inl ⟨by rfl, ?_⟩) hHeld ?_
          rotate_left
          · intro w' hSw
            skip
            go_simp
            try with_reducible rfl
          try (simp only [Act.put, List.getElem_toArray, List.getElem_cons_succ, List.getElem_cons_zero, List.setIfInBounds_toArray, List.set_cons_zero, List.set_cons_succ])
          refine wpAnyH_take (i := 32) (v := ?_) rfl (by kernel_rfl) (by kernel_rfl) (by kernel_rfl) (fun _ _ _ h => h) (Or.inl ⟨by rfl, ?_⟩) hHeld ?_
          rotate_left
          · intro w' hSw
            skip
            go_simp
            try with_reducible rfl
          try (simp only [Act.put, List.getElem_toArray, List.getElem_cons_succ, List.getElem_cons_zero, List.setIfInBounds_toArray, List.set_cons_zero, List.set_cons_succ])
          refine wpAnyH_take (i := 33) (v := ?_) rfl (by kernel_rfl) (by kernel_rfl) (by kernel_rfl) (fun _ _ _ h => h) (Or.inl ⟨by rfl, ?_⟩) hHeld ?_
          rotate_left
          · intro w' hSw
            skip
            go_simp
            try with_reducible rfl
          try (simp only [Act.put, List.getElem_toArray, List.getElem_cons_succ, List.getElem_cons_zero, List.setIfInBounds_toArray, List.set_cons_zero, List.set_cons_succ])
          refine wpAnyH_take (i := 34) (v := ?_) rfl (by kernel_rfl) (by kernel_rfl) (by kernel_rfl) (fun _ _ _ h => h) (Or.inl ⟨by rfl, ?_⟩) hHeld ?_
          rotate_left
          · intro w' hSw
            skip
            go_simp
            try with_reducible rfl
          try (simp only [Act.put, List.getElem_toArray, List.getElem_cons_succ, List.getElem_cons_zero, List.setIfInBounds_toArray, List.set_cons_zero, List.set_cons_succ])
          refine wpAnyH_take (i := 35) (v := ?_) rfl (by kernel_rfl) (by kernel_rfl) (by kernel_rfl) (fun _ _ _ h => h) (Or.inl ⟨by rfl, ?_⟩) hHeld ?_
          rotate_left
          · intro w' hSw
            skip
            go_simp
            try with_reducible rfl
          try (simp only [Act.put, List.getElem_toArray, List.getElem_cons_succ, List.getElem_cons_zero, List.setIfInBounds_toArray, List.set_cons_zero, List.set_cons_succ])
          refine wpAnyH_done (by kernel_rfl) ?_ _
          refine NoPanic.normal ?_
          go_wp2
          go_ret
          exact ⟨rfl, Bw.out.trans (hHeld.mono Bw.out.size)⟩
      · obtain ⟨D, hD⟩ : ∃ D, D = back0 := ⟨_, rfl⟩
        rw [← hD] at q1 q3
        have HD : Hid (BackShape D) := by rw [hD]; exact back0_shape
        obtain ⟨s9, hs9⟩ : ∃ s9, (backS l (N, 0, 0) false).1 = s9 := ⟨_, rfl⟩
        have Q1 := Lib.hid q1
        have Q2 := Lib.hid hs9
        have Q3 := Lib.hid q3
        clear q1 q3 hs9 hD
        have hmI := HmI.out
        go_wp2_with fail
        refine (rdNew_any A0 _ c0 l wc rfl Hm.out (by omega)).mono ?_
        rintro e u3 ⟨g2, rfl, hg1, hg2, hR, hb1⟩
        have HR1 := Lib.hid hR
        have Hu1 := Lib.hid hb1
        have hT := rdTake_any _ g2 l (0, 0, 0) u3 (N : Int) hR ⟨Nat.zero_le _, Nat.zero_le _, Nat.zero_le _⟩ (by omega) (by omega)
        rw [take_allE hNl] at hT
        have HT := Lib.hid hT
        clear hR hb1 hT hmI
        go_wp2_with fail
        refine HT.out.mono ?_
        rintro e w8 ⟨Ax, cx, rfl, _, hR2, hgr⟩
        have HR2 := Lib.hid hR2
        have Hu2 : Hid (Below wc.heap.size wc w8) := Hu1.out.grown hgr Hu1.out.size (fun k hk => by simp only [Option.some.injEq] at hk; omega)
        clear hR2 hgr HR1 Hu1 HT
        go_wp2_with fail
        refine (takeB_any _ g2 l (N, 0, 0) w8 HR2.out ⟨hNl, Nat.zero_le _, Nat.zero_le _⟩ (by omega)).mono ?_
        unfold TakeBIs
        rw [Q1.out, Q2.out]
        rintro e w9 ⟨rfl, hR3, _, ho9⟩
        have HR3 := Lib.hid hR3
        have Hu3 : Hid (Below wc.heap.size wc w9) := Hu2.out.trans (ho9.below hg1 (fun k hk => by cases hk) Hu2.out.size)
        clear hR3 ho9 HR2 Hu2 Q1 Q2
        have Hm' := Lib.hid ((Hm.out.below Hu3.out).more Hu3.out.size)
        clear Hm
        have Hm := Hm'
        clear Hm'
        have Bw' : Hid (Below w.heap.size w w9) := Bw.out.trans (Hu3.out.mono Bw.out.size)
        clear Bw
        have Bw := Bw'
        clear Bw'
        clear Hu3
        obtain ⟨x10, hx10⟩ : ∃ W, W = w9.alloc (.cells (backCs back0).toArray 29) := ⟨_, rfl⟩
        obtain ⟨y10, hy10⟩ : ∃ W, W = x10.setCells w9.heap.size 0 (backCs D) := ⟨_, rfl⟩
        obtain ⟨hth10, hbx10, hbe10⟩ := boxed w9 x10 y10 29 (backCs back0) (backCs D) (by rw [back_len HD.out, back_len back0_shape]) hx10 hy10
        rw [back0_lit] at hx10
        have HX10 := Lib.hid hx10
        have HY10 := Lib.hid hy10
        have Hth10 := Lib.hid hth10
        have Hbe10 := Lib.hid hbe10
        have H13n := Lib.hid hbx10
        clear hx10 hy10 hth10 hbx10 hbe10
        go_upto_region 14 with (first
          | (rw [← HX10.out]; (with_reducible refine gateS 29 ?_); refine wpList_store_mid rfl 29 (.tmp 13) (.tmp 95) rfl w9.heap.size 0 (backCs D).toArray rfl rfl Hth10.out (back_szA HD.out) (back_one _) ?_))
        rw [← HY10.out]
        clear HX10 HY10 Hth10
        have Hm' := Lib.hid ((Hm.out.below Hbe10.out).more Hbe10.out.size)
        clear Hm
        have Hm := Hm'
        clear Hm'
        have HR3' := Lib.hid (HR3.out.below Hbe10.out)
        clear HR3
        have HR3 := HR3'
        clear HR3'
        have Bw' : Hid (Below w.heap.size w y10) := Bw.out.trans (Hbe10.out.mono Bw.out.size)
        clear Bw
        have Bw := Bw'
        clear Bw'
        have H13 := H13n
        clear H13n Hbe10
        by_cases hcN : c0 = N
        · obtain ⟨z1, hz1⟩ : ∃ W, W = y10.alloc (.cells #[.slice A0 (l.length - N) 0, .bool false] 68) := ⟨_, rfl⟩
          have hzb : Below y10.heap.size y10 z1 := by rw [hz1]; exact (Below.refl _ _).alloc (Nat.le_refl _) _
          have hdl : (l.drop N).length = l.length - N := List.length_drop
          have hpw : PW z1 y10.heap.size y10.heap.size (l.drop N, false) := by
            refine ⟨A0, 0, ?_, ?_, ?_, Nat.le_refl _⟩
            · rw [hz1, hdl]; exact Blk.new _ _ _ _ rfl
            · rw [List.eq_nil_of_length_eq_zero (show (l.drop N).length = 0 by omega)]; exact BS.nil _ _ _
            · rw [hdl]; omega
          have Hzb := Lib.hid hzb
          have Hpw := Lib.hid hpw
          have Hz1 := Lib.hid hz1
          obtain ⟨gp, hgp⟩ : ∃ z, z = y10.heap.size := ⟨_, rfl⟩
          have Hgp := Lib.hid hgp
          clear hz1 hzb hdl hpw hgp
          go_upto_region 15 with fail
          rw [← Hz1.out, ← Hgp.out]
          rw [← Hgp.out] at Hpw
          clear Hz1
          go_wp2_with fail
          refine (pTake_any gp gp (l.drop N, false) z1 Hpw.out (by rw [List.length_drop]; omega)).mono ?_
          unfold PTkIs
          rw [Q3.out]
          rintro e z2 ⟨rfl, hp2, hg2⟩
          have Hp2 := Lib.hid hp2
          have Hz2 : Hid (Below y10.heap.size y10 z2) := Hzb.out.grown hg2 Hzb.out.size (fun k hk => by injection hk with hk; have := Hgp.out; omega)
          clear hp2 hg2 Hpw Hzb Q3
          have H13' := Lib.hid (Blk.below H13.out Hz2.out H13.out.lt)
          clear H13
          have H13 := H13'
          clear H13'
          have Hm' := Lib.hid ((Hm.out.below Hz2.out).more Hz2.out.size)
          clear Hm
          have Hm := Hm'
          clear Hm'
          have HR3' := Lib.hid (HR3.out.below Hz2.out)
          clear HR3
          have HR3 := HR3'
          clear HR3'
          have Bw' : Hid (Below w.heap.size w z2) := Bw.out.trans (Hz2.out.mono Bw.out.size)
          clear Bw
          have Bw := Bw'
          clear Bw'
          clear Hz2
          obtain ⟨x11, hx11⟩ : ∃ W, W = z2.alloc (.cells (backCs back0).toArray 29) := ⟨_, rfl⟩
          obtain ⟨y11, hy11⟩ : ∃ W, W = x11.setCells z2.heap.size 0 (backCs D) := ⟨_, rfl⟩
          obtain ⟨hth11, hbx11, hbe11⟩ := boxed z2 x11 y11 29 (backCs back0) (backCs D) (by rw [back_len HD.out, back_len back0_shape]) hx11 hy11
          rw [back0_lit] at hx11
          have HX11 := Lib.hid hx11
          have HY11 := Lib.hid hy11
          have Hth11 := Lib.hid hth11
          have Hbe11 := Lib.hid hbe11
          have H16n := Lib.hid hbx11
          clear hx11 hy11 hth11 hbx11 hbe11
          have R13 := Lib.hid (blk_range H13.out)
          go_upto_region 16 with (first
            | ((with_reducible refine gateL 29 ?_); refine wpList_load_g (by rfl) 29 (.tmp 13) rfl w9.heap.size 0 rfl (backCs D) _ R13.out back_under rfl (back_sz HD.out) ?_)
            | (rw [← HX11.out]; (with_reducible refine gateS 29 ?_); refine wpList_store_mid rfl 29 (.tmp 16) (.tmp 103) rfl z2.heap.size 0 (backCs D).toArray rfl rfl Hth11.out (back_szA HD.out) (back_one _) ?_))
          clear R13
          rw [← HY11.out]
          clear HX11 HY11 Hth11
          have H13' := Lib.hid (Blk.below H13.out Hbe11.out H13.out.lt)
          clear H13
          have H13 := H13'
          clear H13'
          have Hm' := Lib.hid ((Hm.out.below Hbe11.out).more Hbe11.out.size)
          clear Hm
          have Hm := Hm'
          clear Hm'
          have HR3' := Lib.hid (HR3.out.below Hbe11.out)
          clear HR3
          have HR3 := HR3'
          clear HR3'
          have Hp2' := Lib.hid (Hp2.out.below Hbe11.out)
          clear Hp2
          have Hp2 := Hp2'
          clear Hp2'
          have Bw' : Hid (Below w.heap.size w y11) := Bw.out.trans (Hbe11.out.mono Bw.out.size)
          clear Bw
          have Bw := Bw'
          clear Bw'
          have H16 := H16n
          clear H16n Hbe11
          obtain ⟨Ap, cp, hXp, _⟩ := Hp2.out
          have HXp := Lib.hid hXp
          clear hXp
          go_upto_region 16 with fail
          refine wp_region_noPanic ?_
          refine wp_region_held_drew (S := fun w' => Below y11.heap.size y11 w') (by kernel_rfl) ((Below.refl _ _).drew) (fun hHeld => ?_)
          refine wpAnyH_take (i := 0) (v := ?_) rfl (by kernel_rfl) (by kernel_rfl) (by kernel_rfl) (fun _ _ _ h => h) (Or.inl ⟨by rfl, ?_⟩) hHeld ?_
          rotate_left
          · intro w' hSw
            skip
            go_simp
            try with_reducible rfl
          try (simp only [Act.put, List.getElem_toArray, List.getElem_cons_succ, List.getElem_cons_zero, List.setIfInBounds_toArray, List.set_cons_zero, List.set_cons_succ])
          refine wpAnyH_take (i := 1) (v := ?_) rfl (by kernel_rfl) (by kernel_rfl) (by kernel_rfl) (fun _ _ _ h => h) (Or.inl ⟨by rfl, ?_⟩) hHeld ?_
          rotate_left
          · intro w' hSw
            skip
            go_simp
            try with_reducible rfl
          try (simp only [Act.put, List.getElem_toArray, List.getElem_cons_succ, List.getElem_cons_zero, List.setIfInBounds_toArray, List.set_cons_zero, List.set_cons_succ])
          refine wpAnyH_take (i := 2) (v := ?_) rfl (by kernel_rfl) (by kernel_rfl) (by kernel_rfl) (fun _ _ _ h => h) (Or.inl ⟨by rfl, ?_⟩) hHeld ?_
          rotate_left
          · intro w' hSw
            skip
            go_simp
            try with_reducible rfl
          try (simp only [Act.put, List.getElem_toArray, List.getElem_cons_succ, List.getElem_cons_zero, List.setIfInBounds_toArray, List.set_cons_zero, List.set_cons_succ])
          refine wpAnyH_take (i := 3) (v := ?_) rfl (by kernel_rfl) (by kernel_rfl) (by kernel_rfl) (fun _ _ _ h => h) (Or.inl ⟨by rfl, ?_⟩) hHeld ?_
          rotate_left
          · intro w' hSw
            skip
            go_simp
            try with_reducible rfl
          try (simp only [Act.put, List.getElem_toArray, List.getElem_cons_succ, List.getElem_cons_zero, List.setIfInBounds_toArray, List.set_cons_zero, List.set_cons_succ])
          refine wpAnyH_take (i := 4) (v := ?_) rfl (by kernel_rfl) (by kernel_rfl) (by kernel_rfl) (fun _ _ _ h => h) (Or.inl ⟨by rfl, ?_⟩) hHeld ?_
          rotate_left
          · intro w' hSw
            have e9 : w'.cell? ⟨gp, 1, none⟩ = some (.bool true) := (Blk.below HXp.out hSw HXp.out.lt).cell 1
            go_simp
            try with_reducible rfl
          try (simp only [Act.put, List.getElem_toArray, List.getElem_cons_succ, List.getElem_cons_zero, List.setIfInBounds_toArray, List.set_cons_zero, List.set_cons_succ])
          refine wpAnyH_take (i := 5) (v := ?_) rfl (by kernel_rfl) (by kernel_rfl) (by kernel_rfl) (fun _ _ _ h => h) (Or.inl ⟨by rfl, ?_⟩) hHeld ?_
          rotate_left
          · intro w' hSw
            skip
            go_simp
            try with_reducible rfl
          try (simp only [Act.put, List.getElem_toArray, List.getElem_cons_succ, List.getElem_cons_zero, List.setIfInBounds_toArray, List.set_cons_zero, List.set_cons_succ])
          refine wpAnyH_take (i := 6) (v := ?_) rfl (by kernel_rfl) (by kernel_rfl) (by kernel_rfl) (fun _ _ _ h => h) (Or.inl ⟨by rfl, ?_⟩) hHeld ?_
          rotate_left
          · intro w' hSw
            skip
            go_simp
            try with_reducible rfl
          try (simp only [Act.put, List.getElem_toArray, List.getElem_cons_succ, List.getElem_cons_zero, List.setIfInBounds_toArray, List.set_cons_zero, List.set_cons_succ])
          refine wpAnyH_take (i := 7) (v := ?_) rfl (by kernel_rfl) (by kernel_rfl) (by kernel_rfl) (fun _ _ _ h => h) (Or.inl ⟨by rfl, ?_⟩) hHeld ?_
          rotate_left
          · intro w' hSw
            skip
            go_simp
            try with_reducible rfl
          try (simp only [Act.put, List.getElem_toArray, List.getElem_cons_succ, List.getElem_cons_zero, List.setIfInBounds_toArray, List.set_cons_zero, List.set_cons_succ])
          refine wpAnyH_take (i := 8) rfl (by kernel_rfl) (by kernel_rfl) (by kernel_rfl) (fun _ _ _ h => h) (yieldsIf_load_mid (by rfl) 29 (.tmp 13) rfl (w9.heap.size) (0) rfl (backCs D) _ (fun w' hSw => blk_range (Blk.below H13.out hSw H13.out.lt)) Try.underlying29 rfl (back_sz HD.out)) hHeld ?_
          try (simp only [Act.put, List.getElem_toArray, List.getElem_cons_succ, List.getElem_cons_zero, List.setIfInBounds_toArray, List.set_cons_zero, List.set_cons_succ])
          refine wpAnyH_take (i := 9) rfl (by kernel_rfl) (by kernel_rfl) (by kernel_rfl) (fun _ _ _ h => h) (yieldsIf_load_mid (by rfl) 29 (.tmp 16) rfl (z2.heap.size) (0) rfl (backCs D) _ (fun w' hSw => blk_range (Blk.below H16.out hSw H16.out.lt)) Try.underlying29 rfl (back_sz HD.out)) hHeld ?_
          try (simp only [Act.put, List.getElem_toArray, List.getElem_cons_succ, List.getElem_cons_zero, List.setIfInBounds_toArray, List.set_cons_zero, List.set_cons_succ])
          refine wpAnyH_ready (rs := [10]) (by kernel_rfl) (by simp) ?_
          refine AllReadyH.cons (i := 10) rfl (fun K hK => ?_) AllReadyH.nil
          go_simp
          refine (sameOneE D D HD.out HD.out _ true (sameBack_self D)).mono ?_
          rintro e wq8 ⟨rfl, hbq⟩
          have hBehind : Below y11.heap.size y11 wq8 := hHeld.trans (hbq.mono hHeld.size)
          clear hbq
          go_wp2_with fail
          refine hK.out _ _ hBehind (fun hHeld => ?_)
          clear hK K hBehind
          try (simp only [Act.put, List.getElem_toArray, List.getElem_cons_succ, List.getElem_cons_zero, List.setIfInBounds_toArray, List.set_cons_zero, List.set_cons_succ])
          refine wpAnyH_take (i := 11) (v := ?_) rfl (by kernel_rfl) (by kernel_rfl) (by kernel_rfl) (fun _ _ _ h => h) (Or.inl ⟨by rfl, ?_⟩) hHeld ?_
          rotate_left
          · intro w' hSw
            skip
            go_simp
            try with_reducible rfl
          try (simp only [Act.put, List.getElem_toArray, List.getElem_cons_succ, List.getElem_cons_zero, List.setIfInBounds_toArray, List.set_cons_zero, List.set_cons_succ])
          refine wpAnyH_take (i := 12) (v := ?_) rfl (by kernel_rfl) (by kernel_rfl) (by kernel_rfl) (fun _ _ _ h => h) (Or.inl ⟨by rfl, ?_⟩) hHeld ?_
          rotate_left
          · intro w' hSw
            skip
            go_simp
            try with_reducible rfl
          try (simp only [Act.put, List.getElem_toArray, List.getElem_cons_succ, List.getElem_cons_zero, List.setIfInBounds_toArray, List.set_cons_zero, List.set_cons_succ])
          refine wpAnyH_take (i := 13) (v := ?_) rfl (by kernel_rfl) (by kernel_rfl) (by kernel_rfl) (fun _ _ _ h => h) (Or.inl ⟨by rfl, ?_⟩) hHeld ?_
          rotate_left
          · intro w' hSw
            skip
            go_simp
            try with_reducible rfl
          try (simp only [Act.put, List.getElem_toArray, List.getElem_cons_succ, List.getElem_cons_zero, List.setIfInBounds_toArray, List.set_cons_zero, List.set_cons_succ])
          refine wpAnyH_take (i := 14) (v := ?_) rfl (by kernel_rfl) (by kernel_rfl) (by kernel_rfl) (fun _ _ _ h => h) (Or.inl ⟨by rfl, ?_⟩) hHeld ?_
          rotate_left
          · intro w' hSw
            skip
            go_simp
            try with_reducible rfl
          try (simp only [Act.put, List.getElem_toArray, List.getElem_cons_succ, List.getElem_cons_zero, List.setIfInBounds_toArray, List.set_cons_zero, List.set_cons_succ])
          refine wpAnyH_take (i := 15) (v := ?_) rfl (by kernel_rfl) (by kernel_rfl) (by kernel_rfl) (fun _ _ _ h => h) (Or.inl ⟨by rfl, ?_⟩) hHeld ?_
          rotate_left
          · intro w' hSw
            skip
            go_simp
            try with_reducible rfl
          try (simp only [Act.put, List.getElem_toArray, List.getElem_cons_succ, List.getElem_cons_zero, List.setIfInBounds_toArray, List.set_cons_zero, List.set_cons_succ])
          refine wpAnyH_take (i := 16) (v := undef) rfl (by kernel_rfl) (by kernel_rfl) (by kernel_rfl) (fun _ _ _ h => h) (Or.inr ⟨by rfl, rfl⟩) hHeld ?_
          try (simp only [Act.put, List.getElem_toArray, List.getElem_cons_succ, List.getElem_cons_zero, List.setIfInBounds_toArray, List.set_cons_zero, List.set_cons_succ])
          refine wpAnyH_take (i := 17) (v := undef) rfl (by kernel_rfl) (by kernel_rfl) (by kernel_rfl) (fun _ _ _ h => h) (Or.inr ⟨by rfl, rfl⟩) hHeld ?_
          try (simp only [Act.put, List.getElem_toArray, List.getElem_cons_succ, List.getElem_cons_zero, List.setIfInBounds_toArray, List.set_cons_zero, List.set_cons_succ])
          refine wpAnyH_take (i := 18) (v := undef) rfl (by kernel_rfl) (by kernel_rfl) (by kernel_rfl) (fun _ _ _ h => h) (Or.inr ⟨by rfl, rfl⟩) hHeld ?_
          try (simp only [Act.put, List.getElem_toArray, List.getElem_cons_succ, List.getElem_cons_zero, List.setIfInBounds_toArray, List.set_cons_zero, List.set_cons_succ])
          refine wpAnyH_take (i := 19) (v := undef) rfl (by kernel_rfl) (by kernel_rfl) (by kernel_rfl) (fun _ _ _ h => h) (Or.inr ⟨by rfl, rfl⟩) hHeld ?_
          try (simp only [Act.put, List.getElem_toArray, List.getElem_cons_succ, List.getElem_cons_zero, List.setIfInBounds_toArray, List.set_cons_zero, List.set_cons_succ])
          refine wpAnyH_take (i := 20) (v := undef) rfl (by kernel_rfl) (by kernel_rfl) (by kernel_rfl) (fun _ _ _ h => h) (Or.inr ⟨by rfl, rfl⟩) hHeld ?_
          try (simp only [Act.put, List.getElem_toArray, List.getElem_cons_succ, List.getElem_cons_zero, List.setIfInBounds_toArray, List.set_cons_zero, List.set_cons_succ])
          refine wpAnyH_take (i := 21) (v := undef) rfl (by kernel_rfl) (by kernel_rfl) (by kernel_rfl) (fun _ _ _ h => h) (Or.inr ⟨by rfl, rfl⟩) hHeld ?_
          try (simp only [Act.put, List.getElem_toArray, List.getElem_cons_succ, List.getElem_cons_zero, List.setIfInBounds_toArray, List.set_cons_zero, List.set_cons_succ])
          refine wpAnyH_take (i := 22) (v := undef) rfl (by kernel_rfl) (by kernel_rfl) (by kernel_rfl) (fun _ _ _ h => h) (Or.inr ⟨by rfl, rfl⟩) hHeld ?_
          try (simp only [Act.put, List.getElem_toArray, List.getElem_cons_succ, List.getElem_cons_zero, List.setIfInBounds_toArray, List.set_cons_zero, List.set_cons_succ])
          refine wpAnyH_take (i := 23) (v := undef) rfl (by kernel_rfl) (by kernel_rfl) (by kernel_rfl) (fun _ _ _ h => h) (Or.inr ⟨by rfl, rfl⟩) hHeld ?_
          try (simp only [Act.put, List.getElem_toArray, List.getElem_cons_succ, List.getElem_cons_zero, List.setIfInBounds_toArray, List.set_cons_zero, List.set_cons_succ])
          refine wpAnyH_take (i := 24) (v := undef) rfl (by kernel_rfl) (by kernel_rfl) (by kernel_rfl) (fun _ _ _ h => h) (Or.inr ⟨by rfl, rfl⟩) hHeld ?_
          try (simp only [Act.put, List.getElem_toArray, List.getElem_cons_succ, List.getElem_cons_zero, List.setIfInBounds_toArray, List.set_cons_zero, List.set_cons_succ])
          refine wpAnyH_take (i := 25) (v := undef) rfl (by kernel_rfl) (by kernel_rfl) (by kernel_rfl) (fun _ _ _ h => h) (Or.inr ⟨by rfl, rfl⟩) hHeld ?_
          try (simp only [Act.put, List.getElem_toArray, List.getElem_cons_succ, List.getElem_cons_zero, List.setIfInBounds_toArray, List.set_cons_zero, List.set_cons_succ])
          refine wpAnyH_take (i := 26) (v := undef) rfl (by kernel_rfl) (by kernel_rfl) (by kernel_rfl) (fun _ _ _ h => h) (Or.inr ⟨by rfl, rfl⟩) hHeld ?_
          try (simp only [Act.put, List.getElem_toArray, List.getElem_cons_succ, List.getElem_cons_zero, List.setIfInBounds_toArray, List.set_cons_zero, List.set_cons_succ])
          refine wpAnyH_take (i := 27) (v := undef) rfl (by kernel_rfl) (by kernel_rfl) (by kernel_rfl) (fun _ _ _ h => h) (Or.inr ⟨by rfl, rfl⟩) hHeld ?_
          try (simp only [Act.put, List.getElem_toArray, List.getElem_cons_succ, List.getElem_cons_zero, List.setIfInBounds_toArray, List.set_cons_zero, List.set_cons_succ])
          refine wpAnyH_take (i := 28) (v := undef) rfl (by kernel_rfl) (by kernel_rfl) (by kernel_rfl) (fun _ _ _ h => h) (Or.inr ⟨by rfl, rfl⟩) hHeld ?_
          try (simp only [Act.put, List.getElem_toArray, List.getElem_cons_succ, List.getElem_cons_zero, List.setIfInBounds_toArray, List.set_cons_zero, List.set_cons_succ])
          refine wpAnyH_take (i := 29) (v := undef) rfl (by kernel_rfl) (by kernel_rfl) (by kernel_rfl) (fun _ _ _ h => h) (Or.inr ⟨by rfl, rfl⟩) hHeld ?_
          try (simp only [Act.put, List.getElem_toArray, List.getElem_cons_succ, List.getElem_cons_zero, List.setIfInBounds_toArray, List.set_cons_zero, List.set_cons_succ])
          refine wpAnyH_take (i := 30) (v := undef) rfl (by kernel_rfl) (by kernel_rfl) (by kernel_rfl) (fun _ _ _ h => h) (Or.inr ⟨by rfl, rfl⟩) hHeld ?_
          try (simp only [Act.put, List.getElem_toArray, List.getElem_cons_succ, List.getElem_cons_zero, List.setIfInBounds_toArray, List.set_cons_zero, List.set_cons_succ])
          refine wpAnyH_take (i := 31) (v := undef) rfl (by kernel_rfl) (by kernel_rfl) (by kernel_rfl) (fun _ _ _ h => h) (Or.inr ⟨by rfl, rfl⟩) hHeld ?_
          try (simp only [Act.put, List.getElem_toArray, List.getElem_cons_succ, List.getElem_cons_zero, List.setIfInBounds_toArray, List.set_cons_zero, List.set_cons_succ])
          refine wpAnyH_take (i := 32) (v := undef) rfl (by kernel_rfl) (by kernel_rfl) (by kernel_rfl) (fun _ _ _ h => h) (Or.inr ⟨by rfl, rfl⟩) hHeld ?_
          try (simp only [Act.put, List.getElem_toArray, List.getElem_cons_succ, List.getElem_cons_zero, List.setIfInBounds_toArray, List.set_cons_zero, List.set_cons_succ])
          refine wpAnyH_take (i := 33) (v := ?_) rfl (by kernel_rfl) (by kernel_rfl) (by kernel_rfl) (fun _ _ _ h => h) (Or.inl ⟨by rfl, ?_⟩) hHeld ?_
          rotate_left
          · intro w' hSw
            skip
            go_simp
            try with_reducible rfl
          try (simp only [Act.put, List.getElem_toArray, List.getElem_cons_succ, List.getElem_cons_zero, List.setIfInBounds_toArray, List.set_cons_zero, List.set_cons_succ])
          refine wpAnyH_take (i := 34) (v := ?_) rfl (by kernel_rfl) (by kernel_rfl) (by kernel_rfl) (fun _ _ _ h => h) (Or.inl ⟨by rfl, ?_⟩) hHeld ?_
          rotate_left
          · intro w' hSw
            skip
            go_simp
            try with_reducible rfl
          try (simp only [Act.put, List.getElem_toArray, List.getElem_cons_succ, List.getElem_cons_zero, List.setIfInBounds_toArray, List.set_cons_zero, List.set_cons_succ])
          refine wpAnyH_take (i := 35) (v := ?_) rfl (by kernel_rfl) (by kernel_rfl) (by kernel_rfl) (fun _ _ _ h => h) (Or.inl ⟨by rfl, ?_⟩) hHeld ?_
          rotate_left
          · intro w' hSw
            skip
            go_simp
            try with_reducible rfl
          try (simp only [Act.put, List.getElem_toArray, List.getElem_cons_succ, List.getElem_cons_zero, List.setIfInBounds_toArray, List.set_cons_zero, List.set_cons_succ])
          refine wpAnyH_done (by kernel_rfl) ?_ _
          refine NoPanic.normal ?_
          go_wp2
          go_ret
          exact ⟨rfl, Bw.out.trans (hHeld.mono Bw.out.size)⟩
        · obtain ⟨z1, hz1⟩ : ∃ W, W = y10.alloc (.cells #[.slice (A0.map fun x => x.add N) (l.length - N) (c0 - N), .bool false] 68) := ⟨_, rfl⟩
          have hzb : Below y10.heap.size y10 z1 := by rw [hz1]; exact (Below.refl _ _).alloc (Nat.le_refl _) _
          have hdl : (l.drop N).length = l.length - N := List.length_drop
          have hpw : PW z1 y10.heap.size y10.heap.size (l.drop N, false) := by
            refine ⟨(A0.map fun x => x.add N), (c0 - N), ?_, ?_, ?_, Nat.le_refl _⟩
            · rw [hz1, hdl]; exact Blk.new _ _ _ _ rfl
            · have h := (Hm.out.below hzb).drop (k := N) (cap := c0) hc0; rw [if_neg hcN] at h; exact h
            · rw [hdl]; omega
          have Hzb := Lib.hid hzb
          have Hpw := Lib.hid hpw
          have Hz1 := Lib.hid hz1
          obtain ⟨gp, hgp⟩ : ∃ z, z = y10.heap.size := ⟨_, rfl⟩
          have Hgp := Lib.hid hgp
          clear hz1 hzb hdl hpw hgp
          go_upto_region 15 with fail
          rw [← Hz1.out, ← Hgp.out]
          rw [← Hgp.out] at Hpw
          clear Hz1
          go_wp2_with fail
          refine (pTake_any gp gp (l.drop N, false) z1 Hpw.out (by rw [List.length_drop]; omega)).mono ?_
          unfold PTkIs
          rw [Q3.out]
          rintro e z2 ⟨rfl, hp2, hg2⟩
          have Hp2 := Lib.hid hp2
          have Hz2 : Hid (Below y10.heap.size y10 z2) := Hzb.out.grown hg2 Hzb.out.size (fun k hk => by injection hk with hk; have := Hgp.out; omega)
          clear hp2 hg2 Hpw Hzb Q3
          have H13' := Lib.hid (Blk.below H13.out Hz2.out H13.out.lt)
          clear H13
          have H13 := H13'
          clear H13'
          have Hm' := Lib.hid ((Hm.out.below Hz2.out).more Hz2.out.size)
          clear Hm
          have Hm := Hm'
          clear Hm'
          have HR3' := Lib.hid (HR3.out.below Hz2.out)
          clear HR3
          have HR3 := HR3'
          clear HR3'
          have Bw' : Hid (Below w.heap.size w z2) := Bw.out.trans (Hz2.out.mono Bw.out.size)
          clear Bw
          have Bw := Bw'
          clear Bw'
          clear Hz2
          obtain ⟨x12, hx12⟩ : ∃ W, W = z2.alloc (.cells (backCs back0).toArray 29) := ⟨_, rfl⟩
          obtain ⟨y12, hy12⟩ : ∃ W, W = x12.setCells z2.heap.size 0 (backCs D) := ⟨_, rfl⟩
          obtain ⟨hth12, hbx12, hbe12⟩ := boxed z2 x12 y12 29 (backCs back0) (backCs D) (by rw [back_len HD.out, back_len back0_shape]) hx12 hy12
          rw [back0_lit] at hx12
          have HX12 := Lib.hid hx12
          have HY12 := Lib.hid hy12
          have Hth12 := Lib.hid hth12
          have Hbe12 := Lib.hid hbe12
          have H16n := Lib.hid hbx12
          clear hx12 hy12 hth12 hbx12 hbe12
          have R13 := Lib.hid (blk_range H13.out)
          go_upto_region 16 with (first
            | ((with_reducible refine gateL 29 ?_); refine wpList_load_g (by rfl) 29 (.tmp 13) rfl w9.heap.size 0 rfl (backCs D) _ R13.out back_under rfl (back_sz HD.out) ?_)
            | (rw [← HX12.out]; (with_reducible refine gateS 29 ?_); refine wpList_store_mid rfl 29 (.tmp 16) (.tmp 103) rfl z2.heap.size 0 (backCs D).toArray rfl rfl Hth12.out (back_szA HD.out) (back_one _) ?_))
          clear R13
          rw [← HY12.out]
          clear HX12 HY12 Hth12
          have H13' := Lib.hid (Blk.below H13.out Hbe12.out H13.out.lt)
          clear H13
          have H13 := H13'
          clear H13'
          have Hm' := Lib.hid ((Hm.out.below Hbe12.out).more Hbe12.out.size)
          clear Hm
          have Hm := Hm'
          clear Hm'
          have HR3' := Lib.hid (HR3.out.below Hbe12.out)
          clear HR3
          have HR3 := HR3'
          clear HR3'
          have Hp2' := Lib.hid (Hp2.out.below Hbe12.out)
          clear Hp2
          have Hp2 := Hp2'
          clear Hp2'
          have Bw' : Hid (Below w.heap.size w y12) := Bw.out.trans (Hbe12.out.mono Bw.out.size)
          clear Bw
          have Bw := Bw'
          clear Bw'
          have H16 := H16n
          clear H16n Hbe12
          obtain ⟨Ap, cp, hXp, _⟩ := Hp2.out
          have HXp := Lib.hid hXp
          clear hXp
          go_upto_region 16 with fail
          refine wp_region_noPanic ?_
          refine wp_region_held_drew (S := fun w' => Below y12.heap.size y12 w') (by kernel_rfl) ((Below.refl _ _).drew) (fun hHeld => ?_)
          refine wpAnyH_take (i := 0) (v := ?_) rfl (by kernel_rfl) (by kernel_rfl) (by kernel_rfl) (fun _ _ _ h => h) (Or.inl ⟨by rfl, ?_⟩) hHeld ?_
          rotate_left
          · intro w' hSw
            skip
            go_simp
            try with_reducible rfl
          try (simp only [Act.put, List.getElem_toArray, List.getElem_cons_succ, List.getElem_cons_zero, List.setIfInBounds_toArray, List.set_cons_zero, List.set_cons_succ])
          refine wpAnyH_take (i := 1) (v := ?_) rfl (by kernel_rfl) (by kernel_rfl) (by kernel_rfl) (fun _ _ _ h => h) (Or.inl ⟨by rfl, ?_⟩) hHeld ?_
          rotate_left
          · intro w' hSw
            skip
            go_simp
            try with_reducible rfl
          try (simp only [Act.put, List.getElem_toArray, List.getElem_cons_succ, List.getElem_cons_zero, List.setIfInBounds_toArray, List.set_cons_zero, List.set_cons_succ])
          refine wpAnyH_take (i := 2) (v := ?_) rfl (by kernel_rfl) (by kernel_rfl) (by kernel_rfl) (fun _ _ _ h => h) (Or.inl ⟨by rfl, ?_⟩) hHeld ?_
          rotate_left
          · intro w' hSw
            skip
            go_simp
            try with_reducible rfl
          try (simp only [Act.put, List.getElem_toArray, List.getElem_cons_succ, List.getElem_cons_zero, List.setIfInBounds_toArray, List.set_cons_zero, List.set_cons_succ])
          refine wpAnyH_take (i := 3) (v := ?_) rfl (by kernel_rfl) (by kernel_rfl) (by kernel_rfl) (fun _ _ _ h => h) (Or.inl ⟨by rfl, ?_⟩) hHeld ?_
          rotate_left
          · intro w' hSw
            skip
            go_simp
            try with_reducible rfl
          try (simp only [Act.put, List.getElem_toArray, List.getElem_cons_succ, List.getElem_cons_zero, List.setIfInBounds_toArray, List.set_cons_zero, List.set_cons_succ])
          refine wpAnyH_take (i := 4) (v := ?_) rfl (by kernel_rfl) (by kernel_rfl) (by kernel_rfl) (fun _ _ _ h => h) (Or.inl ⟨by rfl, ?_⟩) hHeld ?_
          rotate_left
          · intro w' hSw
            have e9 : w'.cell? ⟨gp, 1, none⟩ = some (.bool true) := (Blk.below HXp.out hSw HXp.out.lt).cell 1
            go_simp
            try with_reducible rfl
          try (simp only [Act.put, List.getElem_toArray, List.getElem_cons_succ, List.getElem_cons_zero, List.setIfInBounds_toArray, List.set_cons_zero, List.set_cons_succ])
          refine wpAnyH_take (i := 5) (v := ?_) rfl (by kernel_rfl) (by kernel_rfl) (by kernel_rfl) (fun _ _ _ h => h) (Or.inl ⟨by rfl, ?_⟩) hHeld ?_
          rotate_left
          · intro w' hSw
            skip
            go_simp
            try with_reducible rfl
          try (simp only [Act.put, List.getElem_toArray, List.getElem_cons_succ, List.getElem_cons_zero, List.setIfInBounds_toArray, List.set_cons_zero, List.set_cons_succ])
          refine wpAnyH_take (i := 6) (v := ?_) rfl (by kernel_rfl) (by kernel_rfl) (by kernel_rfl) (fun _ _ _ h => h) (Or.inl ⟨by rfl, ?_⟩) hHeld ?_
          rotate_left
          · intro w' hSw
            skip
            go_simp
            try with_reducible rfl
          try (simp only [Act.put, List.getElem_toArray, List.getElem_cons_succ, List.getElem_cons_zero, List.setIfInBounds_toArray, List.set_cons_zero, List.set_cons_succ])
          refine wpAnyH_take (i := 7) (v := ?_) rfl (by kernel_rfl) (by kernel_rfl) (by kernel_rfl) (fun _ _ _ h => h) (Or.inl ⟨by rfl, ?_⟩) hHeld ?_
          rotate_left
          · intro w' hSw
            skip
            go_simp
            try with_reducible rfl
          try (simp only [Act.put, List.getElem_toArray, List.getElem_cons_succ, List.getElem_cons_zero, List.setIfInBounds_toArray, List.set_cons_zero, List.set_cons_succ])
          refine wpAnyH_take (i := 8) rfl (by kernel_rfl) (by kernel_rfl) (by kernel_rfl) (fun _ _ _ h => h) (yieldsIf_load_mid (by rfl) 29 (.tmp 13) rfl (w9.heap.size) (0) rfl (backCs D) _ (fun w' hSw => blk_range (Blk.below H13.out hSw H13.out.lt)) Try.underlying29 rfl (back_sz HD.out)) hHeld ?_
          try (simp only [Act.put, List.getElem_toArray, List.getElem_cons_succ, List.getElem_cons_zero, List.setIfInBounds_toArray, List.set_cons_zero, List.set_cons_succ])
          refine wpAnyH_take (i := 9) rfl (by kernel_rfl) (by kernel_rfl) (by kernel_rfl) (fun _ _ _ h => h) (yieldsIf_load_mid (by rfl) 29 (.tmp 16) rfl (z2.heap.size) (0) rfl (backCs D) _ (fun w' hSw => blk_range (Blk.below H16.out hSw H16.out.lt)) Try.underlying29 rfl (back_sz HD.out)) hHeld ?_
          try (simp only [Act.put, List.getElem_toArray, List.getElem_cons_succ, List.getElem_cons_zero, List.setIfInBounds_toArray, List.set_cons_zero, List.set_cons_succ])
          refine wpAnyH_ready (rs := [10]) (by kernel_rfl) (by simp) ?_
          refine AllReadyH.cons (i := 10) rfl (fun K hK => ?_) AllReadyH.nil
          go_simp
          refine (sameOneE D D HD.out HD.out _ true (sameBack_self D)).mono ?_
          rintro e wq9 ⟨rfl, hbq⟩
          have hBehind : Below y12.heap.size y12 wq9 := hHeld.trans (hbq.mono hHeld.size)
          clear hbq
          go_wp2_with fail
          refine hK.out _ _ hBehind (fun hHeld => ?_)
          clear hK K hBehind
          try (simp only [Act.put, List.getElem_toArray, List.getElem_cons_succ, List.getElem_cons_zero, List.setIfInBounds_toArray, List.set_cons_zero, List.set_cons_succ])
          refine wpAnyH_take (i := 11) (v := ?_) rfl (by kernel_rfl) (by kernel_rfl) (by kernel_rfl) (fun _ _ _ h => h) (Or.inl ⟨by rfl, ?_⟩) hHeld ?_
          rotate_left
          · intro w' hSw
            skip
            go_simp
            try with_reducible rfl
          try (simp only [Act.put, List.getElem_toArray, List.getElem_cons_succ, List.getElem_cons_zero, List.setIfInBounds_toArray, List.set_cons_zero, List.set_cons_succ])
          refine wpAnyH_take (i := 12) (v := ?_) rfl (by kernel_rfl) (by kernel_rfl) (by kernel_rfl) (fun _ _ _ h => h) (Or.inl ⟨by rfl, ?_⟩) hHeld ?_
          rotate_left
          · intro w' hSw
            skip
            go_simp
            try with_reducible rfl
          try (simp only [Act.put, List.getElem_toArray, List.getElem_cons_succ, List.getElem_cons_zero, List.setIfInBounds_toArray, List.set_cons_zero, List.set_cons_succ])
          refine wpAnyH_take (i := 13) (v := ?_) rfl (by kernel_rfl) (by kernel_rfl) (by kernel_rfl) (fun _ _ _ h => h) (Or.inl ⟨by rfl, ?_⟩) hHeld ?_
          rotate_left
          · intro w' hSw
            skip
            go_simp
            try with_reducible rfl
          try (simp only [Act.put, List.getElem_toArray, List.getElem_cons_succ, List.getElem_cons_zero, List.setIfInBounds_toArray, List.set_cons_zero, List.set_cons_succ])
          refine wpAnyH_take (i := 14) (v := ?_) rfl (by kernel_rfl) (by kernel_rfl) (by kernel_rfl) (fun _ _ _ h => h) (Or.inl ⟨by rfl, ?_⟩) hHeld ?_
          rotate_left
          · intro w' hSw
            skip
            go_simp
            try with_reducible rfl
          try (simp only [Act.put, List.getElem_toArray, List.getElem_cons_succ, List.getElem_cons_zero, List.setIfInBounds_toArray, List.set_cons_zero, List.set_cons_succ])
          refine wpAnyH_take (i := 15) (v := ?_) rfl (by kernel_rfl) (by kernel_rfl) (by kernel_rfl) (fun _ _ _ h => h) (Or.inl ⟨by rfl, ?_⟩) hHeld ?_
          rotate_left
          · intro w' hSw
            skip
            go_simp
            try with_reducible rfl
          try (simp only [Act.put, List.getElem_toArray, List.getElem_cons_succ, List.getElem_cons_zero, List.setIfInBounds_toArray, List.set_cons_zero, List.set_cons_succ])
          refine wpAnyH_take (i := 16) (v := undef) rfl (by kernel_rfl) (by kernel_rfl) (by kernel_rfl) (fun _ _ _ h => h) (Or.inr ⟨by rfl, rfl⟩) hHeld ?_
          try (simp only [Act.put, List.getElem_toArray, List.getElem_cons_succ, List.getElem_cons_zero, List.setIfInBounds_toArray, List.set_cons_zero, List.set_cons_succ])
          refine wpAnyH_take (i := 17) (v := undef) rfl (by kernel_rfl) (by kernel_rfl) (by kernel_rfl) (fun _ _ _ h => h) (Or.inr ⟨by rfl, rfl⟩) hHeld ?_
          try (simp only [Act.put, List.getElem_toArray, List.getElem_cons_succ, List.getElem_cons_zero, List.setIfInBounds_toArray, List.set_cons_zero, List.set_cons_succ])
          refine wpAnyH_take (i := 18) (v := undef) rfl (by kernel_rfl) (by kernel_rfl) (by kernel_rfl) (fun _ _ _ h => h) (Or.inr ⟨by rfl, rfl⟩) hHeld ?_
          try (simp only [Act.put, List.getElem_toArray, List.getElem_cons_succ, List.getElem_cons_zero, List.setIfInBounds_toArray, List.set_cons_zero, List.set_cons_succ])
          refine wpAnyH_take (i := 19) (v := undef) rfl (by kernel_rfl) (by kernel_rfl) (by kernel_rfl) (fun _ _ _ h => h) (Or.inr ⟨by rfl, rfl⟩) hHeld ?_
          try (simp only [Act.put, List.getElem_toArray, List.getElem_cons_succ, List.getElem_cons_zero, List.setIfInBounds_toArray, List.set_cons_zero, List.set_cons_succ])
          refine wpAnyH_take (i := 20) (v := undef) rfl (by kernel_rfl) (by kernel_rfl) (by kernel_rfl) (fun _ _ _ h => h) (Or.inr ⟨by rfl, rfl⟩) hHeld ?_
          try (simp only [Act.put, List.getElem_toArray, List.getElem_cons_succ, List.getElem_cons_zero, List.setIfInBounds_toArray, List.set_cons_zero, List.set_cons_succ])
          refine wpAnyH_take (i := 21) (v := undef) rfl (by kernel_rfl) (by kernel_rfl) (by kernel_rfl) (fun _ _ _ h => h) (Or.inr ⟨by rfl, rfl⟩) hHeld ?_
          try (simp only [Act.put, List.getElem_toArray, List.getElem_cons_succ, List.getElem_cons_zero, List.setIfInBounds_toArray, List.set_cons_zero, List.set_cons_succ])
          refine wpAnyH_take (i := 22) (v := undef) rfl (by kernel_rfl) (by kernel_rfl) (by kernel_rfl) (fun _ _ _ h => h) (Or.inr ⟨by rfl, rfl⟩) hHeld ?_
          try (simp only [Act.put, List.getElem_toArray, List.getElem_cons_succ, List.getElem_cons_zero, List.setIfInBounds_toArray, List.set_cons_zero, List.set_cons_succ])
          refine wpAnyH_take (i := 23) (v := undef) rfl (by kernel_rfl) (by kernel_rfl) (by kernel_rfl) (fun _ _ _ h => h) (Or.inr ⟨by rfl, rfl⟩) hHeld ?_
          try (simp only [Act.put, List.getElem_toArray, List.getElem_cons_succ, List.getElem_cons_zero, List.setIfInBounds_toArray, List.set_cons_zero, List.set_cons_succ])
          refine wpAnyH_take (i := 24) (v := undef) rfl (by kernel_rfl) (by kernel_rfl) (by kernel_rfl) (fun _ _ _ h => h) (Or.inr ⟨by rfl, rfl⟩) hHeld ?_
          try (simp only [Act.put, List.getElem_toArray, List.getElem_cons_succ, List.getElem_cons_zero, List.setIfInBounds_toArray, List.set_cons_zero, List.set_cons_succ])
          refine wpAnyH_take (i := 25) (v := undef) rfl (by kernel_rfl) (by kernel_rfl) (by kernel_rfl) (fun _ _ _ h => h) (Or.inr ⟨by rfl, rfl⟩) hHeld ?_
          try (simp only [Act.put, List.getElem_toArray, List.getElem_cons_succ, List.getElem_cons_zero, List.setIfInBounds_toArray, List.set_cons_zero, List.set_cons_succ])
          refine wpAnyH_take (i := 26) (v := undef) rfl (by kernel_rfl) (by kernel_rfl) (by kernel_rfl) (fun _ _ _ h => h) (Or.inr ⟨by rfl, rfl⟩) hHeld ?_
          try (simp only [Act.put, List.getElem_toArray, List.getElem_cons_succ, List.getElem_cons_zero, List.setIfInBounds_toArray, List.set_cons_zero, List.set_cons_succ])
          refine wpAnyH_take (i := 27) (v := undef) rfl (by kernel_rfl) (by kernel_rfl) (by kernel_rfl) (fun _ _ _ h => h) (Or.inr ⟨by rfl, rfl⟩) hHeld ?_
          try (simp only [Act.put, List.getElem_toArray, List.getElem_cons_succ, List.getElem_cons_zero, List.setIfInBounds_toArray, List.set_cons_zero, List.set_cons_succ])
          refine wpAnyH_take (i := 28) (v := undef) rfl (by kernel_rfl) (by kernel_rfl) (by kernel_rfl) (fun _ _ _ h => h) (Or.inr ⟨by rfl, rfl⟩) hHeld ?_
          try (simp only [Act.put, List.getElem_toArray, List.getElem_cons_succ, List.getElem_cons_zero, List.setIfInBounds_toArray, List.set_cons_zero, List.set_cons_succ])
          refine wpAnyH_take (i := 29) (v := undef) rfl (by kernel_rfl) (by kernel_rfl) (by kernel_rfl) (fun _ _ _ h => h) (Or.inr ⟨by rfl, rfl⟩) hHeld ?_
          try (simp only [Act.put, List.getElem_toArray, List.getElem_cons_succ, List.getElem_cons_zero, List.setIfInBounds_toArray, List.set_cons_zero, List.set_cons_succ])
          refine wpAnyH_take (i := 30) (v := undef) rfl (by kernel_rfl) (by kernel_rfl) (by kernel_rfl) (fun _ _ _ h => h) (Or.inr ⟨by rfl, rfl⟩) hHeld ?_
          try (simp only [Act.put, List.getElem_toArray, List.getElem_cons_succ, List.getElem_cons_zero, List.setIfInBounds_toArray, List.set_cons_zero, List.set_cons_succ])
          refine wpAnyH_take (i := 31) (v := undef) rfl (by kernel_rfl) (by kernel_rfl) (by kernel_rfl) (fun _ _ _ h => h) (Or.inr ⟨by rfl, rfl⟩) hHeld ?_
          try (simp only [Act.put, List.getElem_toArray, List.getElem_cons_succ, List.getElem_cons_zero, List.setIfInBounds_toArray, List.set_cons_zero, List.set_cons_succ])
          refine wpAnyH_take (i := 32) (v := undef) rfl (by kernel_rfl) (by kernel_rfl) (by kernel_rfl) (fun _ _ _ h => h) (Or.inr ⟨by rfl, rfl⟩) hHeld ?_
          try (simp only [Act.put, List.getElem_toArray, List.getElem_cons_succ, List.getElem_cons_zero, List.setIfInBounds_toArray, List.set_cons_zero, List.set_cons_succ])
          refine wpAnyH_take (i := 33) (v := ?_) rfl (by kernel_rfl) (by kernel_rfl) (by kernel_rfl) (fun _ _ _ h => h) (Or.inl ⟨by rfl, ?_⟩) hHeld ?_
          rotate_left
          · intro w' hSw
            skip
            go_simp
            try with_reducible rfl
          try (simp only [Act.put, List.getElem_toArray, List.getElem_cons_succ, List.getElem_cons_zero, List.setIfInBounds_toArray, List.set_cons_zero, List.set_cons_succ])
          refine wpAnyH_take (i := 34) (v := ?_) rfl (by kernel_rfl) (by kernel_rfl) (by kernel_rfl) (fun _ _ _ h => h) (Or.inl ⟨by rfl, ?_⟩) hHeld ?_
          rotate_left
          · intro w' hSw
            skip
            go_simp
            try with_reducible rfl
          try (simp only [Act.put, List.getElem_toArray, List.getElem_cons_succ, List.getElem_cons_zero, List.setIfInBounds_toArray, List.set_cons_zero, List.set_cons_succ])
          refine wpAnyH_take (i := 35) (v := ?_) rfl (by kernel_rfl) (by kernel_rfl) (by kernel_rfl) (fun _ _ _ h => h) (Or.inl ⟨by rfl, ?_⟩) hHeld ?_
          rotate_left
          · intro w' hSw
            skip
            go_simp
            try with_reducible rfl
          try (simp only [Act.put, List.getElem_toArray, List.getElem_cons_succ, List.getElem_cons_zero, List.setIfInBounds_toArray, List.set_cons_zero, List.set_cons_succ])
          refine wpAnyH_done (by kernel_rfl) ?_ _
          refine NoPanic.normal ?_
          go_wp2
          go_ret
          exact ⟨rfl, Bw.out.trans (hHeld.mono Bw.out.size)⟩
  · obtain ⟨m, hm⟩ : ∃ m, backBytes b = m := ⟨_, rfl⟩
    have hml : m.length ≤ 2000 := by rw [← hm]; exact backBytes_len Hs.out (by omega)
    have hnt := normB_take Hs.out ht
    rw [hm] at hnt
    have Hnt := Lib.hid hnt
    have HN := Lib.hid (normB_shape Hs.out)
    have HNs := Lib.hid (normB_same b)
    obtain ⟨Nb, hNb⟩ : ∃ z, z = normB b := ⟨_, rfl⟩
    rw [← hNb] at Hnt HN HNs
    have Hmm := Lib.hid hm
    have Ht := Lib.hid ht
    clear ht hm hnt hNb
    go_enter Try.func9, Try.ntmps9
    go_upto_region 1 with fail
    rw [← HW.out]
    clear HW
    go_wp2_with fail
    refine (awake28 W0).mono ?_
    rintro e w1 ⟨rfl, hb13⟩
    have Hb13 := Lib.hid hb13
    clear hb13
    have H3' := Lib.hid (Blk.below H3.out Hb13.out H3.out.lt)
    clear H3
    have H3 := H3'
    clear H3'
    have Hm' := Lib.hid ((Hm.out.below Hb13.out).more Hb13.out.size)
    clear Hm
    have Hm := Hm'
    clear Hm'
    have Bw' : Hid (Below w.heap.size w w1) := Bw.out.trans (Hb13.out.mono Bw.out.size)
    clear Bw
    have Bw := Bw'
    clear Bw'
    clear Hb13
    have dnm := cb_name H3.out
    have R3 := Lib.hid (blk_range H3.out)
    go_wp2_with (first
      | ((with_reducible refine gateL 29 ?_); refine wpList_load_g (by rfl) 29 (.tmp 3) rfl w.heap.size 0 rfl (backCs b) _ R3.out back_under rfl (back_sz Hs.out) ?_))
    clear R3
    clear dnm
    refine (pbE_yes b Hs.out Ht.out m Hmm.out w1).mono ?_
    rintro e w2 ⟨A7, c7, rfl, hbs7, hb14⟩
    have Hb14 := Lib.hid hb14
    clear hb14
    have Hb7 := Lib.hid hbs7
    clear hbs7
    have H3' := Lib.hid (Blk.below H3.out Hb14.out H3.out.lt)
    clear H3
    have H3 := H3'
    clear H3'
    have Hm' := Lib.hid ((Hm.out.below Hb14.out).more Hb14.out.size)
    clear Hm
    have Hm := Hm'
    clear Hm'
    have Bw' : Hid (Below w.heap.size w w2) := Bw.out.trans (Hb14.out.mono Bw.out.size)
    clear Bw
    have Bw := Bw'
    clear Bw'
    clear Hb14
    go_upto_region 4 with fail
    go_cut [65] from 36 to 65 (fun v65 wc => v65 = .bool false ∧ Hid (Below w2.heap.size w2 wc))
    case first =>
      refine wp_region_noPanic ?_
      refine wp_region_held_drew (S := fun w' => Below w2.heap.size w2 w') (by kernel_rfl) ((Below.refl _ _).drew) (fun hHeld => ?_)
      refine wpAnyH_take (i := 0) (v := ?_) rfl (by kernel_rfl) (by kernel_rfl) (by kernel_rfl) (fun _ _ _ h => h) (Or.inl ⟨by rfl, ?_⟩) hHeld ?_
      rotate_left
      · intro w' hSw
        skip
        go_simp
        try with_reducible rfl
      try (simp only [Act.put, List.getElem_toArray, List.getElem_cons_succ, List.getElem_cons_zero, List.setIfInBounds_toArray, List.set_cons_zero, List.set_cons_succ])
      refine wpAnyH_take (i := 1) (v := ?_) rfl (by kernel_rfl) (by kernel_rfl) (by kernel_rfl) (fun _ _ _ h => h) (Or.inl ⟨by rfl, ?_⟩) hHeld ?_
      rotate_left
      · intro w' hSw
        skip
        go_simp
        try with_reducible rfl
      try (simp only [Act.put, List.getElem_toArray, List.getElem_cons_succ, List.getElem_cons_zero, List.setIfInBounds_toArray, List.set_cons_zero, List.set_cons_succ])
      refine wpAnyH_take (i := 2) rfl (by kernel_rfl) (by kernel_rfl) (by kernel_rfl) (fun _ _ _ h => h) (yieldsIf_load_mid (by rfl) 29 (.tmp 3) rfl (w.heap.size) (0) rfl (backCs b) _ (fun w' hSw => blk_range (Blk.below H3.out hSw H3.out.lt)) Try.underlying29 rfl (back_sz Hs.out)) hHeld ?_
      try (simp only [Act.put, List.getElem_toArray, List.getElem_cons_succ, List.getElem_cons_zero, List.setIfInBounds_toArray, List.set_cons_zero, List.set_cons_succ])
      refine wpAnyH_ready (rs := [3]) (by kernel_rfl) (by simp) ?_
      refine AllReadyH.cons (i := 3) rfl (fun K hK => ?_) AllReadyH.nil
      go_simp
      refine (rtoldE b Hs.out _ true Ht.out).mono ?_
      rintro e wq10 ⟨rfl, hbq⟩
      have hBehind : Below w2.heap.size w2 wq10 := hHeld.trans (hbq.mono hHeld.size)
      clear hbq
      go_wp2_with fail
      refine hK.out _ _ hBehind (fun hHeld => ?_)
      clear hK K hBehind
      try (simp only [Act.put, List.getElem_toArray, List.getElem_cons_succ, List.getElem_cons_zero, List.setIfInBounds_toArray, List.set_cons_zero, List.set_cons_succ])
      refine wpAnyH_take (i := 4) (v := ?_) rfl (by kernel_rfl) (by kernel_rfl) (by kernel_rfl) (fun _ _ _ h => h) (Or.inl ⟨by rfl, ?_⟩) hHeld ?_
      rotate_left
      · intro w' hSw
        skip
        go_simp
        try with_reducible rfl
      try (simp only [Act.put, List.getElem_toArray, List.getElem_cons_succ, List.getElem_cons_zero, List.setIfInBounds_toArray, List.set_cons_zero, List.set_cons_succ])
      refine wpAnyH_take (i := 5) (v := ?_) rfl (by kernel_rfl) (by kernel_rfl) (by kernel_rfl) (fun _ _ _ h => h) (Or.inl ⟨by rfl, ?_⟩) hHeld ?_
      rotate_left
      · intro w' hSw
        skip
        go_simp
        try with_reducible rfl
      try (simp only [Act.put, List.getElem_toArray, List.getElem_cons_succ, List.getElem_cons_zero, List.setIfInBounds_toArray, List.set_cons_zero, List.set_cons_succ])
      refine wpAnyH_take (i := 6) (v := ?_) rfl (by kernel_rfl) (by kernel_rfl) (by kernel_rfl) (fun _ _ _ h => h) (Or.inl ⟨by rfl, ?_⟩) hHeld ?_
      rotate_left
      · intro w' hSw
        skip
        go_simp
        try with_reducible rfl
      try (simp only [Act.put, List.getElem_toArray, List.getElem_cons_succ, List.getElem_cons_zero, List.setIfInBounds_toArray, List.set_cons_zero, List.set_cons_succ])
      refine wpAnyH_take (i := 7) (v := ?_) rfl (by kernel_rfl) (by kernel_rfl) (by kernel_rfl) (fun _ _ _ h => h) (Or.inl ⟨by rfl, ?_⟩) hHeld ?_
      rotate_left
      · intro w' hSw
        skip
        go_simp
        try with_reducible rfl
      try (simp only [Act.put, List.getElem_toArray, List.getElem_cons_succ, List.getElem_cons_zero, List.setIfInBounds_toArray, List.set_cons_zero, List.set_cons_succ])
      refine wpAnyH_take (i := 8) (v := ?_) rfl (by kernel_rfl) (by kernel_rfl) (by kernel_rfl) (fun _ _ _ h => h) (Or.inl ⟨by rfl, ?_⟩) hHeld ?_
      rotate_left
      · intro w' hSw
        skip
        go_simp
        try with_reducible rfl
      try (simp only [Act.put, List.getElem_toArray, List.getElem_cons_succ, List.getElem_cons_zero, List.setIfInBounds_toArray, List.set_cons_zero, List.set_cons_succ])
      refine wpAnyH_take (i := 9) (v := undef) rfl (by kernel_rfl) (by kernel_rfl) (by kernel_rfl) (fun _ _ _ h => h) (Or.inr ⟨by rfl, rfl⟩) hHeld ?_
      try (simp only [Act.put, List.getElem_toArray, List.getElem_cons_succ, List.getElem_cons_zero, List.setIfInBounds_toArray, List.set_cons_zero, List.set_cons_succ])
      refine wpAnyH_take (i := 10) (v := undef) rfl (by kernel_rfl) (by kernel_rfl) (by kernel_rfl) (fun _ _ _ h => h) (Or.inr ⟨by rfl, rfl⟩) hHeld ?_
      try (simp only [Act.put, List.getElem_toArray, List.getElem_cons_succ, List.getElem_cons_zero, List.setIfInBounds_toArray, List.set_cons_zero, List.set_cons_succ])
      refine wpAnyH_take (i := 11) (v := undef) rfl (by kernel_rfl) (by kernel_rfl) (by kernel_rfl) (fun _ _ _ h => h) (Or.inr ⟨by rfl, rfl⟩) hHeld ?_
      try (simp only [Act.put, List.getElem_toArray, List.getElem_cons_succ, List.getElem_cons_zero, List.setIfInBounds_toArray, List.set_cons_zero, List.set_cons_succ])
      refine wpAnyH_take (i := 12) (v := undef) rfl (by kernel_rfl) (by kernel_rfl) (by kernel_rfl) (fun _ _ _ h => h) (Or.inr ⟨by rfl, rfl⟩) hHeld ?_
      try (simp only [Act.put, List.getElem_toArray, List.getElem_cons_succ, List.getElem_cons_zero, List.setIfInBounds_toArray, List.set_cons_zero, List.set_cons_succ])
      refine wpAnyH_take (i := 13) (v := undef) rfl (by kernel_rfl) (by kernel_rfl) (by kernel_rfl) (fun _ _ _ h => h) (Or.inr ⟨by rfl, rfl⟩) hHeld ?_
      try (simp only [Act.put, List.getElem_toArray, List.getElem_cons_succ, List.getElem_cons_zero, List.setIfInBounds_toArray, List.set_cons_zero, List.set_cons_succ])
      refine wpAnyH_take (i := 14) (v := undef) rfl (by kernel_rfl) (by kernel_rfl) (by kernel_rfl) (fun _ _ _ h => h) (Or.inr ⟨by rfl, rfl⟩) hHeld ?_
      try (simp only [Act.put, List.getElem_toArray, List.getElem_cons_succ, List.getElem_cons_zero, List.setIfInBounds_toArray, List.set_cons_zero, List.set_cons_succ])
      refine wpAnyH_take (i := 15) (v := undef) rfl (by kernel_rfl) (by kernel_rfl) (by kernel_rfl) (fun _ _ _ h => h) (Or.inr ⟨by rfl, rfl⟩) hHeld ?_
      try (simp only [Act.put, List.getElem_toArray, List.getElem_cons_succ, List.getElem_cons_zero, List.setIfInBounds_toArray, List.set_cons_zero, List.set_cons_succ])
      refine wpAnyH_take (i := 16) (v := ?_) rfl (by kernel_rfl) (by kernel_rfl) (by kernel_rfl) (fun _ _ _ h => h) (Or.inl ⟨by rfl, ?_⟩) hHeld ?_
      rotate_left
      · intro w' hSw
        skip
        go_simp
        try with_reducible rfl
      try (simp only [Act.put, List.getElem_toArray, List.getElem_cons_succ, List.getElem_cons_zero, List.setIfInBounds_toArray, List.set_cons_zero, List.set_cons_succ])
      refine wpAnyH_take (i := 17) (v := ?_) rfl (by kernel_rfl) (by kernel_rfl) (by kernel_rfl) (fun _ _ _ h => h) (Or.inl ⟨by rfl, ?_⟩) hHeld ?_
      rotate_left
      · intro w' hSw
        skip
        go_simp
        try with_reducible rfl
      try (simp only [Act.put, List.getElem_toArray, List.getElem_cons_succ, List.getElem_cons_zero, List.setIfInBounds_toArray, List.set_cons_zero, List.set_cons_succ])
      refine wpAnyH_take (i := 18) (v := ?_) rfl (by kernel_rfl) (by kernel_rfl) (by kernel_rfl) (fun _ _ _ h => h) (Or.inl ⟨by rfl, ?_⟩) hHeld ?_
      rotate_left
      · intro w' hSw
        skip
        go_simp
        try with_reducible rfl
      try (simp only [Act.put, List.getElem_toArray, List.getElem_cons_succ, List.getElem_cons_zero, List.setIfInBounds_toArray, List.set_cons_zero, List.set_cons_succ])
      refine wpAnyH_take (i := 19) (v := ?_) rfl (by kernel_rfl) (by kernel_rfl) (by kernel_rfl) (fun _ _ _ h => h) (Or.inl ⟨by rfl, ?_⟩) hHeld ?_
      rotate_left
      · intro w' hSw
        skip
        go_simp
        try with_reducible rfl
      try (simp only [Act.put, List.getElem_toArray, List.getElem_cons_succ, List.getElem_cons_zero, List.setIfInBounds_toArray, List.set_cons_zero, List.set_cons_succ])
      refine wpAnyH_take (i := 20) (v := ?_) rfl (by kernel_rfl) (by kernel_rfl) (by kernel_rfl) (fun _ _ _ h => h) (Or.inl ⟨by rfl, ?_⟩) hHeld ?_
      rotate_left
      · intro w' hSw
        skip
        go_simp
        try with_reducible rfl
      try (simp only [Act.put, List.getElem_toArray, List.getElem_cons_succ, List.getElem_cons_zero, List.setIfInBounds_toArray, List.set_cons_zero, List.set_cons_succ])
      refine wpAnyH_take (i := 21) (v := ?_) rfl (by kernel_rfl) (by kernel_rfl) (by kernel_rfl) (fun _ _ _ h => h) (Or.inl ⟨by rfl, ?_⟩) hHeld ?_
      rotate_left
      · intro w' hSw
        skip
        go_simp
        try with_reducible rfl
      try (simp only [Act.put, List.getElem_toArray, List.getElem_cons_succ, List.getElem_cons_zero, List.setIfInBounds_toArray, List.set_cons_zero, List.set_cons_succ])
      refine wpAnyH_take (i := 22) (v := ?_) rfl (by kernel_rfl) (by kernel_rfl) (by kernel_rfl) (fun _ _ _ h => h) (Or.inl ⟨by rfl, ?_⟩) hHeld ?_
      rotate_left
      · intro w' hSw
        skip
        go_simp
        try with_reducible rfl
      try (simp only [Act.put, List.getElem_toArray, List.getElem_cons_succ, List.getElem_cons_zero, List.setIfInBounds_toArray, List.set_cons_zero, List.set_cons_succ])
      refine wpAnyH_take (i := 23) (v := ?_) rfl (by kernel_rfl) (by kernel_rfl) (by kernel_rfl) (fun _ _ _ h => h) (Or.inl ⟨by rfl, ?_⟩) hHeld ?_
      rotate_left
      · intro w' hSw
        have hcv := run_convert_bs (P := Try.prog) 22 9 5 Try.underlying22 Try.underlying5 Try.underlying9 w' _ A7 m (Hb7.out.below hSw) _ c7 rfl
        go_simp
        try with_reducible rfl
      try (simp only [Act.put, List.getElem_toArray, List.getElem_cons_succ, List.getElem_cons_zero, List.setIfInBounds_toArray, List.set_cons_zero, List.set_cons_succ])
      refine wpAnyH_take (i := 24) rfl (by kernel_rfl) (by kernel_rfl) (by kernel_rfl) (fun _ _ _ h => h) (yieldsIf_load_mid (by rfl) 29 (.tmp 3) rfl (w.heap.size) (0) rfl (backCs b) _ (fun w' hSw => blk_range (Blk.below H3.out hSw H3.out.lt)) Try.underlying29 rfl (back_sz Hs.out)) hHeld ?_
      try (simp only [Act.put, List.getElem_toArray, List.getElem_cons_succ, List.getElem_cons_zero, List.setIfInBounds_toArray, List.set_cons_zero, List.set_cons_succ])
      refine wpAnyH_ready (rs := [25]) (by kernel_rfl) (by simp) ?_
      refine AllReadyH.cons (i := 25) rfl (fun K hK => ?_) AllReadyH.nil
      go_simp
      refine (rbE b Hs.out Ht.out m Hmm.out _).mono ?_
      rintro e w5 ⟨A8, c8, rfl, hbs8, hbq⟩
      have hBehind : Below w2.heap.size w2 w5 := hHeld.trans (hbq.mono hHeld.size)
      have Hb8 := Lib.hid hbs8
      clear hbs8
      clear hbq
      go_wp2_with fail
      refine hK.out _ _ hBehind (fun hHeld => ?_)
      clear hK K hBehind
      try (simp only [Act.put, List.getElem_toArray, List.getElem_cons_succ, List.getElem_cons_zero, List.setIfInBounds_toArray, List.set_cons_zero, List.set_cons_succ])
      refine wpAnyH_ready (rs := [26]) (by kernel_rfl) (by simp) ?_
      refine AllReadyH.cons (i := 26) rfl (fun K hK => ?_) AllReadyH.nil
      have hcv := run_convert_bs (P := Try.prog) 22 9 5 Try.underlying22 Try.underlying5 Try.underlying9 w5 _ A8 m Hb8.out _ c8 rfl
      go_simp
      refine hK.out _ _ hHeld (fun hHeld => ?_)
      clear hK K hcv
      try (simp only [Act.put, List.getElem_toArray, List.getElem_cons_succ, List.getElem_cons_zero, List.setIfInBounds_toArray, List.set_cons_zero, List.set_cons_succ])
      refine wpAnyH_take (i := 27) (v := ?_) rfl (by kernel_rfl) (by kernel_rfl) (by kernel_rfl) (fun _ _ _ h => h) (Or.inl ⟨by rfl, ?_⟩) hHeld ?_
      rotate_left
      · intro w' hSw
        have er : (m == m) = true := beq_self_eq_true m; have er2 : (m != m) = false := (by simp)
        go_simp
        try with_reducible rfl
      try (simp only [Act.put, List.getElem_toArray, List.getElem_cons_succ, List.getElem_cons_zero, List.setIfInBounds_toArray, List.set_cons_zero, List.set_cons_succ])
      refine wpAnyH_take (i := 28) (v := ?_) rfl (by kernel_rfl) (by kernel_rfl) (by kernel_rfl) (fun _ _ _ h => h) (Or.inl ⟨by rfl, ?_⟩) hHeld ?_
      rotate_left
      · intro w' hSw
        skip
        go_simp
        try with_reducible rfl
      try (simp only [Act.put, List.getElem_toArray, List.getElem_cons_succ, List.getElem_cons_zero, List.setIfInBounds_toArray, List.set_cons_zero, List.set_cons_succ])
      refine wpAnyH_take (i := 29) (v := ?_) rfl (by kernel_rfl) (by kernel_rfl) (by kernel_rfl) (fun _ _ _ h => h) (Or.inl ⟨by rfl, ?_⟩) hHeld ?_
      rotate_left
      · intro w' hSw
        skip
        go_simp
        try with_reducible rfl
      try (simp only [Act.put, List.getElem_toArray, List.getElem_cons_succ, List.getElem_cons_zero, List.setIfInBounds_toArray, List.set_cons_zero, List.set_cons_succ])
      refine wpAnyH_done (by kernel_rfl) ?_ _
      refine NoPanic.normal ?_
      go_wp2
      go_meet
      case rel => exact ⟨rfl, Lib.hid hHeld⟩
    case rest =>
      obtain ⟨rfl, Hc⟩ := hcut
      have H3' := Lib.hid (Blk.below H3.out Hc.out H3.out.lt)
      clear H3
      have H3 := H3'
      clear H3'
      have Hm' := Lib.hid ((Hm.out.below Hc.out).more Hc.out.size)
      clear Hm
      have Hm := Hm'
      clear Hm'
      have Hb7' := Lib.hid ((Hb7.out.below Hc.out).more Hc.out.size)
      clear Hb7
      have Hb7 := Hb7'
      clear Hb7'
      have Bw' : Hid (Below w.heap.size w wc) := Bw.out.trans (Hc.out.mono Bw.out.size)
      clear Bw
      have Bw := Bw'
      clear Bw'
      clear Hc
      go_wp2_with fail
      refine (rdNew_any A7 _ c7 m wc rfl Hb7.out (by omega)).mono ?_
      rintro e u1 ⟨g1, rfl, hg1, hg2, hR, hb⟩
      have Hu1 := Lib.hid hb
      have HR1 := Lib.hid hR
      have Hg1 := Lib.hid hg1
      clear hR hb hg1 hg2
      go_wp2_with fail
      refine (take_eaw _ g1 m _ u1 Hnt.out HR1.out (by omega) wc Hg1.out Hu1.out).mono ?_
      rintro e v1 ⟨rfl, hb⟩
      have Hb := Lib.hid hb
      clear hb Hu1 HR1 Hg1
      have H3' := Lib.hid (Blk.below H3.out Hb.out H3.out.lt)
      clear H3
      have H3 := H3'
      clear H3'
      have Hm' := Lib.hid ((Hm.out.below Hb.out).more Hb.out.size)
      clear Hm
      have Hm := Hm'
      clear Hm'
      have Hb7' := Lib.hid ((Hb7.out.below Hb.out).more Hb.out.size)
      clear Hb7
      have Hb7 := Hb7'
      clear Hb7'
      have Bw' : Hid (Below w.heap.size w v1) := Bw.out.trans (Hb.out.mono Bw.out.size)
      clear Bw
      have Bw := Bw'
      clear Bw'
      clear Hb
      obtain ⟨x15, hx15⟩ : ∃ W, W = v1.alloc (.cells (backCs back0).toArray 29) := ⟨_, rfl⟩
      obtain ⟨y15, hy15⟩ : ∃ W, W = x15.setCells v1.heap.size 0 (backCs Nb) := ⟨_, rfl⟩
      obtain ⟨hth15, hbx15, hbe15⟩ := boxed v1 x15 y15 29 (backCs back0) (backCs Nb) (by rw [back_len HN.out, back_len back0_shape]) hx15 hy15
      rw [back0_lit] at hx15
      have HX15 := Lib.hid hx15
      have HY15 := Lib.hid hy15
      have Hth15 := Lib.hid hth15
      have Hbe15 := Lib.hid hbe15
      have H9n := Lib.hid hbx15
      clear hx15 hy15 hth15 hbx15 hbe15
      have R3 := Lib.hid (blk_range H3.out)
      go_upto_region 8 with (first
        | ((with_reducible refine gateL 29 ?_); refine wpList_load_g (by rfl) 29 (.tmp 3) rfl w.heap.size 0 rfl (backCs b) _ R3.out back_under rfl (back_sz Hs.out) ?_)
        | (rw [← HX15.out]; (with_reducible refine gateS 29 ?_); refine wpList_store_mid rfl 29 (.tmp 9) (.tmp 72) rfl v1.heap.size 0 (backCs Nb).toArray rfl rfl Hth15.out (back_szA HN.out) (back_one _) ?_))
      clear R3
      rw [← HY15.out]
      clear HX15 HY15 Hth15
      have H3' := Lib.hid (Blk.below H3.out Hbe15.out H3.out.lt)
      clear H3
      have H3 := H3'
      clear H3'
      have Hm' := Lib.hid ((Hm.out.below Hbe15.out).more Hbe15.out.size)
      clear Hm
      have Hm := Hm'
      clear Hm'
      have Hb7' := Lib.hid ((Hb7.out.below Hbe15.out).more Hbe15.out.size)
      clear Hb7
      have Hb7 := Hb7'
      clear Hb7'
      have Bw' : Hid (Below w.heap.size w y15) := Bw.out.trans (Hbe15.out.mono Bw.out.size)
      clear Bw
      have Bw := Bw'
      clear Bw'
      have H9 := H9n
      clear H9n Hbe15
      have R3 := Lib.hid (blk_range H3.out)
      have R9 := Lib.hid (blk_range H9.out)
      go_wp2_with (first
        | ((with_reducible refine gateL 29 ?_); refine wpList_load_g (by rfl) 29 (.tmp 3) rfl w.heap.size 0 rfl (backCs b) _ R3.out back_under rfl (back_sz Hs.out) ?_)
        | ((with_reducible refine gateL 29 ?_); refine wpList_load_g (by rfl) 29 (.tmp 9) rfl v1.heap.size 0 rfl (backCs Nb) _ R9.out back_under rfl (back_sz HN.out) ?_))
      clear R3
      clear R9
      refine (sameOneE Nb b HN.out Hs.out y15 true HNs.out).mono ?_
      rintro e v2 ⟨rfl, hb16⟩
      have Hb16 := Lib.hid hb16
      clear hb16
      have H3' := Lib.hid (Blk.below H3.out Hb16.out H3.out.lt)
      clear H3
      have H3 := H3'
      clear H3'
      have H9' := Lib.hid (Blk.below H9.out Hb16.out H9.out.lt)
      clear H9
      have H9 := H9'
      clear H9'
      have Hm' := Lib.hid ((Hm.out.below Hb16.out).more Hb16.out.size)
      clear Hm
      have Hm := Hm'
      clear Hm'
      have Hb7' := Lib.hid ((Hb7.out.below Hb16.out).more Hb16.out.size)
      clear Hb7
      have Hb7 := Hb7'
      clear Hb7'
      have Bw' : Hid (Below w.heap.size w v2) := Bw.out.trans (Hb16.out.mono Bw.out.size)
      clear Bw
      have Bw := Bw'
      clear Bw'
      clear Hb16
      clear H9
      clear H3
      clear Hb7
      rcases backs_sim hNl with ⟨D, Kp, q1, q2, q3, q4, q5⟩ | ⟨q1, r', q3⟩
      · have Q1 := Lib.hid q1
        have Q2 := Lib.hid q2
        have Q3 := Lib.hid q3
        have HD := Lib.hid q4
        clear q1 q2 q3 q4
        have hmI := HmI.out
        go_wp2_with fail
        refine (rdNew_any A0 _ c0 l v2 rfl Hm.out (by omega)).mono ?_
        rintro e u3 ⟨g2, rfl, hg1, hg2, hR, hb1⟩
        have HR1 := Lib.hid hR
        have Hu1 := Lib.hid hb1
        have hT := rdTake_any _ g2 l (0, 0, 0) u3 (N : Int) hR ⟨Nat.zero_le _, Nat.zero_le _, Nat.zero_le _⟩ (by omega) (by omega)
        rw [take_allE hNl] at hT
        have HT := Lib.hid hT
        clear hR hb1 hT hmI
        go_wp2_with fail
        refine HT.out.mono ?_
        rintro e w8 ⟨Ax, cx, rfl, _, hR2, hgr⟩
        have HR2 := Lib.hid hR2
        have Hu2 : Hid (Below v2.heap.size v2 w8) := Hu1.out.grown hgr Hu1.out.size (fun k hk => by simp only [Option.some.injEq] at hk; omega)
        clear hR2 hgr HR1 Hu1 HT
        go_wp2_with fail
        refine (takeB_any _ g2 l (N, 0, 0) w8 HR2.out ⟨hNl, Nat.zero_le _, Nat.zero_le _⟩ (by omega)).mono ?_
        unfold TakeBIs
        rw [Q1.out, Q2.out]
        rintro e w9 ⟨rfl, hR3, _, ho9⟩
        have HR3 := Lib.hid hR3
        have Hu3 : Hid (Below v2.heap.size v2 w9) := Hu2.out.trans (ho9.below hg1 (fun k hk => by cases hk) Hu2.out.size)
        clear hR3 ho9 HR2 Hu2 Q1 Q2
        have Hm' := Lib.hid ((Hm.out.below Hu3.out).more Hu3.out.size)
        clear Hm
        have Hm := Hm'
        clear Hm'
        have Bw' : Hid (Below w.heap.size w w9) := Bw.out.trans (Hu3.out.mono Bw.out.size)
        clear Bw
        have Bw := Bw'
        clear Bw'
        clear Hu3
        obtain ⟨x17, hx17⟩ : ∃ W, W = w9.alloc (.cells (backCs back0).toArray 29) := ⟨_, rfl⟩
        obtain ⟨y17, hy17⟩ : ∃ W, W = x17.setCells w9.heap.size 0 (backCs D) := ⟨_, rfl⟩
        obtain ⟨hth17, hbx17, hbe17⟩ := boxed w9 x17 y17 29 (backCs back0) (backCs D) (by rw [back_len HD.out, back_len back0_shape]) hx17 hy17
        rw [back0_lit] at hx17
        have HX17 := Lib.hid hx17
        have HY17 := Lib.hid hy17
        have Hth17 := Lib.hid hth17
        have Hbe17 := Lib.hid hbe17
        have H13n := Lib.hid hbx17
        clear hx17 hy17 hth17 hbx17 hbe17
        go_upto_region 14 with (first
          | (rw [← HX17.out]; (with_reducible refine gateS 29 ?_); refine wpList_store_mid rfl 29 (.tmp 13) (.tmp 95) rfl w9.heap.size 0 (backCs D).toArray rfl rfl Hth17.out (back_szA HD.out) (back_one _) ?_))
        rw [← HY17.out]
        clear HX17 HY17 Hth17
        have Hm' := Lib.hid ((Hm.out.below Hbe17.out).more Hbe17.out.size)
        clear Hm
        have Hm := Hm'
        clear Hm'
        have HR3' := Lib.hid (HR3.out.below Hbe17.out)
        clear HR3
        have HR3 := HR3'
        clear HR3'
        have Bw' : Hid (Below w.heap.size w y17) := Bw.out.trans (Hbe17.out.mono Bw.out.size)
        clear Bw
        have Bw := Bw'
        clear Bw'
        have H13 := H13n
        clear H13n Hbe17
        by_cases hcN : c0 = N
        · obtain ⟨z1, hz1⟩ : ∃ W, W = y17.alloc (.cells #[.slice A0 (l.length - N) 0, .bool false] 68) := ⟨_, rfl⟩
          have hzb : Below y17.heap.size y17 z1 := by rw [hz1]; exact (Below.refl _ _).alloc (Nat.le_refl _) _
          have hdl : (l.drop N).length = l.length - N := List.length_drop
          have hpw : PW z1 y17.heap.size y17.heap.size (l.drop N, false) := by
            refine ⟨A0, 0, ?_, ?_, ?_, Nat.le_refl _⟩
            · rw [hz1, hdl]; exact Blk.new _ _ _ _ rfl
            · rw [List.eq_nil_of_length_eq_zero (show (l.drop N).length = 0 by omega)]; exact BS.nil _ _ _
            · rw [hdl]; omega
          have Hzb := Lib.hid hzb
          have Hpw := Lib.hid hpw
          have Hz1 := Lib.hid hz1
          obtain ⟨gp, hgp⟩ : ∃ z, z = y17.heap.size := ⟨_, rfl⟩
          have Hgp := Lib.hid hgp
          clear hz1 hzb hdl hpw hgp
          go_upto_region 15 with fail
          rw [← Hz1.out, ← Hgp.out]
          rw [← Hgp.out] at Hpw
          clear Hz1
          go_wp2_with fail
          refine (pTake_any gp gp (l.drop N, false) z1 Hpw.out (by rw [List.length_drop]; omega)).mono ?_
          unfold PTkIs
          rw [Q3.out]
          rintro e z2 ⟨rfl, hp2, hg2⟩
          have Hp2 := Lib.hid hp2
          have Hz2 : Hid (Below y17.heap.size y17 z2) := Hzb.out.grown hg2 Hzb.out.size (fun k hk => by injection hk with hk; have := Hgp.out; omega)
          clear hp2 hg2 Hpw Hzb Q3
          have H13' := Lib.hid (Blk.below H13.out Hz2.out H13.out.lt)
          clear H13
          have H13 := H13'
          clear H13'
          have Hm' := Lib.hid ((Hm.out.below Hz2.out).more Hz2.out.size)
          clear Hm
          have Hm := Hm'
          clear Hm'
          have HR3' := Lib.hid (HR3.out.below Hz2.out)
          clear HR3
          have HR3 := HR3'
          clear HR3'
          have Bw' : Hid (Below w.heap.size w z2) := Bw.out.trans (Hz2.out.mono Bw.out.size)
          clear Bw
          have Bw := Bw'
          clear Bw'
          clear Hz2
          obtain ⟨x18, hx18⟩ : ∃ W, W = z2.alloc (.cells (backCs back0).toArray 29) := ⟨_, rfl⟩
          obtain ⟨y18, hy18⟩ : ∃ W, W = x18.setCells z2.heap.size 0 (backCs D) := ⟨_, rfl⟩
          obtain ⟨hth18, hbx18, hbe18⟩ := boxed z2 x18 y18 29 (backCs back0) (backCs D) (by rw [back_len HD.out, back_len back0_shape]) hx18 hy18
          rw [back0_lit] at hx18
          have HX18 := Lib.hid hx18
          have HY18 := Lib.hid hy18
          have Hth18 := Lib.hid hth18
          have Hbe18 := Lib.hid hbe18
          have H16n := Lib.hid hbx18
          clear hx18 hy18 hth18 hbx18 hbe18
          have R13 := Lib.hid (blk_range H13.out)
          go_upto_region 16 with (first
            | ((with_reducible refine gateL 29 ?_); refine wpList_load_g (by rfl) 29 (.tmp 13) rfl w9.heap.size 0 rfl (backCs D) _ R13.out back_under rfl (back_sz HD.out) ?_)
            | (rw [← HX18.out]; (with_reducible refine gateS 29 ?_); refine wpList_store_mid rfl 29 (.tmp 16) (.tmp 103) rfl z2.heap.size 0 (backCs D).toArray rfl rfl Hth18.out (back_szA HD.out) (back_one _) ?_))
          clear R13
          rw [← HY18.out]
          clear HX18 HY18 Hth18
          have H13' := Lib.hid (Blk.below H13.out Hbe18.out H13.out.lt)
          clear H13
          have H13 := H13'
          clear H13'
          have Hm' := Lib.hid ((Hm.out.below Hbe18.out).more Hbe18.out.size)
          clear Hm
          have Hm := Hm'
          clear Hm'
          have HR3' := Lib.hid (HR3.out.below Hbe18.out)
          clear HR3
          have HR3 := HR3'
          clear HR3'
          have Hp2' := Lib.hid (Hp2.out.below Hbe18.out)
          clear Hp2
          have Hp2 := Hp2'
          clear Hp2'
          have Bw' : Hid (Below w.heap.size w y18) := Bw.out.trans (Hbe18.out.mono Bw.out.size)
          clear Bw
          have Bw := Bw'
          clear Bw'
          have H16 := H16n
          clear H16n Hbe18
          obtain ⟨Ap, cp, hXp, _⟩ := Hp2.out
          have HXp := Lib.hid hXp
          clear hXp
          go_upto_region 16 with fail
          refine wp_region_noPanic ?_
          refine wp_region_held_drew (S := fun w' => Below y18.heap.size y18 w') (by kernel_rfl) ((Below.refl _ _).drew) (fun hHeld => ?_)
          refine wpAnyH_take (i := 0) (v := ?_) rfl (by kernel_rfl) (by kernel_rfl) (by kernel_rfl) (fun _ _ _ h => h) (Or.inl ⟨by rfl, ?_⟩) hHeld ?_
          rotate_left
          · intro w' hSw
            skip
            go_simp
            try with_reducible rfl
          try (simp only [Act.put, List.getElem_toArray, List.getElem_cons_succ, List.getElem_cons_zero, List.setIfInBounds_toArray, List.set_cons_zero, List.set_cons_succ])
          refine wpAnyH_take (i := 1) (v := ?_) rfl (by kernel_rfl) (by kernel_rfl) (by kernel_rfl) (fun _ _ _ h => h) (Or.inl ⟨by rfl, ?_⟩) hHeld ?_
          rotate_left
          · intro w' hSw
            skip
            go_simp
            try with_reducible rfl
          try (simp only [Act.put, List.getElem_toArray, List.getElem_cons_succ, List.getElem_cons_zero, List.setIfInBounds_toArray, List.set_cons_zero, List.set_cons_succ])
          refine wpAnyH_take (i := 2) (v := ?_) rfl (by kernel_rfl) (by kernel_rfl) (by kernel_rfl) (fun _ _ _ h => h) (Or.inl ⟨by rfl, ?_⟩) hHeld ?_
          rotate_left
          · intro w' hSw
            skip
            go_simp
            try with_reducible rfl
          try (simp only [Act.put, List.getElem_toArray, List.getElem_cons_succ, List.getElem_cons_zero, List.setIfInBounds_toArray, List.set_cons_zero, List.set_cons_succ])
          refine wpAnyH_take (i := 3) (v := ?_) rfl (by kernel_rfl) (by kernel_rfl) (by kernel_rfl) (fun _ _ _ h => h) (Or.inl ⟨by rfl, ?_⟩) hHeld ?_
          rotate_left
          · intro w' hSw
            skip
            go_simp
            try with_reducible rfl
          try (simp only [Act.put, List.getElem_toArray, List.getElem_cons_succ, List.getElem_cons_zero, List.setIfInBounds_toArray, List.set_cons_zero, List.set_cons_succ])
          refine wpAnyH_take (i := 4) (v := ?_) rfl (by kernel_rfl) (by kernel_rfl) (by kernel_rfl) (fun _ _ _ h => h) (Or.inl ⟨by rfl, ?_⟩) hHeld ?_
          rotate_left
          · intro w' hSw
            have e9 : w'.cell? ⟨gp, 1, none⟩ = some (.bool false) := (Blk.below HXp.out hSw HXp.out.lt).cell 1
            go_simp
            try with_reducible rfl
          try (simp only [Act.put, List.getElem_toArray, List.getElem_cons_succ, List.getElem_cons_zero, List.setIfInBounds_toArray, List.set_cons_zero, List.set_cons_succ])
          refine wpAnyH_take (i := 5) (v := ?_) rfl (by kernel_rfl) (by kernel_rfl) (by kernel_rfl) (fun _ _ _ h => h) (Or.inl ⟨by rfl, ?_⟩) hHeld ?_
          rotate_left
          · intro w' hSw
            skip
            go_simp
            try with_reducible rfl
          try (simp only [Act.put, List.getElem_toArray, List.getElem_cons_succ, List.getElem_cons_zero, List.setIfInBounds_toArray, List.set_cons_zero, List.set_cons_succ])
          refine wpAnyH_take (i := 6) (v := ?_) rfl (by kernel_rfl) (by kernel_rfl) (by kernel_rfl) (fun _ _ _ h => h) (Or.inl ⟨by rfl, ?_⟩) hHeld ?_
          rotate_left
          · intro w' hSw
            skip
            go_simp
            try with_reducible rfl
          try (simp only [Act.put, List.getElem_toArray, List.getElem_cons_succ, List.getElem_cons_zero, List.setIfInBounds_toArray, List.set_cons_zero, List.set_cons_succ])
          refine wpAnyH_take (i := 7) (v := ?_) rfl (by kernel_rfl) (by kernel_rfl) (by kernel_rfl) (fun _ _ _ h => h) (Or.inl ⟨by rfl, ?_⟩) hHeld ?_
          rotate_left
          · intro w' hSw
            skip
            go_simp
            try with_reducible rfl
          try (simp only [Act.put, List.getElem_toArray, List.getElem_cons_succ, List.getElem_cons_zero, List.setIfInBounds_toArray, List.set_cons_zero, List.set_cons_succ])
          refine wpAnyH_take (i := 8) rfl (by kernel_rfl) (by kernel_rfl) (by kernel_rfl) (fun _ _ _ h => h) (yieldsIf_load_mid (by rfl) 29 (.tmp 13) rfl (w9.heap.size) (0) rfl (backCs D) _ (fun w' hSw => blk_range (Blk.below H13.out hSw H13.out.lt)) Try.underlying29 rfl (back_sz HD.out)) hHeld ?_
          try (simp only [Act.put, List.getElem_toArray, List.getElem_cons_succ, List.getElem_cons_zero, List.setIfInBounds_toArray, List.set_cons_zero, List.set_cons_succ])
          refine wpAnyH_take (i := 9) rfl (by kernel_rfl) (by kernel_rfl) (by kernel_rfl) (fun _ _ _ h => h) (yieldsIf_load_mid (by rfl) 29 (.tmp 16) rfl (z2.heap.size) (0) rfl (backCs D) _ (fun w' hSw => blk_range (Blk.below H16.out hSw H16.out.lt)) Try.underlying29 rfl (back_sz HD.out)) hHeld ?_
          try (simp only [Act.put, List.getElem_toArray, List.getElem_cons_succ, List.getElem_cons_zero, List.setIfInBounds_toArray, List.set_cons_zero, List.set_cons_succ])
          refine wpAnyH_ready (rs := [10]) (by kernel_rfl) (by simp) ?_
          refine AllReadyH.cons (i := 10) rfl (fun K hK => ?_) AllReadyH.nil
          go_simp
          refine (sameOneE D D HD.out HD.out _ true (sameBack_self D)).mono ?_
          rintro e wq12 ⟨rfl, hbq⟩
          have hBehind : Below y18.heap.size y18 wq12 := hHeld.trans (hbq.mono hHeld.size)
          clear hbq
          go_wp2_with fail
          refine hK.out _ _ hBehind (fun hHeld => ?_)
          clear hK K hBehind
          try (simp only [Act.put, List.getElem_toArray, List.getElem_cons_succ, List.getElem_cons_zero, List.setIfInBounds_toArray, List.set_cons_zero, List.set_cons_succ])
          refine wpAnyH_take (i := 11) (v := ?_) rfl (by kernel_rfl) (by kernel_rfl) (by kernel_rfl) (fun _ _ _ h => h) (Or.inl ⟨by rfl, ?_⟩) hHeld ?_
          rotate_left
          · intro w' hSw
            skip
            go_simp
            try with_reducible rfl
          try (simp only [Act.put, List.getElem_toArray, List.getElem_cons_succ, List.getElem_cons_zero, List.setIfInBounds_toArray, List.set_cons_zero, List.set_cons_succ])
          refine wpAnyH_take (i := 12) (v := ?_) rfl (by kernel_rfl) (by kernel_rfl) (by kernel_rfl) (fun _ _ _ h => h) (Or.inl ⟨by rfl, ?_⟩) hHeld ?_
          rotate_left
          · intro w' hSw
            skip
            go_simp
            try with_reducible rfl
          try (simp only [Act.put, List.getElem_toArray, List.getElem_cons_succ, List.getElem_cons_zero, List.setIfInBounds_toArray, List.set_cons_zero, List.set_cons_succ])
          refine wpAnyH_take (i := 13) (v := ?_) rfl (by kernel_rfl) (by kernel_rfl) (by kernel_rfl) (fun _ _ _ h => h) (Or.inl ⟨by rfl, ?_⟩) hHeld ?_
          rotate_left
          · intro w' hSw
            skip
            go_simp
            try with_reducible rfl
          try (simp only [Act.put, List.getElem_toArray, List.getElem_cons_succ, List.getElem_cons_zero, List.setIfInBounds_toArray, List.set_cons_zero, List.set_cons_succ])
          refine wpAnyH_take (i := 14) (v := ?_) rfl (by kernel_rfl) (by kernel_rfl) (by kernel_rfl) (fun _ _ _ h => h) (Or.inl ⟨by rfl, ?_⟩) hHeld ?_
          rotate_left
          · intro w' hSw
            skip
            go_simp
            try with_reducible rfl
          try (simp only [Act.put, List.getElem_toArray, List.getElem_cons_succ, List.getElem_cons_zero, List.setIfInBounds_toArray, List.set_cons_zero, List.set_cons_succ])
          refine wpAnyH_take (i := 15) (v := ?_) rfl (by kernel_rfl) (by kernel_rfl) (by kernel_rfl) (fun _ _ _ h => h) (Or.inl ⟨by rfl, ?_⟩) hHeld ?_
          rotate_left
          · intro w' hSw
            skip
            go_simp
            try with_reducible rfl
          try (simp only [Act.put, List.getElem_toArray, List.getElem_cons_succ, List.getElem_cons_zero, List.setIfInBounds_toArray, List.set_cons_zero, List.set_cons_succ])
          refine wpAnyH_take (i := 16) (v := ?_) rfl (by kernel_rfl) (by kernel_rfl) (by kernel_rfl) (fun _ _ _ h => h) (Or.inl ⟨by rfl, ?_⟩) hHeld ?_
          rotate_left
          · intro w' hSw
            skip
            go_simp
            try with_reducible rfl
          try (simp only [Act.put, List.getElem_toArray, List.getElem_cons_succ, List.getElem_cons_zero, List.setIfInBounds_toArray, List.set_cons_zero, List.set_cons_succ])
          refine wpAnyH_take (i := 18) (v := ?_) rfl (by kernel_rfl) (by kernel_rfl) (by kernel_rfl) (fun _ _ _ h => h) (Or.inl ⟨by rfl, ?_⟩) hHeld ?_
          rotate_left
          · intro w' hSw
            skip
            go_simp
            try with_reducible rfl
          try (simp only [Act.put, List.getElem_toArray, List.getElem_cons_succ, List.getElem_cons_zero, List.setIfInBounds_toArray, List.set_cons_zero, List.set_cons_succ])
          refine wpAnyH_take (i := 19) (v := ?_) rfl (by kernel_rfl) (by kernel_rfl) (by kernel_rfl) (fun _ _ _ h => h) (Or.inl ⟨by rfl, ?_⟩) hHeld ?_
          rotate_left
          · intro w' hSw
            skip
            go_simp
            try with_reducible rfl
          try (simp only [Act.put, List.getElem_toArray, List.getElem_cons_succ, List.getElem_cons_zero, List.setIfInBounds_toArray, List.set_cons_zero, List.set_cons_succ])
          refine wpAnyH_take (i := 20) (v := ?_) rfl (by kernel_rfl) (by kernel_rfl) (by kernel_rfl) (fun _ _ _ h => h) (Or.inl ⟨by rfl, ?_⟩) hHeld ?_
          rotate_left
          · intro w' hSw
            skip
            go_simp
            try with_reducible rfl
          try (simp only [Act.put, List.getElem_toArray, List.getElem_cons_succ, List.getElem_cons_zero, List.setIfInBounds_toArray, List.set_cons_zero, List.set_cons_succ])
          refine wpAnyH_take (i := 21) (v := ?_) rfl (by kernel_rfl) (by kernel_rfl) (by kernel_rfl) (fun _ _ _ h => h) (Or.inl ⟨by rfl, ?_⟩) hHeld ?_
          rotate_left
          · intro w' hSw
            skip
            go_simp
            try with_reducible rfl
          try (simp only [Act.put, List.getElem_toArray, List.getElem_cons_succ, List.getElem_cons_zero, List.setIfInBounds_toArray, List.set_cons_zero, List.set_cons_succ])
          refine wpAnyH_take (i := 22) (v := ?_) rfl (by kernel_rfl) (by kernel_rfl) (by kernel_rfl) (fun _ _ _ h => h) (Or.inl ⟨by rfl, ?_⟩) hHeld ?_
          rotate_left
          · intro w' hSw
            skip
            go_simp
            try with_reducible rfl
          try (simp only [Act.put, List.getElem_toArray, List.getElem_cons_succ, List.getElem_cons_zero, List.setIfInBounds_toArray, List.set_cons_zero, List.set_cons_succ])
          refine wpAnyH_take (i := 23) (v := ?_) rfl (by kernel_rfl) (by kernel_rfl) (by kernel_rfl) (fun _ _ _ h => h) (Or.inl ⟨by rfl, ?_⟩) hHeld ?_
          rotate_left
          · intro w' hSw
            have e9 : w'.cell? ⟨gp, 0, none⟩ = some (.slice Ap (l.drop Kp).length cp) := (Blk.below HXp.out hSw HXp.out.lt).cell 0
            go_simp
            try with_reducible rfl
          try (simp only [Act.put, List.getElem_toArray, List.getElem_cons_succ, List.getElem_cons_zero, List.setIfInBounds_toArray, List.set_cons_zero, List.set_cons_succ])
          refine wpAnyH_take (i := 24) (v := ?_) rfl (by kernel_rfl) (by kernel_rfl) (by kernel_rfl) (fun _ _ _ h => h) (Or.inl ⟨by rfl, ?_⟩) hHeld ?_
          rotate_left
          · intro w' hSw
            skip
            go_simp
            try with_reducible rfl
          try (simp only [Act.put, List.getElem_toArray, List.getElem_cons_succ, List.getElem_cons_zero, List.setIfInBounds_toArray, List.set_cons_zero, List.set_cons_succ])
          refine wpAnyH_take (i := 25) (v := ?_) rfl (by kernel_rfl) (by kernel_rfl) (by kernel_rfl) (fun _ _ _ h => h) (Or.inl ⟨by rfl, ?_⟩) hHeld ?_
          rotate_left
          · intro w' hSw
            have e9 : IntKind.i64.wrap ((l.length : Int) - (((l.drop Kp).length : Nat) : Int)) = (Kp : Int) := (by rw [List.length_drop, IntWalk.i64_in _ (by omega)]; omega); have e8 : IntKind.i64.wrap ((l.length : Int) - ((l.length - Kp : Nat) : Int)) = (Kp : Int) := (by rw [IntWalk.i64_in _ (by omega)]; omega)
            go_simp
            try with_reducible rfl
          try (simp only [Act.put, List.getElem_toArray, List.getElem_cons_succ, List.getElem_cons_zero, List.setIfInBounds_toArray, List.set_cons_zero, List.set_cons_succ])
          refine wpAnyH_ready (rs := [17]) (by kernel_rfl) (by simp) ?_
          refine AllReadyH.cons (i := 17) rfl (fun K hK => ?_) AllReadyH.nil
          go_simp
          refine (rdAt_rdE _ g2 l (Kp, 0, 0) _ (HR3.out.below hHeld)).mono ?_
          rintro e wq13 ⟨rfl, hbq⟩
          have hBehind : Below y18.heap.size y18 wq13 := hHeld.trans (hbq.mono hHeld.size)
          clear hbq
          go_wp2_with fail
          refine hK.out _ _ hBehind (fun hHeld => ?_)
          clear hK K hBehind
          try (simp only [Act.put, List.getElem_toArray, List.getElem_cons_succ, List.getElem_cons_zero, List.setIfInBounds_toArray, List.set_cons_zero, List.set_cons_succ])
          refine wpAnyH_take (i := 26) (v := ?_) rfl (by kernel_rfl) (by kernel_rfl) (by kernel_rfl) (fun _ _ _ h => h) (Or.inl ⟨by rfl, ?_⟩) hHeld ?_
          rotate_left
          · intro w' hSw
            skip
            go_simp
            try with_reducible rfl
          try (simp only [Act.put, List.getElem_toArray, List.getElem_cons_succ, List.getElem_cons_zero, List.setIfInBounds_toArray, List.set_cons_zero, List.set_cons_succ])
          refine wpAnyH_take (i := 27) (v := ?_) rfl (by kernel_rfl) (by kernel_rfl) (by kernel_rfl) (fun _ _ _ h => h) (Or.inl ⟨by rfl, ?_⟩) hHeld ?_
          rotate_left
          · intro w' hSw
            skip
            go_simp
            try with_reducible rfl
          try (simp only [Act.put, List.getElem_toArray, List.getElem_cons_succ, List.getElem_cons_zero, List.setIfInBounds_toArray, List.set_cons_zero, List.set_cons_succ])
          refine wpAnyH_take (i := 28) (v := ?_) rfl (by kernel_rfl) (by kernel_rfl) (by kernel_rfl) (fun _ _ _ h => h) (Or.inl ⟨by rfl, ?_⟩) hHeld ?_
          rotate_left
          · intro w' hSw
            skip
            go_simp
            try with_reducible rfl
          try (simp only [Act.put, List.getElem_toArray, List.getElem_cons_succ, List.getElem_cons_zero, List.setIfInBounds_toArray, List.set_cons_zero, List.set_cons_succ])
          refine wpAnyH_take (i := 30) (v := ?_) rfl (by kernel_rfl) (by kernel_rfl) (by kernel_rfl) (fun _ _ _ h => h) (Or.inl ⟨by rfl, ?_⟩) hHeld ?_
          rotate_left
          · intro w' hSw
            skip
            go_simp
            try with_reducible rfl
          try (simp only [Act.put, List.getElem_toArray, List.getElem_cons_succ, List.getElem_cons_zero, List.setIfInBounds_toArray, List.set_cons_zero, List.set_cons_succ])
          refine wpAnyH_ready (rs := [29]) (by kernel_rfl) (by simp) ?_
          refine AllReadyH.cons (i := 29) rfl (fun K hK => ?_) AllReadyH.nil
          go_simp
          refine (rdFault_sE _ g2 l (Kp, 0, 0) _ (HR3.out.below hHeld)).mono ?_
          rintro e wq14 ⟨rfl, hbq⟩
          have hBehind : Below y18.heap.size y18 wq14 := hHeld.trans (hbq.mono hHeld.size)
          clear hbq
          go_wp2_with fail
          refine hK.out _ _ hBehind (fun hHeld => ?_)
          clear hK K hBehind
          try (simp only [Act.put, List.getElem_toArray, List.getElem_cons_succ, List.getElem_cons_zero, List.setIfInBounds_toArray, List.set_cons_zero, List.set_cons_succ])
          refine wpAnyH_take (i := 31) (v := ?_) rfl (by kernel_rfl) (by kernel_rfl) (by kernel_rfl) (fun _ _ _ h => h) (Or.inl ⟨by rfl, ?_⟩) hHeld ?_
          rotate_left
          · intro w' hSw
            skip
            go_simp
            try with_reducible rfl
          try (simp only [Act.put, List.getElem_toArray, List.getElem_cons_succ, List.getElem_cons_zero, List.setIfInBounds_toArray, List.set_cons_zero, List.set_cons_succ])
          refine wpAnyH_take (i := 32) (v := ?_) rfl (by kernel_rfl) (by kernel_rfl) (by kernel_rfl) (fun _ _ _ h => h) (Or.inl ⟨by rfl, ?_⟩) hHeld ?_
          rotate_left
          · intro w' hSw
            skip
            go_simp
            try with_reducible rfl
          try (simp only [Act.put, List.getElem_toArray, List.getElem_cons_succ, List.getElem_cons_zero, List.setIfInBounds_toArray, List.set_cons_zero, List.set_cons_succ])
          refine wpAnyH_take (i := 33) (v := ?_) rfl (by kernel_rfl) (by kernel_rfl) (by kernel_rfl) (fun _ _ _ h => h) (Or.inl ⟨by rfl, ?_⟩) hHeld ?_
          rotate_left
          · intro w' hSw
            skip
            go_simp
            try with_reducible rfl
          try (simp only [Act.put, List.getElem_toArray, List.getElem_cons_succ, List.getElem_cons_zero, List.setIfInBounds_toArray, List.set_cons_zero, List.set_cons_succ])
          refine wpAnyH_take (i := 34) (v := ?_) rfl (by kernel_rfl) (by kernel_rfl) (by kernel_rfl) (fun _ _ _ h => h) (Or.inl ⟨by rfl, ?_⟩) hHeld ?_
          rotate_left
          · intro w' hSw
            skip
            go_simp
            try with_reducible rfl
          try (simp only [Act.put, List.getElem_toArray, List.getElem_cons_succ, List.getElem_cons_zero, List.setIfInBounds_toArray, List.set_cons_zero, List.set_cons_succ])
          refine wpAnyH_take (i := 35) (v := ?_) rfl (by kernel_rfl) (by kernel_rfl) (by kernel_rfl) (fun _ _ _ h => h) (Or.inl ⟨by rfl, ?_⟩) hHeld ?_
          rotate_left
          · intro w' hSw
            skip
            go_simp
            try with_reducible rfl
          try (simp only [Act.put, List.getElem_toArray, List.getElem_cons_succ, List.getElem_cons_zero, List.setIfInBounds_toArray, List.set_cons_zero, List.set_cons_succ])
          refine wpAnyH_done (by kernel_rfl) ?_ _
          refine NoPanic.normal ?_
          go_wp2
          go_ret
          exact ⟨rfl, Bw.out.trans (hHeld.mono Bw.out.size)⟩
        · obtain ⟨z1, hz1⟩ : ∃ W, W = y17.alloc (.cells #[.slice (A0.map fun x => x.add N) (l.length - N) (c0 - N), .bool false] 68) := ⟨_, rfl⟩
          have hzb : Below y17.heap.size y17 z1 := by rw [hz1]; exact (Below.refl _ _).alloc (Nat.le_refl _) _
          have hdl : (l.drop N).length = l.length - N := List.length_drop
          have hpw : PW z1 y17.heap.size y17.heap.size (l.drop N, false) := by
            refine ⟨(A0.map fun x => x.add N), (c0 - N), ?_, ?_, ?_, Nat.le_refl _⟩
            · rw [hz1, hdl]; exact Blk.new _ _ _ _ rfl
            · have h := (Hm.out.below hzb).drop (k := N) (cap := c0) hc0; rw [if_neg hcN] at h; exact h
            · rw [hdl]; omega
          have Hzb := Lib.hid hzb
          have Hpw := Lib.hid hpw
          have Hz1 := Lib.hid hz1
          obtain ⟨gp, hgp⟩ : ∃ z, z = y17.heap.size := ⟨_, rfl⟩
          have Hgp := Lib.hid hgp
          clear hz1 hzb hdl hpw hgp
          go_upto_region 15 with fail
          rw [← Hz1.out, ← Hgp.out]
          rw [← Hgp.out] at Hpw
          clear Hz1
          go_wp2_with fail
          refine (pTake_any gp gp (l.drop N, false) z1 Hpw.out (by rw [List.length_drop]; omega)).mono ?_
          unfold PTkIs
          rw [Q3.out]
          rintro e z2 ⟨rfl, hp2, hg2⟩
          have Hp2 := Lib.hid hp2
          have Hz2 : Hid (Below y17.heap.size y17 z2) := Hzb.out.grown hg2 Hzb.out.size (fun k hk => by injection hk with hk; have := Hgp.out; omega)
          clear hp2 hg2 Hpw Hzb Q3
          have H13' := Lib.hid (Blk.below H13.out Hz2.out H13.out.lt)
          clear H13
          have H13 := H13'
          clear H13'
          have Hm' := Lib.hid ((Hm.out.below Hz2.out).more Hz2.out.size)
          clear Hm
          have Hm := Hm'
          clear Hm'
          have HR3' := Lib.hid (HR3.out.below Hz2.out)
          clear HR3
          have HR3 := HR3'
          clear HR3'
          have Bw' : Hid (Below w.heap.size w z2) := Bw.out.trans (Hz2.out.mono Bw.out.size)
          clear Bw
          have Bw := Bw'
          clear Bw'
          clear Hz2
          obtain ⟨x19, hx19⟩ : ∃ W, W = z2.alloc (.cells (backCs back0).toArray 29) := ⟨_, rfl⟩
          obtain ⟨y19, hy19⟩ : ∃ W, W = x19.setCells z2.heap.size 0 (backCs D) := ⟨_, rfl⟩
          obtain ⟨hth19, hbx19, hbe19⟩ := boxed z2 x19 y19 29 (backCs back0) (backCs D) (by rw [back_len HD.out, back_len back0_shape]) hx19 hy19
          rw [back0_lit] at hx19
          have HX19 := Lib.hid hx19
          have HY19 := Lib.hid hy19
          have Hth19 := Lib.hid hth19
          have Hbe19 := Lib.hid hbe19
          have H16n := Lib.hid hbx19
          clear hx19 hy19 hth19 hbx19 hbe19
          have R13 := Lib.hid (blk_range H13.out)
          go_upto_region 16 with (first
            | ((with_reducible refine gateL 29 ?_); refine wpList_load_g (by rfl) 29 (.tmp 13) rfl w9.heap.size 0 rfl (backCs D) _ R13.out back_under rfl (back_sz HD.out) ?_)
            | (rw [← HX19.out]; (with_reducible refine gateS 29 ?_); refine wpList_store_mid rfl 29 (.tmp 16) (.tmp 103) rfl z2.heap.size 0 (backCs D).toArray rfl rfl Hth19.out (back_szA HD.out) (back_one _) ?_))
          clear R13
          rw [← HY19.out]
          clear HX19 HY19 Hth19
          have H13' := Lib.hid (Blk.below H13.out Hbe19.out H13.out.lt)
          clear H13
          have H13 := H13'
          clear H13'
          have Hm' := Lib.hid ((Hm.out.below Hbe19.out).more Hbe19.out.size)
          clear Hm
          have Hm := Hm'
          clear Hm'
          have HR3' := Lib.hid (HR3.out.below Hbe19.out)
          clear HR3
          have HR3 := HR3'
          clear HR3'
          have Hp2' := Lib.hid (Hp2.out.below Hbe19.out)
          clear Hp2
          have Hp2 := Hp2'
          clear Hp2'
          have Bw' : Hid (Below w.heap.size w y19) := Bw.out.trans (Hbe19.out.mono Bw.out.size)
          clear Bw
          have Bw := Bw'
          clear Bw'
          have H16 := H16n
          clear H16n Hbe19
          obtain ⟨Ap, cp, hXp, _⟩ := Hp2.out
          have HXp := Lib.hid hXp
          clear hXp
          go_upto_region 16 with fail
          refine wp_region_noPanic ?_
          refine wp_region_held_drew (S := fun w' => Below y19.heap.size y19 w') (by kernel_rfl) ((Below.refl _ _).drew) (fun hHeld => ?_)
          refine wpAnyH_take (i := 0) (v := ?_) rfl (by kernel_rfl) (by kernel_rfl) (by kernel_rfl) (fun _ _ _ h => h) (Or.inl ⟨by rfl, ?_⟩) hHeld ?_
          rotate_left
          · intro w' hSw
            skip
            go_simp
            try with_reducible rfl
          try (simp only [Act.put, List.getElem_toArray, List.getElem_cons_succ, List.getElem_cons_zero, List.setIfInBounds_toArray, List.set_cons_zero, List.set_cons_succ])
          refine wpAnyH_take (i := 1) (v := ?_) rfl (by kernel_rfl) (by kernel_rfl) (by kernel_rfl) (fun _ _ _ h => h) (Or.inl ⟨by rfl, ?_⟩) hHeld ?_
          rotate_left
          · intro w' hSw
            skip
            go_simp
            try with_reducible rfl
          try (simp only [Act.put, List.getElem_toArray, List.getElem_cons_succ, List.getElem_cons_zero, List.setIfInBounds_toArray, List.set_cons_zero, List.set_cons_succ])
          refine wpAnyH_take (i := 2) (v := ?_) rfl (by kernel_rfl) (by kernel_rfl) (by kernel_rfl) (fun _ _ _ h => h) (Or.inl ⟨by rfl, ?_⟩) hHeld ?_
          rotate_left
          · intro w' hSw
            skip
            go_simp
            try with_reducible rfl
          try (simp only [Act.put, List.getElem_toArray, List.getElem_cons_succ, List.getElem_cons_zero, List.setIfInBounds_toArray, List.set_cons_zero, List.set_cons_succ])
          refine wpAnyH_take (i := 3) (v := ?_) rfl (by kernel_rfl) (by kernel_rfl) (by kernel_rfl) (fun _ _ _ h => h) (Or.inl ⟨by rfl, ?_⟩) hHeld ?_
          rotate_left
          · intro w' hSw
            skip
            go_simp
            try with_reducible rfl
          try (simp only [Act.put, List.getElem_toArray, List.getElem_cons_succ, List.getElem_cons_zero, List.setIfInBounds_toArray, List.set_cons_zero, List.set_cons_succ])
          refine wpAnyH_take (i := 4) (v := ?_) rfl (by kernel_rfl) (by kernel_rfl) (by kernel_rfl) (fun _ _ _ h => h) (Or.inl ⟨by rfl, ?_⟩) hHeld ?_
          rotate_left
          · intro w' hSw
            have e9 : w'.cell? ⟨gp, 1, none⟩ = some (.bool false) := (Blk.below HXp.out hSw HXp.out.lt).cell 1
            go_simp
            try with_reducible rfl
          try (simp only [Act.put, List.getElem_toArray, List.getElem_cons_succ, List.getElem_cons_zero, List.setIfInBounds_toArray, List.set_cons_zero, List.set_cons_succ])
          refine wpAnyH_take (i := 5) (v := ?_) rfl (by kernel_rfl) (by kernel_rfl) (by kernel_rfl) (fun _ _ _ h => h) (Or.inl ⟨by rfl, ?_⟩) hHeld ?_
          rotate_left
          · intro w' hSw
            skip
            go_simp
            try with_reducible rfl
          try (simp only [Act.put, List.getElem_toArray, List.getElem_cons_succ, List.getElem_cons_zero, List.setIfInBounds_toArray, List.set_cons_zero, List.set_cons_succ])
          refine wpAnyH_take (i := 6) (v := ?_) rfl (by kernel_rfl) (by kernel_rfl) (by kernel_rfl) (fun _ _ _ h => h) (Or.inl ⟨by rfl, ?_⟩) hHeld ?_
          rotate_left
          · intro w' hSw
            skip
            go_simp
            try with_reducible rfl
          try (simp only [Act.put, List.getElem_toArray, List.getElem_cons_succ, List.getElem_cons_zero, List.setIfInBounds_toArray, List.set_cons_zero, List.set_cons_succ])
          refine wpAnyH_take (i := 7) (v := ?_) rfl (by kernel_rfl) (by kernel_rfl) (by kernel_rfl) (fun _ _ _ h => h) (Or.inl ⟨by rfl, ?_⟩) hHeld ?_
          rotate_left
          · intro w' hSw
            skip
            go_simp
            try with_reducible rfl
          try (simp only [Act.put, List.getElem_toArray, List.getElem_cons_succ, List.getElem_cons_zero, List.setIfInBounds_toArray, List.set_cons_zero, List.set_cons_succ])
          refine wpAnyH_take (i := 8) rfl (by kernel_rfl) (by kernel_rfl) (by kernel_rfl) (fun _ _ _ h => h) (yieldsIf_load_mid (by rfl) 29 (.tmp 13) rfl (w9.heap.size) (0) rfl (backCs D) _ (fun w' hSw => blk_range (Blk.below H13.out hSw H13.out.lt)) Try.underlying29 rfl (back_sz HD.out)) hHeld ?_
          try (simp only [Act.put, List.getElem_toArray, List.getElem_cons_succ, List.getElem_cons_zero, List.setIfInBounds_toArray, List.set_cons_zero, List.set_cons_succ])
          refine wpAnyH_take (i := 9) rfl (by kernel_rfl) (by kernel_rfl) (by kernel_rfl) (fun _ _ _ h => h) (yieldsIf_load_mid (by rfl) 29 (.tmp 16) rfl (z2.heap.size) (0) rfl (backCs D) _ (fun w' hSw => blk_range (Blk.below H16.out hSw H16.out.lt)) Try.underlying29 rfl (back_sz HD.out)) hHeld ?_
          try (simp only [Act.put, List.getElem_toArray, List.getElem_cons_succ, List.getElem_cons_zero, List.setIfInBounds_toArray, List.set_cons_zero, List.set_cons_succ])
          refine wpAnyH_ready (rs := [10]) (by kernel_rfl) (by simp) ?_
          refine AllReadyH.cons (i := 10) rfl (fun K hK => ?_) AllReadyH.nil
          go_simp
          refine (sameOneE D D HD.out HD.out _ true (sameBack_self D)).mono ?_
          rintro e wq15 ⟨rfl, hbq⟩
          have hBehind : Below y19.heap.size y19 wq15 := hHeld.trans (hbq.mono hHeld.size)
          clear hbq
          go_wp2_with fail
          refine hK.out _ _ hBehind (fun hHeld => ?_)
          clear hK K hBehind
          try (simp only [Act.put, List.getElem_toArray, List.getElem_cons_succ, List.getElem_cons_zero, List.setIfInBounds_toArray, List.set_cons_zero, List.set_cons_succ])
          refine wpAnyH_take (i := 11) (v := ?_) rfl (by kernel_rfl) (by kernel_rfl) (by kernel_rfl) (fun _ _ _ h => h) (Or.inl ⟨by rfl, ?_⟩) hHeld ?_
          rotate_left
          · intro w' hSw
            skip
            go_simp
            try with_reducible rfl
          try (simp only [Act.put, List.getElem_toArray, List.getElem_cons_succ, List.getElem_cons_zero, List.setIfInBounds_toArray, List.set_cons_zero, List.set_cons_succ])
          refine wpAnyH_take (i := 12) (v := ?_) rfl (by kernel_rfl) (by kernel_rfl) (by kernel_rfl) (fun _ _ _ h => h) (Or.inl ⟨by rfl, ?_⟩) hHeld ?_
          rotate_left
          · intro w' hSw
            skip
            go_simp
            try with_reducible rfl
          try (simp only [Act.put, List.getElem_toArray, List.getElem_cons_succ, List.getElem_cons_zero, List.setIfInBounds_toArray, List.set_cons_zero, List.set_cons_succ])
          refine wpAnyH_take (i := 13) (v := ?_) rfl (by kernel_rfl) (by kernel_rfl) (by kernel_rfl) (fun _ _ _ h => h) (Or.inl ⟨by rfl, ?_⟩) hHeld ?_
          rotate_left
          · intro w' hSw
            skip
            go_simp
            try with_reducible rfl
          try (simp only [Act.put, List.getElem_toArray, List.getElem_cons_succ, List.getElem_cons_zero, List.setIfInBounds_toArray, List.set_cons_zero, List.set_cons_succ])
          refine wpAnyH_take (i := 14) (v := ?_) rfl (by kernel_rfl) (by kernel_rfl) (by kernel_rfl) (fun _ _ _ h => h) (Or.inl ⟨by rfl, ?_⟩) hHeld ?_
          rotate_left
          · intro w' hSw
            skip
            go_simp
            try with_reducible rfl
          try (simp only [Act.put, List.getElem_toArray, List.getElem_cons_succ, List.getElem_cons_zero, List.setIfInBounds_toArray, List.set_cons_zero, List.set_cons_succ])
          refine wpAnyH_take (i := 15) (v := ?_) rfl (by kernel_rfl) (by kernel_rfl) (by kernel_rfl) (fun _ _ _ h => h) (Or.inl ⟨by rfl, ?_⟩) hHeld ?_
          rotate_left
          · intro w' hSw
            skip
            go_simp
            try with_reducible rfl
          try (simp only [Act.put, List.getElem_toArray, List.getElem_cons_succ, List.getElem_cons_zero, List.setIfInBounds_toArray, List.set_cons_zero, List.set_cons_succ])
          refine wpAnyH_take (i := 16) (v := ?_) rfl (by kernel_rfl) (by kernel_rfl) (by kernel_rfl) (fun _ _ _ h => h) (Or.inl ⟨by rfl, ?_⟩) hHeld ?_
          rotate_left
          · intro w' hSw
            skip
            go_simp
            try with_reducible rfl
          try (simp only [Act.put, List.getElem_toArray, List.getElem_cons_succ, List.getElem_cons_zero, List.setIfInBounds_toArray, List.set_cons_zero, List.set_cons_succ])
          refine wpAnyH_take (i := 18) (v := ?_) rfl (by kernel_rfl) (by kernel_rfl) (by kernel_rfl) (fun _ _ _ h => h) (Or.inl ⟨by rfl, ?_⟩) hHeld ?_
          rotate_left
          · intro w' hSw
            skip
            go_simp
            try with_reducible rfl
          try (simp only [Act.put, List.getElem_toArray, List.getElem_cons_succ, List.getElem_cons_zero, List.setIfInBounds_toArray, List.set_cons_zero, List.set_cons_succ])
          refine wpAnyH_take (i := 19) (v := ?_) rfl (by kernel_rfl) (by kernel_rfl) (by kernel_rfl) (fun _ _ _ h => h) (Or.inl ⟨by rfl, ?_⟩) hHeld ?_
          rotate_left
          · intro w' hSw
            skip
            go_simp
            try with_reducible rfl
          try (simp only [Act.put, List.getElem_toArray, List.getElem_cons_succ, List.getElem_cons_zero, List.setIfInBounds_toArray, List.set_cons_zero, List.set_cons_succ])
          refine wpAnyH_take (i := 20) (v := ?_) rfl (by kernel_rfl) (by kernel_rfl) (by kernel_rfl) (fun _ _ _ h => h) (Or.inl ⟨by rfl, ?_⟩) hHeld ?_
          rotate_left
          · intro w' hSw
            skip
            go_simp
            try with_reducible rfl
          try (simp only [Act.put, List.getElem_toArray, List.getElem_cons_succ, List.getElem_cons_zero, List.setIfInBounds_toArray, List.set_cons_zero, List.set_cons_succ])
          refine wpAnyH_take (i := 21) (v := ?_) rfl (by kernel_rfl) (by kernel_rfl) (by kernel_rfl) (fun _ _ _ h => h) (Or.inl ⟨by rfl, ?_⟩) hHeld ?_
          rotate_left
          · intro w' hSw
            skip
            go_simp
            try with_reducible rfl
          try (simp only [Act.put, List.getElem_toArray, List.getElem_cons_succ, List.getElem_cons_zero, List.setIfInBounds_toArray, List.set_cons_zero, List.set_cons_succ])
          refine wpAnyH_take (i := 22) (v := ?_) rfl (by kernel_rfl) (by kernel_rfl) (by kernel_rfl) (fun _ _ _ h => h) (Or.inl ⟨by rfl, ?_⟩) hHeld ?_
          rotate_left
          · intro w' hSw
            skip
            go_simp
            try with_reducible rfl
          try (simp only [Act.put, List.getElem_toArray, List.getElem_cons_succ, List.getElem_cons_zero, List.setIfInBounds_toArray, List.set_cons_zero, List.set_cons_succ])
          refine wpAnyH_take (i := 23) (v := ?_) rfl (by kernel_rfl) (by kernel_rfl) (by kernel_rfl) (fun _ _ _ h => h) (Or.inl ⟨by rfl, ?_⟩) hHeld ?_
          rotate_left
          · intro w' hSw
            have e9 : w'.cell? ⟨gp, 0, none⟩ = some (.slice Ap (l.drop Kp).length cp) := (Blk.below HXp.out hSw HXp.out.lt).cell 0
            go_simp
            try with_reducible rfl
          try (simp only [Act.put, List.getElem_toArray, List.getElem_cons_succ, List.getElem_cons_zero, List.setIfInBounds_toArray, List.set_cons_zero, List.set_cons_succ])
          refine wpAnyH_take (i := 24) (v := ?_) rfl (by kernel_rfl) (by kernel_rfl) (by kernel_rfl) (fun _ _ _ h => h) (Or.inl ⟨by rfl, ?_⟩) hHeld ?_
          rotate_left
          · intro w' hSw
            skip
            go_simp
            try with_reducible rfl
          try (simp only [Act.put, List.getElem_toArray, List.getElem_cons_succ, List.getElem_cons_zero, List.setIfInBounds_toArray, List.set_cons_zero, List.set_cons_succ])
          refine wpAnyH_take (i := 25) (v := ?_) rfl (by kernel_rfl) (by kernel_rfl) (by kernel_rfl) (fun _ _ _ h => h) (Or.inl ⟨by rfl, ?_⟩) hHeld ?_
          rotate_left
          · intro w' hSw
            have e9 : IntKind.i64.wrap ((l.length : Int) - (((l.drop Kp).length : Nat) : Int)) = (Kp : Int) := (by rw [List.length_drop, IntWalk.i64_in _ (by omega)]; omega); have e8 : IntKind.i64.wrap ((l.length : Int) - ((l.length - Kp : Nat) : Int)) = (Kp : Int) := (by rw [IntWalk.i64_in _ (by omega)]; omega)
            go_simp
            try with_reducible rfl
          try (simp only [Act.put, List.getElem_toArray, List.getElem_cons_succ, List.getElem_cons_zero, List.setIfInBounds_toArray, List.set_cons_zero, List.set_cons_succ])
          refine wpAnyH_ready (rs := [17]) (by kernel_rfl) (by simp) ?_
          refine AllReadyH.cons (i := 17) rfl (fun K hK => ?_) AllReadyH.nil
          go_simp
          refine (rdAt_rdE _ g2 l (Kp, 0, 0) _ (HR3.out.below hHeld)).mono ?_
          rintro e wq16 ⟨rfl, hbq⟩
          have hBehind : Below y19.heap.size y19 wq16 := hHeld.trans (hbq.mono hHeld.size)
          clear hbq
          go_wp2_with fail
          refine hK.out _ _ hBehind (fun hHeld => ?_)
          clear hK K hBehind
          try (simp only [Act.put, List.getElem_toArray, List.getElem_cons_succ, List.getElem_cons_zero, List.setIfInBounds_toArray, List.set_cons_zero, List.set_cons_succ])
          refine wpAnyH_take (i := 26) (v := ?_) rfl (by kernel_rfl) (by kernel_rfl) (by kernel_rfl) (fun _ _ _ h => h) (Or.inl ⟨by rfl, ?_⟩) hHeld ?_
          rotate_left
          · intro w' hSw
            skip
            go_simp
            try with_reducible rfl
          try (simp only [Act.put, List.getElem_toArray, List.getElem_cons_succ, List.getElem_cons_zero, List.setIfInBounds_toArray, List.set_cons_zero, List.set_cons_succ])
          refine wpAnyH_take (i := 27) (v := ?_) rfl (by kernel_rfl) (by kernel_rfl) (by kernel_rfl) (fun _ _ _ h => h) (Or.inl ⟨by rfl, ?_⟩) hHeld ?_
          rotate_left
          · intro w' hSw
            skip
            go_simp
            try with_reducible rfl
          try (simp only [Act.put, List.getElem_toArray, List.getElem_cons_succ, List.getElem_cons_zero, List.setIfInBounds_toArray, List.set_cons_zero, List.set_cons_succ])
          refine wpAnyH_take (i := 28) (v := ?_) rfl (by kernel_rfl) (by kernel_rfl) (by kernel_rfl) (fun _ _ _ h => h) (Or.inl ⟨by rfl, ?_⟩) hHeld ?_
          rotate_left
          · intro w' hSw
            skip
            go_simp
            try with_reducible rfl
          try (simp only [Act.put, List.getElem_toArray, List.getElem_cons_succ, List.getElem_cons_zero, List.setIfInBounds_toArray, List.set_cons_zero, List.set_cons_succ])
          refine wpAnyH_take (i := 30) (v := ?_) rfl (by kernel_rfl) (by kernel_rfl) (by kernel_rfl) (fun _ _ _ h => h) (Or.inl ⟨by rfl, ?_⟩) hHeld ?_
          rotate_left
          · intro w' hSw
            skip
            go_simp
            try with_reducible rfl
          try (simp only [Act.put, List.getElem_toArray, List.getElem_cons_succ, List.getElem_cons_zero, List.setIfInBounds_toArray, List.set_cons_zero, List.set_cons_succ])
          refine wpAnyH_ready (rs := [29]) (by kernel_rfl) (by simp) ?_
          refine AllReadyH.cons (i := 29) rfl (fun K hK => ?_) AllReadyH.nil
          go_simp
          refine (rdFault_sE _ g2 l (Kp, 0, 0) _ (HR3.out.below hHeld)).mono ?_
          rintro e wq17 ⟨rfl, hbq⟩
          have hBehind : Below y19.heap.size y19 wq17 := hHeld.trans (hbq.mono hHeld.size)
          clear hbq
          go_wp2_with fail
          refine hK.out _ _ hBehind (fun hHeld => ?_)
          clear hK K hBehind
          try (simp only [Act.put, List.getElem_toArray, List.getElem_cons_succ, List.getElem_cons_zero, List.setIfInBounds_toArray, List.set_cons_zero, List.set_cons_succ])
          refine wpAnyH_take (i := 31) (v := ?_) rfl (by kernel_rfl) (by kernel_rfl) (by kernel_rfl) (fun _ _ _ h => h) (Or.inl ⟨by rfl, ?_⟩) hHeld ?_
          rotate_left
          · intro w' hSw
            skip
            go_simp
            try with_reducible rfl
          try (simp only [Act.put, List.getElem_toArray, List.getElem_cons_succ, List.getElem_cons_zero, List.setIfInBounds_toArray, List.set_cons_zero, List.set_cons_succ])
          refine wpAnyH_take (i := 32) (v := ?_) rfl (by kernel_rfl) (by kernel_rfl) (by kernel_rfl) (fun _ _ _ h => h) (Or.inl ⟨by rfl, ?_⟩) hHeld ?_
          rotate_left
          · intro w' hSw
            skip
            go_simp
            try with_reducible rfl
          try (simp only [Act.put, List.getElem_toArray, List.getElem_cons_succ, List.getElem_cons_zero, List.setIfInBounds_toArray, List.set_cons_zero, List.set_cons_succ])
          refine wpAnyH_take (i := 33) (v := ?_) rfl (by kernel_rfl) (by kernel_rfl) (by kernel_rfl) (fun _ _ _ h => h) (Or.inl ⟨by rfl, ?_⟩) hHeld ?_
          rotate_left
          · intro w' hSw
            skip
            go_simp
            try with_reducible rfl
          try (simp only [Act.put, List.getElem_toArray, List.getElem_cons_succ, List.getElem_cons_zero, List.setIfInBounds_toArray, List.set_cons_zero, List.set_cons_succ])
          refine wpAnyH_take (i := 34) (v := ?_) rfl (by kernel_rfl) (by kernel_rfl) (by kernel_rfl) (fun _ _ _ h => h) (Or.inl ⟨by rfl, ?_⟩) hHeld ?_
          rotate_left
          · intro w' hSw
            skip
            go_simp
            try with_reducible rfl
          try (simp only [Act.put, List.getElem_toArray, List.getElem_cons_succ, List.getElem_cons_zero, List.setIfInBounds_toArray, List.set_cons_zero, List.set_cons_succ])
          refine wpAnyH_take (i := 35) (v := ?_) rfl (by kernel_rfl) (by kernel_rfl) (by kernel_rfl) (fun _ _ _ h => h) (Or.inl ⟨by rfl, ?_⟩) hHeld ?_
          rotate_left
          · intro w' hSw
            skip
            go_simp
            try with_reducible rfl
          try (simp only [Act.put, List.getElem_toArray, List.getElem_cons_succ, List.getElem_cons_zero, List.setIfInBounds_toArray, List.set_cons_zero, List.set_cons_succ])
          refine wpAnyH_done (by kernel_rfl) ?_ _
          refine NoPanic.normal ?_
          go_wp2
          go_ret
          exact ⟨rfl, Bw.out.trans (hHeld.mono Bw.out.size)⟩
      · obtain ⟨D, hD⟩ : ∃ D, D = back0 := ⟨_, rfl⟩
        rw [← hD] at q1 q3
        have HD : Hid (BackShape D) := by rw [hD]; exact back0_shape
        obtain ⟨s9, hs9⟩ : ∃ s9, (backS l (N, 0, 0) false).1 = s9 := ⟨_, rfl⟩
        have Q1 := Lib.hid q1
        have Q2 := Lib.hid hs9
        have Q3 := Lib.hid q3
        clear q1 q3 hs9 hD
        have hmI := HmI.out
        go_wp2_with fail
        refine (rdNew_any A0 _ c0 l v2 rfl Hm.out (by omega)).mono ?_
        rintro e u3 ⟨g2, rfl, hg1, hg2, hR, hb1⟩
        have HR1 := Lib.hid hR
        have Hu1 := Lib.hid hb1
        have hT := rdTake_any _ g2 l (0, 0, 0) u3 (N : Int) hR ⟨Nat.zero_le _, Nat.zero_le _, Nat.zero_le _⟩ (by omega) (by omega)
        rw [take_allE hNl] at hT
        have HT := Lib.hid hT
        clear hR hb1 hT hmI
        go_wp2_with fail
        refine HT.out.mono ?_
        rintro e w8 ⟨Ax, cx, rfl, _, hR2, hgr⟩
        have HR2 := Lib.hid hR2
        have Hu2 : Hid (Below v2.heap.size v2 w8) := Hu1.out.grown hgr Hu1.out.size (fun k hk => by simp only [Option.some.injEq] at hk; omega)
        clear hR2 hgr HR1 Hu1 HT
        go_wp2_with fail
        refine (takeB_any _ g2 l (N, 0, 0) w8 HR2.out ⟨hNl, Nat.zero_le _, Nat.zero_le _⟩ (by omega)).mono ?_
        unfold TakeBIs
        rw [Q1.out, Q2.out]
        rintro e w9 ⟨rfl, hR3, _, ho9⟩
        have HR3 := Lib.hid hR3
        have Hu3 : Hid (Below v2.heap.size v2 w9) := Hu2.out.trans (ho9.below hg1 (fun k hk => by cases hk) Hu2.out.size)
        clear hR3 ho9 HR2 Hu2 Q1 Q2
        have Hm' := Lib.hid ((Hm.out.below Hu3.out).more Hu3.out.size)
        clear Hm
        have Hm := Hm'
        clear Hm'
        have Bw' : Hid (Below w.heap.size w w9) := Bw.out.trans (Hu3.out.mono Bw.out.size)
        clear Bw
        have Bw := Bw'
        clear Bw'
        clear Hu3
        obtain ⟨x20, hx20⟩ : ∃ W, W = w9.alloc (.cells (backCs back0).toArray 29) := ⟨_, rfl⟩
        obtain ⟨y20, hy20⟩ : ∃ W, W = x20.setCells w9.heap.size 0 (backCs D) := ⟨_, rfl⟩
        obtain ⟨hth20, hbx20, hbe20⟩ := boxed w9 x20 y20 29 (backCs back0) (backCs D) (by rw [back_len HD.out, back_len back0_shape]) hx20 hy20
        rw [back0_lit] at hx20
        have HX20 := Lib.hid hx20
        have HY20 := Lib.hid hy20
        have Hth20 := Lib.hid hth20
        have Hbe20 := Lib.hid hbe20
        have H13n := Lib.hid hbx20
        clear hx20 hy20 hth20 hbx20 hbe20
        go_upto_region 14 with (first
          | (rw [← HX20.out]; (with_reducible refine gateS 29 ?_); refine wpList_store_mid rfl 29 (.tmp 13) (.tmp 95) rfl w9.heap.size 0 (backCs D).toArray rfl rfl Hth20.out (back_szA HD.out) (back_one _) ?_))
        rw [← HY20.out]
        clear HX20 HY20 Hth20
        have Hm' := Lib.hid ((Hm.out.below Hbe20.out).more Hbe20.out.size)
        clear Hm
        have Hm := Hm'
        clear Hm'
        have HR3' := Lib.hid (HR3.out.below Hbe20.out)
        clear HR3
        have HR3 := HR3'
        clear HR3'
        have Bw' : Hid (Below w.heap.size w y20) := Bw.out.trans (Hbe20.out.mono Bw.out.size)
        clear Bw
        have Bw := Bw'
        clear Bw'
        have H13 := H13n
        clear H13n Hbe20
        by_cases hcN : c0 = N
        · obtain ⟨z1, hz1⟩ : ∃ W, W = y20.alloc (.cells #[.slice A0 (l.length - N) 0, .bool false] 68) := ⟨_, rfl⟩
          have hzb : Below y20.heap.size y20 z1 := by rw [hz1]; exact (Below.refl _ _).alloc (Nat.le_refl _) _
          have hdl : (l.drop N).length = l.length - N := List.length_drop
          have hpw : PW z1 y20.heap.size y20.heap.size (l.drop N, false) := by
            refine ⟨A0, 0, ?_, ?_, ?_, Nat.le_refl _⟩
            · rw [hz1, hdl]; exact Blk.new _ _ _ _ rfl
            · rw [List.eq_nil_of_length_eq_zero (show (l.drop N).length = 0 by omega)]; exact BS.nil _ _ _
            · rw [hdl]; omega
          have Hzb := Lib.hid hzb
          have Hpw := Lib.hid hpw
          have Hz1 := Lib.hid hz1
          obtain ⟨gp, hgp⟩ : ∃ z, z = y20.heap.size := ⟨_, rfl⟩
          have Hgp := Lib.hid hgp
          clear hz1 hzb hdl hpw hgp
          go_upto_region 15 with fail
          rw [← Hz1.out, ← Hgp.out]
          rw [← Hgp.out] at Hpw
          clear Hz1
          go_wp2_with fail
          refine (pTake_any gp gp (l.drop N, false) z1 Hpw.out (by rw [List.length_drop]; omega)).mono ?_
          unfold PTkIs
          rw [Q3.out]
          rintro e z2 ⟨rfl, hp2, hg2⟩
          have Hp2 := Lib.hid hp2
          have Hz2 : Hid (Below y20.heap.size y20 z2) := Hzb.out.grown hg2 Hzb.out.size (fun k hk => by injection hk with hk; have := Hgp.out; omega)
          clear hp2 hg2 Hpw Hzb Q3
          have H13' := Lib.hid (Blk.below H13.out Hz2.out H13.out.lt)
          clear H13
          have H13 := H13'
          clear H13'
          have Hm' := Lib.hid ((Hm.out.below Hz2.out).more Hz2.out.size)
          clear Hm
          have Hm := Hm'
          clear Hm'
          have HR3' := Lib.hid (HR3.out.below Hz2.out)
          clear HR3
          have HR3 := HR3'
          clear HR3'
          have Bw' : Hid (Below w.heap.size w z2) := Bw.out.trans (Hz2.out.mono Bw.out.size)
          clear Bw
          have Bw := Bw'
          clear Bw'
          clear Hz2
          obtain ⟨x21, hx21⟩ : ∃ W, W = z2.alloc (.cells (backCs back0).toArray 29) := ⟨_, rfl⟩
          obtain ⟨y21, hy21⟩ : ∃ W, W = x21.setCells z2.heap.size 0 (backCs D) := ⟨_, rfl⟩
          obtain ⟨hth21, hbx21, hbe21⟩ := boxed z2 x21 y21 29 (backCs back0) (backCs D) (by rw [back_len HD.out, back_len back0_shape]) hx21 hy21
          rw [back0_lit] at hx21
          have HX21 := Lib.hid hx21
          have HY21 := Lib.hid hy21
          have Hth21 := Lib.hid hth21
          have Hbe21 := Lib.hid hbe21
          have H16n := Lib.hid hbx21
          clear hx21 hy21 hth21 hbx21 hbe21
          have R13 := Lib.hid (blk_range H13.out)
          go_upto_region 16 with (first
            | ((with_reducible refine gateL 29 ?_); refine wpList_load_g (by rfl) 29 (.tmp 13) rfl w9.heap.size 0 rfl (backCs D) _ R13.out back_under rfl (back_sz HD.out) ?_)
            | (rw [← HX21.out]; (with_reducible refine gateS 29 ?_); refine wpList_store_mid rfl 29 (.tmp 16) (.tmp 103) rfl z2.heap.size 0 (backCs D).toArray rfl rfl Hth21.out (back_szA HD.out) (back_one _) ?_))
          clear R13
          rw [← HY21.out]
          clear HX21 HY21 Hth21
          have H13' := Lib.hid (Blk.below H13.out Hbe21.out H13.out.lt)
          clear H13
          have H13 := H13'
          clear H13'
          have Hm' := Lib.hid ((Hm.out.below Hbe21.out).more Hbe21.out.size)
          clear Hm
          have Hm := Hm'
          clear Hm'
          have HR3' := Lib.hid (HR3.out.below Hbe21.out)
          clear HR3
          have HR3 := HR3'
          clear HR3'
          have Hp2' := Lib.hid (Hp2.out.below Hbe21.out)
          clear Hp2
          have Hp2 := Hp2'
          clear Hp2'
          have Bw' : Hid (Below w.heap.size w y21) := Bw.out.trans (Hbe21.out.mono Bw.out.size)
          clear Bw
          have Bw := Bw'
          clear Bw'
          have H16 := H16n
          clear H16n Hbe21
          obtain ⟨Ap, cp, hXp, _⟩ := Hp2.out
          have HXp := Lib.hid hXp
          clear hXp
          go_upto_region 16 with fail
          refine wp_region_noPanic ?_
          refine wp_region_held_drew (S := fun w' => Below y21.heap.size y21 w') (by kernel_rfl) ((Below.refl _ _).drew) (fun hHeld => ?_)
          refine wpAnyH_take (i := 0) (v := ?_) rfl (by kernel_rfl) (by kernel_rfl) (by kernel_rfl) (fun _ _ _ h => h) (Or.inl ⟨by rfl, ?_⟩) hHeld ?_
          rotate_left
          · intro w' hSw
            skip
            go_simp
            try with_reducible rfl
          try (simp only [Act.put, List.getElem_toArray, List.getElem_cons_succ, List.getElem_cons_zero, List.setIfInBounds_toArray, List.set_cons_zero, List.set_cons_succ])
          refine wpAnyH_take (i := 1) (v := ?_) rfl (by kernel_rfl) (by kernel_rfl) (by kernel_rfl) (fun _ _ _ h => h) (Or.inl ⟨by rfl, ?_⟩) hHeld ?_
          rotate_left
          · intro w' hSw
            skip
            go_simp
            try with_reducible rfl
          try (simp only [Act.put, List.getElem_toArray, List.getElem_cons_succ, List.getElem_cons_zero, List.setIfInBounds_toArray, List.set_cons_zero, List.set_cons_succ])
          refine wpAnyH_take (i := 2) (v := ?_) rfl (by kernel_rfl) (by kernel_rfl) (by kernel_rfl) (fun _ _ _ h => h) (Or.inl ⟨by rfl, ?_⟩) hHeld ?_
          rotate_left
          · intro w' hSw
            skip
            go_simp
            try with_reducible rfl
          try (simp only [Act.put, List.getElem_toArray, List.getElem_cons_succ, List.getElem_cons_zero, List.setIfInBounds_toArray, List.set_cons_zero, List.set_cons_succ])
          refine wpAnyH_take (i := 3) (v := ?_) rfl (by kernel_rfl) (by kernel_rfl) (by kernel_rfl) (fun _ _ _ h => h) (Or.inl ⟨by rfl, ?_⟩) hHeld ?_
          rotate_left
          · intro w' hSw
            skip
            go_simp
            try with_reducible rfl
          try (simp only [Act.put, List.getElem_toArray, List.getElem_cons_succ, List.getElem_cons_zero, List.setIfInBounds_toArray, List.set_cons_zero, List.set_cons_succ])
          refine wpAnyH_take (i := 4) (v := ?_) rfl (by kernel_rfl) (by kernel_rfl) (by kernel_rfl) (fun _ _ _ h => h) (Or.inl ⟨by rfl, ?_⟩) hHeld ?_
          rotate_left
          · intro w' hSw
            have e9 : w'.cell? ⟨gp, 1, none⟩ = some (.bool true) := (Blk.below HXp.out hSw HXp.out.lt).cell 1
            go_simp
            try with_reducible rfl
          try (simp only [Act.put, List.getElem_toArray, List.getElem_cons_succ, List.getElem_cons_zero, List.setIfInBounds_toArray, List.set_cons_zero, List.set_cons_succ])
          refine wpAnyH_take (i := 5) (v := ?_) rfl (by kernel_rfl) (by kernel_rfl) (by kernel_rfl) (fun _ _ _ h => h) (Or.inl ⟨by rfl, ?_⟩) hHeld ?_
          rotate_left
          · intro w' hSw
            skip
            go_simp
            try with_reducible rfl
          try (simp only [Act.put, List.getElem_toArray, List.getElem_cons_succ, List.getElem_cons_zero, List.setIfInBounds_toArray, List.set_cons_zero, List.set_cons_succ])
          refine wpAnyH_take (i := 6) (v := ?_) rfl (by kernel_rfl) (by kernel_rfl) (by kernel_rfl) (fun _ _ _ h => h) (Or.inl ⟨by rfl, ?_⟩) hHeld ?_
          rotate_left
          · intro w' hSw
            skip
            go_simp
            try with_reducible rfl
          try (simp only [Act.put, List.getElem_toArray, List.getElem_cons_succ, List.getElem_cons_zero, List.setIfInBounds_toArray, List.set_cons_zero, List.set_cons_succ])
          refine wpAnyH_take (i := 7) (v := ?_) rfl (by kernel_rfl) (by kernel_rfl) (by kernel_rfl) (fun _ _ _ h => h) (Or.inl ⟨by rfl, ?_⟩) hHeld ?_
          rotate_left
          · intro w' hSw
            skip
            go_simp
            try with_reducible rfl
          try (simp only [Act.put, List.getElem_toArray, List.getElem_cons_succ, List.getElem_cons_zero, List.setIfInBounds_toArray, List.set_cons_zero, List.set_cons_succ])
          refine wpAnyH_take (i := 8) rfl (by kernel_rfl) (by kernel_rfl) (by kernel_rfl) (fun _ _ _ h => h) (yieldsIf_load_mid (by rfl) 29 (.tmp 13) rfl (w9.heap.size) (0) rfl (backCs D) _ (fun w' hSw => blk_range (Blk.below H13.out hSw H13.out.lt)) Try.underlying29 rfl (back_sz HD.out)) hHeld ?_
          try (simp only [Act.put, List.getElem_toArray, List.getElem_cons_succ, List.getElem_cons_zero, List.setIfInBounds_toArray, List.set_cons_zero, List.set_cons_succ])
          refine wpAnyH_take (i := 9) rfl (by kernel_rfl) (by kernel_rfl) (by kernel_rfl) (fun _ _ _ h => h) (yieldsIf_load_mid (by rfl) 29 (.tmp 16) rfl (z2.heap.size) (0) rfl (backCs D) _ (fun w' hSw => blk_range (Blk.below H16.out hSw H16.out.lt)) Try.underlying29 rfl (back_sz HD.out)) hHeld ?_
          try (simp only [Act.put, List.getElem_toArray, List.getElem_cons_succ, List.getElem_cons_zero, List.setIfInBounds_toArray, List.set_cons_zero, List.set_cons_succ])
          refine wpAnyH_ready (rs := [10]) (by kernel_rfl) (by simp) ?_
          refine AllReadyH.cons (i := 10) rfl (fun K hK => ?_) AllReadyH.nil
          go_simp
          refine (sameOneE D D HD.out HD.out _ true (sameBack_self D)).mono ?_
          rintro e wq18 ⟨rfl, hbq⟩
          have hBehind : Below y21.heap.size y21 wq18 := hHeld.trans (hbq.mono hHeld.size)
          clear hbq
          go_wp2_with fail
          refine hK.out _ _ hBehind (fun hHeld => ?_)
          clear hK K hBehind
          try (simp only [Act.put, List.getElem_toArray, List.getElem_cons_succ, List.getElem_cons_zero, List.setIfInBounds_toArray, List.set_cons_zero, List.set_cons_succ])
          refine wpAnyH_take (i := 11) (v := ?_) rfl (by kernel_rfl) (by kernel_rfl) (by kernel_rfl) (fun _ _ _ h => h) (Or.inl ⟨by rfl, ?_⟩) hHeld ?_
          rotate_left
          · intro w' hSw
            skip
            go_simp
            try with_reducible rfl
          try (simp only [Act.put, List.getElem_toArray, List.getElem_cons_succ, List.getElem_cons_zero, List.setIfInBounds_toArray, List.set_cons_zero, List.set_cons_succ])
          refine wpAnyH_take (i := 12) (v := ?_) rfl (by kernel_rfl) (by kernel_rfl) (by kernel_rfl) (fun _ _ _ h => h) (Or.inl ⟨by rfl, ?_⟩) hHeld ?_
          rotate_left
          · intro w' hSw
            skip
            go_simp
            try with_reducible rfl
          try (simp only [Act.put, List.getElem_toArray, List.getElem_cons_succ, List.getElem_cons_zero, List.setIfInBounds_toArray, List.set_cons_zero, List.set_cons_succ])
          refine wpAnyH_take (i := 13) (v := ?_) rfl (by kernel_rfl) (by kernel_rfl) (by kernel_rfl) (fun _ _ _ h => h) (Or.inl ⟨by rfl, ?_⟩) hHeld ?_
          rotate_left
          · intro w' hSw
            skip
            go_simp
            try with_reducible rfl
          try (simp only [Act.put, List.getElem_toArray, List.getElem_cons_succ, List.getElem_cons_zero, List.setIfInBounds_toArray, List.set_cons_zero, List.set_cons_succ])
          refine wpAnyH_take (i := 14) (v := ?_) rfl (by kernel_rfl) (by kernel_rfl) (by kernel_rfl) (fun _ _ _ h => h) (Or.inl ⟨by rfl, ?_⟩) hHeld ?_
          rotate_left
          · intro w' hSw
            skip
            go_simp
            try with_reducible rfl
          try (simp only [Act.put, List.getElem_toArray, List.getElem_cons_succ, List.getElem_cons_zero, List.setIfInBounds_toArray, List.set_cons_zero, List.set_cons_succ])
          refine wpAnyH_take (i := 15) (v := ?_) rfl (by kernel_rfl) (by kernel_rfl) (by kernel_rfl) (fun _ _ _ h => h) (Or.inl ⟨by rfl, ?_⟩) hHeld ?_
          rotate_left
          · intro w' hSw
            skip
            go_simp
            try with_reducible rfl
          try (simp only [Act.put, List.getElem_toArray, List.getElem_cons_succ, List.getElem_cons_zero, List.setIfInBounds_toArray, List.set_cons_zero, List.set_cons_succ])
          refine wpAnyH_take (i := 16) (v := undef) rfl (by kernel_rfl) (by kernel_rfl) (by kernel_rfl) (fun _ _ _ h => h) (Or.inr ⟨by rfl, rfl⟩) hHeld ?_
          try (simp only [Act.put, List.getElem_toArray, List.getElem_cons_succ, List.getElem_cons_zero, List.setIfInBounds_toArray, List.set_cons_zero, List.set_cons_succ])
          refine wpAnyH_take (i := 17) (v := undef) rfl (by kernel_rfl) (by kernel_rfl) (by kernel_rfl) (fun _ _ _ h => h) (Or.inr ⟨by rfl, rfl⟩) hHeld ?_
          try (simp only [Act.put, List.getElem_toArray, List.getElem_cons_succ, List.getElem_cons_zero, List.setIfInBounds_toArray, List.set_cons_zero, List.set_cons_succ])
          refine wpAnyH_take (i := 18) (v := undef) rfl (by kernel_rfl) (by kernel_rfl) (by kernel_rfl) (fun _ _ _ h => h) (Or.inr ⟨by rfl, rfl⟩) hHeld ?_
          try (simp only [Act.put, List.getElem_toArray, List.getElem_cons_succ, List.getElem_cons_zero, List.setIfInBounds_toArray, List.set_cons_zero, List.set_cons_succ])
          refine wpAnyH_take (i := 19) (v := undef) rfl (by kernel_rfl) (by kernel_rfl) (by kernel_rfl) (fun _ _ _ h => h) (Or.inr ⟨by rfl, rfl⟩) hHeld ?_
          try (simp only [Act.put, List.getElem_toArray, List.getElem_cons_succ, List.getElem_cons_zero, List.setIfInBounds_toArray, List.set_cons_zero, List.set_cons_succ])
          refine wpAnyH_take (i := 20) (v := undef) rfl (by kernel_rfl) (by kernel_rfl) (by kernel_rfl) (fun _ _ _ h => h) (Or.inr ⟨by rfl, rfl⟩) hHeld ?_
          try (simp only [Act.put, List.getElem_toArray, List.getElem_cons_succ, List.getElem_cons_zero, List.setIfInBounds_toArray, List.set_cons_zero, List.set_cons_succ])
          refine wpAnyH_take (i := 21) (v := undef) rfl (by kernel_rfl) (by kernel_rfl) (by kernel_rfl) (fun _ _ _ h => h) (Or.inr ⟨by rfl, rfl⟩) hHeld ?_
          try (simp only [Act.put, List.getElem_toArray, List.getElem_cons_succ, List.getElem_cons_zero, List.setIfInBounds_toArray, List.set_cons_zero, List.set_cons_succ])
          refine wpAnyH_take (i := 22) (v := undef) rfl (by kernel_rfl) (by kernel_rfl) (by kernel_rfl) (fun _ _ _ h => h) (Or.inr ⟨by rfl, rfl⟩) hHeld ?_
          try (simp only [Act.put, List.getElem_toArray, List.getElem_cons_succ, List.getElem_cons_zero, List.setIfInBounds_toArray, List.set_cons_zero, List.set_cons_succ])
          refine wpAnyH_take (i := 23) (v := undef) rfl (by kernel_rfl) (by kernel_rfl) (by kernel_rfl) (fun _ _ _ h => h) (Or.inr ⟨by rfl, rfl⟩) hHeld ?_
          try (simp only [Act.put, List.getElem_toArray, List.getElem_cons_succ, List.getElem_cons_zero, List.setIfInBounds_toArray, List.set_cons_zero, List.set_cons_succ])
          refine wpAnyH_take (i := 24) (v := undef) rfl (by kernel_rfl) (by kernel_rfl) (by kernel_rfl) (fun _ _ _ h => h) (Or.inr ⟨by rfl, rfl⟩) hHeld ?_
          try (simp only [Act.put, List.getElem_toArray, List.getElem_cons_succ, List.getElem_cons_zero, List.setIfInBounds_toArray, List.set_cons_zero, List.set_cons_succ])
          refine wpAnyH_take (i := 25) (v := undef) rfl (by kernel_rfl) (by kernel_rfl) (by kernel_rfl) (fun _ _ _ h => h) (Or.inr ⟨by rfl, rfl⟩) hHeld ?_
          try (simp only [Act.put, List.getElem_toArray, List.getElem_cons_succ, List.getElem_cons_zero, List.setIfInBounds_toArray, List.set_cons_zero, List.set_cons_succ])
          refine wpAnyH_take (i := 26) (v := undef) rfl (by kernel_rfl) (by kernel_rfl) (by kernel_rfl) (fun _ _ _ h => h) (Or.inr ⟨by rfl, rfl⟩) hHeld ?_
          try (simp only [Act.put, List.getElem_toArray, List.getElem_cons_succ, List.getElem_cons_zero, List.setIfInBounds_toArray, List.set_cons_zero, List.set_cons_succ])
          refine wpAnyH_take (i := 27) (v := undef) rfl (by kernel_rfl) (by kernel_rfl) (by kernel_rfl) (fun _ _ _ h => h) (Or.inr ⟨by rfl, rfl⟩) hHeld ?_
          try (simp only [Act.put, List.getElem_toArray, List.getElem_cons_succ, List.getElem_cons_zero, List.setIfInBounds_toArray, List.set_cons_zero, List.set_cons_succ])
          refine wpAnyH_take (i := 28) (v := undef) rfl (by kernel_rfl) (by kernel_rfl) (by kernel_rfl) (fun _ _ _ h => h) (Or.inr ⟨by rfl, rfl⟩) hHeld ?_
          try (simp only [Act.put, List.getElem_toArray, List.getElem_cons_succ, List.getElem_cons_zero, List.setIfInBounds_toArray, List.set_cons_zero, List.set_cons_succ])
          refine wpAnyH_take (i := 29) (v := undef) rfl (by kernel_rfl) (by kernel_rfl) (by kernel_rfl) (fun _ _ _ h => h) (Or.inr ⟨by rfl, rfl⟩) hHeld ?_
          try (simp only [Act.put, List.getElem_toArray, List.getElem_cons_succ, List.getElem_cons_zero, List.setIfInBounds_toArray, List.set_cons_zero, List.set_cons_succ])
          refine wpAnyH_take (i := 30) (v := undef) rfl (by kernel_rfl) (by kernel_rfl) (by kernel_rfl) (fun _ _ _ h => h) (Or.inr ⟨by rfl, rfl⟩) hHeld ?_
          try (simp only [Act.put, List.getElem_toArray, List.getElem_cons_succ, List.getElem_cons_zero, List.setIfInBounds_toArray, List.set_cons_zero, List.set_cons_succ])
          refine wpAnyH_take (i := 31) (v := undef) rfl (by kernel_rfl) (by kernel_rfl) (by kernel_rfl) (fun _ _ _ h => h) (Or.inr ⟨by rfl, rfl⟩) hHeld ?_
          try (simp only [Act.put, List.getElem_toArray, List.getElem_cons_succ, List.getElem_cons_zero, List.setIfInBounds_toArray, List.set_cons_zero, List.set_cons_succ])
          refine wpAnyH_take (i := 32) (v := undef) rfl (by kernel_rfl) (by kernel_rfl) (by kernel_rfl) (fun _ _ _ h => h) (Or.inr ⟨by rfl, rfl⟩) hHeld ?_
          try (simp only [Act.put, List.getElem_toArray, List.getElem_cons_succ, List.getElem_cons_zero, List.setIfInBounds_toArray, List.set_cons_zero, List.set_cons_succ])
          refine wpAnyH_take (i := 33) (v := ?_) rfl (by kernel_rfl) (by kernel_rfl) (by kernel_rfl) (fun _ _ _ h => h) (Or.inl ⟨by rfl, ?_⟩) hHeld ?_
          rotate_left
          · intro w' hSw
            skip
            go_simp
            try with_reducible rfl
          try (simp only [Act.put, List.getElem_toArray, List.getElem_cons_succ, List.getElem_cons_zero, List.setIfInBounds_toArray, List.set_cons_zero, List.set_cons_succ])
          refine wpAnyH_take (i := 34) (v := ?_) rfl (by kernel_rfl) (by kernel_rfl) (by kernel_rfl) (fun _ _ _ h => h) (Or.inl ⟨by rfl, ?_⟩) hHeld ?_
          rotate_left
          · intro w' hSw
            skip
            go_simp
            try with_reducible rfl
          try (simp only [Act.put, List.getElem_toArray, List.getElem_cons_succ, List.getElem_cons_zero, List.setIfInBounds_toArray, List.set_cons_zero, List.set_cons_succ])
          refine wpAnyH_take (i := 35) (v := ?_) rfl (by kernel_rfl) (by kernel_rfl) (by kernel_rfl) (fun _ _ _ h => h) (Or.inl ⟨by rfl, ?_⟩) hHeld ?_
          rotate_left
          · intro w' hSw
            skip
            go_simp
            try with_reducible rfl
          try (simp only [Act.put, List.getElem_toArray, List.getElem_cons_succ, List.getElem_cons_zero, List.setIfInBounds_toArray, List.set_cons_zero, List.set_cons_succ])
          refine wpAnyH_done (by kernel_rfl) ?_ _
          refine NoPanic.normal ?_
          go_wp2
          go_ret
          exact ⟨rfl, Bw.out.trans (hHeld.mono Bw.out.size)⟩
        · obtain ⟨z1, hz1⟩ : ∃ W, W = y20.alloc (.cells #[.slice (A0.map fun x => x.add N) (l.length - N) (c0 - N), .bool false] 68) := ⟨_, rfl⟩
          have hzb : Below y20.heap.size y20 z1 := by rw [hz1]; exact (Below.refl _ _).alloc (Nat.le_refl _) _
          have hdl : (l.drop N).length = l.length - N := List.length_drop
          have hpw : PW z1 y20.heap.size y20.heap.size (l.drop N, false) := by
            refine ⟨(A0.map fun x => x.add N), (c0 - N), ?_, ?_, ?_, Nat.le_refl _⟩
            · rw [hz1, hdl]; exact Blk.new _ _ _ _ rfl
            · have h := (Hm.out.below hzb).drop (k := N) (cap := c0) hc0; rw [if_neg hcN] at h; exact h
            · rw [hdl]; omega
          have Hzb := Lib.hid hzb
          have Hpw := Lib.hid hpw
          have Hz1 := Lib.hid hz1
          obtain ⟨gp, hgp⟩ : ∃ z, z = y20.heap.size := ⟨_, rfl⟩
          have Hgp := Lib.hid hgp
          clear hz1 hzb hdl hpw hgp
          go_upto_region 15 with fail
          rw [← Hz1.out, ← Hgp.out]
          rw [← Hgp.out] at Hpw
          clear Hz1
          go_wp2_with fail
          refine (pTake_any gp gp (l.drop N, false) z1 Hpw.out (by rw [List.length_drop]; omega)).mono ?_
          unfold PTkIs
          rw [Q3.out]
          rintro e z2 ⟨rfl, hp2, hg2⟩
          have Hp2 := Lib.hid hp2
          have Hz2 : Hid (Below y20.heap.size y20 z2) := Hzb.out.grown hg2 Hzb.out.size (fun k hk => by injection hk with hk; have := Hgp.out; omega)
          clear hp2 hg2 Hpw Hzb Q3
          have H13' := Lib.hid (Blk.below H13.out Hz2.out H13.out.lt)
          clear H13
          have H13 := H13'
          clear H13'
          have Hm' := Lib.hid ((Hm.out.below Hz2.out).more Hz2.out.size)
          clear Hm
          have Hm := Hm'
          clear Hm'
          have HR3' := Lib.hid (HR3.out.below Hz2.out)
          clear HR3
          have HR3 := HR3'
          clear HR3'
          have Bw' : Hid (Below w.heap.size w z2) := Bw.out.trans (Hz2.out.mono Bw.out.size)
          clear Bw
          have Bw := Bw'
          clear Bw'
          clear Hz2
          obtain ⟨x22, hx22⟩ : ∃ W, W = z2.alloc (.cells (backCs back0).toArray 29) := ⟨_, rfl⟩
          obtain ⟨y22, hy22⟩ : ∃ W, W = x22.setCells z2.heap.size 0 (backCs D) := ⟨_, rfl⟩
          obtain ⟨hth22, hbx22, hbe22⟩ := boxed z2 x22 y22 29 (backCs back0) (backCs D) (by rw [back_len HD.out, back_len back0_shape]) hx22 hy22
          rw [back0_lit] at hx22
          have HX22 := Lib.hid hx22
          have HY22 := Lib.hid hy22
          have Hth22 := Lib.hid hth22
          have Hbe22 := Lib.hid hbe22
          have H16n := Lib.hid hbx22
          clear hx22 hy22 hth22 hbx22 hbe22
          have R13 := Lib.hid (blk_range H13.out)
          go_upto_region 16 with (first
            | ((with_reducible refine gateL 29 ?_); refine wpList_load_g (by rfl) 29 (.tmp 13) rfl w9.heap.size 0 rfl (backCs D) _ R13.out back_under rfl (back_sz HD.out) ?_)
            | (rw [← HX22.out]; (with_reducible refine gateS 29 ?_); refine wpList_store_mid rfl 29 (.tmp 16) (.tmp 103) rfl z2.heap.size 0 (backCs D).toArray rfl rfl Hth22.out (back_szA HD.out) (back_one _) ?_))
          clear R13
          rw [← HY22.out]
          clear HX22 HY22 Hth22
          have H13' := Lib.hid (Blk.below H13.out Hbe22.out H13.out.lt)
          clear H13
          have H13 := H13'
          clear H13'
          have Hm' := Lib.hid ((Hm.out.below Hbe22.out).more Hbe22.out.size)
          clear Hm
          have Hm := Hm'
          clear Hm'
          have HR3' := Lib.hid (HR3.out.below Hbe22.out)
          clear HR3
          have HR3 := HR3'
          clear HR3'
          have Hp2' := Lib.hid (Hp2.out.below Hbe22.out)
          clear Hp2
          have Hp2 := Hp2'
          clear Hp2'
          have Bw' : Hid (Below w.heap.size w y22) := Bw.out.trans (Hbe22.out.mono Bw.out.size)
          clear Bw
          have Bw := Bw'
          clear Bw'
          have H16 := H16n
          clear H16n Hbe22
          obtain ⟨Ap, cp, hXp, _⟩ := Hp2.out
          have HXp := Lib.hid hXp
          clear hXp
          go_upto_region 16 with fail
          refine wp_region_noPanic ?_
          refine wp_region_held_drew (S := fun w' => Below y22.heap.size y22 w') (by kernel_rfl) ((Below.refl _ _).drew) (fun hHeld => ?_)
          refine wpAnyH_take (i := 0) (v := ?_) rfl (by kernel_rfl) (by kernel_rfl) (by kernel_rfl) (fun _ _ _ h => h) (Or.inl ⟨by rfl, ?_⟩) hHeld ?_
          rotate_left
          · intro w' hSw
            skip
            go_simp
            try with_reducible rfl
          try (simp only [Act.put, List.getElem_toArray, List.getElem_cons_succ, List.getElem_cons_zero, List.setIfInBounds_toArray, List.set_cons_zero, List.set_cons_succ])
          refine wpAnyH_take (i := 1) (v := ?_) rfl (by kernel_rfl) (by kernel_rfl) (by kernel_rfl) (fun _ _ _ h => h) (Or.inl ⟨by rfl, ?_⟩) hHeld ?_
          rotate_left
          · intro w' hSw
            skip
            go_simp
            try with_reducible rfl
          try (simp only [Act.put, List.getElem_toArray, List.getElem_cons_succ, List.getElem_cons_zero, List.setIfInBounds_toArray, List.set_cons_zero, List.set_cons_succ])
          refine wpAnyH_take (i := 2) (v := ?_) rfl (by kernel_rfl) (by kernel_rfl) (by kernel_rfl) (fun _ _ _ h => h) (Or.inl ⟨by rfl, ?_⟩) hHeld ?_
          rotate_left
          · intro w' hSw
            skip
            go_simp
            try with_reducible rfl
          try (simp only [Act.put, List.getElem_toArray, List.getElem_cons_succ, List.getElem_cons_zero, List.setIfInBounds_toArray, List.set_cons_zero, List.set_cons_succ])
          refine wpAnyH_take (i := 3) (v := ?_) rfl (by kernel_rfl) (by kernel_rfl) (by kernel_rfl) (fun _ _ _ h => h) (Or.inl ⟨by rfl, ?_⟩) hHeld ?_
          rotate_left
          · intro w' hSw
            skip
            go_simp
            try with_reducible rfl
          try (simp only [Act.put, List.getElem_toArray, List.getElem_cons_succ, List.getElem_cons_zero, List.setIfInBounds_toArray, List.set_cons_zero, List.set_cons_succ])
          refine wpAnyH_take (i := 4) (v := ?_) rfl (by kernel_rfl) (by kernel_rfl) (by kernel_rfl) (fun _ _ _ h => h) (Or.inl ⟨by rfl, ?_⟩) hHeld ?_
          rotate_left
          · intro w' hSw
            have e9 : w'.cell? ⟨gp, 1, none⟩ = some (.bool true) := (Blk.below HXp.out hSw HXp.out.lt).cell 1
            go_simp
            try with_reducible rfl
          try (simp only [Act.put, List.getElem_toArray, List.getElem_cons_succ, List.getElem_cons_zero, List.setIfInBounds_toArray, List.set_cons_zero, List.set_cons_succ])
          refine wpAnyH_take (i := 5) (v := ?_) rfl (by kernel_rfl) (by kernel_rfl) (by kernel_rfl) (fun _ _ _ h => h) (Or.inl ⟨by rfl, ?_⟩) hHeld ?_
          rotate_left
          · intro w' hSw
            skip
            go_simp
            try with_reducible rfl
          try (simp only [Act.put, List.getElem_toArray, List.getElem_cons_succ, List.getElem_cons_zero, List.setIfInBounds_toArray, List.set_cons_zero, List.set_cons_succ])
          refine wpAnyH_take (i := 6) (v := ?_) rfl (by kernel_rfl) (by kernel_rfl) (by kernel_rfl) (fun _ _ _ h => h) (Or.inl ⟨by rfl, ?_⟩) hHeld ?_
          rotate_left
          · intro w' hSw
            skip
            go_simp
            try with_reducible rfl
          try (simp only [Act.put, List.getElem_toArray, List.getElem_cons_succ, List.getElem_cons_zero, List.setIfInBounds_toArray, List.set_cons_zero, List.set_cons_succ])
          refine wpAnyH_take (i := 7) (v := ?_) rfl (by kernel_rfl) (by kernel_rfl) (by kernel_rfl) (fun _ _ _ h => h) (Or.inl ⟨by rfl, ?_⟩) hHeld ?_
          rotate_left
          · intro w' hSw
            skip
            go_simp
            try with_reducible rfl
          try (simp only [Act.put, List.getElem_toArray, List.getElem_cons_succ, List.getElem_cons_zero, List.setIfInBounds_toArray, List.set_cons_zero, List.set_cons_succ])
          refine wpAnyH_take (i := 8) rfl (by kernel_rfl) (by kernel_rfl) (by kernel_rfl) (fun _ _ _ h => h) (yieldsIf_load_mid (by rfl) 29 (.tmp 13) rfl (w9.heap.size) (0) rfl (backCs D) _ (fun w' hSw => blk_range (Blk.below H13.out hSw H13.out.lt)) Try.underlying29 rfl (back_sz HD.out)) hHeld ?_
          try (simp only [Act.put, List.getElem_toArray, List.getElem_cons_succ, List.getElem_cons_zero, List.setIfInBounds_toArray, List.set_cons_zero, List.set_cons_succ])
          refine wpAnyH_take (i := 9) rfl (by kernel_rfl) (by kernel_rfl) (by kernel_rfl) (fun _ _ _ h => h) (yieldsIf_load_mid (by rfl) 29 (.tmp 16) rfl (z2.heap.size) (0) rfl (backCs D) _ (fun w' hSw => blk_range (Blk.below H16.out hSw H16.out.lt)) Try.underlying29 rfl (back_sz HD.out)) hHeld ?_
          try (simp only [Act.put, List.getElem_toArray, List.getElem_cons_succ, List.getElem_cons_zero, List.setIfInBounds_toArray, List.set_cons_zero, List.set_cons_succ])
          refine wpAnyH_ready (rs := [10]) (by kernel_rfl) (by simp) ?_
          refine AllReadyH.cons (i := 10) rfl (fun K hK => ?_) AllReadyH.nil
          go_simp
          refine (sameOneE D D HD.out HD.out _ true (sameBack_self D)).mono ?_
          rintro e wq19 ⟨rfl, hbq⟩
          have hBehind : Below y22.heap.size y22 wq19 := hHeld.trans (hbq.mono hHeld.size)
          clear hbq
          go_wp2_with fail
          refine hK.out _ _ hBehind (fun hHeld => ?_)
          clear hK K hBehind
          try (simp only [Act.put, List.getElem_toArray, List.getElem_cons_succ, List.getElem_cons_zero, List.setIfInBounds_toArray, List.set_cons_zero, List.set_cons_succ])
          refine wpAnyH_take (i := 11) (v := ?_) rfl (by kernel_rfl) (by kernel_rfl) (by kernel_rfl) (fun _ _ _ h => h) (Or.inl ⟨by rfl, ?_⟩) hHeld ?_
          rotate_left
          · intro w' hSw
            skip
            go_simp
            try with_reducible rfl
          try (simp only [Act.put, List.getElem_toArray, List.getElem_cons_succ, List.getElem_cons_zero, List.setIfInBounds_toArray, List.set_cons_zero, List.set_cons_succ])
          refine wpAnyH_take (i := 12) (v := ?_) rfl (by kernel_rfl) (by kernel_rfl) (by kernel_rfl) (fun _ _ _ h => h) (Or.inl ⟨by rfl, ?_⟩) hHeld ?_
          rotate_left
          · intro w' hSw
            skip
            go_simp
            try with_reducible rfl
          try (simp only [Act.put, List.getElem_toArray, List.getElem_cons_succ, List.getElem_cons_zero, List.setIfInBounds_toArray, List.set_cons_zero, List.set_cons_succ])
          refine wpAnyH_take (i := 13) (v := ?_) rfl (by kernel_rfl) (by kernel_rfl) (by kernel_rfl) (fun _ _ _ h => h) (Or.inl ⟨by rfl, ?_⟩) hHeld ?_
          rotate_left
          · intro w' hSw
            skip
            go_simp
            try with_reducible rfl
          try (simp only [Act.put, List.getElem_toArray, List.getElem_cons_succ, List.getElem_cons_zero, List.setIfInBounds_toArray, List.set_cons_zero, List.set_cons_succ])
          refine wpAnyH_take (i := 14) (v := ?_) rfl (by kernel_rfl) (by kernel_rfl) (by kernel_rfl) (fun _ _ _ h => h) (Or.inl ⟨by rfl, ?_⟩) hHeld ?_
          rotate_left
          · intro w' hSw
            skip
            go_simp
            try with_reducible rfl
          try (simp only [Act.put, List.getElem_toArray, List.getElem_cons_succ, List.getElem_cons_zero, List.setIfInBounds_toArray, List.set_cons_zero, List.set_cons_succ])
          refine wpAnyH_take (i := 15) (v := ?_) rfl (by kernel_rfl) (by kernel_rfl) (by kernel_rfl) (fun _ _ _ h => h) (Or.inl ⟨by rfl, ?_⟩) hHeld ?_
          rotate_left
          · intro w' hSw
            skip
            go_simp
            try with_reducible rfl
          try (simp only [Act.put, List.getElem_toArray, List.getElem_cons_succ, List.getElem_cons_zero, List.setIfInBounds_toArray, List.set_cons_zero, List.set_cons_succ])
          refine wpAnyH_take (i := 16) (v := undef) rfl (by kernel_rfl) (by kernel_rfl) (by kernel_rfl) (fun _ _ _ h => h) (Or.inr ⟨by rfl, rfl⟩) hHeld ?_
          try (simp only [Act.put, List.getElem_toArray, List.getElem_cons_succ, List.getElem_cons_zero, List.setIfInBounds_toArray, List.set_cons_zero, List.set_cons_succ])
          refine wpAnyH_take (i := 17) (v := undef) rfl (by kernel_rfl) (by kernel_rfl) (by kernel_rfl) (fun _ _ _ h => h) (Or.inr ⟨by rfl, rfl⟩) hHeld ?_
          try (simp only [Act.put, List.getElem_toArray, List.getElem_cons_succ, List.getElem_cons_zero, List.setIfInBounds_toArray, List.set_cons_zero, List.set_cons_succ])
          refine wpAnyH_take (i := 18) (v := undef) rfl (by kernel_rfl) (by kernel_rfl) (by kernel_rfl) (fun _ _ _ h => h) (Or.inr ⟨by rfl, rfl⟩) hHeld ?_
          try (simp only [Act.put, List.getElem_toArray, List.getElem_cons_succ, List.getElem_cons_zero, List.setIfInBounds_toArray, List.set_cons_zero, List.set_cons_succ])
          refine wpAnyH_take (i := 19) (v := undef) rfl (by kernel_rfl) (by kernel_rfl) (by kernel_rfl) (fun _ _ _ h => h) (Or.inr ⟨by rfl, rfl⟩) hHeld ?_
          try (simp only [Act.put, List.getElem_toArray, List.getElem_cons_succ, List.getElem_cons_zero, List.setIfInBounds_toArray, List.set_cons_zero, List.set_cons_succ])
          refine wpAnyH_take (i := 20) (v := undef) rfl (by kernel_rfl) (by kernel_rfl) (by kernel_rfl) (fun _ _ _ h => h) (Or.inr ⟨by rfl, rfl⟩) hHeld ?_
          try (simp only [Act.put, List.getElem_toArray, List.getElem_cons_succ, List.getElem_cons_zero, List.setIfInBounds_toArray, List.set_cons_zero, List.set_cons_succ])
          refine wpAnyH_take (i := 21) (v := undef) rfl (by kernel_rfl) (by kernel_rfl) (by kernel_rfl) (fun _ _ _ h => h) (Or.inr ⟨by rfl, rfl⟩) hHeld ?_
          try (simp only [Act.put, List.getElem_toArray, List.getElem_cons_succ, List.getElem_cons_zero, List.setIfInBounds_toArray, List.set_cons_zero, List.set_cons_succ])
          refine wpAnyH_take (i := 22) (v := undef) rfl (by kernel_rfl) (by kernel_rfl) (by kernel_rfl) (fun _ _ _ h => h) (Or.inr ⟨by rfl, rfl⟩) hHeld ?_
          try (simp only [Act.put, List.getElem_toArray, List.getElem_cons_succ, List.getElem_cons_zero, List.setIfInBounds_toArray, List.set_cons_zero, List.set_cons_succ])
          refine wpAnyH_take (i := 23) (v := undef) rfl (by kernel_rfl) (by kernel_rfl) (by kernel_rfl) (fun _ _ _ h => h) (Or.inr ⟨by rfl, rfl⟩) hHeld ?_
          try (simp only [Act.put, List.getElem_toArray, List.getElem_cons_succ, List.getElem_cons_zero, List.setIfInBounds_toArray, List.set_cons_zero, List.set_cons_succ])
          refine wpAnyH_take (i := 24) (v := undef) rfl (by kernel_rfl) (by kernel_rfl) (by kernel_rfl) (fun _ _ _ h => h) (Or.inr ⟨by rfl, rfl⟩) hHeld ?_
          try (simp only [Act.put, List.getElem_toArray, List.getElem_cons_succ, List.getElem_cons_zero, List.setIfInBounds_toArray, List.set_cons_zero, List.set_cons_succ])
          refine wpAnyH_take (i := 25) (v := undef) rfl (by kernel_rfl) (by kernel_rfl) (by kernel_rfl) (fun _ _ _ h => h) (Or.inr ⟨by rfl, rfl⟩) hHeld ?_
          try (simp only [Act.put, List.getElem_toArray, List.getElem_cons_succ, List.getElem_cons_zero, List.setIfInBounds_toArray, List.set_cons_zero, List.set_cons_succ])
          refine wpAnyH_take (i := 26) (v := undef) rfl (by kernel_rfl) (by kernel_rfl) (by kernel_rfl) (fun _ _ _ h => h) (Or.inr ⟨by rfl, rfl⟩) hHeld ?_
          try (simp only [Act.put, List.getElem_toArray, List.getElem_cons_succ, List.getElem_cons_zero, List.setIfInBounds_toArray, List.set_cons_zero, List.set_cons_succ])
          refine wpAnyH_take (i := 27) (v := undef) rfl (by kernel_rfl) (by kernel_rfl) (by kernel_rfl) (fun _ _ _ h => h) (Or.inr ⟨by rfl, rfl⟩) hHeld ?_
          try (simp only [Act.put, List.getElem_toArray, List.getElem_cons_succ, List.getElem_cons_zero, List.setIfInBounds_toArray, List.set_cons_zero, List.set_cons_succ])
          refine wpAnyH_take (i := 28) (v := undef) rfl (by kernel_rfl) (by kernel_rfl) (by kernel_rfl) (fun _ _ _ h => h) (Or.inr ⟨by rfl, rfl⟩) hHeld ?_
          try (simp only [Act.put, List.getElem_toArray, List.getElem_cons_succ, List.getElem_cons_zero, List.setIfInBounds_toArray, List.set_cons_zero, List.set_cons_succ])
          refine wpAnyH_take (i := 29) (v := undef) rfl (by kernel_rfl) (by kernel_rfl) (by kernel_rfl) (fun _ _ _ h => h) (Or.inr ⟨by rfl, rfl⟩) hHeld ?_
          try (simp only [Act.put, List.getElem_toArray, List.getElem_cons_succ, List.getElem_cons_zero, List.setIfInBounds_toArray, List.set_cons_zero, List.set_cons_succ])
          refine wpAnyH_take (i := 30) (v := undef) rfl (by kernel_rfl) (by kernel_rfl) (by kernel_rfl) (fun _ _ _ h => h) (Or.inr ⟨by rfl, rfl⟩) hHeld ?_
          try (simp only [Act.put, List.getElem_toArray, List.getElem_cons_succ, List.getElem_cons_zero, List.setIfInBounds_toArray, List.set_cons_zero, List.set_cons_succ])
          refine wpAnyH_take (i := 31) (v := undef) rfl (by kernel_rfl) (by kernel_rfl) (by kernel_rfl) (fun _ _ _ h => h) (Or.inr ⟨by rfl, rfl⟩) hHeld ?_
          try (simp only [Act.put, List.getElem_toArray, List.getElem_cons_succ, List.getElem_cons_zero, List.setIfInBounds_toArray, List.set_cons_zero, List.set_cons_succ])
          refine wpAnyH_take (i := 32) (v := undef) rfl (by kernel_rfl) (by kernel_rfl) (by kernel_rfl) (fun _ _ _ h => h) (Or.inr ⟨by rfl, rfl⟩) hHeld ?_
          try (simp only [Act.put, List.getElem_toArray, List.getElem_cons_succ, List.getElem_cons_zero, List.setIfInBounds_toArray, List.set_cons_zero, List.set_cons_succ])
          refine wpAnyH_take (i := 33) (v := ?_) rfl (by kernel_rfl) (by kernel_rfl) (by kernel_rfl) (fun _ _ _ h => h) (Or.inl ⟨by rfl, ?_⟩) hHeld ?_
          rotate_left
          · intro w' hSw
            skip
            go_simp
            try with_reducible rfl
          try (simp only [Act.put, List.getElem_toArray, List.getElem_cons_succ, List.getElem_cons_zero, List.setIfInBounds_toArray, List.set_cons_zero, List.set_cons_succ])
          refine wpAnyH_take (i := 34) (v := ?_) rfl (by kernel_rfl) (by kernel_rfl) (by kernel_rfl) (fun _ _ _ h => h) (Or.inl ⟨by rfl, ?_⟩) hHeld ?_
          rotate_left
          · intro w' hSw
            skip
            go_simp
            try with_reducible rfl
          try (simp only [Act.put, List.getElem_toArray, List.getElem_cons_succ, List.getElem_cons_zero, List.setIfInBounds_toArray, List.set_cons_zero, List.set_cons_succ])
          refine wpAnyH_take (i := 35) (v := ?_) rfl (by kernel_rfl) (by kernel_rfl) (by kernel_rfl) (fun _ _ _ h => h) (Or.inl ⟨by rfl, ?_⟩) hHeld ?_
          rotate_left
          · intro w' hSw
            skip
            go_simp
            try with_reducible rfl
          try (simp only [Act.put, List.getElem_toArray, List.getElem_cons_succ, List.getElem_cons_zero, List.setIfInBounds_toArray, List.set_cons_zero, List.set_cons_succ])
          refine wpAnyH_done (by kernel_rfl) ?_ _
          refine NoPanic.normal ?_
          go_wp2
          go_ret
          exact ⟨rfl, Bw.out.trans (hHeld.mono Bw.out.size)⟩
end Go.Proofs.Ytgohhojoahlfiaa
