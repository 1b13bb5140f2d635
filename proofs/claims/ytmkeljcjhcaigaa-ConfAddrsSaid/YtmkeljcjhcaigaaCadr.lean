/- ConfAddrs: an address's bytes; the address that stands at a place (printed by gen_cadr.py). -/
import Derived.Test.YtmkeljcjhcaigaaCadP
namespace Go.Proofs.Ytmkeljcjhcaigaa
open Go.RowKit
set_option linter.unusedVariables false
set_option linter.unusedSimpArgs false

theorem take_aw2 (base g : Nat) (l : List UInt8) (s : St) (r : St × Option AddrP) (w : World) (hr : takeAddrS l s = r) (h : RdW w base g l s) (hs : okS l s) (hl : l.length ≤ 1000000000) :
    Calls Try.prog 25 #[.pointer (some ⟨g, 0, none⟩)] w fun e w' => e = .returned (.tuple #[.agg (addrCs (r.2.getD addr0)).toArray, .bool r.2.isSome]) ∧ RdW w' base g l r.1 ∧ w.grownBy w' (some g) := by
  refine (takeAddr_any base g l s w h hs hl).mono ?_
  rintro e w' ⟨h1, h2, h3⟩
  unfold takeR at h1
  rw [hr] at h1 h2
  exact ⟨h1, h2, h3⟩

theorem refGetA (A : Option Addr) (n c : Nat) (l : List UInt8) (w : World) (hn : n = l.length) (hb : BS w w.heap.size A l) (hl : n ≤ 1000000000) (x : AddrP) (u : Nat) (hr : (x, u) = getAddrS l) :
    Calls Try.prog 29 #[.slice A n c] w fun e w' => e = .returned (.tuple #[.agg (addrCs x).toArray, .int .i64 (u : Int)]) ∧ Below w.heap.size w w' := by
  have := refGetAddr_any A n c l w hn hb hl
  rw [← hr] at this
  exact this
theorem rdAt_rd (base g : Nat) (l : List UInt8) (s : St) (w : World) (h : RdW w base g l s) :
    Calls Try.prog 30 #[.pointer (some ⟨g, 0, none⟩)] w fun e w' => e = .returned (.int .i64 (s.1 : Int)) ∧ w = w' := by
  obtain ⟨A, c, hr, _⟩ := h
  exact rdAt_any g A l.length c s.1 s.2.1 s.2.2 w hr
theorem take_all {l : List UInt8} {N : Nat} (h : N ≤ l.length) : takeS l (0, 0, 0) (N : Int) = ((N, 0, 0), l.take N) := by
  have hl : (l.take N).length = N := by rw [List.length_take]; omega
  have := take_F (l := l) (s := (0, 0, 0)) (x := l.take N) (r := l.drop N) (n := (N : Int)) rfl (Nat.zero_le _) (by rw [hl]) (by rw [List.drop_zero, List.take_append_drop])
  rw [this, hl]
  simp [adv]
theorem addr_eqT {a b : AddrP} (h : b = a) (ha : addrOk a) (w : World) : (Op.equalIn 10000 27 (.agg (addrCs b).toArray) (.agg (addrCs a).toArray)).run Try.prog w = .ok true w := by
  subst h
  have := addr_eqIn 9997 b b ha ha w
  rw [show (b == b) = true from beq_self_eq_true b] at this
  exact this

set_option maxHeartbeats 1000000 in
set_option maxRecDepth 100000 in
theorem walk_confAddrs (w : World) (a : AddrP) (ha : addrOk a) (A0 : Option Addr) (n0 c0 : Nat) (l : List UInt8) (hn0 : n0 = l.length) (hc0 : n0 ≤ c0) (hm0 : n0 ≤ maxLen) (hb0 : BS w w.heap.size A0 l) (at_ : Int) (wat : (Lit.int .u8 at_).wf = true) :
    Calls Try.prog 9 #[.agg (addrCs a).toArray, .slice A0 n0 c0, .int .u8 at_] w fun e w' => e = .returned (.bool true) ∧ Below w.heap.size w w' := by
  subst hn0
  obtain ⟨at', rfl, hat'⟩ : ∃ k : Nat, at_ = (k : Int) ∧ k ≤ 255 := by have := u8_of_wf wat; exact ⟨at_.toNat, by omega, by omega⟩
  obtain ⟨W, hW⟩ : ∃ W, W = w.alloc (.cells (addrCs a).toArray 27) := ⟨_, rfl⟩
  have H3 : Hid (Blk W w.heap.size 27 (addrCs a).toArray) := by rw [hW]; exact Blk.new w _ _ _ rfl
  have hB : Below w.heap.size w W := by rw [hW]; exact (Below.refl _ _).alloc (Nat.le_refl _) _
  have Bw := Lib.hid hB
  have Hm := Lib.hid ((hb0.below hB).more hB.size)
  have Ha := Lib.hid ha
  have HW := Lib.hid hW
  unfold maxLen at hm0
  clear hW hB hb0 ha wat
  by_cases h2 : l.length ≤ 1000
  · have hlI : ¬ (1000 : Int) < (l.length : Int) := by omega
    obtain ⟨m, hmm⟩ : ∃ m, m = putAddrS a := ⟨_, rfl⟩
    obtain ⟨b, hbb⟩ : ∃ b, b = shA a := ⟨_, rfl⟩
    have hpt := put_take Ha.out
    rw [← hmm, ← hbb] at hpt
    have hm17 : m.length ≤ 17 := by
      have hl : a.2.length = 16 := Ha.out
      rw [hmm]; unfold putAddrS; split <;> simp <;> omega
    have Hb : Hid (addrOk b) := by rw [hbb]; exact shA_ok Ha.out
    have hsb : shortB a = true → b = a := fun h => by rw [hbb]; exact shA_short Ha.out h
    have Hsb := Lib.hid hsb
    have Hpt := Lib.hid hpt
    have Hmm := Lib.hid hmm.symm
    obtain ⟨N, hN⟩ : ∃ N, N = min at' l.length := ⟨_, rfl⟩
    have hNl : N ≤ l.length := by omega
    have hNc : N ≤ c0 := by omega
    have hN255 : N ≤ 255 := by omega
    have hmI : min (at' : Int) (l.length : Int) = (N : Int) := by omega
    obtain ⟨hy, hnn⟩ := take_at hNl
    have hok2 := getAddr_ok (l.drop N)
    obtain ⟨⟨b2, us⟩, hgA⟩ : ∃ p, p = getAddrS (l.drop N) := ⟨_, rfl⟩
    rw [← hgA] at hy hnn hok2
    have hus : us ≤ 17 := by
      have := congrArg Prod.snd hgA
      simp only at this
      rw [this]
      rcases l.drop N with _ | ⟨x, r⟩
      · simp [getAddrS]
      · simp only [getAddrS]; split <;> (try split) <;> (try split) <;> simp
    have Hb2 := Lib.hid hok2
    have HgA := Lib.hid hgA
    have Hy := Lib.hid hy
    have Hnn := Lib.hid hnn
    have HmI := Lib.hid hmI
    have HdN : Hid ((l.drop N).length = l.length - N) := by show _ = _; rw [List.length_drop]
    clear hpt hmm hbb hsb hN hy hnn hok2 hgA hmI
    go_enter Try.func9, Try.ntmps9
    go_upto_region 1 with fail
    rw [← HW.out]
    clear HW
    go_wp2_with fail
    refine (awake22 W).mono ?_
    rintro e w1 ⟨rfl, hb1⟩
    have Hb1 := Lib.hid hb1
    clear hb1
    have H3' := Lib.hid (Blk.below H3.out Hb1.out H3.out.lt)
    clear H3
    have H3 := H3'
    clear H3'
    have Hm' := Lib.hid ((Hm.out.below Hb1.out).more Hb1.out.size)
    clear Hm
    have Hm := Hm'
    clear Hm'
    have Bw' : Hid (Below w.heap.size w w1) := Bw.out.trans (Hb1.out.mono Bw.out.size)
    clear Bw
    have Bw := Bw'
    clear Bw'
    clear Hb1
    have R3 := Lib.hid (blk_range H3.out)
    go_wp2_with (first
      | ((with_reducible refine gateL 27 ?_); refine wpList_load_g (by rfl) 27 (.tmp 3) rfl w.heap.size 0 rfl (addrCs a) _ R3.out Try.underlying27 rfl (addr_sz Ha.out) ?_))
    clear R3
    refine (putAddr_any a Ha.out w1).mono ?_
    rintro e w2 ⟨A7, c7, rfl, hown, hb2⟩
    have Hb2 := Lib.hid hb2
    clear hb2
    rw [Hmm.out] at hown
    have Ho := Lib.hid (BS.of_own hown).1
    clear hown
    have H3' := Lib.hid (Blk.below H3.out Hb2.out H3.out.lt)
    clear H3
    have H3 := H3'
    clear H3'
    have Hm' := Lib.hid ((Hm.out.below Hb2.out).more Hb2.out.size)
    clear Hm
    have Hm := Hm'
    clear Hm'
    have Bw' : Hid (Below w.heap.size w w2) := Bw.out.trans (Hb2.out.mono Bw.out.size)
    clear Bw
    have Bw := Bw'
    clear Bw'
    clear Hb2
    rw [Hmm.out]
    go_wp2_with fail
    refine (rdNew_any A7 _ c7 m w2 rfl Ho.out (by omega)).mono ?_
    rintro e u1 ⟨g1, rfl, hg1, hg2, hR, hb1⟩
    have HR1 := Lib.hid hR
    have Hu1 := Lib.hid hb1
    clear hR hb1
    go_wp2_with fail
    refine (take_aw2 _ g1 m (0, 0, 0) _ u1 Hpt.out HR1.out ⟨Nat.zero_le _, Nat.zero_le _, Nat.zero_le _⟩ (by omega)).mono ?_
    rintro e w3 ⟨rfl, _, hgr⟩
    have Hu2 : Hid (Below w2.heap.size w2 w3) := Hu1.out.grown hgr Hu1.out.size (fun k hk => by simp only [Option.some.injEq] at hk; omega)
    clear hgr hg1 hg2 HR1 Hu1
    have H3' := Lib.hid (Blk.below H3.out Hu2.out H3.out.lt)
    clear H3
    have H3 := H3'
    clear H3'
    have Hm' := Lib.hid ((Hm.out.below Hu2.out).more Hu2.out.size)
    clear Hm
    have Hm := Hm'
    clear Hm'
    have Ho' := Lib.hid ((Ho.out.below Hu2.out).more Hu2.out.size)
    clear Ho
    have Ho := Ho'
    clear Ho'
    have Bw' : Hid (Below w.heap.size w w3) := Bw.out.trans (Hu2.out.mono Bw.out.size)
    clear Bw
    have Bw := Bw'
    clear Bw'
    clear Hu2
    obtain ⟨x3, hx3⟩ : ∃ W, W = w3.alloc (.cells (addrCs addr0).toArray 27) := ⟨_, rfl⟩
    obtain ⟨y3, hy3⟩ : ∃ W, W = x3.setCells w3.heap.size 0 (addrCs b) := ⟨_, rfl⟩
    obtain ⟨hth3, hbx3, hbe3⟩ := boxed w3 x3 y3 27 (addrCs addr0) (addrCs b) (by rw [addrCs_length Hb.out, addrCs_length addr0_ok]) hx3 hy3
    rw [addr0_litA] at hx3
    have HX3 := Lib.hid hx3
    have HY3 := Lib.hid hy3
    have Hth3 := Lib.hid hth3
    have Hbe3 := Lib.hid hbe3
    have H8n := Lib.hid hbx3
    clear hx3 hy3 hth3 hbx3 hbe3
    have R3 := Lib.hid (blk_range H3.out)
    go_upto_region 5 with (first
      | ((with_reducible refine gateL 27 ?_); refine wpList_load_g (by rfl) 27 (.tmp 3) rfl w.heap.size 0 rfl (addrCs a) _ R3.out Try.underlying27 rfl (addr_sz Ha.out) ?_)
      | (rw [← HX3.out]; (with_reducible refine gateS 27 ?_); refine wpList_store_mid rfl 27 (.tmp 8) (.tmp 30) rfl w3.heap.size 0 (addrCs b).toArray rfl rfl Hth3.out (addr_szA Hb.out) (addr_one b) ?_))
    clear R3
    rw [← HY3.out]
    clear HX3 HY3 Hth3
    have H3' := Lib.hid (Blk.below H3.out Hbe3.out H3.out.lt)
    clear H3
    have H3 := H3'
    clear H3'
    have Hm' := Lib.hid ((Hm.out.below Hbe3.out).more Hbe3.out.size)
    clear Hm
    have Hm := Hm'
    clear Hm'
    have Ho' := Lib.hid ((Ho.out.below Hbe3.out).more Hbe3.out.size)
    clear Ho
    have Ho := Ho'
    clear Ho'
    have Bw' : Hid (Below w.heap.size w y3) := Bw.out.trans (Hbe3.out.mono Bw.out.size)
    clear Bw
    have Bw := Bw'
    clear Bw'
    have H8 := H8n
    clear H8n Hbe3
    go_cut [50] from 32 to 50 (fun v50 wc => v50 = .bool false ∧ Hid (Below y3.heap.size y3 wc))
    case first =>
      refine wp_region_noPanic ?_
      refine wp_region_held_drew (S := fun w' => Below y3.heap.size y3 w') (by kernel_rfl) ((Below.refl _ _).drew) (fun hHeld => ?_)
      refine wpAnyH_take (i := 0) (v := ?_) rfl (by kernel_rfl) (by kernel_rfl) (by kernel_rfl) (fun _ _ _ h => h) (Or.inl ⟨by rfl, ?_⟩) hHeld ?_
      rotate_left
      · intro w' hSw
        skip
        go_simp
        try with_reducible rfl
      try (simp only [Act.put, List.getElem_toArray, List.getElem_cons_succ, List.getElem_cons_zero, List.setIfInBounds_toArray, List.set_cons_zero, List.set_cons_succ])
      refine wpAnyH_take (i := 1) (v := ?_) rfl (by kernel_rfl) (by kernel_rfl) (by kernel_rfl) (fun _ _ _ h => h) (Or.inl ⟨by rfl, ?_⟩) hHeld ?_
      rotate_left
      · intro w' hSw
        have hcv := run_convert_bs (P := Try.prog) 40 9 5 Try.underlying40 Try.underlying5 Try.underlying9 w' _ A7 m (Ho.out.below hSw) _ c7 rfl
        go_simp
        try with_reducible rfl
      try (simp only [Act.put, List.getElem_toArray, List.getElem_cons_succ, List.getElem_cons_zero, List.setIfInBounds_toArray, List.set_cons_zero, List.set_cons_succ])
      refine wpAnyH_take (i := 2) rfl (by kernel_rfl) (by kernel_rfl) (by kernel_rfl) (fun _ _ _ h => h) (yieldsIf_load_mid (by rfl) 27 (.tmp 3) rfl (w.heap.size) (0) rfl (addrCs a) _ (fun w' hSw => blk_range (Blk.below H3.out hSw H3.out.lt)) Try.underlying27 rfl (addr_sz Ha.out)) hHeld ?_
      try (simp only [Act.put, List.getElem_toArray, List.getElem_cons_succ, List.getElem_cons_zero, List.setIfInBounds_toArray, List.set_cons_zero, List.set_cons_succ])
      refine wpAnyH_ready (rs := [3]) (by kernel_rfl) (by simp) ?_
      refine AllReadyH.cons (i := 3) rfl (fun K hK => ?_) AllReadyH.nil
      go_simp
      refine (refPutAddr_any a Ha.out _).mono ?_
      rintro e w6 ⟨A8, c8, rfl, hown8, hb8⟩
      rw [Hmm.out] at hown8 ⊢
      have hBehind : Below y3.heap.size y3 w6 := hHeld.trans (hb8.mono hHeld.size)
      have Ho8 := Lib.hid (BS.of_own hown8).1
      clear hown8 hb8
      go_wp2_with fail
      refine hK.out _ _ hBehind (fun hHeld => ?_)
      clear hK K hBehind
      try (simp only [Act.put, List.getElem_toArray, List.getElem_cons_succ, List.getElem_cons_zero, List.setIfInBounds_toArray, List.set_cons_zero, List.set_cons_succ])
      refine wpAnyH_ready (rs := [4]) (by kernel_rfl) (by simp) ?_
      refine AllReadyH.cons (i := 4) rfl (fun K hK => ?_) AllReadyH.nil
      have hcv := run_convert_bs (P := Try.prog) 40 9 5 Try.underlying40 Try.underlying5 Try.underlying9 w6 _ A8 m Ho8.out _ c8 rfl
      go_simp
      refine hK.out _ _ hHeld (fun hHeld => ?_)
      clear hK K hcv Ho8
      try (simp only [Act.put, List.getElem_toArray, List.getElem_cons_succ, List.getElem_cons_zero, List.setIfInBounds_toArray, List.set_cons_zero, List.set_cons_succ])
      refine wpAnyH_take (i := 5) (v := ?_) rfl (by kernel_rfl) (by kernel_rfl) (by kernel_rfl) (fun _ _ _ h => h) (Or.inl ⟨by rfl, ?_⟩) hHeld ?_
      rotate_left
      · intro w' hSw
        skip
        go_simp
        try with_reducible rfl
      try (simp only [Act.put, List.getElem_toArray, List.getElem_cons_succ, List.getElem_cons_zero, List.setIfInBounds_toArray, List.set_cons_zero, List.set_cons_succ])
      refine wpAnyH_take (i := 6) (v := ?_) rfl (by kernel_rfl) (by kernel_rfl) (by kernel_rfl) (fun _ _ _ h => h) (Or.inl ⟨by rfl, ?_⟩) hHeld ?_
      rotate_left
      · intro w' hSw
        skip
        go_simp
        try with_reducible rfl
      try (simp only [Act.put, List.getElem_toArray, List.getElem_cons_succ, List.getElem_cons_zero, List.setIfInBounds_toArray, List.set_cons_zero, List.set_cons_succ])
      refine wpAnyH_take (i := 7) (v := ?_) rfl (by kernel_rfl) (by kernel_rfl) (by kernel_rfl) (fun _ _ _ h => h) (Or.inl ⟨by rfl, ?_⟩) hHeld ?_
      rotate_left
      · intro w' hSw
        skip
        go_simp
        try with_reducible rfl
      try (simp only [Act.put, List.getElem_toArray, List.getElem_cons_succ, List.getElem_cons_zero, List.setIfInBounds_toArray, List.set_cons_zero, List.set_cons_succ])
      refine wpAnyH_take (i := 8) (v := ?_) rfl (by kernel_rfl) (by kernel_rfl) (by kernel_rfl) (fun _ _ _ h => h) (Or.inl ⟨by rfl, ?_⟩) hHeld ?_
      rotate_left
      · intro w' hSw
        skip
        go_simp
        try with_reducible rfl
      try (simp only [Act.put, List.getElem_toArray, List.getElem_cons_succ, List.getElem_cons_zero, List.setIfInBounds_toArray, List.set_cons_zero, List.set_cons_succ])
      refine wpAnyH_take (i := 9) (v := ?_) rfl (by kernel_rfl) (by kernel_rfl) (by kernel_rfl) (fun _ _ _ h => h) (Or.inl ⟨by rfl, ?_⟩) hHeld ?_
      rotate_left
      · intro w' hSw
        skip
        go_simp
        try with_reducible rfl
      try (simp only [Act.put, List.getElem_toArray, List.getElem_cons_succ, List.getElem_cons_zero, List.setIfInBounds_toArray, List.set_cons_zero, List.set_cons_succ])
      refine wpAnyH_take (i := 10) (v := ?_) rfl (by kernel_rfl) (by kernel_rfl) (by kernel_rfl) (fun _ _ _ h => h) (Or.inl ⟨by rfl, ?_⟩) hHeld ?_
      rotate_left
      · intro w' hSw
        skip
        go_simp
        try with_reducible rfl
      try (simp only [Act.put, List.getElem_toArray, List.getElem_cons_succ, List.getElem_cons_zero, List.setIfInBounds_toArray, List.set_cons_zero, List.set_cons_succ])
      refine wpAnyH_take (i := 11) rfl (by kernel_rfl) (by kernel_rfl) (by kernel_rfl) (fun _ _ _ h => h) (yieldsIf_load_mid (by rfl) 27 (.tmp 3) rfl (w.heap.size) (0) rfl (addrCs a) _ (fun w' hSw => blk_range (Blk.below H3.out hSw H3.out.lt)) Try.underlying27 rfl (addr_sz Ha.out)) hHeld ?_
      try (simp only [Act.put, List.getElem_toArray, List.getElem_cons_succ, List.getElem_cons_zero, List.setIfInBounds_toArray, List.set_cons_zero, List.set_cons_succ])
      refine wpAnyH_ready (rs := [12]) (by kernel_rfl) (by simp) ?_
      refine AllReadyH.cons (i := 12) rfl (fun K hK => ?_) AllReadyH.nil
      go_simp
      refine (refShort_any a Ha.out _).mono ?_
      rintro e w7 ⟨rfl, hb7⟩
      have hBehind : Below y3.heap.size y3 w7 := hHeld.trans (hb7.mono hHeld.size)
      clear hb7
      rcases hsh : shortB a with _ | _
      · clear hsh
        go_wp2_with fail
        refine hK.out _ _ hBehind (fun hHeld => ?_)
        clear hK K hBehind
        try (simp only [Act.put, List.getElem_toArray, List.getElem_cons_succ, List.getElem_cons_zero, List.setIfInBounds_toArray, List.set_cons_zero, List.set_cons_succ])
        refine wpAnyH_take (i := 13) (v := ?_) rfl (by kernel_rfl) (by kernel_rfl) (by kernel_rfl) (fun _ _ _ h => h) (Or.inl ⟨by rfl, ?_⟩) hHeld ?_
        rotate_left
        · intro w' hSw
          skip
          go_simp
          try with_reducible rfl
        try (simp only [Act.put, List.getElem_toArray, List.getElem_cons_succ, List.getElem_cons_zero, List.setIfInBounds_toArray, List.set_cons_zero, List.set_cons_succ])
        refine wpAnyH_take (i := 14) (v := undef) rfl (by kernel_rfl) (by kernel_rfl) (by kernel_rfl) (fun _ _ _ h => h) (Or.inr ⟨by rfl, rfl⟩) hHeld ?_
        try (simp only [Act.put, List.getElem_toArray, List.getElem_cons_succ, List.getElem_cons_zero, List.setIfInBounds_toArray, List.set_cons_zero, List.set_cons_succ])
        refine wpAnyH_take (i := 15) (v := undef) rfl (by kernel_rfl) (by kernel_rfl) (by kernel_rfl) (fun _ _ _ h => h) (Or.inr ⟨by rfl, rfl⟩) hHeld ?_
        try (simp only [Act.put, List.getElem_toArray, List.getElem_cons_succ, List.getElem_cons_zero, List.setIfInBounds_toArray, List.set_cons_zero, List.set_cons_succ])
        refine wpAnyH_take (i := 16) (v := undef) rfl (by kernel_rfl) (by kernel_rfl) (by kernel_rfl) (fun _ _ _ h => h) (Or.inr ⟨by rfl, rfl⟩) hHeld ?_
        try (simp only [Act.put, List.getElem_toArray, List.getElem_cons_succ, List.getElem_cons_zero, List.setIfInBounds_toArray, List.set_cons_zero, List.set_cons_succ])
        refine wpAnyH_take (i := 17) (v := ?_) rfl (by kernel_rfl) (by kernel_rfl) (by kernel_rfl) (fun _ _ _ h => h) (Or.inl ⟨by rfl, ?_⟩) hHeld ?_
        rotate_left
        · intro w' hSw
          skip
          go_simp
          try with_reducible rfl
        try (simp only [Act.put, List.getElem_toArray, List.getElem_cons_succ, List.getElem_cons_zero, List.setIfInBounds_toArray, List.set_cons_zero, List.set_cons_succ])
        refine wpAnyH_take (i := 18) (v := ?_) rfl (by kernel_rfl) (by kernel_rfl) (by kernel_rfl) (fun _ _ _ h => h) (Or.inl ⟨by rfl, ?_⟩) hHeld ?_
        rotate_left
        · intro w' hSw
          skip
          go_simp
          try with_reducible rfl
        try (simp only [Act.put, List.getElem_toArray, List.getElem_cons_succ, List.getElem_cons_zero, List.setIfInBounds_toArray, List.set_cons_zero, List.set_cons_succ])
        refine wpAnyH_done (by kernel_rfl) ?_ _
        refine NoPanic.normal ?_
        go_wp2
        go_meet
        case rel => exact ⟨rfl, Lib.hid hHeld⟩
      · have Hba := Lib.hid (Hsb.out hsh)
        clear hsh
        go_wp2_with fail
        refine hK.out _ _ hBehind (fun hHeld => ?_)
        clear hK K hBehind
        try (simp only [Act.put, List.getElem_toArray, List.getElem_cons_succ, List.getElem_cons_zero, List.setIfInBounds_toArray, List.set_cons_zero, List.set_cons_succ])
        refine wpAnyH_take (i := 13) (v := ?_) rfl (by kernel_rfl) (by kernel_rfl) (by kernel_rfl) (fun _ _ _ h => h) (Or.inl ⟨by rfl, ?_⟩) hHeld ?_
        rotate_left
        · intro w' hSw
          skip
          go_simp
          try with_reducible rfl
        try (simp only [Act.put, List.getElem_toArray, List.getElem_cons_succ, List.getElem_cons_zero, List.setIfInBounds_toArray, List.set_cons_zero, List.set_cons_succ])
        refine wpAnyH_take (i := 14) rfl (by kernel_rfl) (by kernel_rfl) (by kernel_rfl) (fun _ _ _ h => h) (yieldsIf_load_mid (by rfl) 27 (.tmp 8) rfl (w3.heap.size) (0) rfl (addrCs b) _ (fun w' hSw => blk_range (Blk.below H8.out hSw H8.out.lt)) Try.underlying27 rfl (addr_sz Hb.out)) hHeld ?_
        try (simp only [Act.put, List.getElem_toArray, List.getElem_cons_succ, List.getElem_cons_zero, List.setIfInBounds_toArray, List.set_cons_zero, List.set_cons_succ])
        refine wpAnyH_take (i := 15) rfl (by kernel_rfl) (by kernel_rfl) (by kernel_rfl) (fun _ _ _ h => h) (yieldsIf_load_mid (by rfl) 27 (.tmp 3) rfl (w.heap.size) (0) rfl (addrCs a) _ (fun w' hSw => blk_range (Blk.below H3.out hSw H3.out.lt)) Try.underlying27 rfl (addr_sz Ha.out)) hHeld ?_
        try (simp only [Act.put, List.getElem_toArray, List.getElem_cons_succ, List.getElem_cons_zero, List.setIfInBounds_toArray, List.set_cons_zero, List.set_cons_succ])
        refine wpAnyH_take (i := 16) rfl (by kernel_rfl) (by kernel_rfl) (by kernel_rfl) (fun _ _ _ h => h) (yieldsIf_neqs (by rfl) 27 27 (.tmp 46) (.tmp 47) rfl ((addrCs b).toArray) ((addrCs a).toArray) rfl rfl addr_guard true (fun w => addr_eqT Hba.out Ha.out w)) hHeld ?_
        try (simp only [Act.put, List.getElem_toArray, List.getElem_cons_succ, List.getElem_cons_zero, List.setIfInBounds_toArray, List.set_cons_zero, List.set_cons_succ])
        refine wpAnyH_take (i := 17) (v := ?_) rfl (by kernel_rfl) (by kernel_rfl) (by kernel_rfl) (fun _ _ _ h => h) (Or.inl ⟨by rfl, ?_⟩) hHeld ?_
        rotate_left
        · intro w' hSw
          skip
          go_simp
          try with_reducible rfl
        try (simp only [Act.put, List.getElem_toArray, List.getElem_cons_succ, List.getElem_cons_zero, List.setIfInBounds_toArray, List.set_cons_zero, List.set_cons_succ])
        refine wpAnyH_take (i := 18) (v := ?_) rfl (by kernel_rfl) (by kernel_rfl) (by kernel_rfl) (fun _ _ _ h => h) (Or.inl ⟨by rfl, ?_⟩) hHeld ?_
        rotate_left
        · intro w' hSw
          skip
          go_simp
          try with_reducible rfl
        try (simp only [Act.put, List.getElem_toArray, List.getElem_cons_succ, List.getElem_cons_zero, List.setIfInBounds_toArray, List.set_cons_zero, List.set_cons_succ])
        refine wpAnyH_done (by kernel_rfl) ?_ _
        refine NoPanic.normal ?_
        go_wp2
        go_meet
        case rel => exact ⟨rfl, Lib.hid hHeld⟩
    case rest =>
      obtain ⟨rfl, Hc⟩ := hcut
      have H3' := Lib.hid (Blk.below H3.out Hc.out H3.out.lt)
      clear H3
      have H3 := H3'
      clear H3'
      have H8' := Lib.hid (Blk.below H8.out Hc.out H8.out.lt)
      clear H8
      have H8 := H8'
      clear H8'
      have Hm' := Lib.hid ((Hm.out.below Hc.out).more Hc.out.size)
      clear Hm
      have Hm := Hm'
      clear Hm'
      have Ho' := Lib.hid ((Ho.out.below Hc.out).more Hc.out.size)
      clear Ho
      have Ho := Ho'
      clear Ho'
      have Bw' : Hid (Below w.heap.size w wc) := Bw.out.trans (Hc.out.mono Bw.out.size)
      clear Bw
      have Bw := Bw'
      clear Bw'
      clear Hc
      clear H8
      have hmI := HmI.out
      go_wp2_with fail
      refine (rdNew_any A0 _ c0 l wc rfl Hm.out (by omega)).mono ?_
      rintro e u3 ⟨g2, rfl, hg1, hg2, hR, hb1⟩
      have HR1 := Lib.hid hR
      have Hu1 := Lib.hid hb1
      have hT := rdTake_any _ g2 l (0, 0, 0) u3 (N : Int) HR1.out ⟨Nat.zero_le _, Nat.zero_le _, Nat.zero_le _⟩ (by omega) (by omega)
      rw [take_all hNl] at hT
      have HT := Lib.hid hT
      clear hR hb1 hT HmI hmI
      go_wp2_with fail
      refine HT.out.mono ?_
      rintro e w8 ⟨Ax, cx, rfl, _, hR2, hgr⟩
      have HR2 := Lib.hid hR2
      have Hu2 : Hid (Below wc.heap.size wc w8) := Hu1.out.grown hgr Hu1.out.size (fun k hk => by simp only [Option.some.injEq] at hk; omega)
      clear hR2 hgr HR1 Hu1 HT
      go_wp2_with fail
      rcases Nat.eq_zero_or_pos us with rfl | hpos
      · obtain ⟨h9, h90⟩ := Hnn.out rfl
        have H90 := Lib.hid h90
        clear h90
        obtain ⟨s9, hr9⟩ : ∃ s9, takeAddrS l (N, 0, 0) = (s9, none) := ⟨(takeAddrS l (N, 0, 0)).1, by rw [← h9]⟩
        have Hr9 := Lib.hid hr9
        clear h9 hr9
        refine (take_aw2 _ g2 l (N, 0, 0) _ w8 Hr9.out HR2.out ⟨hNl, Nat.zero_le _, Nat.zero_le _⟩ (by omega)).mono ?_
        rintro e w9 ⟨rfl, hR3, hgr⟩
        have HR3 := Lib.hid hR3
        have Hu3 : Hid (Below wc.heap.size wc w9) := Hu2.out.grown hgr Hu2.out.size (fun k hk => by simp only [Option.some.injEq] at hk; omega)
        clear hgr hR3 HR2 Hu2
        simp only [Option.getD_some, Option.getD_none, Option.isSome_some, Option.isSome_none]
        rw [← H90.out]
        have H3' := Lib.hid (Blk.below H3.out Hu3.out H3.out.lt)
        clear H3
        have H3 := H3'
        clear H3'
        have Hm' := Lib.hid ((Hm.out.below Hu3.out).more Hu3.out.size)
        clear Hm
        have Hm := Hm'
        clear Hm'
        have Ho' := Lib.hid ((Ho.out.below Hu3.out).more Hu3.out.size)
        clear Ho
        have Ho := Ho'
        clear Ho'
        have Bw' : Hid (Below w.heap.size w w9) := Bw.out.trans (Hu3.out.mono Bw.out.size)
        clear Bw
        have Bw := Bw'
        clear Bw'
        clear Hu3
        obtain ⟨x4, hx4⟩ : ∃ W, W = w9.alloc (.cells (addrCs addr0).toArray 27) := ⟨_, rfl⟩
        obtain ⟨y4, hy4⟩ : ∃ W, W = x4.setCells w9.heap.size 0 (addrCs b2) := ⟨_, rfl⟩
        obtain ⟨hth4, hbx4, hbe4⟩ := boxed w9 x4 y4 27 (addrCs addr0) (addrCs b2) (by rw [addrCs_length Hb2.out, addrCs_length addr0_ok]) hx4 hy4
        rw [addr0_litA] at hx4
        have HX4 := Lib.hid hx4
        have HY4 := Lib.hid hy4
        have Hth4 := Lib.hid hth4
        have Hbe4 := Lib.hid hbe4
        have H12n := Lib.hid hbx4
        clear hx4 hy4 hth4 hbx4 hbe4
        have R3 := Lib.hid (blk_range H3.out)
        go_upto_region 11 with (first
          | ((with_reducible refine gateL 27 ?_); refine wpList_load_g (by rfl) 27 (.tmp 3) rfl w.heap.size 0 rfl (addrCs a) _ R3.out Try.underlying27 rfl (addr_sz Ha.out) ?_)
          | (rw [← HX4.out]; (with_reducible refine gateS 27 ?_); refine wpList_store_mid rfl 27 (.tmp 12) (.tmp 64) rfl w9.heap.size 0 (addrCs b2).toArray rfl rfl Hth4.out (addr_szA Hb2.out) (addr_one b2) ?_))
        clear R3
        rw [← HY4.out]
        clear HX4 HY4 Hth4
        have H3' := Lib.hid (Blk.below H3.out Hbe4.out H3.out.lt)
        clear H3
        have H3 := H3'
        clear H3'
        have Hm' := Lib.hid ((Hm.out.below Hbe4.out).more Hbe4.out.size)
        clear Hm
        have Hm := Hm'
        clear Hm'
        have Ho' := Lib.hid ((Ho.out.below Hbe4.out).more Hbe4.out.size)
        clear Ho
        have Ho := Ho'
        clear Ho'
        have HR3' := Lib.hid (HR3.out.below Hbe4.out)
        clear HR3
        have HR3 := HR3'
        clear HR3'
        have Bw' : Hid (Below w.heap.size w y4) := Bw.out.trans (Hbe4.out.mono Bw.out.size)
        clear Bw
        have Bw := Bw'
        clear Bw'
        have H12 := H12n
        clear H12n Hbe4
        by_cases hcN : c0 = N
        · have hdl := HdN.out
          have Hdn : Hid (BS y4 y4.heap.size A0 (l.drop N)) := by
            have hnil : l.drop N = [] := List.drop_of_length_le (by omega)
            show BS _ _ _ _
            rw [hnil]
            exact BS.nil _ _ _
          go_wp2_with fail
          refine (refGetA _ _ _ (l.drop N) y4 (by omega) Hdn.out (by omega) b2 0 HgA.out).mono ?_
          rintro e wg ⟨rfl, hb5⟩
          have Hb5 := Lib.hid hb5
          clear hb5
          have H3' := Lib.hid (Blk.below H3.out Hb5.out H3.out.lt)
          clear H3
          have H3 := H3'
          clear H3'
          have H12' := Lib.hid (Blk.below H12.out Hb5.out H12.out.lt)
          clear H12
          have H12 := H12'
          clear H12'
          have Hm' := Lib.hid ((Hm.out.below Hb5.out).more Hb5.out.size)
          clear Hm
          have Hm := Hm'
          clear Hm'
          have Ho' := Lib.hid ((Ho.out.below Hb5.out).more Hb5.out.size)
          clear Ho
          have Ho := Ho'
          clear Ho'
          have HR3' := Lib.hid (HR3.out.below Hb5.out)
          clear HR3
          have HR3 := HR3'
          clear HR3'
          have Bw' : Hid (Below w.heap.size w wg) := Bw.out.trans (Hb5.out.mono Bw.out.size)
          clear Bw
          have Bw := Bw'
          clear Bw'
          clear Hb5
          clear hdl Hdn
          obtain ⟨x6, hx6⟩ : ∃ W, W = wg.alloc (.cells (addrCs addr0).toArray 27) := ⟨_, rfl⟩
          obtain ⟨y6, hy6⟩ : ∃ W, W = x6.setCells wg.heap.size 0 (addrCs b2) := ⟨_, rfl⟩
          obtain ⟨hth6, hbx6, hbe6⟩ := boxed wg x6 y6 27 (addrCs addr0) (addrCs b2) (by rw [addrCs_length Hb2.out, addrCs_length addr0_ok]) hx6 hy6
          rw [addr0_litA] at hx6
          have HX6 := Lib.hid hx6
          have HY6 := Lib.hid hy6
          have Hth6 := Lib.hid hth6
          have Hbe6 := Lib.hid hbe6
          have H14n := Lib.hid hbx6
          clear hx6 hy6 hth6 hbx6 hbe6
          have R3 := Lib.hid (blk_range H3.out)
          have R12 := Lib.hid (blk_range H12.out)
          go_upto_region 12 with (first
            | ((with_reducible refine gateL 27 ?_); refine wpList_load_g (by rfl) 27 (.tmp 3) rfl w.heap.size 0 rfl (addrCs a) _ R3.out Try.underlying27 rfl (addr_sz Ha.out) ?_)
            | ((with_reducible refine gateL 27 ?_); refine wpList_load_g (by rfl) 27 (.tmp 12) rfl w9.heap.size 0 rfl (addrCs b2) _ R12.out Try.underlying27 rfl (addr_sz Hb2.out) ?_)
            | (rw [← HX6.out]; (with_reducible refine gateS 27 ?_); refine wpList_store_mid rfl 27 (.tmp 14) (.tmp 71) rfl wg.heap.size 0 (addrCs b2).toArray rfl rfl Hth6.out (addr_szA Hb2.out) (addr_one b2) ?_))
          clear R3
          clear R12
          rw [← HY6.out]
          clear HX6 HY6 Hth6
          have H3' := Lib.hid (Blk.below H3.out Hbe6.out H3.out.lt)
          clear H3
          have H3 := H3'
          clear H3'
          have H12' := Lib.hid (Blk.below H12.out Hbe6.out H12.out.lt)
          clear H12
          have H12 := H12'
          clear H12'
          have Hm' := Lib.hid ((Hm.out.below Hbe6.out).more Hbe6.out.size)
          clear Hm
          have Hm := Hm'
          clear Hm'
          have Ho' := Lib.hid ((Ho.out.below Hbe6.out).more Hbe6.out.size)
          clear Ho
          have Ho := Ho'
          clear Ho'
          have HR3' := Lib.hid (HR3.out.below Hbe6.out)
          clear HR3
          have HR3 := HR3'
          clear HR3'
          have Bw' : Hid (Below w.heap.size w y6) := Bw.out.trans (Hbe6.out.mono Bw.out.size)
          clear Bw
          have Bw := Bw'
          clear Bw'
          have H14 := H14n
          clear H14n Hbe6
          have Eq14 := Lib.hid (addr_eqT (a := b2) rfl Hb2.out y6)
          have R3 := Lib.hid (blk_range H3.out)
          have R12 := Lib.hid (blk_range H12.out)
          have R14 := Lib.hid (blk_range H14.out)
          go_wp2_with (first
            | ((with_reducible refine gateL 27 ?_); refine wpList_load_g (by rfl) 27 (.tmp 3) rfl w.heap.size 0 rfl (addrCs a) _ R3.out Try.underlying27 rfl (addr_sz Ha.out) ?_)
            | ((with_reducible refine gateL 27 ?_); refine wpList_load_g (by rfl) 27 (.tmp 12) rfl w9.heap.size 0 rfl (addrCs b2) _ R12.out Try.underlying27 rfl (addr_sz Hb2.out) ?_)
            | ((with_reducible refine gateL 27 ?_); refine wpList_load_g (by rfl) 27 (.tmp 14) rfl wg.heap.size 0 rfl (addrCs b2) _ R14.out Try.underlying27 rfl (addr_sz Hb2.out) ?_)
            | ((with_reducible refine gateE 27 ?_); refine wpList_eqs_g (by rfl) 27 27 (.tmp 78) (.tmp 79) rfl (addrCs b2).toArray (addrCs b2).toArray rfl rfl addr_guard true Eq14.out ?_))
          clear R3
          clear R12
          clear R14
          clear Eq14
          go_wp2
          go_ret
          exact ⟨rfl, Bw.out⟩
        · have hdl := HdN.out
          have Hdn : Hid (BS y4 y4.heap.size (A0.map (·.add N)) (l.drop N)) := by
            have := Hm.out.drop (k := N) (cap := c0) hc0
            rw [if_neg hcN] at this
            exact this
          go_wp2_with fail
          refine (refGetA _ _ _ (l.drop N) y4 (by omega) Hdn.out (by omega) b2 0 HgA.out).mono ?_
          rintro e wg ⟨rfl, hb7⟩
          have Hb7 := Lib.hid hb7
          clear hb7
          have H3' := Lib.hid (Blk.below H3.out Hb7.out H3.out.lt)
          clear H3
          have H3 := H3'
          clear H3'
          have H12' := Lib.hid (Blk.below H12.out Hb7.out H12.out.lt)
          clear H12
          have H12 := H12'
          clear H12'
          have Hm' := Lib.hid ((Hm.out.below Hb7.out).more Hb7.out.size)
          clear Hm
          have Hm := Hm'
          clear Hm'
          have Ho' := Lib.hid ((Ho.out.below Hb7.out).more Hb7.out.size)
          clear Ho
          have Ho := Ho'
          clear Ho'
          have HR3' := Lib.hid (HR3.out.below Hb7.out)
          clear HR3
          have HR3 := HR3'
          clear HR3'
          have Bw' : Hid (Below w.heap.size w wg) := Bw.out.trans (Hb7.out.mono Bw.out.size)
          clear Bw
          have Bw := Bw'
          clear Bw'
          clear Hb7
          clear hdl Hdn
          obtain ⟨x8, hx8⟩ : ∃ W, W = wg.alloc (.cells (addrCs addr0).toArray 27) := ⟨_, rfl⟩
          obtain ⟨y8, hy8⟩ : ∃ W, W = x8.setCells wg.heap.size 0 (addrCs b2) := ⟨_, rfl⟩
          obtain ⟨hth8, hbx8, hbe8⟩ := boxed wg x8 y8 27 (addrCs addr0) (addrCs b2) (by rw [addrCs_length Hb2.out, addrCs_length addr0_ok]) hx8 hy8
          rw [addr0_litA] at hx8
          have HX8 := Lib.hid hx8
          have HY8 := Lib.hid hy8
          have Hth8 := Lib.hid hth8
          have Hbe8 := Lib.hid hbe8
          have H14n := Lib.hid hbx8
          clear hx8 hy8 hth8 hbx8 hbe8
          have R3 := Lib.hid (blk_range H3.out)
          have R12 := Lib.hid (blk_range H12.out)
          go_upto_region 12 with (first
            | ((with_reducible refine gateL 27 ?_); refine wpList_load_g (by rfl) 27 (.tmp 3) rfl w.heap.size 0 rfl (addrCs a) _ R3.out Try.underlying27 rfl (addr_sz Ha.out) ?_)
            | ((with_reducible refine gateL 27 ?_); refine wpList_load_g (by rfl) 27 (.tmp 12) rfl w9.heap.size 0 rfl (addrCs b2) _ R12.out Try.underlying27 rfl (addr_sz Hb2.out) ?_)
            | (rw [← HX8.out]; (with_reducible refine gateS 27 ?_); refine wpList_store_mid rfl 27 (.tmp 14) (.tmp 71) rfl wg.heap.size 0 (addrCs b2).toArray rfl rfl Hth8.out (addr_szA Hb2.out) (addr_one b2) ?_))
          clear R3
          clear R12
          rw [← HY8.out]
          clear HX8 HY8 Hth8
          have H3' := Lib.hid (Blk.below H3.out Hbe8.out H3.out.lt)
          clear H3
          have H3 := H3'
          clear H3'
          have H12' := Lib.hid (Blk.below H12.out Hbe8.out H12.out.lt)
          clear H12
          have H12 := H12'
          clear H12'
          have Hm' := Lib.hid ((Hm.out.below Hbe8.out).more Hbe8.out.size)
          clear Hm
          have Hm := Hm'
          clear Hm'
          have Ho' := Lib.hid ((Ho.out.below Hbe8.out).more Hbe8.out.size)
          clear Ho
          have Ho := Ho'
          clear Ho'
          have HR3' := Lib.hid (HR3.out.below Hbe8.out)
          clear HR3
          have HR3 := HR3'
          clear HR3'
          have Bw' : Hid (Below w.heap.size w y8) := Bw.out.trans (Hbe8.out.mono Bw.out.size)
          clear Bw
          have Bw := Bw'
          clear Bw'
          have H14 := H14n
          clear H14n Hbe8
          have Eq14 := Lib.hid (addr_eqT (a := b2) rfl Hb2.out y8)
          have R3 := Lib.hid (blk_range H3.out)
          have R12 := Lib.hid (blk_range H12.out)
          have R14 := Lib.hid (blk_range H14.out)
          go_wp2_with (first
            | ((with_reducible refine gateL 27 ?_); refine wpList_load_g (by rfl) 27 (.tmp 3) rfl w.heap.size 0 rfl (addrCs a) _ R3.out Try.underlying27 rfl (addr_sz Ha.out) ?_)
            | ((with_reducible refine gateL 27 ?_); refine wpList_load_g (by rfl) 27 (.tmp 12) rfl w9.heap.size 0 rfl (addrCs b2) _ R12.out Try.underlying27 rfl (addr_sz Hb2.out) ?_)
            | ((with_reducible refine gateL 27 ?_); refine wpList_load_g (by rfl) 27 (.tmp 14) rfl wg.heap.size 0 rfl (addrCs b2) _ R14.out Try.underlying27 rfl (addr_sz Hb2.out) ?_)
            | ((with_reducible refine gateE 27 ?_); refine wpList_eqs_g (by rfl) 27 27 (.tmp 78) (.tmp 79) rfl (addrCs b2).toArray (addrCs b2).toArray rfl rfl addr_guard true Eq14.out ?_))
          clear R3
          clear R12
          clear R14
          clear Eq14
          go_wp2
          go_ret
          exact ⟨rfl, Bw.out⟩
      · obtain ⟨K, hK⟩ : ∃ K, K = N + us := ⟨_, rfl⟩
        have hr9 := Hy.out hpos
        rw [← hK] at hr9
        have HK := Lib.hid hK
        have Hr9 := Lib.hid hr9
        clear hr9 hK
        have hposI : (0 : Int) < (us : Int) := by omega
        refine (take_aw2 _ g2 l (N, 0, 0) _ w8 Hr9.out HR2.out ⟨hNl, Nat.zero_le _, Nat.zero_le _⟩ (by omega)).mono ?_
        rintro e w9 ⟨rfl, hR3, hgr⟩
        have HR3 := Lib.hid hR3
        have Hu3 : Hid (Below wc.heap.size wc w9) := Hu2.out.grown hgr Hu2.out.size (fun k hk => by simp only [Option.some.injEq] at hk; omega)
        clear hgr hR3 HR2 Hu2
        simp only [Option.getD_some, Option.getD_none, Option.isSome_some, Option.isSome_none]
        have H3' := Lib.hid (Blk.below H3.out Hu3.out H3.out.lt)
        clear H3
        have H3 := H3'
        clear H3'
        have Hm' := Lib.hid ((Hm.out.below Hu3.out).more Hu3.out.size)
        clear Hm
        have Hm := Hm'
        clear Hm'
        have Ho' := Lib.hid ((Ho.out.below Hu3.out).more Hu3.out.size)
        clear Ho
        have Ho := Ho'
        clear Ho'
        have Bw' : Hid (Below w.heap.size w w9) := Bw.out.trans (Hu3.out.mono Bw.out.size)
        clear Bw
        have Bw := Bw'
        clear Bw'
        clear Hu3
        obtain ⟨x9, hx9⟩ : ∃ W, W = w9.alloc (.cells (addrCs addr0).toArray 27) := ⟨_, rfl⟩
        obtain ⟨y9, hy9⟩ : ∃ W, W = x9.setCells w9.heap.size 0 (addrCs b2) := ⟨_, rfl⟩
        obtain ⟨hth9, hbx9, hbe9⟩ := boxed w9 x9 y9 27 (addrCs addr0) (addrCs b2) (by rw [addrCs_length Hb2.out, addrCs_length addr0_ok]) hx9 hy9
        rw [addr0_litA] at hx9
        have HX9 := Lib.hid hx9
        have HY9 := Lib.hid hy9
        have Hth9 := Lib.hid hth9
        have Hbe9 := Lib.hid hbe9
        have H12n := Lib.hid hbx9
        clear hx9 hy9 hth9 hbx9 hbe9
        have R3 := Lib.hid (blk_range H3.out)
        go_upto_region 11 with (first
          | ((with_reducible refine gateL 27 ?_); refine wpList_load_g (by rfl) 27 (.tmp 3) rfl w.heap.size 0 rfl (addrCs a) _ R3.out Try.underlying27 rfl (addr_sz Ha.out) ?_)
          | (rw [← HX9.out]; (with_reducible refine gateS 27 ?_); refine wpList_store_mid rfl 27 (.tmp 12) (.tmp 64) rfl w9.heap.size 0 (addrCs b2).toArray rfl rfl Hth9.out (addr_szA Hb2.out) (addr_one b2) ?_))
        clear R3
        rw [← HY9.out]
        clear HX9 HY9 Hth9
        have H3' := Lib.hid (Blk.below H3.out Hbe9.out H3.out.lt)
        clear H3
        have H3 := H3'
        clear H3'
        have Hm' := Lib.hid ((Hm.out.below Hbe9.out).more Hbe9.out.size)
        clear Hm
        have Hm := Hm'
        clear Hm'
        have Ho' := Lib.hid ((Ho.out.below Hbe9.out).more Hbe9.out.size)
        clear Ho
        have Ho := Ho'
        clear Ho'
        have HR3' := Lib.hid (HR3.out.below Hbe9.out)
        clear HR3
        have HR3 := HR3'
        clear HR3'
        have Bw' : Hid (Below w.heap.size w y9) := Bw.out.trans (Hbe9.out.mono Bw.out.size)
        clear Bw
        have Bw := Bw'
        clear Bw'
        have H12 := H12n
        clear H12n Hbe9
        by_cases hcN : c0 = N
        · have hdl := HdN.out
          have Hdn : Hid (BS y9 y9.heap.size A0 (l.drop N)) := by
            have hnil : l.drop N = [] := List.drop_of_length_le (by omega)
            show BS _ _ _ _
            rw [hnil]
            exact BS.nil _ _ _
          go_wp2_with fail
          refine (refGetA _ _ _ (l.drop N) y9 (by omega) Hdn.out (by omega) b2 us HgA.out).mono ?_
          rintro e wg ⟨rfl, hb10⟩
          have Hb10 := Lib.hid hb10
          clear hb10
          have H3' := Lib.hid (Blk.below H3.out Hb10.out H3.out.lt)
          clear H3
          have H3 := H3'
          clear H3'
          have H12' := Lib.hid (Blk.below H12.out Hb10.out H12.out.lt)
          clear H12
          have H12 := H12'
          clear H12'
          have Hm' := Lib.hid ((Hm.out.below Hb10.out).more Hb10.out.size)
          clear Hm
          have Hm := Hm'
          clear Hm'
          have Ho' := Lib.hid ((Ho.out.below Hb10.out).more Hb10.out.size)
          clear Ho
          have Ho := Ho'
          clear Ho'
          have HR3' := Lib.hid (HR3.out.below Hb10.out)
          clear HR3
          have HR3 := HR3'
          clear HR3'
          have Bw' : Hid (Below w.heap.size w wg) := Bw.out.trans (Hb10.out.mono Bw.out.size)
          clear Bw
          have Bw := Bw'
          clear Bw'
          clear Hb10
          clear hdl Hdn
          obtain ⟨x11, hx11⟩ : ∃ W, W = wg.alloc (.cells (addrCs addr0).toArray 27) := ⟨_, rfl⟩
          obtain ⟨y11, hy11⟩ : ∃ W, W = x11.setCells wg.heap.size 0 (addrCs b2) := ⟨_, rfl⟩
          obtain ⟨hth11, hbx11, hbe11⟩ := boxed wg x11 y11 27 (addrCs addr0) (addrCs b2) (by rw [addrCs_length Hb2.out, addrCs_length addr0_ok]) hx11 hy11
          rw [addr0_litA] at hx11
          have HX11 := Lib.hid hx11
          have HY11 := Lib.hid hy11
          have Hth11 := Lib.hid hth11
          have Hbe11 := Lib.hid hbe11
          have H14n := Lib.hid hbx11
          clear hx11 hy11 hth11 hbx11 hbe11
          have R3 := Lib.hid (blk_range H3.out)
          have R12 := Lib.hid (blk_range H12.out)
          go_upto_region 12 with (first
            | ((with_reducible refine gateL 27 ?_); refine wpList_load_g (by rfl) 27 (.tmp 3) rfl w.heap.size 0 rfl (addrCs a) _ R3.out Try.underlying27 rfl (addr_sz Ha.out) ?_)
            | ((with_reducible refine gateL 27 ?_); refine wpList_load_g (by rfl) 27 (.tmp 12) rfl w9.heap.size 0 rfl (addrCs b2) _ R12.out Try.underlying27 rfl (addr_sz Hb2.out) ?_)
            | (rw [← HX11.out]; (with_reducible refine gateS 27 ?_); refine wpList_store_mid rfl 27 (.tmp 14) (.tmp 71) rfl wg.heap.size 0 (addrCs b2).toArray rfl rfl Hth11.out (addr_szA Hb2.out) (addr_one b2) ?_))
          clear R3
          clear R12
          rw [← HY11.out]
          clear HX11 HY11 Hth11
          have H3' := Lib.hid (Blk.below H3.out Hbe11.out H3.out.lt)
          clear H3
          have H3 := H3'
          clear H3'
          have H12' := Lib.hid (Blk.below H12.out Hbe11.out H12.out.lt)
          clear H12
          have H12 := H12'
          clear H12'
          have Hm' := Lib.hid ((Hm.out.below Hbe11.out).more Hbe11.out.size)
          clear Hm
          have Hm := Hm'
          clear Hm'
          have Ho' := Lib.hid ((Ho.out.below Hbe11.out).more Hbe11.out.size)
          clear Ho
          have Ho := Ho'
          clear Ho'
          have HR3' := Lib.hid (HR3.out.below Hbe11.out)
          clear HR3
          have HR3 := HR3'
          clear HR3'
          have Bw' : Hid (Below w.heap.size w y11) := Bw.out.trans (Hbe11.out.mono Bw.out.size)
          clear Bw
          have Bw := Bw'
          clear Bw'
          have H14 := H14n
          clear H14n Hbe11
          have Eq14 := Lib.hid (addr_eqT (a := b2) rfl Hb2.out y11)
          have hKI : (K : Int) = (N : Int) + (us : Int) := by have := HK.out; omega
          have R3 := Lib.hid (blk_range H3.out)
          have R12 := Lib.hid (blk_range H12.out)
          have R14 := Lib.hid (blk_range H14.out)
          go_wp2_with (first
            | ((with_reducible refine gateL 27 ?_); refine wpList_load_g (by rfl) 27 (.tmp 3) rfl w.heap.size 0 rfl (addrCs a) _ R3.out Try.underlying27 rfl (addr_sz Ha.out) ?_)
            | ((with_reducible refine gateL 27 ?_); refine wpList_load_g (by rfl) 27 (.tmp 12) rfl w9.heap.size 0 rfl (addrCs b2) _ R12.out Try.underlying27 rfl (addr_sz Hb2.out) ?_)
            | ((with_reducible refine gateL 27 ?_); refine wpList_load_g (by rfl) 27 (.tmp 14) rfl wg.heap.size 0 rfl (addrCs b2) _ R14.out Try.underlying27 rfl (addr_sz Hb2.out) ?_)
            | ((with_reducible refine gateE 27 ?_); refine wpList_eqs_g (by rfl) 27 27 (.tmp 78) (.tmp 79) rfl (addrCs b2).toArray (addrCs b2).toArray rfl rfl addr_guard true Eq14.out ?_))
          clear R3
          clear R12
          clear R14
          clear Eq14
          refine (rdAt_rd _ g2 l _ y11 HR3.out).mono ?_
          rintro e w9' ⟨rfl, rfl⟩
          go_wp2_with fail
          refine (rdFault_sx _ g2 l _ y11 HR3.out).mono ?_
          rintro e wf ⟨rfl, hb12⟩
          have Hb12 := Lib.hid hb12
          clear hb12
          have H3' := Lib.hid (Blk.below H3.out Hb12.out H3.out.lt)
          clear H3
          have H3 := H3'
          clear H3'
          have H12' := Lib.hid (Blk.below H12.out Hb12.out H12.out.lt)
          clear H12
          have H12 := H12'
          clear H12'
          have H14' := Lib.hid (Blk.below H14.out Hb12.out H14.out.lt)
          clear H14
          have H14 := H14'
          clear H14'
          have Hm' := Lib.hid ((Hm.out.below Hb12.out).more Hb12.out.size)
          clear Hm
          have Hm := Hm'
          clear Hm'
          have Ho' := Lib.hid ((Ho.out.below Hb12.out).more Hb12.out.size)
          clear Ho
          have Ho := Ho'
          clear Ho'
          have HR3' := Lib.hid (HR3.out.below Hb12.out)
          clear HR3
          have HR3 := HR3'
          clear HR3'
          have Bw' : Hid (Below w.heap.size w wf) := Bw.out.trans (Hb12.out.mono Bw.out.size)
          clear Bw
          have Bw := Bw'
          clear Bw'
          clear Hb12
          go_wp2
          go_ret
          exact ⟨rfl, Bw.out⟩
        · have hdl := HdN.out
          have Hdn : Hid (BS y9 y9.heap.size (A0.map (·.add N)) (l.drop N)) := by
            have := Hm.out.drop (k := N) (cap := c0) hc0
            rw [if_neg hcN] at this
            exact this
          go_wp2_with fail
          refine (refGetA _ _ _ (l.drop N) y9 (by omega) Hdn.out (by omega) b2 us HgA.out).mono ?_
          rintro e wg ⟨rfl, hb13⟩
          have Hb13 := Lib.hid hb13
          clear hb13
          have H3' := Lib.hid (Blk.below H3.out Hb13.out H3.out.lt)
          clear H3
          have H3 := H3'
          clear H3'
          have H12' := Lib.hid (Blk.below H12.out Hb13.out H12.out.lt)
          clear H12
          have H12 := H12'
          clear H12'
          have Hm' := Lib.hid ((Hm.out.below Hb13.out).more Hb13.out.size)
          clear Hm
          have Hm := Hm'
          clear Hm'
          have Ho' := Lib.hid ((Ho.out.below Hb13.out).more Hb13.out.size)
          clear Ho
          have Ho := Ho'
          clear Ho'
          have HR3' := Lib.hid (HR3.out.below Hb13.out)
          clear HR3
          have HR3 := HR3'
          clear HR3'
          have Bw' : Hid (Below w.heap.size w wg) := Bw.out.trans (Hb13.out.mono Bw.out.size)
          clear Bw
          have Bw := Bw'
          clear Bw'
          clear Hb13
          clear hdl Hdn
          obtain ⟨x14, hx14⟩ : ∃ W, W = wg.alloc (.cells (addrCs addr0).toArray 27) := ⟨_, rfl⟩
          obtain ⟨y14, hy14⟩ : ∃ W, W = x14.setCells wg.heap.size 0 (addrCs b2) := ⟨_, rfl⟩
          obtain ⟨hth14, hbx14, hbe14⟩ := boxed wg x14 y14 27 (addrCs addr0) (addrCs b2) (by rw [addrCs_length Hb2.out, addrCs_length addr0_ok]) hx14 hy14
          rw [addr0_litA] at hx14
          have HX14 := Lib.hid hx14
          have HY14 := Lib.hid hy14
          have Hth14 := Lib.hid hth14
          have Hbe14 := Lib.hid hbe14
          have H14n := Lib.hid hbx14
          clear hx14 hy14 hth14 hbx14 hbe14
          have R3 := Lib.hid (blk_range H3.out)
          have R12 := Lib.hid (blk_range H12.out)
          go_upto_region 12 with (first
            | ((with_reducible refine gateL 27 ?_); refine wpList_load_g (by rfl) 27 (.tmp 3) rfl w.heap.size 0 rfl (addrCs a) _ R3.out Try.underlying27 rfl (addr_sz Ha.out) ?_)
            | ((with_reducible refine gateL 27 ?_); refine wpList_load_g (by rfl) 27 (.tmp 12) rfl w9.heap.size 0 rfl (addrCs b2) _ R12.out Try.underlying27 rfl (addr_sz Hb2.out) ?_)
            | (rw [← HX14.out]; (with_reducible refine gateS 27 ?_); refine wpList_store_mid rfl 27 (.tmp 14) (.tmp 71) rfl wg.heap.size 0 (addrCs b2).toArray rfl rfl Hth14.out (addr_szA Hb2.out) (addr_one b2) ?_))
          clear R3
          clear R12
          rw [← HY14.out]
          clear HX14 HY14 Hth14
          have H3' := Lib.hid (Blk.below H3.out Hbe14.out H3.out.lt)
          clear H3
          have H3 := H3'
          clear H3'
          have H12' := Lib.hid (Blk.below H12.out Hbe14.out H12.out.lt)
          clear H12
          have H12 := H12'
          clear H12'
          have Hm' := Lib.hid ((Hm.out.below Hbe14.out).more Hbe14.out.size)
          clear Hm
          have Hm := Hm'
          clear Hm'
          have Ho' := Lib.hid ((Ho.out.below Hbe14.out).more Hbe14.out.size)
          clear Ho
          have Ho := Ho'
          clear Ho'
          have HR3' := Lib.hid (HR3.out.below Hbe14.out)
          clear HR3
          have HR3 := HR3'
          clear HR3'
          have Bw' : Hid (Below w.heap.size w y14) := Bw.out.trans (Hbe14.out.mono Bw.out.size)
          clear Bw
          have Bw := Bw'
          clear Bw'
          have H14 := H14n
          clear H14n Hbe14
          have Eq14 := Lib.hid (addr_eqT (a := b2) rfl Hb2.out y14)
          have hKI : (K : Int) = (N : Int) + (us : Int) := by have := HK.out; omega
          have R3 := Lib.hid (blk_range H3.out)
          have R12 := Lib.hid (blk_range H12.out)
          have R14 := Lib.hid (blk_range H14.out)
          go_wp2_with (first
            | ((with_reducible refine gateL 27 ?_); refine wpList_load_g (by rfl) 27 (.tmp 3) rfl w.heap.size 0 rfl (addrCs a) _ R3.out Try.underlying27 rfl (addr_sz Ha.out) ?_)
            | ((with_reducible refine gateL 27 ?_); refine wpList_load_g (by rfl) 27 (.tmp 12) rfl w9.heap.size 0 rfl (addrCs b2) _ R12.out Try.underlying27 rfl (addr_sz Hb2.out) ?_)
            | ((with_reducible refine gateL 27 ?_); refine wpList_load_g (by rfl) 27 (.tmp 14) rfl wg.heap.size 0 rfl (addrCs b2) _ R14.out Try.underlying27 rfl (addr_sz Hb2.out) ?_)
            | ((with_reducible refine gateE 27 ?_); refine wpList_eqs_g (by rfl) 27 27 (.tmp 78) (.tmp 79) rfl (addrCs b2).toArray (addrCs b2).toArray rfl rfl addr_guard true Eq14.out ?_))
          clear R3
          clear R12
          clear R14
          clear Eq14
          refine (rdAt_rd _ g2 l _ y14 HR3.out).mono ?_
          rintro e w9' ⟨rfl, rfl⟩
          go_wp2_with fail
          refine (rdFault_sx _ g2 l _ y14 HR3.out).mono ?_
          rintro e wf ⟨rfl, hb15⟩
          have Hb15 := Lib.hid hb15
          clear hb15
          have H3' := Lib.hid (Blk.below H3.out Hb15.out H3.out.lt)
          clear H3
          have H3 := H3'
          clear H3'
          have H12' := Lib.hid (Blk.below H12.out Hb15.out H12.out.lt)
          clear H12
          have H12 := H12'
          clear H12'
          have H14' := Lib.hid (Blk.below H14.out Hb15.out H14.out.lt)
          clear H14
          have H14 := H14'
          clear H14'
          have Hm' := Lib.hid ((Hm.out.below Hb15.out).more Hb15.out.size)
          clear Hm
          have Hm := Hm'
          clear Hm'
          have Ho' := Lib.hid ((Ho.out.below Hb15.out).more Hb15.out.size)
          clear Ho
          have Ho := Ho'
          clear Ho'
          have HR3' := Lib.hid (HR3.out.below Hb15.out)
          clear HR3
          have HR3 := HR3'
          clear HR3'
          have Bw' : Hid (Below w.heap.size w wf) := Bw.out.trans (Hb15.out.mono Bw.out.size)
          clear Bw
          have Bw := Bw'
          clear Bw'
          clear Hb15
          go_wp2
          go_ret
          exact ⟨rfl, Bw.out⟩
  · have hlI : (1000 : Int) < (l.length : Int) := by omega
    go_enter Try.func9, Try.ntmps9
    go_upto_region 1 with fail
    rw [← HW.out]
    clear HW
    go_wp2_with fail
    refine (awake22 W).mono ?_
    rintro e w1 ⟨rfl, hb16⟩
    have Hb16 := Lib.hid hb16
    clear hb16
    have H3' := Lib.hid (Blk.below H3.out Hb16.out H3.out.lt)
    clear H3
    have H3 := H3'
    clear H3'
    have Hm' := Lib.hid ((Hm.out.below Hb16.out).more Hb16.out.size)
    clear Hm
    have Hm := Hm'
    clear Hm'
    have Bw' : Hid (Below w.heap.size w w1) := Bw.out.trans (Hb16.out.mono Bw.out.size)
    clear Bw
    have Bw := Bw'
    clear Bw'
    clear Hb16
    go_wp2_with fail
    refine (awake22 w1).mono ?_
    rintro e wz ⟨rfl, hb17⟩
    have Hb17 := Lib.hid hb17
    clear hb17
    have H3' := Lib.hid (Blk.below H3.out Hb17.out H3.out.lt)
    clear H3
    have H3 := H3'
    clear H3'
    have Hm' := Lib.hid ((Hm.out.below Hb17.out).more Hb17.out.size)
    clear Hm
    have Hm := Hm'
    clear Hm'
    have Bw' : Hid (Below w.heap.size w wz) := Bw.out.trans (Hb17.out.mono Bw.out.size)
    clear Bw
    have Bw := Bw'
    clear Bw'
    clear Hb17
    go_wp2
    go_ret
    exact ⟨rfl, Bw.out⟩
end Go.Proofs.Ytmkeljcjhcaigaa
