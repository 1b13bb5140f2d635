/- The document's Text, flag, Backend: bytes laid behind a row of the caller's own (printed by gen_evpt.py). -/
import Derived.Test.YtgohhojoahlfiaaGU
import Derived.Test.YtgohhojoahlfiaaEvRp
import Derived.Test.YtgohhojoahlfiaaEvN
namespace Go.Proofs.Ytgohhojoahlfiaa
open Go.RowKit
set_option linter.unusedVariables false
set_option linter.unusedSimpArgs false

theorem rputV_own (n : Nat) (w : World) (hn : n < 18446744073709551616) :
    Calls Try.prog 53 #[.int .u64 (n : Int)] w fun e w' => ∃ A c, e = .returned (.slice A (vput n).length c) ∧ w'.ownsRow w.heap.size 5 1 (.slice A (vput n).length c) (vput n).length (bcells (vput n)) ∧ Below w.heap.size w w' :=
  (refPut_any n w n rfl hn).mono fun e w' ⟨v, h1, h2, h3⟩ => by
    obtain ⟨A, c, rfl, _⟩ := own_slice h2
    exact ⟨A, c, h1, h2, h3⟩
set_option maxHeartbeats 1000000 in
set_option maxRecDepth 100000 in
theorem rtextD_any (B : Nat) (A : Option Addr) (c : Nat) (m x : List UInt8) (w : World) (hB : B ≤ w.heap.size) (hown : w.ownsRow B 5 1 (.slice A m.length c) m.length (bcells m)) (hx : x.length ≤ 1000000) (hm : m.length ≤ 1000000) :
    Calls Try.prog 50 #[.slice A m.length c, .string ⟨x.toArray⟩] w (RowIs B w (m ++ textB x)) := by
  obtain ⟨i0, hi0, hz0, hz1, hz2⟩ := info_parts u8_infoO
  have Hown := Lib.hid hown
  clear hown
  go_enter Try.func50, Try.ntmps50
  have hw64 : IntKind.u64.wrap (x.length : Int) = (x.length : Int) := IntWalk.u64_in _ (by omega)
  go_wp2_with fail
  refine (rputV_own x.length w (by omega)).mono ?_
  rintro e w2 ⟨A2, c2, rfl, hown2, hb2⟩
  have ho2 := own_below Hown.out hb2
  have hv := vput_le (n := x.length) (by omega)
  have hB2 : B ≤ w2.heap.size := Nat.le_trans hB hb2.size
  have Ho2 := Lib.hid ho2
  have HB2 := Lib.hid (BS.of_own hown2).1
  have Hg2 := Lib.hid (GU.of_below (B := B) hb2)
  clear hown2 hb2 ho2 Hown
  go_upto_region 2 with (at_builtin; refine wpList_append_bytes _ rfl _ _ 22 rfl B 5 i0 (.int .u8 0) 1 Try.underlying22 hi0 hz0 hz1 hz2 rfl (.slice A m.length c) m rfl Ho2.out _ A2 _ c2 (vput x.length) rfl rfl HB2.out (by unfold maxLen; omega) (by omega) hB2 ?_; intro A3 c3 w3 hown3 hg3 _)
  have Hg3 : Hid (GU B w w3) := Hg2.out.trans (GU.of_grown Ho2.out hg3)
  obtain ⟨m1, hm1⟩ : ∃ m1, m1 = m ++ vput x.length := ⟨_, rfl⟩
  have hm1l : m1.length ≤ 1000010 := by rw [hm1, List.length_append]; omega
  have hmt : m ++ textB x = m1 ++ x := by rw [hm1]; unfold textB; rw [List.append_assoc]
  rw [← hm1] at hown3
  rw [← List.length_append, ← hm1]
  have Hmt := Lib.hid hmt
  have Ho3 := Lib.hid hown3
  have hB3 : B ≤ w3.heap.size := Nat.le_trans hB Hg3.out.size
  have hsx : (⟨x.toArray⟩ : ByteArray).size = x.length := by simp [ByteArray.size]
  have Hsx := Lib.hid hsx
  clear hown3 hg3 hm1 Ho2 HB2 Hg2 hmt hsx
  go_wp2_with (at_builtin; refine Lib.wpList_append_own_string _ rfl (.tmp 11) (.tmp 12) 22 9 rfl B 5 i0 Try.underlying22 Try.underlying9 hi0 hz0 hz1 hz2 (.slice A3 m1.length c3) m1.length (bcells m1) rfl Ho3.out ⟨x.toArray⟩ rfl (by rw [Hsx.out]; unfold maxLen; omega) (by rw [Hsx.out]; omega) hB3 ?_; intro v4 w4 hown4 hg4 _)
  have Hg4 : Hid (GU B w w4) := Hg3.out.trans (GU.of_grown Ho3.out hg4)
  rw [Hsx.out, strCells_is, ← List.length_append, ← bcells_append, ← Hmt.out] at hown4
  obtain ⟨A4, c4, hv4, _⟩ := own_slice hown4
  subst hv4
  go_ret
  exact ⟨A4, c4, rfl, hown4, Hg4.out⟩
set_option maxHeartbeats 1000000 in
set_option maxRecDepth 100000 in
theorem rflagD_any (B : Nat) (A : Option Addr) (c : Nat) (m : List UInt8) (b : Bool) (w : World) (hB : B ≤ w.heap.size) (hown : w.ownsRow B 5 1 (.slice A m.length c) m.length (bcells m)) (hm : m.length ≤ 2000000) :
    Calls Try.prog 52 #[.slice A m.length c, .bool b] w (RowIs B w (m ++ flagB b)) := by
  obtain ⟨i0, hi0, hz0, hz1, hz2⟩ := info_parts u8_infoO
  have Hown := Lib.hid hown
  clear hown
  have hB1 : B ≤ w.heap.size + 1 := by omega
  rcases b with _ | _
  · go_enter Try.func52, Try.ntmps52
    go_wp2_with (at_builtin; refine wpList_append_bytes _ rfl (.tmp 9) (.tmp 10) 22 rfl B 5 i0 (.int .u8 0) 1 Try.underlying22 hi0 hz0 hz1 hz2 rfl (.slice A m.length c) m rfl (own_below Hown.out ((Below.refl _ _).alloc (Nat.le_refl _) _)) _ (some ⟨w.heap.size, 0, none⟩) 1 1 [0] rfl rfl (BS.one' w 0 _ rfl _) (by simp; unfold maxLen; omega) (by simp; omega) (by rw [show (w.alloc _).heap.size = w.heap.size + 1 by simp]; omega) ?_; intro A3 c3 w3 hown3 hg3 _)
    have hg : GU B w w3 := (GU.alloc w _).trans (GU.of_grown (own_below Hown.out ((Below.refl _ _).alloc (Nat.le_refl _) _)) hg3)
    go_wp2
    go_ret
    exact ⟨A3, c3, by simp [flagB], by simpa [flagB] using hown3, hg⟩
  · go_enter Try.func52, Try.ntmps52
    go_wp2_with (at_builtin; refine wpList_append_bytes _ rfl (.tmp 6) (.tmp 7) 22 rfl B 5 i0 (.int .u8 0) 1 Try.underlying22 hi0 hz0 hz1 hz2 rfl (.slice A m.length c) m rfl (own_below Hown.out ((Below.refl _ _).alloc (Nat.le_refl _) _)) _ (some ⟨w.heap.size, 0, none⟩) 1 1 [1] rfl rfl (BS.one' w 1 _ rfl _) (by simp; unfold maxLen; omega) (by simp; omega) (by rw [show (w.alloc _).heap.size = w.heap.size + 1 by simp]; omega) ?_; intro A3 c3 w3 hown3 hg3 _)
    have hg : GU B w w3 := (GU.alloc w _).trans (GU.of_grown (own_below Hown.out ((Below.refl _ _).alloc (Nat.le_refl _) _)) hg3)
    go_wp2
    go_ret
    exact ⟨A3, c3, by simp [flagB], by simpa [flagB] using hown3, hg⟩
/-- The box of a backend, and the row. -/
structure KSt (B : Nat) (w0 wr : World) (bx : Nat) (b : BackP) (A : Option Addr) (c : Nat) (m : List UInt8) : Prop where
  box : Blk wr bx 29 (backCs b).toArray
  own : wr.ownsRow B 5 1 (.slice A m.length c) m.length (bcells m)
  gu : GU B w0 wr
  le : B ≤ wr.heap.size
section
variable {B : Nat} {w0 wr w' : World} {bx : Nat} {b : BackP} {A A' : Option Addr} {c c' : Nat} {m m' : List UInt8}
theorem KSt.step (h : KSt B w0 wr bx b A c m) (hg : GU B wr w') (ho : w'.ownsRow B 5 1 (.slice A' m'.length c') m'.length (bcells m')) : KSt B w0 w' bx b A' c' m' :=
  ⟨hg.blk h.box (by decide), ho, h.gu.trans hg, Nat.le_trans h.le hg.size⟩
theorem KSt.below (h : KSt B w0 wr bx b A c m) (hb : Below wr.heap.size wr w') : KSt B w0 w' bx b A c m := h.step (GU.of_below hb) (own_below h.own hb)
theorem KSt.alloc (h : KSt B w0 wr bx b A c m) (o : Obj) : KSt B w0 (wr.alloc o) bx b A c m := h.below ((Below.refl _ _).alloc (Nat.le_refl _) _)
theorem KSt.drew (h : KSt B w0 wr bx b A c m) : KSt B w0 wr.drew bx b A c m := h.below (Below.refl _ _).drew
theorem KSt.grow (h : KSt B w0 wr bx b A c m) (hg : wr.grownBy w' (Value.slice A m.length c).ownBlock) (ho : w'.ownsRow B 5 1 (.slice A' m'.length c') m'.length (bcells m')) : KSt B w0 w' bx b A' c' m' := h.step (GU.of_grown h.own hg) ho
theorem KSt.addr (h : KSt B w0 wr bx b A c m) (hs : BackShape b) {k : Nat} {x : UInt8} (hk : b.addr.2[k]? = some x) : wr.cell? ⟨bx, 2 + k, none⟩ = some (.int .u8 (x.toNat : Int)) := by
  have hl : k < 16 := by have h16 : b.addr.2.length = 16 := hs.addr; have := (List.getElem?_eq_some_iff.1 hk).1; omega
  rw [h.box.cell, List.getElem?_toArray, show 2 + k = 1 + (k + 1) by omega, back_addr hs (by omega), addrCs, List.getElem?_cons_succ, bcells, List.getElem?_map, hk]
  rfl
theorem KSt.mac (h : KSt B w0 wr bx b A c m) (hs : BackShape b) {k : Nat} {x : UInt8} (hk : b.mac[k]? = some x) : wr.cell? ⟨bx, 19 + k, none⟩ = some (.int .u8 (x.toNat : Int)) := by
  have hl : k < 6 := by have h6 := hs.mac; have := (List.getElem?_eq_some_iff.1 hk).1; omega
  rw [h.box.cell, List.getElem?_toArray, back_mac hs hl, bcells, List.getElem?_map, hk]
  rfl
end
theorem take_snocE (xs : List UInt8) (k : Nat) (x : UInt8) (h : xs[k]? = some x) : xs.take (k + 1) = xs.take k ++ [x] := by
  rw [List.take_add_one, h]; rfl
theorem putS2_is (p : Nat) : putS 2 p true = [UInt8.ofNat (p / 256 % 256), UInt8.ofNat (p % 256)] := rfl

set_option maxHeartbeats 2000000 in
set_option maxRecDepth 100000 in
theorem rbackD_any (B : Nat) (A : Option Addr) (c : Nat) (m : List UInt8) (b : BackP) (hs0 : BackShape b) (ht : toldB b = true) (w : World) (hB : B ≤ w.heap.size) (hown : w.ownsRow B 5 1 (.slice A m.length c) m.length (bcells m)) (hm : m.length ≤ 1000) :
    Calls Try.prog 26 #[.slice A m.length c, .agg (backCs b).toArray] w (RowIs B w (m ++ backBytes b)) := by
  obtain ⟨i0, hi0, hz0, hz1, hz2⟩ := info_parts u8_infoO
  have hs := Lib.hid hs0
  simp only [toldB, Bool.and_eq_true, decide_eq_true_eq, inZ_iff] at ht
  obtain ⟨hnm, hp1, hp2⟩ := ht
  obtain ⟨bx, hbx⟩ : ∃ z, z = w.heap.size := ⟨_, rfl⟩
  obtain ⟨W0, hW⟩ : ∃ W, W = w.alloc (.cells (backCs b).toArray 29) := ⟨_, rfl⟩
  have hX : Blk W0 bx 29 (backCs b).toArray := by rw [hW, hbx]; exact Blk.new w _ _ _ rfl
  have h0 : KSt B w W0 bx b A c m := ⟨hX, by rw [hW]; exact own_below hown ((Below.refl _ _).alloc (Nat.le_refl _) _), by rw [hW]; exact GU.alloc w _, by rw [hW]; simp; omega⟩
  have H0 := Lib.hid h0
  have HW := Lib.hid hW
  have Hbx := Lib.hid hbx
  clear hW hX h0 hown hs0 hbx
  go_enter Try.func26, Try.ntmps26
  go_upto_region 1 with fail
  rw [← HW.out, ← Hbx.out]
  clear HW
  refine wp_region_noPanic ?_
  refine wp_region_held_drew (S := fun w' => Blk w' bx 29 (backCs b).toArray) (by kernel_rfl) (H0.out.drew.box) (fun hHeld => ?_)
  refine wpAnyH_take (i := 0) (v := ?_) rfl (by kernel_rfl) (by kernel_rfl) (by kernel_rfl) (fun _ _ _ h => h) (Or.inl ⟨by rfl, ?_⟩) hHeld ?_
  rotate_left
  · intro w' hSw
    skip
    go_simp
    try with_reducible rfl
  try (simp only [Act.put, List.getElem_toArray, List.getElem_cons_succ, List.getElem_cons_zero, List.setIfInBounds_toArray, List.set_cons_zero, List.set_cons_succ])
  refine wpAnyH_take (i := 1) (v := ?_) rfl (by kernel_rfl) (by kernel_rfl) (by kernel_rfl) (fun _ _ _ h => h) (Or.inl ⟨by rfl, ?_⟩) hHeld ?_
  rotate_left
  · intro w' hSw
    skip
    go_simp
    try with_reducible rfl
  try (simp only [Act.put, List.getElem_toArray, List.getElem_cons_succ, List.getElem_cons_zero, List.setIfInBounds_toArray, List.set_cons_zero, List.set_cons_succ])
  refine wpAnyH_take (i := 2) (v := ?_) rfl (by kernel_rfl) (by kernel_rfl) (by kernel_rfl) (fun _ _ _ h => h) (Or.inl ⟨by rfl, ?_⟩) hHeld ?_
  rotate_left
  · intro w' hSw
    have d0 := cb_name hSw
    go_simp
    try with_reducible rfl
  try (simp only [Act.put, List.getElem_toArray, List.getElem_cons_succ, List.getElem_cons_zero, List.setIfInBounds_toArray, List.set_cons_zero, List.set_cons_succ])
  refine wpAnyH_take (i := 4) (v := ?_) rfl (by kernel_rfl) (by kernel_rfl) (by kernel_rfl) (fun _ _ _ h => h) (Or.inl ⟨by rfl, ?_⟩) hHeld ?_
  rotate_left
  · intro w' hSw
    skip
    go_simp
    try with_reducible rfl
  try (simp only [Act.put, List.getElem_toArray, List.getElem_cons_succ, List.getElem_cons_zero, List.setIfInBounds_toArray, List.set_cons_zero, List.set_cons_succ])
  refine wpAnyH_take (i := 5) (v := ?_) rfl (by kernel_rfl) (by kernel_rfl) (by kernel_rfl) (fun _ _ _ h => h) (Or.inl ⟨by rfl, ?_⟩) hHeld ?_
  rotate_left
  · intro w' hSw
    skip
    go_simp
    try with_reducible rfl
  try (simp only [Act.put, List.getElem_toArray, List.getElem_cons_succ, List.getElem_cons_zero, List.setIfInBounds_toArray, List.set_cons_zero, List.set_cons_succ])
  refine wpAnyH_take (i := 6) (v := ?_) rfl (by kernel_rfl) (by kernel_rfl) (by kernel_rfl) (fun _ _ _ h => h) (Or.inl ⟨by rfl, ?_⟩) hHeld ?_
  rotate_left
  · intro w' hSw
    have d1 := cb_six hSw hs.out
    go_simp
    try with_reducible rfl
  try (simp only [Act.put, List.getElem_toArray, List.getElem_cons_succ, List.getElem_cons_zero, List.setIfInBounds_toArray, List.set_cons_zero, List.set_cons_succ])
  refine wpAnyH_ready (rs := [3]) (by kernel_rfl) (by simp) ?_
  refine AllReadyH.cons (i := 3) rfl (fun K hK => ?_) AllReadyH.nil
  go_simp
  refine (rtextD_any B A c m b.name _ H0.out.drew.le H0.out.drew.own (by omega) (by omega)).mono ?_
  rintro e w2 ⟨A2, c2, rfl, hown2, hg2⟩
  have h2 := H0.out.drew.step hg2 hown2
  obtain ⟨m2, hm2⟩ : ∃ m2, m2 = m ++ textB b.name := ⟨_, rfl⟩
  have hm2l : m2.length ≤ 1300 := by rw [hm2, List.length_append]; have := textB_len (x := b.name) (by omega); omega
  rw [← hm2] at h2 ⊢
  have H2 := Lib.hid h2
  have Hm2 := Lib.hid hm2
  have hBehind := h2.box
  clear h2 hg2 hown2 hm2 H0
  go_wp2_with fail
  refine hK.out _ _ hBehind (fun hHeld => ?_)
  clear hK K hBehind
  try (simp only [Act.put, List.getElem_toArray, List.getElem_cons_succ, List.getElem_cons_zero, List.setIfInBounds_toArray, List.set_cons_zero, List.set_cons_succ])
  refine wpAnyH_ready (rs := [7]) (by kernel_rfl) (by simp) ?_
  refine AllReadyH.cons (i := 7) rfl (fun K hK => ?_) AllReadyH.nil
  go_simp
  refine (rflagD_any B A2 c2 m2 b.addr.1 _ H2.out.le H2.out.own (by omega)).mono ?_
  rintro e w3 ⟨A3, c3, rfl, hown3, hg3⟩
  have h3 := H2.out.step hg3 hown3
  obtain ⟨m3, hm3⟩ : ∃ m3, m3 = m2 ++ flagB b.addr.1 := ⟨_, rfl⟩
  have hm3l : m3.length ≤ 1310 := by rw [hm3, List.length_append, flagB_len]; omega
  rw [← hm3] at h3 ⊢
  have H3 := Lib.hid h3
  have Hm3 := Lib.hid hm3
  have hBehind := h3.box
  clear h3 hg3 hown3 hm3 H2
  go_wp2_with fail
  refine hK.out _ _ hBehind (fun hHeld => ?_)
  clear hK K hBehind
  try (simp only [Act.put, List.getElem_toArray, List.getElem_cons_succ, List.getElem_cons_zero, List.setIfInBounds_toArray, List.set_cons_zero, List.set_cons_succ])
  refine wpAnyH_take (i := 8) (v := ?_) rfl (by kernel_rfl) (by kernel_rfl) (by kernel_rfl) (fun _ _ _ h => h) (Or.inl ⟨by rfl, ?_⟩) hHeld ?_
  rotate_left
  · intro w' hSw
    skip
    go_simp
    try with_reducible rfl
  try (simp only [Act.put, List.getElem_toArray, List.getElem_cons_succ, List.getElem_cons_zero, List.setIfInBounds_toArray, List.set_cons_zero, List.set_cons_succ])
  refine wpAnyH_done (by kernel_rfl) ?_ _
  refine NoPanic.normal ?_
  go_wp2_with fail
  go_loopw [0, 5] (fun v i wr => ∃ (k : Nat) (A' : Option Addr) (c' : Nat), k ≤ 16 ∧ i = .int .i64 (k : Int) ∧ v = .slice A' (m3 ++ b.addr.2.take k).length c' ∧ Hid (KSt B w wr bx b A' c' (m3 ++ b.addr.2.take k))) (fun _ i _ => 16 - (intOf i).toNat)
  case atStart => exact ⟨0, A3, c3, by omega, rfl, by simp, by have := H3; simpa using this⟩
  case round =>
    clear H3
    obtain ⟨k, A', c', hk, rfl, rfl, hat⟩ := hrel
    rename World => wr
    by_cases hlt : k < 16
    · have hltI : (k : Int) < 16 := by omega
      have hk0 : (0 : Int) ≤ (k : Int) := by omega
      obtain ⟨x, hx⟩ : ∃ x, b.addr.2[k]? = some x := ⟨_, List.getElem?_eq_getElem (by have := hs.out.mac; have : b.addr.2.length = 16 := hs.out.addr; omega)⟩
      have d0 := hat.out.addr hs.out hx
      obtain ⟨m', hm'⟩ : ∃ m', m' = m3 ++ b.addr.2.take k := ⟨_, rfl⟩
      have hm2 : m3 ++ b.addr.2.take (k + 1) = m' ++ [x] := by rw [take_snocE _ _ _ hx, ← List.append_assoc, ← hm']
      have hml : m'.length ≤ 1326 := by
        rw [hm', List.length_append, List.length_take]
        omega
      rw [← hm'] at hat ⊢
      have hle := hat.out.le
      have Hm2' := Lib.hid hm2
      clear hm' hm2 hx
      go_wp2_with (at_builtin; refine wpList_append_bytes _ rfl (.tmp 19) (.tmp 25) 22 rfl B 5 i0 (.int .u8 0) 1 Try.underlying22 hi0 hz0 hz1 hz2 rfl (.slice A' m'.length c') m' rfl (hat.out.alloc _).own _ (some ⟨wr.heap.size, 0, none⟩) 1 1 [x] rfl rfl (BS.one' wr x _ rfl _) (by simp; unfold maxLen; omega) (by simp; omega) (by rw [show (wr.alloc _).heap.size = wr.heap.size + 1 by simp]; omega) ?_; intro A6 c6 w6 hown6 hg6 _)
      have h6 := (hat.out.alloc _).grow hg6 hown6
      rw [← Hm2'.out] at h6
      have H6 := Lib.hid h6
      have Hlen : Hid ((m3 ++ b.addr.2.take (k + 1)).length = m'.length + 1) := by show _ = _; rw [Hm2'.out, List.length_append]; rfl
      clear h6 hown6 hg6 hat d0
      go_roundw
      case rel => exact ⟨k + 1, A6, c6, by omega, by go_num, by rw [Hlen.out], H6⟩
      case measure => simp [intOf]; omega
    · have hltI : ¬ (k : Int) < 16 := by omega
      obtain rfl : k = 16 := by omega
      have hkI : (((16 : Nat)) : Int) = 16 := rfl
      rw [List.take_of_length_le (by have := hs.out.mac; have : b.addr.2.length = 16 := hs.out.addr; omega)] at hat
      obtain ⟨m', hm'⟩ : ∃ m', m' = m3 ++ b.addr.2 := ⟨_, rfl⟩
      rw [List.take_of_length_le (by have := hs.out.mac; have : b.addr.2.length = 16 := hs.out.addr; omega)]
      rw [← hm'] at hat ⊢
      have Hm4 := Lib.hid hm'
      have hml : m'.length ≤ 1327 := by
        rw [hm', List.length_append]
        have := hs.out.mac; have : b.addr.2.length = 16 := hs.out.addr
        omega
      clear hm'
      obtain ⟨m4, hm4⟩ : ∃ z, z = m' := ⟨_, rfl⟩
      rw [← hm4] at hat Hm4 hml ⊢
      clear hm4
      have d0 := cb_port hat.out.box hs.out
      have hle := hat.out.le
      obtain ⟨L2, hL2⟩ : ∃ L2, L2 = putS 2 b.port.toNat true := ⟨_, rfl⟩
      have HL2l : Hid (L2.length = 2) := by rw [hL2]; exact putS_length _ _ _
      have hu2 : b.port / 256 = ((UInt8.ofNat (b.port.toNat / 256 % 256)).toNat : Int) := by rw [UInt8.toNat_ofNat']; omega
      have hu3 : b.port % 256 = ((UInt8.ofNat (b.port.toNat % 256)).toNat : Int) := by rw [UInt8.toNat_ofNat']; omega
      have Hcs : Hid ((#[.int .u8 (b.port / 256), .int .u8 (b.port % 256)] : Array Value) = (bcells L2).toArray) := by
        show _ = _
        rw [hL2, putS2_is]
        simp only [bcells, List.map_cons, List.map_nil, u8v]
        rw [← hu2, ← hu3]
      have HL2 := Lib.hid hL2
      clear hL2 hu2 hu3
      go_upto_region 7 with (at_builtin; refine wpList_append_bytes _ rfl (.tmp 27) (.tmp 36) 22 rfl B 5 i0 (.int .u8 0) 1 Try.underlying22 hi0 hz0 hz1 hz2 rfl (.slice A' m4.length c') m4 rfl (hat.out.alloc _).own _ (some ⟨wr.heap.size, 0, none⟩) 2 2 L2 rfl HL2l.out.symm (BS.lit wr L2 _ Hcs.out _ _) (by rw [HL2l.out]; unfold maxLen; omega) (by rw [HL2l.out]; omega) (by rw [show (wr.alloc _).heap.size = wr.heap.size + 1 by simp]; omega) ?_; intro A5 c5 w5 hown5 hg5 _)
      have h5 := (hat.out.alloc _).grow hg5 hown5
      obtain ⟨m5, hm5⟩ : ∃ z, z = m4 ++ L2 := ⟨_, rfl⟩
      have hm5l : m5.length ≤ 1335 := by rw [hm5, List.length_append, HL2l.out]; omega
      rw [← hm5] at h5
      try rw [show (m4.length + 2 : Nat) = (m4 ++ L2).length by rw [List.length_append, HL2l.out]]
      try rw [← List.length_append]
      rw [← hm5]
      rw [HL2.out] at hm5
      have H5 := Lib.hid h5
      have Hm5 := Lib.hid hm5
      clear h5 hown5 hg5 hat Hcs HL2 HL2l hm5 d0
      go_wp2_with fail
      go_loopw [0, 6] (fun v i wr => ∃ (k : Nat) (A' : Option Addr) (c' : Nat), k ≤ 6 ∧ i = .int .i64 (k : Int) ∧ v = .slice A' (m5 ++ b.mac.take k).length c' ∧ Hid (KSt B w wr bx b A' c' (m5 ++ b.mac.take k))) (fun _ i _ => 6 - (intOf i).toNat)
      case atStart => exact ⟨0, A5, c5, by omega, rfl, by simp, by have := H5; simpa using this⟩
      case round =>
        clear H5
        obtain ⟨k, A', c', hk, rfl, rfl, hat⟩ := hrel
        rename World => wr
        by_cases hlt : k < 6
        · have hltI : (k : Int) < 6 := by omega
          have hk0 : (0 : Int) ≤ (k : Int) := by omega
          obtain ⟨x, hx⟩ : ∃ x, b.mac[k]? = some x := ⟨_, List.getElem?_eq_getElem (by have := hs.out.mac; have : b.addr.2.length = 16 := hs.out.addr; omega)⟩
          have d0 := hat.out.mac hs.out hx
          obtain ⟨m', hm'⟩ : ∃ m', m' = m5 ++ b.mac.take k := ⟨_, rfl⟩
          have hm2 : m5 ++ b.mac.take (k + 1) = m' ++ [x] := by rw [take_snocE _ _ _ hx, ← List.append_assoc, ← hm']
          have hml : m'.length ≤ 1341 := by
            rw [hm', List.length_append, List.length_take]
            omega
          rw [← hm'] at hat ⊢
          have hle := hat.out.le
          have Hm2' := Lib.hid hm2
          clear hm' hm2 hx
          go_wp2_with (at_builtin; refine wpList_append_bytes _ rfl (.tmp 42) (.tmp 47) 22 rfl B 5 i0 (.int .u8 0) 1 Try.underlying22 hi0 hz0 hz1 hz2 rfl (.slice A' m'.length c') m' rfl (hat.out.alloc _).own _ (some ⟨wr.heap.size, 0, none⟩) 1 1 [x] rfl rfl (BS.one' wr x _ rfl _) (by simp; unfold maxLen; omega) (by simp; omega) (by rw [show (wr.alloc _).heap.size = wr.heap.size + 1 by simp]; omega) ?_; intro A6 c6 w6 hown6 hg6 _)
          have h6 := (hat.out.alloc _).grow hg6 hown6
          rw [← Hm2'.out] at h6
          have H6 := Lib.hid h6
          have Hlen : Hid ((m5 ++ b.mac.take (k + 1)).length = m'.length + 1) := by show _ = _; rw [Hm2'.out, List.length_append]; rfl
          clear h6 hown6 hg6 hat d0
          go_roundw
          case rel => exact ⟨k + 1, A6, c6, by omega, by go_num, by rw [Hlen.out], H6⟩
          case measure => simp [intOf]; omega
        · have hltI : ¬ (k : Int) < 6 := by omega
          obtain rfl : k = 6 := by omega
          have hkI : (((6 : Nat)) : Int) = 6 := rfl
          rw [List.take_of_length_le (by have := hs.out.mac; have : b.addr.2.length = 16 := hs.out.addr; omega)] at hat
          obtain ⟨m', hm'⟩ : ∃ m', m' = m5 ++ b.mac := ⟨_, rfl⟩
          rw [List.take_of_length_le (by have := hs.out.mac; have : b.addr.2.length = 16 := hs.out.addr; omega)]
          rw [← hm'] at hat ⊢
          have Hm6 := Lib.hid hm'
          have hml : m'.length ≤ 1342 := by
            rw [hm', List.length_append]
            have := hs.out.mac; have : b.addr.2.length = 16 := hs.out.addr
            omega
          clear hm'
          obtain ⟨m6, hm6⟩ : ∃ z, z = m' := ⟨_, rfl⟩
          rw [← hm6] at hat Hm6 hml ⊢
          clear hm6
          have d1 := cb_wt hat.out.box hs.out
          have hwt := hs.out.wt
          go_wp2_with fail
          refine (refWPut_any b.wt wr hwt).mono ?_
          rintro e w7 ⟨A7, c7, rfl, hown7, hb7⟩
          have h7 := hat.out.below hb7
          have H7 := Lib.hid h7
          have hw8 := wput_len b.wt
          have HW7 := Lib.hid (BS.of_own (l := wput b.wt) (n := (wput b.wt).length) (by rw [hw8]; exact hown7)).1
          have hle7 := h7.le
          clear h7 hown7 hb7 hat d1
          go_upto_region 12 with (at_builtin; refine wpList_append_bytes _ rfl _ _ 22 rfl B 5 i0 (.int .u8 0) 1 Try.underlying22 hi0 hz0 hz1 hz2 rfl (.slice A' m6.length c') m6 rfl H7.out.own _ A7 8 c7 (wput b.wt) rfl hw8.symm HW7.out (by rw [hw8]; unfold maxLen; omega) (by rw [hw8]; omega) hle7 ?_; intro A8 c8 w8 hown8 hg8 _)
          have h8 := H7.out.grow hg8 hown8
          obtain ⟨m7, hm7⟩ : ∃ z, z = m6 ++ wput b.wt := ⟨_, rfl⟩
          have hm7l : m7.length ≤ 1400 := by rw [hm7, List.length_append, hw8]; omega
          try rw [← hw8]
          rw [← hm7] at h8
          rw [← List.length_append, ← hm7]
          have H8 := Lib.hid h8
          have Hm7 := Lib.hid hm7
          have d2 := cb_drain h8.box hs.out
          clear h8 hown8 hg8 H7 HW7 hm7 hw8
          go_wp2_with fail
          refine (rflagD_any B A8 c8 m7 b.drain w8 H8.out.le H8.out.own (by omega)).mono ?_
          rintro e w9 ⟨A9, c9, rfl, hown9, hg9⟩
          have hend : GU B w w9 := H8.out.gu.trans hg9
          obtain ⟨m8, hm8⟩ : ∃ z, z = m7 ++ flagB b.drain := ⟨_, rfl⟩
          have Hfin : Hid (m ++ backBytes b = m8) := by
            show _ = _
            rw [hm8, Hm7.out, Hm6.out, Hm5.out, Hm4.out, Hm3.out, Hm2.out]
            unfold backBytes
            simp only [List.append_assoc]
          rw [← hm8] at hown9 ⊢
          clear hm8
          go_wp2
          go_ret
          rw [Hfin.out]
          exact ⟨A9, c9, rfl, hown9, hend⟩
end Go.Proofs.Ytgohhojoahlfiaa
