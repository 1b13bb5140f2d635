/- Laid into one text: EvX EvY EvZ EvAp. -/
import Derived.Test.YtgohhojoahlfiaaEvA
import Derived.Test.YtgohhojoahlfiaaWrA
import Derived.Lib.ConvBytes
import Derived.Deep.RegionHeld3
import Derived.Test.YtgohhojoahlfiaaEvW

/- The writer's steps as an event's bytes are laid: no fault, as long as there is room. -/
namespace Go.Proofs.Ytgohhojoahlfiaa
open Go.RowKit
set_option linter.unusedVariables false
set_option linter.unusedSimpArgs false

/-- Block g is a writer that has written l. -/
def WAt (w : World) (g : Nat) (l : List UInt8) : Prop := ∃ A c, Wtr w g g A c 1048576 (l, 0)
/-- What was below g is as it was; so is whatever is no row of bytes, but g itself. -/
structure WStep (w w' : World) (g : Nat) : Prop where
  bel : Below g w w'
  size : w.heap.size ≤ w'.heap.size
  blk : ∀ {k : Nat} {t : TypeId} {cs : Array Value}, Blk w k t cs → t ≠ 5 → k ≠ g → Blk w' k t cs
theorem WStep.trans {a b c : World} {g : Nat} (h : WStep a b g) (k : WStep b c g) : WStep a c g :=
  ⟨h.bel.trans k.bel, Nat.le_trans h.size k.size, fun hb ht hk => k.blk (h.blk hb ht hk) ht hk⟩
theorem WStep.of_below {w w' : World} {g : Nat} (h : Below w.heap.size w w') (hg : g ≤ w.heap.size) : WStep w w' g :=
  ⟨h.mono hg, h.size, fun hb _ _ => Blk.below hb h hb.lt⟩
theorem WStep.refl (w : World) (g : Nat) : WStep w w g := ⟨Below.refl _ _, Nat.le_refl _, fun hb _ _ => hb⟩
theorem WAt.below {w w' : World} {g : Nat} {l : List UInt8} (h : WAt w g l) (hb : Below w.heap.size w w') : WAt w' g l := by
  obtain ⟨A, c, h⟩ := h
  exact ⟨A, c, Wtr.below h hb⟩
theorem WAt.lt {w : World} {g : Nat} {l : List UInt8} (h : WAt w g l) : g < w.heap.size := by
  obtain ⟨A, c, h⟩ := h
  exact h.1.lt
theorem ownBlock_flat (A : Option Addr) (n c : Nat) : (Value.slice A n c).ownBlock = (Value.slice A 0 0).ownBlock := by cases A <;> rfl
/-- What a step of the writer ends in. -/
def WEnd (w : World) (g : Nat) (l : List UInt8) (e : Ending) (w' : World) : Prop := e = .returned (.tuple #[]) ∧ WAt w' g l ∧ WStep w w' g
theorem wend {w w' : World} {g : Nat} {A : Option Addr} {c : Nat} {s : WSt} {l : List UInt8} {s' : WSt} {x : Ending} (h : Wtr w g g A c 1048576 s) (hi : WtrIs w g g A 1048576 s' x w') (hs : s' = (l, 0)) : WEnd w g l x w' := by
  subst hs
  obtain ⟨rfl, A', c', hW, ho, _⟩ := hi
  refine ⟨rfl, ⟨A', c', hW⟩, ⟨ho.below (Nat.le_refl _) (fun k hk => ?_) (Nat.le_of_lt h.1.lt), ho.2.2.2.1, fun {k t cs} hb ht hk => ho.blk hb hk (fun e => ?_)⟩⟩
  · exact (h.2.1.lt k (by rw [ownBlock_flat]; exact hk)).1
  · rcases own_blk_ne h.2.1 hb ht with h1 | h1
    · rw [ownBlock_flat] at h1
      rw [h1] at e
      cases e
    · rw [ownBlock_flat] at h1
      exact h1 e.symm
theorem bytes_room {l b : List UInt8} (h : l.length + b.length ≤ 1048576) : bytesS 1048576 (l, 0) b = (l ++ b, 0) := by
  unfold bytesS
  rw [if_neg (by simp), if_neg (by simp only; omega)]
theorem ewNum {w : World} {g : Nat} {l : List UInt8} (h : WAt w g l) (m k : Nat) (sz : Int) (big : Bool) (hsz : sz = (k : Int)) (hk1 : 1 ≤ k) (hk8 : k ≤ 8) (hm : m < 18446744073709551616) (hl : l.length + 8 ≤ 1048576) :
    Calls Try.prog 45 #[.pointer (some ⟨g, 0, none⟩), .int .u64 (m : Int), .int .i64 sz, .bool big] w (WEnd w g (l ++ putS k m big)) := by
  subst hsz
  obtain ⟨A, c, h⟩ := h
  have hc : clampN (k : Int) = k := by unfold clampN; omega
  refine (wrNum_any g g A c 1048576 (l, 0) w m (k : Int) big h hm (by decide) (by simp only; omega)).mono fun e w' hi => wend h hi ?_
  unfold numW
  rw [if_neg (by rintro ⟨_, h1 | h1⟩ <;> omega), hc]
  exact bytes_room (by rw [putS_length]; omega)
theorem ewVar {w : World} {g : Nat} {l : List UInt8} (h : WAt w g l) (n : Nat) (hn : n < 18446744073709551616) (hl : l.length + 10 ≤ 1048576) :
    Calls Try.prog 47 #[.pointer (some ⟨g, 0, none⟩), .int .u64 (n : Int)] w (WEnd w g (l ++ vput n)) := by
  obtain ⟨A, c, h⟩ := h
  have := vput_le (n := n) hn
  exact (wrVar_any g g A c 1048576 (l, 0) w n h hn (by decide) (by simp only; omega)).mono fun e w' hi => wend h hi (bytes_room (by omega))
theorem ewText {w : World} {g : Nat} {l : List UInt8} (h : WAt w g l) (X : Option Addr) (n d : Nat) (b : List UInt8) (hn : n = b.length) (hb : BS w w.heap.size X b) (hl : l.length + b.length + 10 ≤ 1048576) :
    Calls Try.prog 48 #[.pointer (some ⟨g, 0, none⟩), .slice X n d] w (WEnd w g (l ++ (vput b.length ++ b))) := by
  subst hn
  obtain ⟨A, c, h⟩ := h
  have := vput_le (n := b.length) (by omega)
  exact (wrText_any g g A c 1048576 (l, 0) w X d b h hb (by decide) (by simp only; omega) (by omega)).mono fun e w' hi => wend h hi (bytes_room (by rw [List.length_append]; omega))
theorem ewBytes {w : World} {g : Nat} {l : List UInt8} (h : WAt w g l) (X : Option Addr) (n d : Nat) (b : List UInt8) (hn : n = b.length) (hb : BS w w.heap.size X b) (hl : l.length + b.length ≤ 1048576) :
    Calls Try.prog 77 #[.pointer (some ⟨g, 0, none⟩), .slice X n d] w (WEnd w g (l ++ b)) := by
  obtain ⟨A, c, h⟩ := h
  exact (wrBytes_any g g A c 1048576 (l, 0) X n d b w h hn hb (by decide) (by simp only; omega) (by omega)).mono fun e w' hi => wend h hi (bytes_room hl)
/-- '[]byte(s)': the world behind it, and what it reads as. -/
theorem bytesWorld_below (w : World) (e : TypeId) (s : ByteArray) : Below w.heap.size w (Lib.bytesWorld w e s) :=
  ⟨rfl, rfl, rfl, by rw [Lib.bytesWorld_size]; omega, fun k hk => Lib.bytesWorld_at_old w e s k hk⟩
theorem bytesWorld_bs (w : World) (e : TypeId) (l : List UInt8) : BS (Lib.bytesWorld w e ⟨l.toArray⟩) (Lib.bytesWorld w e ⟨l.toArray⟩).heap.size (some ⟨w.heap.size, 0, none⟩) l := fun hn => by
  refine ⟨⟨w.heap.size, 0, none⟩, rfl, by rw [Lib.bytesWorld_size]; show w.heap.size < _; omega, fun j c hj => ?_⟩
  have hjl := (List.getElem?_eq_some_iff.1 hj).1
  have := Lib.bytesWorld_cell w e ⟨l.toArray⟩ j (show j < l.toArray.size by simpa using hjl)
  rw [show (⟨w.heap.size, 0, none⟩ : Addr).add j = ⟨w.heap.size, j, none⟩ by unfold Addr.add; split <;> simp_all, this]
  simp [List.getD, hj, u8v]
theorem conv_bytes (w : World) (l : List UInt8) : (convert 9 22 (.string ⟨l.toArray⟩)).run Try.prog w = .ok (.slice (some ⟨w.heap.size, 0, none⟩) l.length (grownCap w l.length 0 5)) (Lib.bytesWorld w 5 ⟨l.toArray⟩) :=
  Lib.run_convert_string_bytes (P := Try.prog) w 9 22 5 ⟨l.toArray⟩ Try.underlying9 Try.underlying22 Try.underlying5
end Go.Proofs.Ytgohhojoahlfiaa

/- laid.flag, laid.backend, laid.act of package event (printed by gen_evput.py). -/
namespace Go.Proofs.Ytgohhojoahlfiaa
open Go.RowKit
set_option linter.unusedVariables false
set_option linter.unusedSimpArgs false

/-- The bytes of a backend; of an act. -/
def flagB (b : Bool) : List UInt8 := if b then [1] else [0]
def textB (x : List UInt8) : List UInt8 := vput x.length ++ x
def backBytes (b : BackP) : List UInt8 := textB b.name ++ (flagB b.addr.1 ++ (b.addr.2 ++ (putS 2 b.port.toNat true ++ (b.mac ++ (wput b.wt ++ flagB b.drain)))))
def actBytes (a : ActP) : List UInt8 :=
  putS 1 a.kind.toNat true ++
    (if a.kind = 1 then textB a.frame
     else if a.kind = 2 then putS 1 a.op.toNat true ++ (if a.op = 1 then backBytes a.back else textB a.oname ++ (if a.op = 3 then wput a.owt else []))
     else if a.kind = 3 then textB a.name ++ flagB a.well else [])
theorem flagB_len (b : Bool) : (flagB b).length = 1 := by cases b <;> rfl
theorem textB_len {x : List UInt8} (h : x.length ≤ 1000000) : (textB x).length ≤ x.length + 10 := by
  have := vput_le (n := x.length) (by omega)
  rw [textB, List.length_append]; omega
theorem put1_flag (b : Bool) : putS 1 (if b then 1 else 0) true = flagB b := by cases b <;> decide
theorem laid_sz : (Try.prog.info? 84).map (·.size) = some 1 := by kernel_rfl
def laidV (g : Nat) : Value := .agg #[.pointer (some ⟨g, 0, none⟩)]
set_option maxRecDepth 100000 in
theorem wflag_any {w : World} {g : Nat} {l : List UInt8} (h : WAt w g l) (b : Bool) (hl : l.length + 8 ≤ 1048576) :
    Calls Try.prog 46 #[laidV g, .bool b] w (WEnd w g (l ++ flagB b)) := by
  rw [← put1_flag]
  unfold laidV
  obtain ⟨W, hW⟩ : ∃ W, W = w.alloc (.cells #[.pointer (some ⟨g, 0, none⟩)] 84) := ⟨_, rfl⟩
  have hX : Blk W w.heap.size 84 #[.pointer (some ⟨g, 0, none⟩)] := by rw [hW]; exact Blk.new w _ _ _ rfl
  have hB : Below w.heap.size w W := by rw [hW]; exact (Below.refl _ _).alloc (Nat.le_refl _) _
  have HA := Lib.hid (h.below hB)
  have HS := Lib.hid (WStep.of_below hB (Nat.le_of_lt h.lt))
  have d0 : W.cell? ⟨w.heap.size, 0, none⟩ = some (.pointer (some ⟨g, 0, none⟩)) := hX.cell 0
  have HW := Lib.hid hW
  clear hW hX hB h
  rcases b with _ | _
  · have hc := Lib.hid (ewNum HA.out 0 1 1 true rfl (by decide) (by decide) (by decide) hl)
    go_enter Try.func46, Try.ntmps46
    go_upto_region 1 with fail
    rw [← HW.out]
    go_wp2_with fail
    refine hc.out.mono ?_
    rintro e w2 ⟨rfl, h2, hs2⟩
    go_wp2
    go_end0
    exact ⟨rfl, h2, HS.out.trans hs2⟩
  · have hc := Lib.hid (ewNum HA.out 1 1 1 true rfl (by decide) (by decide) (by decide) hl)
    go_enter Try.func46, Try.ntmps46
    go_upto_region 1 with fail
    rw [← HW.out]
    go_wp2_with fail
    refine hc.out.mono ?_
    rintro e w2 ⟨rfl, h2, hs2⟩
    go_wp2
    go_end0
    exact ⟨rfl, h2, HS.out.trans hs2⟩
theorem box_bs {w : World} {k : Nat} {b : BackP} (hb : Blk w k 29 (backCs b).toArray) (h : BackShape b) : BS w w.heap.size (some ⟨k, 2, none⟩) b.addr.2 := fun hn => by
  refine ⟨_, rfl, hb.lt, fun j c hj => ?_⟩
  have := cb_addr hb h (1 + j) (u8v c) (by rw [addrCs, show 1 + j = j + 1 by omega, List.getElem?_cons_succ, bcells, List.getElem?_map, hj]; rfl)
  rw [show (⟨k, 2, none⟩ : Addr).add j = ⟨k, 1 + (1 + j), none⟩ by unfold Addr.add; split <;> simp_all <;> omega]
  exact this
theorem box_mac {w : World} {k : Nat} {b : BackP} (hb : Blk w k 29 (backCs b).toArray) (h : BackShape b) : BS w w.heap.size (some ⟨k, 19, none⟩) b.mac := fun hn => by
  refine ⟨_, rfl, hb.lt, fun j c hj => ?_⟩
  have := cb_mac hb h j (u8v c) (by rw [bcells, List.getElem?_map, hj]; rfl)
  rw [show (⟨k, 19, none⟩ : Addr).add j = ⟨k, 19 + j, none⟩ by unfold Addr.add; split <;> simp_all]
  exact this
set_option maxHeartbeats 2000000 in
set_option maxRecDepth 100000 in
theorem wback_any {w : World} {g : Nat} {l : List UInt8} (h : WAt w g l) (b : BackP) (hb0 : BackShape b) (hp : 0 ≤ b.port ∧ b.port ≤ 65535) (hn : b.name.length ≤ 1000) (hl : l.length + 2000 ≤ 1048576) :
    Calls Try.prog 68 #[laidV g, .agg (backCs b).toArray] w (WEnd w g (l ++ backBytes b)) := by
  have hb := Lib.hid hb0
  obtain ⟨hp0, hp1⟩ := hp
  obtain ⟨P, hP⟩ : ∃ P : Nat, P = b.port.toNat := ⟨_, rfl⟩
  have hPI : b.port = (P : Int) := by omega
  have HP := Lib.hid hP
  have HPI := Lib.hid hPI
  have hPb : P ≤ 65535 := by omega
  unfold laidV
  clear hb0 hP hPI hp0 hp1
  obtain ⟨W1, hW1⟩ : ∃ W, W = w.alloc (.cells #[.pointer (some ⟨g, 0, none⟩)] 84) := ⟨_, rfl⟩
  obtain ⟨W, hW⟩ : ∃ W, W = W1.alloc (.cells (backCs b).toArray 29) := ⟨_, rfl⟩
  have hs1 : W1.heap.size = w.heap.size + 1 := by rw [hW1]; simp
  have hX1 : Blk W1 w.heap.size 84 #[.pointer (some ⟨g, 0, none⟩)] := by rw [hW1]; exact Blk.new w _ _ _ rfl
  have HX : Hid (Blk W w.heap.size 84 #[.pointer (some ⟨g, 0, none⟩)]) := by rw [hW]; exact Blk.alloc hX1 _
  have HY : Hid (Blk W (w.heap.size + 1) 29 (backCs b).toArray) := by rw [hW, ← hs1]; exact Blk.new W1 _ _ _ rfl
  have hB : Below w.heap.size w W := by rw [hW, hW1]; exact ((Below.refl _ _).alloc (Nat.le_refl _) _).alloc (by simp) _
  have hgw := h.lt
  have hneX : w.heap.size ≠ g := by omega
  have hneY : w.heap.size + 1 ≠ g := by omega
  have HA := Lib.hid (h.below hB)
  have HS := Lib.hid (WStep.of_below hB (Nat.le_of_lt hgw))
  have HW1 := Lib.hid hW1
  have HW := Lib.hid hW
  clear hW1 hW hX1 hs1 h
  have d0 : W.cell? ⟨w.heap.size, 0, none⟩ = some (.pointer (some ⟨g, 0, none⟩)) := HX.out.cell 0
  have d1 := cb_name HY.out
  have hcv := conv_bytes W b.name
  go_enter Try.func68, Try.ntmps68
  go_upto_region 1 with fail
  rw [← HW1.out]
  rw [← HW.out]
  clear HW1 HW
  go_wp2_with fail
  have hbw := bytesWorld_below W 5 ⟨b.name.toArray⟩
  refine (ewText (HA.out.below hbw) _ _ _ b.name rfl (bytesWorld_bs W 5 b.name) (by omega)).mono ?_
  rintro e v1 ⟨rfl, H1, hs0⟩
  have hs1 := (WStep.of_below hbw (Nat.le_of_lt HA.out.lt)).trans hs0
  clear hbw hs0 hcv d0 d1
  have HS2 := Lib.hid (HS.out.trans hs1)
  have HX2 := Lib.hid (hs1.blk HX.out (by decide) hneX)
  have HY2 := Lib.hid (hs1.blk HY.out (by decide) hneY)
  clear HS HX HY HA hs1
  have HS := HS2
  have HX := HX2
  have HY := HY2
  clear HS2 HX2 HY2
  obtain ⟨l1, hl1⟩ : ∃ x, x = l ++ (vput b.name.length ++ b.name) := ⟨_, rfl⟩
  rw [← hl1] at H1
  have n1 : l1.length ≤ l.length + (b.name.length + 10) := by rw [hl1, List.length_append]; have := textB_len (x := b.name) (by omega); rw [textB] at this; omega
  have Q1 := Lib.hid hl1
  have HA := Lib.hid H1
  clear H1 hl1
  have d0 : v1.cell? ⟨w.heap.size, 0, none⟩ = some (.pointer (some ⟨g, 0, none⟩)) := HX.out.cell 0
  have d2 := cb_six HY.out hb.out
  go_wp2_with (first
      | ((with_reducible refine gateL 84 ?_); refine wpList_load_g (by rfl) 84 (.tmp 2) rfl w.heap.size 0 rfl [.pointer (some ⟨g, 0, none⟩)] _ (blk_range (cs := [.pointer (some ⟨g, 0, none⟩)]) HX.out) Try.underlying84 rfl laid_sz ?_))
  refine (wflag_any HA.out b.addr.1 (by omega)).mono ?_
  rintro e v2 ⟨rfl, H1, hs1⟩
  have HS2 := Lib.hid (HS.out.trans hs1)
  have HX2 := Lib.hid (hs1.blk HX.out (by decide) hneX)
  have HY2 := Lib.hid (hs1.blk HY.out (by decide) hneY)
  clear HS HX HY HA hs1
  have HS := HS2
  have HX := HX2
  have HY := HY2
  clear HS2 HX2 HY2
  obtain ⟨l2, hl2⟩ : ∃ x, x = l1 ++ flagB b.addr.1 := ⟨_, rfl⟩
  rw [← hl2] at H1
  have n2 : l2.length ≤ l1.length + 1 := by rw [hl2, List.length_append]; rw [flagB_len]; omega
  have Q2 := Lib.hid hl2
  have HA := Lib.hid H1
  clear H1 hl2
  clear d0 d2
  go_upto_region 3 with fail
  have HXd : Blk v2.drew w.heap.size 84 #[.pointer (some ⟨g, 0, none⟩)] := HX.out.drew
  refine wp_region_noPanic ?_
  refine wp_region_held_drew (S := fun w' => Blk w' w.heap.size 84 #[.pointer (some ⟨g, 0, none⟩)] ∧ Blk w' (w.heap.size + 1) 29 (backCs b).toArray) (by kernel_rfl) ⟨HXd, HY.out.drew⟩ (fun hHeld => ?_)
  refine wpAnyH_take (i := 0) (v := ?_) rfl (by kernel_rfl) (by kernel_rfl) (by kernel_rfl) (fun _ _ _ h => h) (Or.inl ⟨by rfl, ?_⟩) hHeld ?_
  rotate_left
  · intro w' hSw
    skip
    go_simp
    try with_reducible rfl
  try (simp only [Act.put, List.getElem_toArray, List.getElem_cons_succ, List.getElem_cons_zero, List.setIfInBounds_toArray, List.set_cons_zero, List.set_cons_succ])
  refine wpAnyH_take (i := 1) (v := ?_) rfl (by kernel_rfl) (by kernel_rfl) (by kernel_rfl) (fun _ _ _ h => h) (Or.inl ⟨by rfl, ?_⟩) hHeld ?_
  rotate_left
  · intro w' hSw
    have e0 : w'.cell? ⟨w.heap.size, 0, none⟩ = some (.pointer (some ⟨g, 0, none⟩)) := hSw.1.cell 0
    go_simp
    try with_reducible rfl
  try (simp only [Act.put, List.getElem_toArray, List.getElem_cons_succ, List.getElem_cons_zero, List.setIfInBounds_toArray, List.set_cons_zero, List.set_cons_succ])
  refine wpAnyH_take (i := 2) (v := ?_) rfl (by kernel_rfl) (by kernel_rfl) (by kernel_rfl) (fun _ _ _ h => h) (Or.inl ⟨by rfl, ?_⟩) hHeld ?_
  rotate_left
  · intro w' hSw
    skip
    go_simp
    try with_reducible rfl
  try (simp only [Act.put, List.getElem_toArray, List.getElem_cons_succ, List.getElem_cons_zero, List.setIfInBounds_toArray, List.set_cons_zero, List.set_cons_succ])
  refine wpAnyH_take (i := 3) (v := ?_) rfl (by kernel_rfl) (by kernel_rfl) (by kernel_rfl) (fun _ _ _ h => h) (Or.inl ⟨by rfl, ?_⟩) hHeld ?_
  rotate_left
  · intro w' hSw
    skip
    go_simp
    try with_reducible rfl
  try (simp only [Act.put, List.getElem_toArray, List.getElem_cons_succ, List.getElem_cons_zero, List.setIfInBounds_toArray, List.set_cons_zero, List.set_cons_succ])
  refine wpAnyH_take (i := 4) (v := ?_) rfl (by kernel_rfl) (by kernel_rfl) (by kernel_rfl) (fun _ _ _ h => h) (Or.inl ⟨by rfl, ?_⟩) hHeld ?_
  rotate_left
  · intro w' hSw
    skip
    go_simp
    try with_reducible rfl
  try (simp only [Act.put, List.getElem_toArray, List.getElem_cons_succ, List.getElem_cons_zero, List.setIfInBounds_toArray, List.set_cons_zero, List.set_cons_succ])
  generalize hwd : v2.drew = wd at hHeld ⊢
  have hbd : Below v2.heap.size v2 wd := by rw [← hwd]; exact (Below.refl _ _).drew
  have hAd := HA.out.below hbd
  have hSd := WStep.of_below hbd (Nat.le_of_lt HA.out.lt)
  clear hwd HXd
  refine wpAnyH_ready (rs := [5]) (by kernel_rfl) (by simp) ?_
  refine AllReadyH.cons (i := 5) rfl (fun K hK => ?_) AllReadyH.nil
  go_simp
  refine (ewBytes hAd _ _ _ b.addr.2 hb.out.addr.symm (box_bs hHeld.2 hb.out) (by have : b.addr.2.length = 16 := hb.out.addr; omega)).mono ?_
  rintro e v3 ⟨rfl, H1, hs0⟩
  have hs1 := hSd.trans hs0
  have hHn := (⟨hs0.blk hHeld.1 (by decide) hneX, hs0.blk hHeld.2 (by decide) hneY⟩ : _ ∧ _)
  clear hs0 hAd hbd hSd
  go_wp2_with fail
  refine hK.out _ _ hHn (fun hHeld => ?_)
  clear hK K hHn
  try (simp only [Act.put, List.getElem_toArray, List.getElem_cons_succ, List.getElem_cons_zero, List.setIfInBounds_toArray, List.set_cons_zero, List.set_cons_succ])
  refine wpAnyH_done (by kernel_rfl) ?_ _
  refine NoPanic.normal ?_
  clear hHeld
  have HS2 := Lib.hid (HS.out.trans hs1)
  have HX2 := Lib.hid (hs1.blk HX.out (by decide) hneX)
  have HY2 := Lib.hid (hs1.blk HY.out (by decide) hneY)
  clear HS HX HY HA hs1
  have HS := HS2
  have HX := HX2
  have HY := HY2
  clear HS2 HX2 HY2
  obtain ⟨l3, hl3⟩ : ∃ x, x = l2 ++ b.addr.2 := ⟨_, rfl⟩
  rw [← hl3] at H1
  have n3 : l3.length ≤ l2.length + 16 := by rw [hl3, List.length_append]; have : b.addr.2.length = 16 := hb.out.addr; omega
  have Q3 := Lib.hid hl3
  have HA := Lib.hid H1
  clear H1 hl3
  have d0 : v3.cell? ⟨w.heap.size, 0, none⟩ = some (.pointer (some ⟨g, 0, none⟩)) := HX.out.cell 0
  have d3 : v3.cell? ⟨w.heap.size + 1, 18, none⟩ = some (.int .i64 (P : Int)) := by rw [← HPI.out]; exact cb_port HY.out hb.out
  go_wp2_with fail
  refine (ewNum HA.out P 2 2 true rfl (by decide) (by decide) (by omega) (by omega)).mono ?_
  rintro e v4 ⟨rfl, H1, hs1⟩
  have HS2 := Lib.hid (HS.out.trans hs1)
  have HX2 := Lib.hid (hs1.blk HX.out (by decide) hneX)
  have HY2 := Lib.hid (hs1.blk HY.out (by decide) hneY)
  clear HS HX HY HA hs1
  have HS := HS2
  have HX := HX2
  have HY := HY2
  clear HS2 HX2 HY2
  obtain ⟨l4, hl4⟩ : ∃ x, x = l3 ++ putS 2 P true := ⟨_, rfl⟩
  rw [← hl4] at H1
  have n4 : l4.length ≤ l3.length + 2 := by rw [hl4, List.length_append]; rw [putS_length]; omega
  have Q4 := Lib.hid hl4
  have HA := Lib.hid H1
  clear H1 hl4
  clear d0 d3
  go_upto_region 5 with fail
  have HXd : Blk v4.drew w.heap.size 84 #[.pointer (some ⟨g, 0, none⟩)] := HX.out.drew
  refine wp_region_noPanic ?_
  refine wp_region_held_drew (S := fun w' => Blk w' w.heap.size 84 #[.pointer (some ⟨g, 0, none⟩)] ∧ Blk w' (w.heap.size + 1) 29 (backCs b).toArray) (by kernel_rfl) ⟨HXd, HY.out.drew⟩ (fun hHeld => ?_)
  refine wpAnyH_take (i := 0) (v := ?_) rfl (by kernel_rfl) (by kernel_rfl) (by kernel_rfl) (fun _ _ _ h => h) (Or.inl ⟨by rfl, ?_⟩) hHeld ?_
  rotate_left
  · intro w' hSw
    skip
    go_simp
    try with_reducible rfl
  try (simp only [Act.put, List.getElem_toArray, List.getElem_cons_succ, List.getElem_cons_zero, List.setIfInBounds_toArray, List.set_cons_zero, List.set_cons_succ])
  refine wpAnyH_take (i := 1) (v := ?_) rfl (by kernel_rfl) (by kernel_rfl) (by kernel_rfl) (fun _ _ _ h => h) (Or.inl ⟨by rfl, ?_⟩) hHeld ?_
  rotate_left
  · intro w' hSw
    have e0 : w'.cell? ⟨w.heap.size, 0, none⟩ = some (.pointer (some ⟨g, 0, none⟩)) := hSw.1.cell 0
    go_simp
    try with_reducible rfl
  try (simp only [Act.put, List.getElem_toArray, List.getElem_cons_succ, List.getElem_cons_zero, List.setIfInBounds_toArray, List.set_cons_zero, List.set_cons_succ])
  refine wpAnyH_take (i := 2) (v := ?_) rfl (by kernel_rfl) (by kernel_rfl) (by kernel_rfl) (fun _ _ _ h => h) (Or.inl ⟨by rfl, ?_⟩) hHeld ?_
  rotate_left
  · intro w' hSw
    skip
    go_simp
    try with_reducible rfl
  try (simp only [Act.put, List.getElem_toArray, List.getElem_cons_succ, List.getElem_cons_zero, List.setIfInBounds_toArray, List.set_cons_zero, List.set_cons_succ])
  refine wpAnyH_take (i := 3) (v := ?_) rfl (by kernel_rfl) (by kernel_rfl) (by kernel_rfl) (fun _ _ _ h => h) (Or.inl ⟨by rfl, ?_⟩) hHeld ?_
  rotate_left
  · intro w' hSw
    skip
    go_simp
    try with_reducible rfl
  try (simp only [Act.put, List.getElem_toArray, List.getElem_cons_succ, List.getElem_cons_zero, List.setIfInBounds_toArray, List.set_cons_zero, List.set_cons_succ])
  generalize hwd : v4.drew = wd at hHeld ⊢
  have hbd : Below v4.heap.size v4 wd := by rw [← hwd]; exact (Below.refl _ _).drew
  have hAd := HA.out.below hbd
  have hSd := WStep.of_below hbd (Nat.le_of_lt HA.out.lt)
  clear hwd HXd
  refine wpAnyH_ready (rs := [4]) (by kernel_rfl) (by simp) ?_
  refine AllReadyH.cons (i := 4) rfl (fun K hK => ?_) AllReadyH.nil
  go_simp
  refine (ewBytes hAd _ _ _ b.mac hb.out.mac.symm (box_mac hHeld.2 hb.out) (by have := hb.out.mac; omega)).mono ?_
  rintro e v5 ⟨rfl, H1, hs0⟩
  have hs1 := hSd.trans hs0
  have hHn := (⟨hs0.blk hHeld.1 (by decide) hneX, hs0.blk hHeld.2 (by decide) hneY⟩ : _ ∧ _)
  clear hs0 hAd hbd hSd
  go_wp2_with fail
  refine hK.out _ _ hHn (fun hHeld => ?_)
  clear hK K hHn
  try (simp only [Act.put, List.getElem_toArray, List.getElem_cons_succ, List.getElem_cons_zero, List.setIfInBounds_toArray, List.set_cons_zero, List.set_cons_succ])
  refine wpAnyH_done (by kernel_rfl) ?_ _
  refine NoPanic.normal ?_
  clear hHeld
  have HS2 := Lib.hid (HS.out.trans hs1)
  have HX2 := Lib.hid (hs1.blk HX.out (by decide) hneX)
  have HY2 := Lib.hid (hs1.blk HY.out (by decide) hneY)
  clear HS HX HY HA hs1
  have HS := HS2
  have HX := HX2
  have HY := HY2
  clear HS2 HX2 HY2
  obtain ⟨l5, hl5⟩ : ∃ x, x = l4 ++ b.mac := ⟨_, rfl⟩
  rw [← hl5] at H1
  have n5 : l5.length ≤ l4.length + 6 := by rw [hl5, List.length_append]; have := hb.out.mac; omega
  have Q5 := Lib.hid hl5
  have HA := Lib.hid H1
  clear H1 hl5
  go_upto_region 6 with fail
  have HXd : Blk v5.drew w.heap.size 84 #[.pointer (some ⟨g, 0, none⟩)] := HX.out.drew
  refine wp_region_noPanic ?_
  refine wp_region_held_drew (S := fun w' => Blk w' w.heap.size 84 #[.pointer (some ⟨g, 0, none⟩)] ∧ Blk w' (w.heap.size + 1) 29 (backCs b).toArray) (by kernel_rfl) ⟨HXd, HY.out.drew⟩ (fun hHeld => ?_)
  refine wpAnyH_take (i := 0) (v := ?_) rfl (by kernel_rfl) (by kernel_rfl) (by kernel_rfl) (fun _ _ _ h => h) (Or.inl ⟨by rfl, ?_⟩) hHeld ?_
  rotate_left
  · intro w' hSw
    skip
    go_simp
    try with_reducible rfl
  try (simp only [Act.put, List.getElem_toArray, List.getElem_cons_succ, List.getElem_cons_zero, List.setIfInBounds_toArray, List.set_cons_zero, List.set_cons_succ])
  refine wpAnyH_take (i := 1) (v := ?_) rfl (by kernel_rfl) (by kernel_rfl) (by kernel_rfl) (fun _ _ _ h => h) (Or.inl ⟨by rfl, ?_⟩) hHeld ?_
  rotate_left
  · intro w' hSw
    have e0 : w'.cell? ⟨w.heap.size, 0, none⟩ = some (.pointer (some ⟨g, 0, none⟩)) := hSw.1.cell 0
    go_simp
    try with_reducible rfl
  try (simp only [Act.put, List.getElem_toArray, List.getElem_cons_succ, List.getElem_cons_zero, List.setIfInBounds_toArray, List.set_cons_zero, List.set_cons_succ])
  refine wpAnyH_take (i := 2) (v := ?_) rfl (by kernel_rfl) (by kernel_rfl) (by kernel_rfl) (fun _ _ _ h => h) (Or.inl ⟨by rfl, ?_⟩) hHeld ?_
  rotate_left
  · intro w' hSw
    skip
    go_simp
    try with_reducible rfl
  try (simp only [Act.put, List.getElem_toArray, List.getElem_cons_succ, List.getElem_cons_zero, List.setIfInBounds_toArray, List.set_cons_zero, List.set_cons_succ])
  refine wpAnyH_take (i := 3) (v := ?_) rfl (by kernel_rfl) (by kernel_rfl) (by kernel_rfl) (fun _ _ _ h => h) (Or.inl ⟨by rfl, ?_⟩) hHeld ?_
  rotate_left
  · intro w' hSw
    have e0 := cb_wt hSw.2 hb.out
    go_simp
    try with_reducible rfl
  try (simp only [Act.put, List.getElem_toArray, List.getElem_cons_succ, List.getElem_cons_zero, List.setIfInBounds_toArray, List.set_cons_zero, List.set_cons_succ])
  generalize hwd : v5.drew = wd at hHeld ⊢
  have hbd : Below v5.heap.size v5 wd := by rw [← hwd]; exact (Below.refl _ _).drew
  have hAd := HA.out.below hbd
  have hSd := WStep.of_below hbd (Nat.le_of_lt HA.out.lt)
  clear hwd HXd
  refine wpAnyH_ready (rs := [4]) (by kernel_rfl) (by simp) ?_
  refine AllReadyH.cons (i := 4) rfl (fun K hK => ?_) AllReadyH.nil
  go_simp
  refine (wPut_any b.wt _ hb.out.wt).mono ?_
  rintro e wp ⟨Ap, cp, rfl, hownp, hbp⟩
  have hHn := (⟨Blk.below hHeld.1 hbp hHeld.1.lt, Blk.below hHeld.2 hbp hHeld.2.lt⟩ : _ ∧ _)
  have hAd2 := hAd.below hbp
  have hSd2 := hSd.trans (WStep.of_below hbp (Nat.le_of_lt hAd.lt))
  have h8 := wput_len b.wt
  have HBp : Hid (BS wp wp.heap.size Ap (wput b.wt)) := by
    rw [← h8] at hownp
    exact (BS.of_own hownp).1
  clear hAd hSd hownp hbp
  have hAd := hAd2
  have hSd := hSd2
  clear hAd2 hSd2
  go_wp2_with fail
  refine hK.out _ _ hHn (fun hHeld => ?_)
  clear hK K hHn
  try (simp only [Act.put, List.getElem_toArray, List.getElem_cons_succ, List.getElem_cons_zero, List.setIfInBounds_toArray, List.set_cons_zero, List.set_cons_succ])
  refine wpAnyH_ready (rs := [5]) (by kernel_rfl) (by simp) ?_
  refine AllReadyH.cons (i := 5) rfl (fun K hK => ?_) AllReadyH.nil
  go_simp
  refine (ewBytes hAd Ap _ cp (wput b.wt) h8.symm HBp.out (by rw [h8]; omega)).mono ?_
  rintro e v6 ⟨rfl, H1, hs0⟩
  have hs1 := hSd.trans hs0
  have hHn := (⟨hs0.blk hHeld.1 (by decide) hneX, hs0.blk hHeld.2 (by decide) hneY⟩ : _ ∧ _)
  clear hs0 hAd hbd hSd
  go_wp2_with fail
  refine hK.out _ _ hHn (fun hHeld => ?_)
  clear hK K hHn
  try (simp only [Act.put, List.getElem_toArray, List.getElem_cons_succ, List.getElem_cons_zero, List.setIfInBounds_toArray, List.set_cons_zero, List.set_cons_succ])
  refine wpAnyH_done (by kernel_rfl) ?_ _
  refine NoPanic.normal ?_
  clear hHeld
  have HS2 := Lib.hid (HS.out.trans hs1)
  have HX2 := Lib.hid (hs1.blk HX.out (by decide) hneX)
  have HY2 := Lib.hid (hs1.blk HY.out (by decide) hneY)
  clear HS HX HY HA hs1
  have HS := HS2
  have HX := HX2
  have HY := HY2
  clear HS2 HX2 HY2
  obtain ⟨l6, hl6⟩ : ∃ x, x = l5 ++ wput b.wt := ⟨_, rfl⟩
  rw [← hl6] at H1
  have n6 : l6.length ≤ l5.length + 8 := by rw [hl6, List.length_append]; rw [wput_len]; omega
  have Q6 := Lib.hid hl6
  have HA := Lib.hid H1
  clear H1 hl6
  have d0 : v6.cell? ⟨w.heap.size, 0, none⟩ = some (.pointer (some ⟨g, 0, none⟩)) := HX.out.cell 0
  have d4 := cb_drain HY.out hb.out
  go_wp2_with (first
      | ((with_reducible refine gateL 84 ?_); refine wpList_load_g (by rfl) 84 (.tmp 2) rfl w.heap.size 0 rfl [.pointer (some ⟨g, 0, none⟩)] _ (blk_range (cs := [.pointer (some ⟨g, 0, none⟩)]) HX.out) Try.underlying84 rfl laid_sz ?_))
  refine (wflag_any HA.out b.drain (by omega)).mono ?_
  rintro e v7 ⟨rfl, H1, hs1⟩
  have HS2 := Lib.hid (HS.out.trans hs1)
  have HX2 := Lib.hid (hs1.blk HX.out (by decide) hneX)
  have HY2 := Lib.hid (hs1.blk HY.out (by decide) hneY)
  clear HS HX HY HA hs1
  have HS := HS2
  have HX := HX2
  have HY := HY2
  clear HS2 HX2 HY2
  obtain ⟨l7, hl7⟩ : ∃ x, x = l6 ++ flagB b.drain := ⟨_, rfl⟩
  rw [← hl7] at H1
  have n7 : l7.length ≤ l6.length + 1 := by rw [hl7, List.length_append]; rw [flagB_len]; omega
  have Q7 := Lib.hid hl7
  have HA := Lib.hid H1
  clear H1 hl7
  go_wp2
  go_end0
  refine ⟨rfl, ?_, HS.out⟩
  have he : l7 = l ++ backBytes b := by
    rw [Q7.out, Q6.out, Q5.out, Q4.out, Q3.out, Q2.out, Q1.out, HP.out]
    simp only [backBytes, textB, List.append_assoc]
  rw [← he]
  exact HA.out
end Go.Proofs.Ytgohhojoahlfiaa

/- laid.act of package event (printed by gen_evput2.py). -/
namespace Go.Proofs.Ytgohhojoahlfiaa
open Go.RowKit
set_option linter.unusedVariables false
set_option linter.unusedSimpArgs false

theorem backBytes_len {b : BackP} (h : BackShape b) (hn : b.name.length ≤ 1000) : (backBytes b).length ≤ 2000 := by
  have h1 := textB_len (x := b.name) (by omega)
  have h2 : b.addr.2.length = 16 := h.addr
  have h3 := h.mac
  simp only [backBytes, List.length_append, flagB_len, putS_length, wput_len]
  omega
set_option maxHeartbeats 4000000 in
set_option maxRecDepth 100000 in
theorem wact_any {w : World} {g : Nat} {l : List UInt8} (h : WAt w g l) (A : Option Addr) (c : Nat) (a : ActP) (ha0 : ActShape a) (hk : 1 ≤ a.kind ∧ a.kind ≤ 4) (hop : a.kind = 2 → 1 ≤ a.op ∧ a.op ≤ 5) (hp : 0 ≤ a.back.port ∧ a.back.port ≤ 65535) (hn : a.back.name.length ≤ 1000 ∧ a.oname.length ≤ 1000 ∧ a.name.length ≤ 1000 ∧ a.frame.length ≤ 200000) (hf : BS w g A a.frame) (hl : l.length ≤ 100) :
    Calls Try.prog 44 #[laidV g, .agg (actCs A a.frame.length c a).toArray] w (WEnd w g (l ++ actBytes a)) := by
  have ha := Lib.hid ha0
  obtain ⟨hk0, hk1⟩ := hk
  obtain ⟨hn1, hn2, hn3, hn4⟩ := hn
  obtain ⟨K, hK⟩ : ∃ K : Nat, K = a.kind.toNat := ⟨_, rfl⟩
  have hKI : a.kind = (K : Int) := by omega
  have HK := Lib.hid hK
  have HKI := Lib.hid hKI
  have hKb : K ≤ 4 := by omega
  have Hp := Lib.hid hp
  have Hop := Lib.hid hop
  have HF := Lib.hid hf
  unfold laidV
  clear ha0 hK hKI hk0 hk1 hp hop hf
  obtain ⟨W1, hW1⟩ : ∃ W, W = w.alloc (.cells #[.pointer (some ⟨g, 0, none⟩)] 84) := ⟨_, rfl⟩
  obtain ⟨W, hW⟩ : ∃ W, W = W1.alloc (.cells (actCs A a.frame.length c a).toArray 33) := ⟨_, rfl⟩
  have hs1 : W1.heap.size = w.heap.size + 1 := by rw [hW1]; simp
  have hX1 : Blk W1 w.heap.size 84 #[.pointer (some ⟨g, 0, none⟩)] := by rw [hW1]; exact Blk.new w _ _ _ rfl
  have HX : Hid (Blk W w.heap.size 84 #[.pointer (some ⟨g, 0, none⟩)]) := by rw [hW]; exact Blk.alloc hX1 _
  have HY : Hid (Blk W (w.heap.size + 1) 33 (actCs A a.frame.length c a).toArray) := by rw [hW, ← hs1]; exact Blk.new W1 _ _ _ rfl
  have hB : Below w.heap.size w W := by rw [hW, hW1]; exact ((Below.refl _ _).alloc (Nat.le_refl _) _).alloc (by simp) _
  have hgw := h.lt
  have hneX : w.heap.size ≠ g := by omega
  have hneY : w.heap.size + 1 ≠ g := by omega
  have HA := Lib.hid (h.below hB)
  have HS := Lib.hid (WStep.of_below hB (Nat.le_of_lt hgw))
  have HW1 := Lib.hid hW1
  have HW := Lib.hid hW
  clear hW1 hW hX1 hs1 h
  have d0 : W.cell? ⟨w.heap.size, 0, none⟩ = some (.pointer (some ⟨g, 0, none⟩)) := HX.out.cell 0
  have d1 : W.cell? ⟨w.heap.size + 1, 0, none⟩ = some (.int .i64 (K : Int)) := by rw [← HKI.out]; exact ca_kind HY.out
  go_enter Try.func44, Try.ntmps44
  go_upto_region 1 with fail
  rw [← HW1.out]
  rw [← HW.out]
  clear HW1 HW
  go_wp2_with fail
  refine (ewNum HA.out K 1 1 true rfl (by decide) (by decide) (by omega) (by omega)).mono ?_
  rintro e v1 ⟨rfl, H1, hs1⟩
  have HS2 := Lib.hid (HS.out.trans hs1)
  have HX2 := Lib.hid (hs1.blk HX.out (by decide) hneX)
  have HY2 := Lib.hid (hs1.blk HY.out (by decide) hneY)
  clear HS HX HY HA hs1
  have HS := HS2
  have HX := HX2
  have HY := HY2
  clear HS2 HX2 HY2
  obtain ⟨l1, hl1⟩ : ∃ x, x = l ++ putS 1 K true := ⟨_, rfl⟩
  rw [← hl1] at H1
  have n1 : l1.length ≤ l.length + 1 := by rw [hl1, List.length_append]; rw [putS_length]; omega
  have Q1 := Lib.hid hl1
  have HA := Lib.hid H1
  clear H1 hl1
  clear d0 d1
  have d1 : v1.cell? ⟨w.heap.size + 1, 0, none⟩ = some (.int .i64 (K : Int)) := by rw [← HKI.out]; exact ca_kind HY.out
  go_upto_region 3 with fail
  rcases k1 : ((K : Int) == 1) with _ | _
  rotate_left
  · have d0 : v1.cell? ⟨w.heap.size, 0, none⟩ = some (.pointer (some ⟨g, 0, none⟩)) := HX.out.cell 0
    have d2 := ca_frame HY.out
    have HFr : BS v1 v1.heap.size A a.frame := (HF.out.below HS.out.bel).more (Nat.le_of_lt HA.out.lt)
    go_wp2_with fail
    refine (ewText HA.out A _ c a.frame rfl HFr (by omega)).mono ?_
    rintro e v2 ⟨rfl, H1, hs1⟩
    have HS2 := Lib.hid (HS.out.trans hs1)
    have HX2 := Lib.hid (hs1.blk HX.out (by decide) hneX)
    have HY2 := Lib.hid (hs1.blk HY.out (by decide) hneY)
    clear HS HX HY HA hs1
    have HS := HS2
    have HX := HX2
    have HY := HY2
    clear HS2 HX2 HY2
    obtain ⟨l2, hl2⟩ : ∃ x, x = l1 ++ (vput a.frame.length ++ a.frame) := ⟨_, rfl⟩
    rw [← hl2] at H1
    have n2 : l2.length ≤ l1.length + (a.frame.length + 10) := by rw [hl2, List.length_append]; have := textB_len (x := a.frame) (by omega); rw [textB] at this; omega
    have Q2 := Lib.hid hl2
    have HA := Lib.hid H1
    clear H1 hl2
    clear d0 d1 d2
    go_wp2
    go_end0
    refine ⟨rfl, ?_, HS.out⟩
    have he : l2 = l ++ actBytes a := by
      rw [Q2.out, Q1.out, HK.out]
      unfold actBytes
      rw [if_pos (by rw [HKI.out]; simpa using k1)]
      simp only [textB, List.append_assoc, List.append_nil]
    rw [← he]
    exact HA.out
  rcases k2 : ((K : Int) == 2) with _ | _
  rotate_left
  · obtain ⟨P, hP⟩ : ∃ P : Nat, P = a.op.toNat := ⟨_, rfl⟩
    have hop2 := Hop.out (by rw [HKI.out]; simpa using k2)
    have hPI : a.op = (P : Int) := by omega
    have hPb : P ≤ 5 := by omega
    have HP := Lib.hid hP
    have HPI := Lib.hid hPI
    clear hP hPI hop2
    have d0 : v1.cell? ⟨w.heap.size, 0, none⟩ = some (.pointer (some ⟨g, 0, none⟩)) := HX.out.cell 0
    have d3 : v1.cell? ⟨w.heap.size + 1, 2, none⟩ = some (.int .i64 (P : Int)) := by rw [← HPI.out]; exact ca_op HY.out
    go_wp2_with fail
    refine (ewNum HA.out P 1 1 true rfl (by decide) (by decide) (by omega) (by omega)).mono ?_
    rintro e v2 ⟨rfl, H1, hs1⟩
    have HS2 := Lib.hid (HS.out.trans hs1)
    have HX2 := Lib.hid (hs1.blk HX.out (by decide) hneX)
    have HY2 := Lib.hid (hs1.blk HY.out (by decide) hneY)
    clear HS HX HY HA hs1
    have HS := HS2
    have HX := HX2
    have HY := HY2
    clear HS2 HX2 HY2
    obtain ⟨l2, hl2⟩ : ∃ x, x = l1 ++ putS 1 P true := ⟨_, rfl⟩
    rw [← hl2] at H1
    have n2 : l2.length ≤ l1.length + 1 := by rw [hl2, List.length_append]; rw [putS_length]; omega
    have Q2 := Lib.hid hl2
    have HA := Lib.hid H1
    clear H1 hl2
    clear d0 d1 d3
    have d3 : v2.cell? ⟨w.heap.size + 1, 2, none⟩ = some (.int .i64 (P : Int)) := by rw [← HPI.out]; exact ca_op HY.out
    rcases k3 : ((P : Int) == 1) with _ | _
    rotate_left
    · have RB := Lib.hid (ca_back HY.out ha.out)
      go_wp2_with (first
          | ((with_reducible refine gateL 84 ?_); refine wpList_load_g (by rfl) 84 (.tmp 2) rfl w.heap.size 0 rfl [.pointer (some ⟨g, 0, none⟩)] _ (blk_range (cs := [.pointer (some ⟨g, 0, none⟩)]) HX.out) Try.underlying84 rfl laid_sz ?_)
          | ((with_reducible refine gateL 29 ?_); refine wpList_load_g (by rfl) 29 (.tmp 34) rfl (w.heap.size + 1) 3 rfl (backCs a.back) _ RB.out Try.underlying29 rfl (back_sz ha.out.back) ?_))
      refine (wback_any HA.out a.back ha.out.back Hp.out (by omega) (by omega)).mono ?_
      rintro e v3 ⟨rfl, H1, hs1⟩
      have HS2 := Lib.hid (HS.out.trans hs1)
      have HX2 := Lib.hid (hs1.blk HX.out (by decide) hneX)
      have HY2 := Lib.hid (hs1.blk HY.out (by decide) hneY)
      clear HS HX HY HA hs1
      have HS := HS2
      have HX := HX2
      have HY := HY2
      clear HS2 HX2 HY2
      obtain ⟨l3, hl3⟩ : ∃ x, x = l2 ++ backBytes a.back := ⟨_, rfl⟩
      rw [← hl3] at H1
      have n3 : l3.length ≤ l2.length + 2000 := by rw [hl3, List.length_append]; have := backBytes_len ha.out.back (by omega : a.back.name.length ≤ 1000); omega
      have Q3 := Lib.hid hl3
      have HA := Lib.hid H1
      clear H1 hl3
      clear d3 RB
      go_wp2
      go_end0
      refine ⟨rfl, ?_, HS.out⟩
      have he : l3 = l ++ actBytes a := by
        rw [Q3.out, Q2.out, Q1.out, HK.out]
        unfold actBytes
        rw [if_neg (by rw [HKI.out]; simpa using k1), if_pos (by rw [HKI.out]; simpa using k2), if_pos (by rw [HPI.out]; simpa using k3), HP.out]
        simp only [textB, List.append_assoc, List.append_nil]
      rw [← he]
      exact HA.out
    have d0 : v2.cell? ⟨w.heap.size, 0, none⟩ = some (.pointer (some ⟨g, 0, none⟩)) := HX.out.cell 0
    have d2 := ca_oname HY.out ha.out
    have hcv := conv_bytes v2 a.oname
    go_wp2_with fail
    have hbw := bytesWorld_below v2 5 ⟨a.oname.toArray⟩
    refine (ewText (HA.out.below hbw) _ _ _ a.oname rfl (bytesWorld_bs v2 5 a.oname) (by omega)).mono ?_
    rintro e v3 ⟨rfl, H1, hs0⟩
    have hs1 := (WStep.of_below hbw (Nat.le_of_lt HA.out.lt)).trans hs0
    clear hbw hs0 hcv d0 d2
    have HS2 := Lib.hid (HS.out.trans hs1)
    have HX2 := Lib.hid (hs1.blk HX.out (by decide) hneX)
    have HY2 := Lib.hid (hs1.blk HY.out (by decide) hneY)
    clear HS HX HY HA hs1
    have HS := HS2
    have HX := HX2
    have HY := HY2
    clear HS2 HX2 HY2
    obtain ⟨l3, hl3⟩ : ∃ x, x = l2 ++ (vput a.oname.length ++ a.oname) := ⟨_, rfl⟩
    rw [← hl3] at H1
    have n3 : l3.length ≤ l2.length + (a.oname.length + 10) := by rw [hl3, List.length_append]; have := textB_len (x := a.oname) (by omega); rw [textB] at this; omega
    have Q3 := Lib.hid hl3
    have HA := Lib.hid H1
    clear H1 hl3
    clear d3
    have d3 : v3.cell? ⟨w.heap.size + 1, 2, none⟩ = some (.int .i64 (P : Int)) := by rw [← HPI.out]; exact ca_op HY.out
    rcases k5 : ((P : Int) == 3) with _ | _
    rotate_left
    · go_upto_region 11 with fail
      have HXd : Blk v3.drew w.heap.size 84 #[.pointer (some ⟨g, 0, none⟩)] := HX.out.drew
      refine wp_region_noPanic ?_
      refine wp_region_held_drew (S := fun w' => Blk w' w.heap.size 84 #[.pointer (some ⟨g, 0, none⟩)] ∧ Blk w' (w.heap.size + 1) 33 (actCs A a.frame.length c a).toArray) (by kernel_rfl) ⟨HXd, HY.out.drew⟩ (fun hHeld => ?_)
      refine wpAnyH_take (i := 0) (v := ?_) rfl (by kernel_rfl) (by kernel_rfl) (by kernel_rfl) (fun _ _ _ h => h) (Or.inl ⟨by rfl, ?_⟩) hHeld ?_
      rotate_left
      · intro w' hSw
        skip
        go_simp
        try with_reducible rfl
      try (simp only [Act.put, List.getElem_toArray, List.getElem_cons_succ, List.getElem_cons_zero, List.setIfInBounds_toArray, List.set_cons_zero, List.set_cons_succ])
      refine wpAnyH_take (i := 1) (v := ?_) rfl (by kernel_rfl) (by kernel_rfl) (by kernel_rfl) (fun _ _ _ h => h) (Or.inl ⟨by rfl, ?_⟩) hHeld ?_
      rotate_left
      · intro w' hSw
        have e0 : w'.cell? ⟨w.heap.size, 0, none⟩ = some (.pointer (some ⟨g, 0, none⟩)) := hSw.1.cell 0
        go_simp
        try with_reducible rfl
      try (simp only [Act.put, List.getElem_toArray, List.getElem_cons_succ, List.getElem_cons_zero, List.setIfInBounds_toArray, List.set_cons_zero, List.set_cons_succ])
      refine wpAnyH_take (i := 2) (v := ?_) rfl (by kernel_rfl) (by kernel_rfl) (by kernel_rfl) (fun _ _ _ h => h) (Or.inl ⟨by rfl, ?_⟩) hHeld ?_
      rotate_left
      · intro w' hSw
        skip
        go_simp
        try with_reducible rfl
      try (simp only [Act.put, List.getElem_toArray, List.getElem_cons_succ, List.getElem_cons_zero, List.setIfInBounds_toArray, List.set_cons_zero, List.set_cons_succ])
      refine wpAnyH_take (i := 3) (v := ?_) rfl (by kernel_rfl) (by kernel_rfl) (by kernel_rfl) (fun _ _ _ h => h) (Or.inl ⟨by rfl, ?_⟩) hHeld ?_
      rotate_left
      · intro w' hSw
        skip
        go_simp
        try with_reducible rfl
      try (simp only [Act.put, List.getElem_toArray, List.getElem_cons_succ, List.getElem_cons_zero, List.setIfInBounds_toArray, List.set_cons_zero, List.set_cons_succ])
      refine wpAnyH_take (i := 4) (v := ?_) rfl (by kernel_rfl) (by kernel_rfl) (by kernel_rfl) (fun _ _ _ h => h) (Or.inl ⟨by rfl, ?_⟩) hHeld ?_
      rotate_left
      · intro w' hSw
        have e0 := ca_owt hSw.2 ha.out
        go_simp
        try with_reducible rfl
      try (simp only [Act.put, List.getElem_toArray, List.getElem_cons_succ, List.getElem_cons_zero, List.setIfInBounds_toArray, List.set_cons_zero, List.set_cons_succ])
      generalize hwd : v3.drew = wd at hHeld ⊢
      have hbd : Below v3.heap.size v3 wd := by rw [← hwd]; exact (Below.refl _ _).drew
      have hAd := HA.out.below hbd
      have hSd := WStep.of_below hbd (Nat.le_of_lt HA.out.lt)
      clear hwd HXd
      refine wpAnyH_ready (rs := [5]) (by kernel_rfl) (by simp) ?_
      refine AllReadyH.cons (i := 5) rfl (fun K hK => ?_) AllReadyH.nil
      go_simp
      refine (wPut_any a.owt _ ha.out.owt).mono ?_
      rintro e wp ⟨Ap, cp, rfl, hownp, hbp⟩
      have hHn := (⟨Blk.below hHeld.1 hbp hHeld.1.lt, Blk.below hHeld.2 hbp hHeld.2.lt⟩ : _ ∧ _)
      have hAd2 := hAd.below hbp
      have hSd2 := hSd.trans (WStep.of_below hbp (Nat.le_of_lt hAd.lt))
      have h8 := wput_len a.owt
      have HBp : Hid (BS wp wp.heap.size Ap (wput a.owt)) := by
        rw [← h8] at hownp
        exact (BS.of_own hownp).1
      clear hAd hSd hownp hbp
      have hAd := hAd2
      have hSd := hSd2
      clear hAd2 hSd2
      go_wp2_with fail
      refine hK.out _ _ hHn (fun hHeld => ?_)
      clear hK K hHn
      try (simp only [Act.put, List.getElem_toArray, List.getElem_cons_succ, List.getElem_cons_zero, List.setIfInBounds_toArray, List.set_cons_zero, List.set_cons_succ])
      refine wpAnyH_ready (rs := [6]) (by kernel_rfl) (by simp) ?_
      refine AllReadyH.cons (i := 6) rfl (fun K hK => ?_) AllReadyH.nil
      go_simp
      refine (ewBytes hAd Ap _ cp (wput a.owt) h8.symm HBp.out (by rw [h8]; omega)).mono ?_
      rintro e v4 ⟨rfl, H1, hs0⟩
      have hs1 := hSd.trans hs0
      have hHn := (⟨hs0.blk hHeld.1 (by decide) hneX, hs0.blk hHeld.2 (by decide) hneY⟩ : _ ∧ _)
      clear hs0 hAd hbd hSd
      go_wp2_with fail
      refine hK.out _ _ hHn (fun hHeld => ?_)
      clear hK K hHn
      try (simp only [Act.put, List.getElem_toArray, List.getElem_cons_succ, List.getElem_cons_zero, List.setIfInBounds_toArray, List.set_cons_zero, List.set_cons_succ])
      refine wpAnyH_done (by kernel_rfl) ?_ _
      refine NoPanic.normal ?_
      clear hHeld
      have HS2 := Lib.hid (HS.out.trans hs1)
      have HX2 := Lib.hid (hs1.blk HX.out (by decide) hneX)
      have HY2 := Lib.hid (hs1.blk HY.out (by decide) hneY)
      clear HS HX HY HA hs1
      have HS := HS2
      have HX := HX2
      have HY := HY2
      clear HS2 HX2 HY2
      obtain ⟨l4, hl4⟩ : ∃ x, x = l3 ++ wput a.owt := ⟨_, rfl⟩
      rw [← hl4] at H1
      have n4 : l4.length ≤ l3.length + 8 := by rw [hl4, List.length_append]; rw [wput_len]; omega
      have Q4 := Lib.hid hl4
      have HA := Lib.hid H1
      clear H1 hl4
      go_wp2
      go_end0
      refine ⟨rfl, ?_, HS.out⟩
      have he : l4 = l ++ actBytes a := by
        rw [Q4.out, Q3.out, Q2.out, Q1.out, HK.out]
        unfold actBytes
        rw [if_neg (by rw [HKI.out]; simpa using k1), if_pos (by rw [HKI.out]; simpa using k2), if_neg (by rw [HPI.out]; simpa using k3), if_pos (by rw [HPI.out]; simpa using k5), HP.out]
        simp only [textB, List.append_assoc, List.append_nil]
      rw [← he]
      exact HA.out
    go_wp2
    go_end0
    refine ⟨rfl, ?_, HS.out⟩
    have he : l3 = l ++ actBytes a := by
      rw [Q3.out, Q2.out, Q1.out, HK.out]
      unfold actBytes
      rw [if_neg (by rw [HKI.out]; simpa using k1), if_pos (by rw [HKI.out]; simpa using k2), if_neg (by rw [HPI.out]; simpa using k3), if_neg (by rw [HPI.out]; simpa using k5), HP.out]
      simp only [textB, List.append_assoc, List.append_nil]
    rw [← he]
    exact HA.out
  rcases k6 : ((K : Int) == 3) with _ | _
  rotate_left
  · have d0 : v1.cell? ⟨w.heap.size, 0, none⟩ = some (.pointer (some ⟨g, 0, none⟩)) := HX.out.cell 0
    have d2 := ca_name HY.out ha.out
    have hcv := conv_bytes v1 a.name
    go_wp2_with fail
    have hbw := bytesWorld_below v1 5 ⟨a.name.toArray⟩
    refine (ewText (HA.out.below hbw) _ _ _ a.name rfl (bytesWorld_bs v1 5 a.name) (by omega)).mono ?_
    rintro e v2 ⟨rfl, H1, hs0⟩
    have hs1 := (WStep.of_below hbw (Nat.le_of_lt HA.out.lt)).trans hs0
    clear hbw hs0 hcv d0 d2
    have HS2 := Lib.hid (HS.out.trans hs1)
    have HX2 := Lib.hid (hs1.blk HX.out (by decide) hneX)
    have HY2 := Lib.hid (hs1.blk HY.out (by decide) hneY)
    clear HS HX HY HA hs1
    have HS := HS2
    have HX := HX2
    have HY := HY2
    clear HS2 HX2 HY2
    obtain ⟨l2, hl2⟩ : ∃ x, x = l1 ++ (vput a.name.length ++ a.name) := ⟨_, rfl⟩
    rw [← hl2] at H1
    have n2 : l2.length ≤ l1.length + (a.name.length + 10) := by rw [hl2, List.length_append]; have := textB_len (x := a.name) (by omega); rw [textB] at this; omega
    have Q2 := Lib.hid hl2
    have HA := Lib.hid H1
    clear H1 hl2
    have d0 : v2.cell? ⟨w.heap.size, 0, none⟩ = some (.pointer (some ⟨g, 0, none⟩)) := HX.out.cell 0
    have d2 := ca_well HY.out ha.out
    go_wp2_with (first
        | ((with_reducible refine gateL 84 ?_); refine wpList_load_g (by rfl) 84 (.tmp 2) rfl w.heap.size 0 rfl [.pointer (some ⟨g, 0, none⟩)] _ (blk_range (cs := [.pointer (some ⟨g, 0, none⟩)]) HX.out) Try.underlying84 rfl laid_sz ?_))
    refine (wflag_any HA.out a.well (by omega)).mono ?_
    rintro e v3 ⟨rfl, H1, hs1⟩
    have HS2 := Lib.hid (HS.out.trans hs1)
    have HX2 := Lib.hid (hs1.blk HX.out (by decide) hneX)
    have HY2 := Lib.hid (hs1.blk HY.out (by decide) hneY)
    clear HS HX HY HA hs1
    have HS := HS2
    have HX := HX2
    have HY := HY2
    clear HS2 HX2 HY2
    obtain ⟨l3, hl3⟩ : ∃ x, x = l2 ++ flagB a.well := ⟨_, rfl⟩
    rw [← hl3] at H1
    have n3 : l3.length ≤ l2.length + 1 := by rw [hl3, List.length_append]; rw [flagB_len]; omega
    have Q3 := Lib.hid hl3
    have HA := Lib.hid H1
    clear H1 hl3
    clear d0 d1 d2
    go_wp2
    go_end0
    refine ⟨rfl, ?_, HS.out⟩
    have he : l3 = l ++ actBytes a := by
      rw [Q3.out, Q2.out, Q1.out, HK.out]
      unfold actBytes
      rw [if_neg (by rw [HKI.out]; simpa using k1), if_neg (by rw [HKI.out]; simpa using k2), if_pos (by rw [HKI.out]; simpa using k6)]
      simp only [textB, List.append_assoc, List.append_nil]
    rw [← he]
    exact HA.out
  go_wp2
  go_end0
  refine ⟨rfl, ?_, HS.out⟩
  have he : l1 = l ++ actBytes a := by
    rw [Q1.out, HK.out]
    unfold actBytes
    rw [if_neg (by rw [HKI.out]; simpa using k1), if_neg (by rw [HKI.out]; simpa using k2), if_neg (by rw [HKI.out]; simpa using k6)]
    simp only [textB, List.append_assoc, List.append_nil]
  rw [← he]
  exact HA.out
end Go.Proofs.Ytgohhojoahlfiaa

/- Put, PutBackend of package event (printed by gen_evput3.py). -/
namespace Go.Proofs.Ytgohhojoahlfiaa
open Go.RowKit
set_option linter.unusedVariables false
set_option linter.unusedSimpArgs false

/-- The bytes of an event. -/
def evBytes (e : EvP) : List UInt8 := actBytes e.act ++ (putS 1 e.o.err.toNat true ++ (putS 1 e.o.reason.toNat true ++ (flagB e.o.hit ++ (vput e.o.version.toNat ++ (textB e.o.name ++ (vput e.len.toNat ++ putS 4 e.sum false))))))
/-- What Put answers. -/
def EPutIs (w : World) (r : Bool) (m : List UInt8) (x : Ending) (w' : World) : Prop :=
  Below w.heap.size w w' ∧ (r = false → x = .returned (.tuple #[.slice none 0 0, .int .i64 1])) ∧
    (r = true → ∃ A' c', x = .returned (.tuple #[.slice A' m.length c', .int .i64 0]) ∧ w'.ownsRow w.heap.size 5 1 (.slice A' m.length c') m.length (bcells m))
theorem ewOut {w : World} {g : Nat} {l : List UInt8} (h : WAt w g l) (hl : l.length ≤ 1048576) :
    Calls Try.prog 49 #[.pointer (some ⟨g, 0, none⟩)] w fun x w' => ∃ A' c', x = .returned (.tuple #[.slice A' l.length c', .int .i64 0]) ∧ w'.ownsRow w.heap.size 5 1 (.slice A' l.length c') l.length (bcells l) ∧ Below w.heap.size w w' := by
  obtain ⟨A, c, h⟩ := h
  exact wrOut_any g g A c 1048576 (l, 0) w h (by simp only; omega)

set_option maxHeartbeats 2000000 in
set_option maxRecDepth 100000 in
theorem putBackend_any (b : BackP) (hb0 : BackShape b) (w : World) :
    Calls Try.prog 24 #[.agg (backCs b).toArray] w (EPutIs w (toldB b) (backBytes b)) := by
  have hb := Lib.hid hb0
  clear hb0
  obtain ⟨W, hW⟩ : ∃ W, W = w.alloc (.cells (backCs b).toArray 29) := ⟨_, rfl⟩
  have HY : Hid (Blk W w.heap.size 29 (backCs b).toArray) := by rw [hW]; exact Blk.new w _ _ _ rfl
  have HB : Hid (Below w.heap.size w W) := by rw [hW]; exact (Below.refl _ _).alloc (Nat.le_refl _) _
  have RB := Lib.hid (blk_range HY.out)
  have HW := Lib.hid hW
  clear hW
  go_enter Try.func24, Try.ntmps24
  go_upto_region 1 with fail
  rw [← HW.out]
  clear HW
  go_wp2_with (first
      | ((with_reducible refine gateL 29 ?_); refine wpList_load_g (by rfl) 29 (.tmp 1) rfl w.heap.size 0 rfl (backCs b) _ RB.out Try.underlying29 rfl (back_sz hb.out) ?_))
  refine (told_any b hb.out W).mono ?_
  rintro e w1 ⟨rfl, hb1⟩
  have HY1 := Lib.hid (Blk.below HY.out hb1 HY.out.lt)
  have HB1 : Hid (Below w.heap.size w w1) := HB.out.trans (hb1.mono HB.out.size)
  clear HY RB HB hb1
  have HY := HY1
  have HB := HB1
  clear HY1 HB1
  rcases ht : toldB b with _ | _
  · go_wp2
    go_ret2
    exact ⟨HB.out, fun _ => rfl, fun h => by rw [ht] at h; cases h⟩
  · have Ht := Lib.hid ht
    clear ht
    go_wp2_with fail
    refine (newWriter_any 1048576 w1 (by decide)).mono ?_
    rintro e w2 ⟨rfl, hW2, hb2⟩
    have HA2 : Hid (WAt w2 w1.heap.size []) := ⟨none, 0, hW2⟩
    have HY2 := Lib.hid (Blk.below HY.out hb2 HY.out.lt)
    have HB2 : Hid (Below w.heap.size w w2) := HB.out.trans (hb2.mono HB.out.size)
    have hgw : w.heap.size < w1.heap.size := HY.out.lt
    obtain ⟨g, hg⟩ : ∃ g, g = w1.heap.size := ⟨_, rfl⟩
    rw [← hg] at HA2 hgw ⊢
    clear HY HB hb2 hW2 hg
    obtain ⟨w3, hw3⟩ : ∃ W, W = w2.alloc (.cells #[.pointer (some ⟨g, 0, none⟩)] 84) := ⟨_, rfl⟩
    have hb3 : Below w2.heap.size w2 w3 := by rw [hw3]; exact (Below.refl _ _).alloc (Nat.le_refl _) _
    have HX : Hid (Blk w3 w2.heap.size 84 #[.pointer (some ⟨g, 0, none⟩)]) := by rw [hw3]; exact Blk.new w2 _ _ _ rfl
    have HY3 := Lib.hid (Blk.below HY2.out hb3 HY2.out.lt)
    have HA := Lib.hid (HA2.out.below hb3)
    have HB : Hid (Below w.heap.size w w3) := HB2.out.trans (hb3.mono HB2.out.size)
    have HW3 := Lib.hid hw3
    have hxg : w2.heap.size ≠ g := by have := HA2.out.lt; omega
    clear hw3 hb3 HA2 HY2 HB2
    go_upto_region 4 with fail
    rw [← HW3.out]
    clear HW3
    have RB := Lib.hid (blk_range HY3.out)
    have RX := Lib.hid (blk_range (cs := [.pointer (some ⟨g, 0, none⟩)]) HX.out)
    have Hn : Hid (b.name.length ≤ 255 ∧ 0 ≤ b.port ∧ b.port ≤ 65535) := by
      have := Ht.out
      simp only [toldB, Bool.and_eq_true, decide_eq_true_eq, inZ_iff] at this
      exact this
    go_wp2_with (first
      | ((with_reducible refine gateL 84 ?_); refine wpList_load_g (by rfl) 84 (.tmp 4) rfl w2.heap.size 0 rfl ([.pointer (some ⟨g, 0, none⟩)]) _ RX.out Try.underlying84 rfl laid_sz ?_)
      | ((with_reducible refine gateL 29 ?_); refine wpList_load_g (by rfl) 29 (.tmp 1) rfl w.heap.size 0 rfl (backCs b) _ RB.out Try.underlying29 rfl (back_sz hb.out) ?_))
    refine (wback_any HA.out b hb.out Hn.out.2 (by have := Hn.out.1; omega) (by decide)).mono ?_
    rintro e w4 ⟨rfl, h4, hs4⟩
    have HX4 := Lib.hid (hs4.blk HX.out (by decide) hxg)
    have HB4 : Hid (Below w.heap.size w w4) := HB.out.trans (hs4.bel.mono (Nat.le_of_lt hgw))
    have H4 := Lib.hid h4
    have d0 : w4.cell? ⟨w2.heap.size, 0, none⟩ = some (.pointer (some ⟨g, 0, none⟩)) := HX4.out.cell 0
    rw [List.nil_append] at H4
    have hlen := backBytes_len hb.out (by have := Hn.out.1; omega : b.name.length ≤ 1000)
    clear HX HY3 RB RX HB h4 hs4
    go_wp2_with fail
    refine (ewOut H4.out (by omega)).mono ?_
    rintro e w5 ⟨A', c', rfl, hown, hb5⟩
    have hend : Below w.heap.size w w5 := HB4.out.trans (hb5.mono HB4.out.size)
    have hown2 := own_base' hown HB4.out.size
    go_wp2
    go_ret2
    exact ⟨hend, (fun h => by rw [Ht.out] at h; cases h), fun _ => ⟨A', c', rfl, hown2⟩⟩
theorem evBytes_len {e : EvP} (h : EvShape e) (hr : rightEB e = true) : (evBytes e).length ≤ 200000 := by
  simp only [rightEB, plainB, toldB, Bool.and_eq_true, decide_eq_true_eq, inZ_iff] at hr
  obtain ⟨⟨hk, _, _, hfr, hon, hnm, hbn, hbp⟩, he, hre, hv, hn, ho, hl⟩ := hr
  have h1 := textB_len (x := e.act.frame) (by omega)
  have h2 := textB_len (x := e.act.oname) (by omega)
  have h3 := textB_len (x := e.act.name) (by omega)
  have h4 := textB_len (x := e.o.name) (by omega)
  have h5 := backBytes_len h.act.back (by omega)
  have h6 := vput_le (n := e.o.version.toNat) (by omega)
  have h7 := vput_le (n := e.len.toNat) (by omega)
  have ha : (actBytes e.act).length ≤ 150000 := by
    unfold actBytes
    rw [List.length_append, putS_length]
    split
    · omega
    · split
      · rw [List.length_append, putS_length]
        split
        · omega
        · rw [List.length_append]
          split
          · rw [wput_len]; omega
          · simp only [List.length_nil]; omega
      · split
        · rw [List.length_append, flagB_len]; omega
        · simp only [List.length_nil]; omega
  simp only [evBytes, List.length_append, putS_length, flagB_len]
  omega

set_option maxHeartbeats 4000000 in
set_option maxRecDepth 100000 in
theorem eput_any (A : Option Addr) (c : Nat) (A2 : Option Addr) (c2 : Nat) (e0 : EvP) (he0 : EvShape e0) (w : World) (hf : BS w w.heap.size A e0.act.frame) :
    Calls Try.prog 20 #[.agg (evCs A e0.act.frame.length c A2 e0.o.out.length c2 e0).toArray] w (EPutIs w (rightEB e0) (evBytes e0)) := by
  have ha := Lib.hid he0
  clear he0
  obtain ⟨W, hW⟩ : ∃ W, W = w.alloc (.cells (evCs A e0.act.frame.length c A2 e0.o.out.length c2 e0).toArray 39) := ⟨_, rfl⟩
  have HY : Hid (Blk W w.heap.size 39 (evCs A e0.act.frame.length c A2 e0.o.out.length c2 e0).toArray) := by rw [hW]; exact Blk.new w _ _ _ rfl
  have HB : Hid (Below w.heap.size w W) := by rw [hW]; exact (Below.refl _ _).alloc (Nat.le_refl _) _
  have RB := Lib.hid (blk_range HY.out)
  have HFw := Lib.hid hf
  have HW := Lib.hid hW
  clear hW hf
  go_enter Try.func20, Try.ntmps20
  go_upto_region 1 with fail
  rw [← HW.out]
  clear HW
  go_wp2_with (first
    | ((with_reducible refine gateL 39 ?_); refine wpList_load_g (by rfl) 39 (.tmp 1) rfl w.heap.size 0 rfl (evCs A e0.act.frame.length c A2 e0.o.out.length c2 e0) _ RB.out Try.underlying39 rfl (ev_sz ha.out) ?_))
  refine (right_any A c A2 c2 e0 ha.out W ((HFw.out.below HB.out).more HB.out.size)).mono ?_
  rintro e w1 ⟨rfl, hb1⟩
  have HY1 := Lib.hid (Blk.below HY.out hb1 HY.out.lt)
  have HB1 : Hid (Below w.heap.size w w1) := HB.out.trans (hb1.mono HB.out.size)
  clear HY RB HB hb1
  have HY := HY1
  have HB := HB1
  clear HY1 HB1
  rcases ht : rightEB e0 with _ | _
  · go_wp2
    go_ret2
    exact ⟨HB.out, fun _ => rfl, fun h => by rw [ht] at h; cases h⟩
  · have Ht := Lib.hid ht
    have hlenE := evBytes_len ha.out ht
    clear ht
    go_wp2_with fail
    refine (newWriter_any 1048576 w1 (by decide)).mono ?_
    rintro e w2 ⟨rfl, hW2, hb2⟩
    have HA2 : Hid (WAt w2 w1.heap.size []) := ⟨none, 0, hW2⟩
    have HY2 := Lib.hid (Blk.below HY.out hb2 HY.out.lt)
    have HB2 : Hid (Below w.heap.size w w2) := HB.out.trans (hb2.mono HB.out.size)
    have hgw : w.heap.size < w1.heap.size := HY.out.lt
    obtain ⟨g, hg⟩ : ∃ g, g = w1.heap.size := ⟨_, rfl⟩
    rw [← hg] at HA2 hgw ⊢
    clear HY HB hb2 hW2 hg
    obtain ⟨w3, hw3⟩ : ∃ W, W = w2.alloc (.cells #[.pointer (some ⟨g, 0, none⟩)] 84) := ⟨_, rfl⟩
    have hb3 : Below w2.heap.size w2 w3 := by rw [hw3]; exact (Below.refl _ _).alloc (Nat.le_refl _) _
    obtain ⟨bx, hbx⟩ : ∃ z, z = w2.heap.size := ⟨_, rfl⟩
    have HX : Hid (Blk w3 w2.heap.size 84 #[.pointer (some ⟨g, 0, none⟩)]) := by rw [hw3]; exact Blk.new w2 _ _ _ rfl
    have HY3 := Lib.hid (Blk.below HY2.out hb3 HY2.out.lt)
    have HA := Lib.hid (HA2.out.below hb3)
    have HB : Hid (Below w.heap.size w w3) := HB2.out.trans (hb3.mono HB2.out.size)
    have HW3 := Lib.hid hw3
    have hxg : w2.heap.size ≠ g := by have := HA2.out.lt; omega
    clear hw3 hb3 HA2 HY2 HB2
    go_upto_region 4 with fail
    rw [← HW3.out]
    rw [← hbx] at HX hxg ⊢
    clear HW3 hbx
    have hyg : w.heap.size ≠ g := by omega
    have RA := Lib.hid (ce_act HY3.out ha.out)
    have RX := Lib.hid (blk_range (cs := [.pointer (some ⟨g, 0, none⟩)]) HX.out)
    have hr := Ht.out
    simp only [rightEB, plainB, toldB, Bool.and_eq_true, decide_eq_true_eq, inZ_iff] at hr
    obtain ⟨⟨hk, hop, _, hfr, hon, hnm, hbn, hbp⟩, hee, hre, hvv, hnn, hoo, hll⟩ := hr
    have hop2 : e0.act.kind = 2 → 1 ≤ e0.act.op ∧ e0.act.op ≤ 5 := fun h => by
      rw [h] at hop
      simpa [inZ_iff] using hop
    have HF3 : BS w3 g A e0.act.frame := (HFw.out.below HB.out).more (Nat.le_of_lt hgw)
    have hc := Lib.hid (wact_any HA.out A c e0.act ha.out.act hk hop2 hbp ⟨by omega, by omega, by omega, by omega⟩ HF3 (by decide))
    obtain ⟨E, hE⟩ : ∃ E : Nat, E = e0.o.err.toNat := ⟨_, rfl⟩
    obtain ⟨Rr, hR⟩ : ∃ E : Nat, E = e0.o.reason.toNat := ⟨_, rfl⟩
    obtain ⟨V, hV⟩ : ∃ E : Nat, E = e0.o.version.toNat := ⟨_, rfl⟩
    obtain ⟨Ln, hLn⟩ : ∃ E : Nat, E = e0.len.toNat := ⟨_, rfl⟩
    have HEI : Hid (e0.o.err = (E : Int)) := by show _ = _; omega
    have HRI : Hid (e0.o.reason = (Rr : Int)) := by show _ = _; omega
    have HVI : Hid (e0.o.version = (V : Int)) := by show _ = _; omega
    have HLI : Hid (e0.len = (Ln : Int)) := by show _ = _; omega
    have hEb : E ≤ 9 := by omega
    have hRb : Rr ≤ 10 := by omega
    have hVb : V ≤ 1099511627776 := by omega
    have hLb : Ln ≤ 262144 := by omega
    have hSb := ha.out.sum
    have Hev : Hid (evBytes e0 = actBytes e0.act ++ (putS 1 E true ++ (putS 1 Rr true ++ (flagB e0.o.hit ++ (vput V ++ (textB e0.o.name ++ (vput Ln ++ putS 4 e0.sum false))))))) := by
      show _ = _
      rw [evBytes, hE, hR, hV, hLn]
    have hab : (actBytes e0.act).length ≤ 200000 := by
      have := congrArg List.length Hev.out
      rw [List.length_append] at this
      omega
    clear hE hR hV hLn hk hop hop2 hbp hee hre hvv hll HF3 hfr hon hnm hbn hoo HFw
    go_wp2_with (first
      | ((with_reducible refine gateL 84 ?_); refine wpList_load_g (by rfl) 84 (.tmp 4) rfl bx 0 rfl ([.pointer (some ⟨g, 0, none⟩)]) _ RX.out Try.underlying84 rfl laid_sz ?_)
      | ((with_reducible refine gateL 33 ?_); refine wpList_load_g (by rfl) 33 (.tmp 12) rfl w.heap.size 0 rfl (actCs A e0.act.frame.length c e0.act) _ RA.out Try.underlying33 rfl (act_sz ha.out.act) ?_))
    refine hc.out.mono ?_
    rintro e w4 ⟨rfl, h4, hs4⟩
    rw [List.nil_append] at h4
    have HX4 := Lib.hid (hs4.blk HX.out (by decide) hxg)
    have HY4 := Lib.hid (hs4.blk HY3.out (by decide) hyg)
    have HB4 : Hid (Below w.heap.size w w4) := HB.out.trans (hs4.bel.mono (Nat.le_of_lt hgw))
    have H4 := Lib.hid h4
    clear HX HY3 RA RX HB HA hc h4 hs4 hxg
    obtain ⟨x1, hx1⟩ : ∃ Z, Z = w4.alloc (.cells (outCs none 0 0 out0).toArray 36) := ⟨_, rfl⟩
    obtain ⟨W5, hy1⟩ : ∃ Z, Z = x1.setCells w4.heap.size 0 (outCs A2 e0.o.out.length c2 e0.o) := ⟨_, rfl⟩
    obtain ⟨htx, hbx, hex⟩ := boxed w4 x1 W5 36 (outCs none 0 0 out0) (outCs A2 e0.o.out.length c2 e0.o) rfl hx1 hy1
    rw [out0_lit] at hx1
    have Qx := Lib.hid hx1
    have Qy := Lib.hid hy1
    have Tx := Lib.hid htx
    have HP := Lib.hid hbx
    have HX := Lib.hid (Blk.below HX4.out hex HX4.out.lt)
    have HY := Lib.hid (Blk.below HY4.out hex HY4.out.lt)
    have HA := Lib.hid (H4.out.below hex)
    have HB : Hid (Below w.heap.size w W5) := HB4.out.trans (hex.mono HB4.out.size)
    have hpg : w4.heap.size ≠ g := by have := H4.out.lt; omega
    have hxg : bx ≠ g := fun e => Blk.ne HX4.out (H4.out.choose_spec.choose_spec.1) (by decide) e
    have RO := Lib.hid (ce_out HY4.out ha.out)
    clear hx1 hy1 htx hbx hex HX4 HY4 H4 HB4
    go_upto_region 6 with (first
      | ((with_reducible refine gateL 36 ?_); refine wpList_load_g (by rfl) 36 (.tmp 15) rfl w.heap.size 34 rfl (outCs A2 e0.o.out.length c2 e0.o) _ RO.out Try.underlying36 rfl out_sz ?_)
      | (rw [← Qx.out]; (with_reducible refine gateS 36 ?_); refine wpList_store_mid rfl 36 (.tmp 5) (.tmp 16) rfl w4.heap.size 0 (outCs A2 e0.o.out.length c2 e0.o).toArray rfl rfl Tx.out out_sz (out_one _ _ _ _) ?_))
    rw [← Qy.out]
    clear Qx Qy Tx RO
    obtain ⟨bp, hbp⟩ : ∃ z, z = w4.heap.size := ⟨_, rfl⟩
    rw [← hbp] at HP hpg ⊢
    clear hbp
    have d0 : W5.cell? ⟨bx, 0, none⟩ = some (.pointer (some ⟨g, 0, none⟩)) := HX.out.cell 0
    have d1 : W5.cell? ⟨bp, 0, none⟩ = some (.int .i64 (E : Int)) := by rw [← HEI.out]; exact co_err HP.out
    go_wp2_with fail
    refine (ewNum HA.out E 1 1 true rfl (by decide) (by decide) (by omega) (by omega)).mono ?_
    rintro e v1 ⟨rfl, H1, hs1⟩
    have HX2 := Lib.hid (hs1.blk HX.out (by decide) hxg)
    have HY2 := Lib.hid (hs1.blk HY.out (by decide) hyg)
    have HP2 := Lib.hid (hs1.blk HP.out (by decide) hpg)
    have HB2 : Hid (Below w.heap.size w v1) := HB.out.trans (hs1.bel.mono (Nat.le_of_lt hgw))
    clear HX HY HP HB HA hs1
    have HX := HX2
    have HY := HY2
    have HP := HP2
    have HB := HB2
    clear HX2 HY2 HP2 HB2
    obtain ⟨l1, hl1⟩ : ∃ x, x = (actBytes e0.act) ++ putS 1 E true := ⟨_, rfl⟩
    rw [← hl1] at H1
    have n1 : l1.length ≤ (actBytes e0.act).length + 1 := by rw [hl1, List.length_append]; rw [putS_length]; omega
    have Q1 := Lib.hid hl1
    have HA := Lib.hid H1
    clear H1 hl1
    clear d0 d1
    have d0 : v1.cell? ⟨bx, 0, none⟩ = some (.pointer (some ⟨g, 0, none⟩)) := HX.out.cell 0
    have d1 : v1.cell? ⟨bp, 1, none⟩ = some (.int .i64 (Rr : Int)) := by rw [← HRI.out]; exact co_reason HP.out
    go_wp2_with fail
    refine (ewNum HA.out Rr 1 1 true rfl (by decide) (by decide) (by omega) (by omega)).mono ?_
    rintro e v2 ⟨rfl, H1, hs1⟩
    have HX2 := Lib.hid (hs1.blk HX.out (by decide) hxg)
    have HY2 := Lib.hid (hs1.blk HY.out (by decide) hyg)
    have HP2 := Lib.hid (hs1.blk HP.out (by decide) hpg)
    have HB2 : Hid (Below w.heap.size w v2) := HB.out.trans (hs1.bel.mono (Nat.le_of_lt hgw))
    clear HX HY HP HB HA hs1
    have HX := HX2
    have HY := HY2
    have HP := HP2
    have HB := HB2
    clear HX2 HY2 HP2 HB2
    obtain ⟨l2, hl2⟩ : ∃ x, x = l1 ++ putS 1 Rr true := ⟨_, rfl⟩
    rw [← hl2] at H1
    have n2 : l2.length ≤ l1.length + 1 := by rw [hl2, List.length_append]; rw [putS_length]; omega
    have Q2 := Lib.hid hl2
    have HA := Lib.hid H1
    clear H1 hl2
    clear d0 d1
    have RX := Lib.hid (blk_range (cs := [.pointer (some ⟨g, 0, none⟩)]) HX.out)
    have d0 : v2.cell? ⟨bx, 0, none⟩ = some (.pointer (some ⟨g, 0, none⟩)) := HX.out.cell 0
    have d1 := co_hit HP.out
    go_wp2_with (first
        | ((with_reducible refine gateL 84 ?_); refine wpList_load_g (by rfl) 84 (.tmp 4) rfl bx 0 rfl ([.pointer (some ⟨g, 0, none⟩)]) _ RX.out Try.underlying84 rfl laid_sz ?_))
    refine (wflag_any HA.out e0.o.hit (by omega)).mono ?_
    rintro e v3 ⟨rfl, H1, hs1⟩
    have HX2 := Lib.hid (hs1.blk HX.out (by decide) hxg)
    have HY2 := Lib.hid (hs1.blk HY.out (by decide) hyg)
    have HP2 := Lib.hid (hs1.blk HP.out (by decide) hpg)
    have HB2 : Hid (Below w.heap.size w v3) := HB.out.trans (hs1.bel.mono (Nat.le_of_lt hgw))
    clear HX HY HP HB HA hs1
    have HX := HX2
    have HY := HY2
    have HP := HP2
    have HB := HB2
    clear HX2 HY2 HP2 HB2
    obtain ⟨l3, hl3⟩ : ∃ x, x = l2 ++ flagB e0.o.hit := ⟨_, rfl⟩
    rw [← hl3] at H1
    have n3 : l3.length ≤ l2.length + 1 := by rw [hl3, List.length_append]; rw [flagB_len]; omega
    have Q3 := Lib.hid hl3
    have HA := Lib.hid H1
    clear H1 hl3
    clear d0 d1 RX
    have d0 : v3.cell? ⟨bx, 0, none⟩ = some (.pointer (some ⟨g, 0, none⟩)) := HX.out.cell 0
    have d1 : v3.cell? ⟨bp, 3, none⟩ = some (.int .i64 (V : Int)) := by rw [← HVI.out]; exact co_version HP.out
    go_wp2_with fail
    refine (ewVar HA.out V (by omega) (by omega)).mono ?_
    rintro e v4 ⟨rfl, H1, hs1⟩
    have HX2 := Lib.hid (hs1.blk HX.out (by decide) hxg)
    have HY2 := Lib.hid (hs1.blk HY.out (by decide) hyg)
    have HP2 := Lib.hid (hs1.blk HP.out (by decide) hpg)
    have HB2 : Hid (Below w.heap.size w v4) := HB.out.trans (hs1.bel.mono (Nat.le_of_lt hgw))
    clear HX HY HP HB HA hs1
    have HX := HX2
    have HY := HY2
    have HP := HP2
    have HB := HB2
    clear HX2 HY2 HP2 HB2
    obtain ⟨l4, hl4⟩ : ∃ x, x = l3 ++ vput V := ⟨_, rfl⟩
    rw [← hl4] at H1
    have n4 : l4.length ≤ l3.length + 10 := by rw [hl4, List.length_append]; have := vput_le (n := V) (by omega); omega
    have Q4 := Lib.hid hl4
    have HA := Lib.hid H1
    clear H1 hl4
    clear d0 d1
    have d0 : v4.cell? ⟨bx, 0, none⟩ = some (.pointer (some ⟨g, 0, none⟩)) := HX.out.cell 0
    have d1 := co_name HP.out
    have hcv := conv_bytes v4 e0.o.name
    go_wp2_with fail
    have hbw := bytesWorld_below v4 5 ⟨e0.o.name.toArray⟩
    refine (ewText (HA.out.below hbw) _ _ _ e0.o.name rfl (bytesWorld_bs v4 5 e0.o.name) (by omega)).mono ?_
    rintro e v5 ⟨rfl, H1, hs0⟩
    have hs1 := (WStep.of_below hbw (Nat.le_of_lt HA.out.lt)).trans hs0
    clear hbw hs0 hcv d0 d1
    have HX2 := Lib.hid (hs1.blk HX.out (by decide) hxg)
    have HY2 := Lib.hid (hs1.blk HY.out (by decide) hyg)
    have HP2 := Lib.hid (hs1.blk HP.out (by decide) hpg)
    have HB2 : Hid (Below w.heap.size w v5) := HB.out.trans (hs1.bel.mono (Nat.le_of_lt hgw))
    clear HX HY HP HB HA hs1
    have HX := HX2
    have HY := HY2
    have HP := HP2
    have HB := HB2
    clear HX2 HY2 HP2 HB2
    obtain ⟨l5, hl5⟩ : ∃ x, x = l4 ++ (vput e0.o.name.length ++ e0.o.name) := ⟨_, rfl⟩
    rw [← hl5] at H1
    have n5 : l5.length ≤ l4.length + (e0.o.name.length + 10) := by rw [hl5, List.length_append]; have := textB_len (x := e0.o.name) (by omega); rw [textB] at this; omega
    have Q5 := Lib.hid hl5
    have HA := Lib.hid H1
    clear H1 hl5
    have d0 : v5.cell? ⟨bx, 0, none⟩ = some (.pointer (some ⟨g, 0, none⟩)) := HX.out.cell 0
    have d1 : v5.cell? ⟨w.heap.size, 40, none⟩ = some (.int .i64 (Ln : Int)) := by rw [← HLI.out]; exact ce_len HY.out ha.out
    go_wp2_with fail
    refine (ewVar HA.out Ln (by omega) (by omega)).mono ?_
    rintro e v6 ⟨rfl, H1, hs1⟩
    have HX2 := Lib.hid (hs1.blk HX.out (by decide) hxg)
    have HY2 := Lib.hid (hs1.blk HY.out (by decide) hyg)
    have HP2 := Lib.hid (hs1.blk HP.out (by decide) hpg)
    have HB2 : Hid (Below w.heap.size w v6) := HB.out.trans (hs1.bel.mono (Nat.le_of_lt hgw))
    clear HX HY HP HB HA hs1
    have HX := HX2
    have HY := HY2
    have HP := HP2
    have HB := HB2
    clear HX2 HY2 HP2 HB2
    obtain ⟨l6, hl6⟩ : ∃ x, x = l5 ++ vput Ln := ⟨_, rfl⟩
    rw [← hl6] at H1
    have n6 : l6.length ≤ l5.length + 10 := by rw [hl6, List.length_append]; have := vput_le (n := Ln) (by omega); omega
    have Q6 := Lib.hid hl6
    have HA := Lib.hid H1
    clear H1 hl6
    clear d0 d1
    have d0 : v6.cell? ⟨bx, 0, none⟩ = some (.pointer (some ⟨g, 0, none⟩)) := HX.out.cell 0
    have d1 := ce_sum HY.out ha.out
    go_wp2_with fail
    refine (ewNum HA.out e0.sum 4 4 false rfl (by decide) (by decide) (by omega) (by omega)).mono ?_
    rintro e v7 ⟨rfl, H1, hs1⟩
    have HX2 := Lib.hid (hs1.blk HX.out (by decide) hxg)
    have HY2 := Lib.hid (hs1.blk HY.out (by decide) hyg)
    have HP2 := Lib.hid (hs1.blk HP.out (by decide) hpg)
    have HB2 : Hid (Below w.heap.size w v7) := HB.out.trans (hs1.bel.mono (Nat.le_of_lt hgw))
    clear HX HY HP HB HA hs1
    have HX := HX2
    have HY := HY2
    have HP := HP2
    have HB := HB2
    clear HX2 HY2 HP2 HB2
    obtain ⟨l7, hl7⟩ : ∃ x, x = l6 ++ putS 4 e0.sum false := ⟨_, rfl⟩
    rw [← hl7] at H1
    have n7 : l7.length ≤ l6.length + 4 := by rw [hl7, List.length_append]; rw [putS_length]; omega
    have Q7 := Lib.hid hl7
    have HA := Lib.hid H1
    clear H1 hl7
    clear d0 d1
    have d0 : v7.cell? ⟨bx, 0, none⟩ = some (.pointer (some ⟨g, 0, none⟩)) := HX.out.cell 0
    have he : l7 = evBytes e0 := by
      rw [Q7.out, Q6.out, Q5.out, Q4.out, Q3.out, Q2.out, Q1.out, Hev.out]
      simp only [textB, List.append_assoc]
    rw [he] at HA
    go_wp2_with fail
    refine (ewOut HA.out (by omega)).mono ?_
    rintro e w9 ⟨A', c', rfl, hown, hb5⟩
    have hend : Below w.heap.size w w9 := HB.out.trans (hb5.mono HB.out.size)
    have hown2 := own_base' hown HB.out.size
    go_wp2
    go_ret2
    exact ⟨hend, (fun h => by rw [Ht.out] at h; cases h), fun _ => ⟨A', c', rfl, hown2⟩⟩
end Go.Proofs.Ytgohhojoahlfiaa
