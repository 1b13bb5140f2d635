/- Laid into one text: EvQ EvS EvR EvT EvU. -/
import Derived.Test.YtgohhojoahlfiaaEvP
import Derived.Deep.RegionHeld3

/- Backends compared as structs; bytes.Equal; within, told; cells of boxes. -/
namespace Go.Proofs.Ytgohhojoahlfiaa
open Go.RowKit
set_option linter.unusedVariables false
set_option linter.unusedSimpArgs false

theorem back_under : Try.prog.underlying 29 = some (.struct (Try.prog.fieldsOf 29)) := by kernel_rfl
theorem back_held : Try.prog.stoodInHeld 29 = false := by kernel_rfl
theorem back_guard : Try.prog.eqGuardType Try.prog.depth 29 = false := by kernel_rfl
theorem addr_size17 (w : World) : (sizeOf 25).run Try.prog w = .ok 17 w := by
  obtain ⟨i, hi⟩ := info_of_underlying Try.underlying25
  rw [run_sizeOf w hi, show Try.prog.cellsOf 25 = 17 by kernel_rfl]
theorem mac_size6 (w : World) : (sizeOf 26).run Try.prog w = .ok 6 w := by
  obtain ⟨i, hi⟩ := info_of_underlying Try.underlying26
  rw [run_sizeOf w hi, show Try.prog.cellsOf 26 = 6 by kernel_rfl]
theorem back_p0 (b : BackP) (w : World) : (part 9 (backCs b).toArray 0).run Try.prog w = .ok (sv b.name) w := by
  simp [part, isAgg, run_underlying Try.underlying9, backCs]
theorem back_p1 (b : BackP) (h : BackShape b) (w : World) : (part 25 (backCs b).toArray 1).run Try.prog w = .ok (.agg (addrCs b.addr).toArray) w := by
  have e : (backCs b).toArray.extract 1 18 = (addrCs b.addr).toArray := by
    apply Array.ext'
    simp only [Array.toList_extract, List.extract_eq_take_drop, backCs, List.drop_succ_cons, List.drop_zero]
    rw [List.take_append_of_le_length (by rw [addrCs_length h.addr]; decide), List.take_of_length_le (by rw [addrCs_length h.addr]; decide)]
  simp only [part, isAgg, Sem.run_bind, run_underlying Try.underlying25, Result.andThen_ok, Sem.run_pure, addr_size17, if_true, Nat.reduceAdd, e]
theorem back_p2 (b : BackP) (h : BackShape b) (w : World) : (part 3 (backCs b).toArray 18).run Try.prog w = .ok (zv b.port) w := by
  have e : (backCs b).toArray[18]? = some (zv b.port) := by rw [List.getElem?_toArray]; exact back_18 h 0
  simp [part, isAgg, run_underlying Try.underlying3, e]
theorem back_p3 (b : BackP) (h : BackShape b) (w : World) : (part 26 (backCs b).toArray 19).run Try.prog w = .ok (.agg (b.mac.map Extern.Stop.cell).toArray) w := by
  have h2 : bcells b.mac = b.mac.map Extern.Stop.cell := rfl
  have hd : (backCs b).drop 19 = bcells b.mac ++ [.float .f64 b.wt, .bool b.drain] := by
    rw [backCs, show 19 = 18 + 1 from rfl, List.drop_succ_cons, show 18 = 17 + 1 from rfl, ← List.drop_drop, List.drop_left' (addrCs_length h.addr), List.drop_succ_cons, List.drop_zero]
  have e : (backCs b).toArray.extract 19 25 = (bcells b.mac).toArray := by
    apply Array.ext'
    simp only [Array.toList_extract, List.extract_eq_take_drop]
    rw [hd, List.take_append_of_le_length (by rw [bcells_length, h.mac]; decide), List.take_of_length_le (by rw [bcells_length, h.mac]; decide)]
  simp only [part, isAgg, Sem.run_bind, run_underlying Try.underlying26, Result.andThen_ok, Sem.run_pure, mac_size6, if_true, Nat.reduceAdd, e, h2]
theorem back_p4 (b : BackP) (h : BackShape b) (w : World) : (part 27 (backCs b).toArray 25).run Try.prog w = .ok (.float .f64 b.wt) w := by
  have e : (backCs b).toArray[25]? = some (.float .f64 b.wt) := by rw [List.getElem?_toArray]; exact back_25 h 0
  simp [part, isAgg, run_underlying Try.underlying27, e]
theorem back_p5 (b : BackP) (h : BackShape b) (w : World) : (part 4 (backCs b).toArray 26).run Try.prog w = .ok (.bool b.drain) w := by
  have e : (backCs b).toArray[26]? = some (.bool b.drain) := by rw [List.getElem?_toArray]; exact back_25 h 1
  simp [part, isAgg, run_underlying Try.underlying4, e]
theorem run_equalIn_float0 (d : Nat) (t : TypeId) (h : Try.prog.underlying t = some (.float .f64)) (w : World) : (Op.equalIn (d + 1) t (.float .f64 0) (.float .f64 0)).run Try.prog w = .ok true w := by
  have := order_self 0
  simp [Op.equalIn, run_underlying h, Op.floatEq]
  try (rw [this]; rfl)
/-- Two backends without weight. -/
theorem back_eqIn (d : Nat) (a b : BackP) (ha : BackShape a) (hb : BackShape b) (h0 : a.wt = 0) (h1 : b.wt = 0) (w : World) :
    (Op.equalIn (d + 4) 29 (.agg (backCs a).toArray) (.agg (backCs b).toArray)).run Try.prog w = .ok (a.name == b.name && (a.addr == b.addr && (a.port == b.port && (a.mac == b.mac && a.drain == b.drain)))) w := by
  have e0 : ∀ w, (Op.equalIn (d + 3) 9 (sv a.name) (sv b.name)).run Try.prog w = .ok (a.name == b.name) w := fun w => by
    have := run_equalIn_string (P := Try.prog) w (d + 2) 9 ⟨a.name.toArray⟩ ⟨b.name.toArray⟩ Try.underlying9
    rw [ByteArray.toList_eq, ByteArray.toList_eq] at this
    simpa [sv] using this
  have e1 := fun w => addr_eqIn d a.addr b.addr ha.addr hb.addr w
  have e2 := fun w => run_equalIn_int (P := Try.prog) w (d + 2) 3 .i64 .i64 a.port b.port Try.underlying3
  have e3 := fun w => run_equalIn_bytes (P := Try.prog) w (d + 1) 26 5 6 Try.underlying26 Try.underlying5 u8_size1 a.mac b.mac ha.mac hb.mac
  have e4 := fun w => run_equalIn_float0 (d + 2) 27 Try.underlying27 w
  have e5 := fun w => run_equalIn_bool (P := Try.prog) w (d + 2) 4 a.drain b.drain Try.underlying4
  have p4a := back_p4 a ha w
  have p4b := back_p4 b hb w
  rw [h0] at p4a
  rw [h1] at p4b
  rw [run_equalIn_struct w (d + 3) _ _ _ back_under back_held]
  simp only [Program.fieldsOf, Try.underlying29, Op.eqFields]
  rw [if_pos (by decide)]
  simp only [Sem.run_bind, back_p0, Result.andThen_ok, e0]
  cases hc : (a.name == b.name)
  · simp
  · simp only [Bool.not_true, Bool.false_eq_true, if_false]
    rw [if_pos (by decide)]
    simp only [Sem.run_bind, back_p1 a ha, back_p1 b hb, Result.andThen_ok, e1]
    cases hd : (a.addr == b.addr)
    · simp
    · simp only [Bool.not_true, Bool.false_eq_true, if_false]
      rw [if_pos (by decide)]
      simp only [Sem.run_bind, back_p2 a ha, back_p2 b hb, Result.andThen_ok, zv, e2]
      cases he : (a.port == b.port)
      · simp
      · simp only [Bool.not_true, Bool.false_eq_true, if_false]
        rw [if_pos (by decide)]
        simp only [Sem.run_bind, back_p3 a ha, back_p3 b hb, Result.andThen_ok, e3]
        cases hf : (a.mac == b.mac)
        · simp
        · simp only [Bool.not_true, Bool.false_eq_true, if_false]
          rw [if_pos (by decide)]
          simp only [Sem.run_bind, p4a, p4b, Result.andThen_ok, e4]
          simp only [Bool.not_true, Bool.false_eq_true, if_false]
          rw [if_pos (by decide)]
          simp only [Sem.run_bind, back_p5 a ha, back_p5 b hb, Result.andThen_ok, e5]
          cases hg : (a.drain == b.drain) <;> simp

theorem bytesEq_any (A : Option Addr) (c : Nat) (l : List UInt8) (A' : Option Addr) (c' : Nat) (m : List UInt8) (w : World) (B B' : Nat) (hb : BS w B A l) (hb' : BS w B' A' m) :
    Calls Try.prog 39 #[.slice A l.length c, .slice A' m.length c'] w fun e w' => e = .returned (.bool (l == m)) ∧ w = w' := by
  have h1 := run_convert_bs (P := Try.prog) 22 9 5 Try.underlying22 Try.underlying5 Try.underlying9 w B A l hb _ c rfl
  have h2 := run_convert_bs (P := Try.prog) 22 9 5 Try.underlying22 Try.underlying5 Try.underlying9 w B' A' m hb' _ c' rfl
  go_enter Try.func39, Try.ntmps39
  go_wp2
  go_ret
  exact ⟨rfl, rfl⟩
theorem ewithin_any (n hi : Int) (w : World) : Calls Try.prog 34 #[.int .i64 n, .int .i64 hi] w fun e w' => e = .returned (.bool (inZ n 0 hi)) ∧ w = w' := by
  by_cases h : 0 ≤ n
  · have hr : Hid (inZ n 0 hi = decide (n ≤ hi)) := by show _ = _; rw [inZ, decide_eq_true h]; rfl
    go_enter Try.func34, Try.ntmps34
    go_wp2
    go_ret
    exact ⟨by rw [hr.out]; rfl, rfl⟩
  · have hr : Hid (inZ n 0 hi = false) := by show _ = _; rw [inZ, decide_eq_false h]; rfl
    go_enter Try.func34, Try.ntmps34
    go_wp2
    go_ret
    exact ⟨by rw [hr.out]; rfl, rfl⟩
section
variable {w : World} {g : Nat} {t : TypeId}
theorem cb_name {b : BackP} (hb : Blk w g t (backCs b).toArray) : w.cell? ⟨g, 0, none⟩ = some (.string ⟨b.name.toArray⟩) := hb.cell 0
theorem cb_port {b : BackP} (hb : Blk w g t (backCs b).toArray) (h : BackShape b) : w.cell? ⟨g, 18, none⟩ = some (.int .i64 b.port) := by rw [hb.cell, List.getElem?_toArray, show 18 = 18 + 0 from rfl, back_18 h]; rfl
theorem cb_wt {b : BackP} (hb : Blk w g t (backCs b).toArray) (h : BackShape b) : w.cell? ⟨g, 25, none⟩ = some (.float .f64 b.wt) := by rw [hb.cell, List.getElem?_toArray, show 25 = 25 + 0 from rfl, back_25 h]; rfl
theorem cb_drain {b : BackP} (hb : Blk w g t (backCs b).toArray) (h : BackShape b) : w.cell? ⟨g, 26, none⟩ = some (.bool b.drain) := by rw [hb.cell, List.getElem?_toArray, show 26 = 25 + 1 from rfl, back_25 h]; rfl
theorem cb_six {b : BackP} (hb : Blk w g t (backCs b).toArray) (h : BackShape b) : w.cell? ⟨g, 1, none⟩ = some (.bool b.addr.1) := by rw [hb.cell, List.getElem?_toArray, show 1 = 1 + 0 from rfl, back_addr h (by decide)]; rfl
theorem cb_addr {b : BackP} (hb : Blk w g t (backCs b).toArray) (h : BackShape b) : w.rangeAt g 1 (addrCs b.addr) := fun j v hj => by
  rw [hb.cell, List.getElem?_toArray, back_addr h (by have := (List.getElem?_eq_some_iff.1 hj).1; rw [addrCs_length h.addr] at this; exact this)]
  exact hj
theorem cb_mac {b : BackP} (hb : Blk w g t (backCs b).toArray) (h : BackShape b) : w.rangeAt g 19 (bcells b.mac) := fun j v hj => by
  rw [hb.cell, List.getElem?_toArray, back_mac h (by have := (List.getElem?_eq_some_iff.1 hj).1; rw [bcells_length, h.mac] at this; exact this)]
  exact hj
variable {A : Option Addr} {n c : Nat}
theorem ca_kind {a : ActP} (hb : Blk w g t (actCs A n c a).toArray) : w.cell? ⟨g, 0, none⟩ = some (.int .i64 a.kind) := hb.cell 0
theorem ca_frame {a : ActP} (hb : Blk w g t (actCs A n c a).toArray) : w.cell? ⟨g, 1, none⟩ = some (.slice A n c) := hb.cell 1
theorem ca_op {a : ActP} (hb : Blk w g t (actCs A n c a).toArray) : w.cell? ⟨g, 2, none⟩ = some (.int .i64 a.op) := hb.cell 2
theorem ca_30 {a : ActP} (hb : Blk w g t (actCs A n c a).toArray) (h : ActShape a) (i : Nat) : w.cell? ⟨g, 30 + i, none⟩ = [sv a.oname, .float .f64 a.owt, sv a.name, .bool a.well][i]? := by rw [hb.cell, List.getElem?_toArray, act_30 h]
theorem ca_oname {a : ActP} (hb : Blk w g t (actCs A n c a).toArray) (h : ActShape a) : w.cell? ⟨g, 30, none⟩ = some (.string ⟨a.oname.toArray⟩) := ca_30 hb h 0
theorem ca_owt {a : ActP} (hb : Blk w g t (actCs A n c a).toArray) (h : ActShape a) : w.cell? ⟨g, 31, none⟩ = some (.float .f64 a.owt) := ca_30 hb h 1
theorem ca_name {a : ActP} (hb : Blk w g t (actCs A n c a).toArray) (h : ActShape a) : w.cell? ⟨g, 32, none⟩ = some (.string ⟨a.name.toArray⟩) := ca_30 hb h 2
theorem ca_well {a : ActP} (hb : Blk w g t (actCs A n c a).toArray) (h : ActShape a) : w.cell? ⟨g, 33, none⟩ = some (.bool a.well) := ca_30 hb h 3
theorem ca_back {a : ActP} (hb : Blk w g t (actCs A n c a).toArray) (h : ActShape a) : w.rangeAt g 3 (backCs a.back) := fun j v hj => by
  rw [hb.cell, List.getElem?_toArray, act_back h (by have := (List.getElem?_eq_some_iff.1 hj).1; rw [back_len h.back] at this; exact this)]
  exact hj
variable {A' : Option Addr} {n' c' : Nat}
theorem ce_act {e : EvP} (hb : Blk w g t (evCs A n c A' n' c' e).toArray) (h : EvShape e) : w.rangeAt g 0 (actCs A n c e.act) := fun j v hj => by
  rw [Nat.zero_add, hb.cell, List.getElem?_toArray, ev_act h (by have := (List.getElem?_eq_some_iff.1 hj).1; rw [act_len h.act] at this; exact this)]
  exact hj
theorem ce_34 {e : EvP} (hb : Blk w g t (evCs A n c A' n' c' e).toArray) (h : EvShape e) (i : Nat) : w.cell? ⟨g, 34 + i, none⟩ = [zv e.o.err, zv e.o.reason, .bool e.o.hit, zv e.o.version, sv e.o.name, .slice A' n' c', zv e.len, .int .u32 (e.sum : Int)][i]? := by rw [hb.cell, List.getElem?_toArray, ev_34 h]
theorem ce_out {e : EvP} (hb : Blk w g t (evCs A n c A' n' c' e).toArray) (h : EvShape e) : w.rangeAt g 34 (outCs A' n' c' e.o) := fun j v hj => by
  rw [ce_34 hb h]
  rcases j with _ | _ | _ | _ | _ | _ | j
  all_goals first | exact hj | (simp [outCs] at hj)
theorem ce_len {e : EvP} (hb : Blk w g t (evCs A n c A' n' c' e).toArray) (h : EvShape e) : w.cell? ⟨g, 40, none⟩ = some (.int .i64 e.len) := ce_34 hb h 6
theorem ce_sum {e : EvP} (hb : Blk w g t (evCs A n c A' n' c' e).toArray) (h : EvShape e) : w.cell? ⟨g, 41, none⟩ = some (.int .u32 (e.sum : Int)) := ce_34 hb h 7
end
end Go.Proofs.Ytgohhojoahlfiaa

/- Events alike: sameBackend, sameAct, Same of package event (printed by gen_evsame.py). -/
namespace Go.Proofs.Ytgohhojoahlfiaa
open Go.RowKit
set_option linter.unusedVariables false
set_option linter.unusedSimpArgs false

theorem run_store_f64 (a : Addr) (n : Nat) (m : Mode) (w : World) : (store a (.float .f64 n) m).run Try.prog w = stored Try.prog w a (.float .f64 n) m := run_store Try.prog w a _ m rfl
theorem back_set {b : BackP} (h : BackShape b) : (backCs b).toArray.setIfInBounds 25 (.float .f64 0) = (backCs { b with wt := 0 }).toArray := by
  have h1 := addrCs_length h.addr; have h2 := h.mac
  rw [List.setIfInBounds_toArray]
  simp [backCs, List.set_append, h1, bcells_length, h2]
theorem noWt_shape {b : BackP} (h : BackShape b) : BackShape { b with wt := 0 } := ⟨h.addr, h.mac, by show (0 : Nat) < _; decide⟩

set_option maxHeartbeats 1000000 in
set_option maxRecDepth 100000 in
theorem sameBack_any (a b : BackP) (ha : BackShape a) (hb : BackShape b) (w : World) :
    Calls Try.prog 74 #[.agg (backCs a).toArray, .agg (backCs b).toArray] w fun e w' => e = .returned (.bool (sameBackB a b)) ∧ Below w.heap.size w w' := by
  obtain ⟨W1, hW1⟩ : ∃ W, W = w.alloc (.cells (backCs a).toArray 29) := ⟨_, rfl⟩
  obtain ⟨W, hW⟩ : ∃ W, W = W1.alloc (.cells (backCs b).toArray 29) := ⟨_, rfl⟩
  have hs1 : W1.heap.size = w.heap.size + 1 := by rw [hW1]; simp
  have hX1 : Blk W1 w.heap.size 29 (backCs a).toArray := by rw [hW1]; exact Blk.new w _ _ _ rfl
  have hX : Blk W w.heap.size 29 (backCs a).toArray := by rw [hW]; exact Blk.alloc hX1 _
  have hY : Blk W (w.heap.size + 1) 29 (backCs b).toArray := by rw [hW, ← hs1]; exact Blk.new W1 _ _ _ rfl
  have hB : Below w.heap.size w W := by rw [hW, hW1]; exact ((Below.refl _ _).alloc (Nat.le_refl _) _).alloc (by simp) _
  obtain ⟨V, hV⟩ : ∃ V, V = (W.setCell ⟨w.heap.size, 25, none⟩ (.float .f64 0)).setCell ⟨w.heap.size + 1, 25, none⟩ (.float .f64 0) := ⟨_, rfl⟩
  have hXV : Blk V w.heap.size 29 (backCs { a with wt := 0 }).toArray := by
    rw [hV, ← back_set ha]
    exact Blk.far (Blk.set_ hX 25 _) (p := ⟨w.heap.size + 1, 25, none⟩) (by show w.heap.size ≠ w.heap.size + 1; omega) _
  have hYV : Blk V (w.heap.size + 1) 29 (backCs { b with wt := 0 }).toArray := by
    rw [hV, ← back_set hb]
    exact Blk.set_ (Blk.far hY (p := ⟨w.heap.size, 25, none⟩) (by show w.heap.size + 1 ≠ w.heap.size; omega) _) 25 _
  have hBV : Below w.heap.size w V := by rw [hV]; exact (hB.setCell (by show w.heap.size ≤ w.heap.size; omega) _).setCell (by show w.heap.size ≤ w.heap.size + 1; omega) _
  have d1 := cb_wt hX ha
  have d2 := cb_wt hY hb
  have f1 := hX.frozen 25
  have f2 := hY.frozen 25
  have d3 : (W.setCell ⟨w.heap.size, 25, none⟩ (.float .f64 0)).cell? ⟨w.heap.size + 1, 25, none⟩ = some (.float .f64 b.wt) := cb_wt (Blk.far hY (p := ⟨w.heap.size, 25, none⟩) (by show w.heap.size + 1 ≠ w.heap.size; omega) _) hb
  have f3 : (W.setCell ⟨w.heap.size, 25, none⟩ (.float .f64 0)).frozen? ⟨w.heap.size + 1, 25, none⟩ = false := (Blk.far hY (p := ⟨w.heap.size, 25, none⟩) (by show w.heap.size + 1 ≠ w.heap.size; omega) _).frozen 25
  have HRx := Lib.hid (blk_range hXV)
  have HRy := Lib.hid (blk_range hYV)
  have Hsx := Lib.hid (back_sz (noWt_shape ha))
  have Hsy := Lib.hid (back_sz (noWt_shape hb))
  have He := Lib.hid (back_eqIn 9996 { a with wt := 0 } { b with wt := 0 } (noWt_shape ha) (noWt_shape hb) rfl rfl V)
  have HB := Lib.hid hBV
  have HV := Lib.hid hV
  have HW1 := Lib.hid hW1
  have HW := Lib.hid hW
  have hr : sameBackB a b = (wbits a.wt == wbits b.wt && (a.name == b.name && (a.addr == b.addr && (a.port == b.port && (a.mac == b.mac && a.drain == b.drain))))) := by
    unfold sameBackB
    cases (a.name == b.name) <;> cases (a.addr == b.addr) <;> cases (a.port == b.port) <;> cases (a.mac == b.mac) <;> cases (wbits a.wt == wbits b.wt) <;> rfl
  have Hr := Lib.hid hr
  clear hW1 hW hX1 hX hY hB hV hXV hYV hBV hr hs1
  go_enter Try.func74, Try.ntmps74
  go_upto_region 1 with fail
  rw [← HW1.out]
  rw [← HW.out]
  go_wp2_with fail
  refine (wsame_any a.wt b.wt W).mono ?_
  rintro e w2 ⟨rfl, rfl⟩
  have hsf := fun (a : Addr) (m : Mode) (w : World) => run_store_f64 a 0 m w
  go_upto_region 3 with fail
  rw [← HV.out]
  clear hsf
  clear d1 d2 d3 f1 f2 f3
  rcases hw : (wbits a.wt == wbits b.wt) with _ | _
  · have Hf : Hid (sameBackB a b = false) := by show _ = _; rw [Hr.out, hw]; rfl
    clear hw
    go_wp2
    go_ret
    exact ⟨by rw [Hf.out]; rfl, HB.out⟩
  · have Hf : Hid (sameBackB a b = (a.name == b.name && (a.addr == b.addr && (a.port == b.port && (a.mac == b.mac && a.drain == b.drain))))) := by show _ = _; rw [Hr.out, hw]; rfl
    clear hw
    obtain ⟨q, hq⟩ : ∃ q : Bool, q = (a.name == b.name && (a.addr == b.addr && (a.port == b.port && (a.mac == b.mac && a.drain == b.drain)))) := ⟨_, rfl⟩
    have He2 : Hid ((Op.equalIn 10000 29 (.agg (backCs { a with wt := 0 }).toArray) (.agg (backCs { b with wt := 0 }).toArray)).run Try.prog V = .ok q V) := by rw [hq]; exact He.out
    rw [← hq] at Hf
    clear hq He
    go_wp2_with (first
      | ((with_reducible refine gateL 29 ?_); refine wpList_load_g (by rfl) 29 (.tmp 2) rfl w.heap.size 0 rfl (backCs { a with wt := 0 }) _ HRx.out Try.underlying29 rfl Hsx.out ?_)
      | ((with_reducible refine gateL 29 ?_); refine wpList_load_g (by rfl) 29 (.tmp 3) rfl (w.heap.size + 1) 0 rfl (backCs { b with wt := 0 }) _ HRy.out Try.underlying29 rfl Hsy.out ?_)
      | ((with_reducible refine gateE 29 ?_); refine wpList_eqs_g (by rfl) 29 29 (.tmp 15) (.tmp 16) rfl (backCs { a with wt := 0 }).toArray (backCs { b with wt := 0 }).toArray rfl rfl back_guard _ He2.out ?_))
    go_ret
    exact ⟨by rw [Hf.out]; rfl, HB.out⟩

set_option maxHeartbeats 2000000 in
set_option maxRecDepth 100000 in
theorem sameAct_any (A : Option Addr) (c : Nat) (a : ActP) (A' : Option Addr) (c' : Nat) (b : ActP) (ha0 : ActShape a) (hb0 : ActShape b) (w : World) (hf : BS w w.heap.size A a.frame) (hf' : BS w w.heap.size A' b.frame) :
    Calls Try.prog 35 #[.agg (actCs A a.frame.length c a).toArray, .agg (actCs A' b.frame.length c' b).toArray] w fun e w' => e = .returned (.bool (sameActB a b)) ∧ Below w.heap.size w w' := by
  have ha := Lib.hid ha0
  have hb := Lib.hid hb0
  clear ha0 hb0
  obtain ⟨W1, hW1⟩ : ∃ W, W = w.alloc (.cells (actCs A a.frame.length c a).toArray 33) := ⟨_, rfl⟩
  obtain ⟨W, hW⟩ : ∃ W, W = W1.alloc (.cells (actCs A' b.frame.length c' b).toArray 33) := ⟨_, rfl⟩
  have hs1 : W1.heap.size = w.heap.size + 1 := by rw [hW1]; simp
  have hX1 : Blk W1 w.heap.size 33 (actCs A a.frame.length c a).toArray := by rw [hW1]; exact Blk.new w _ _ _ rfl
  have HX : Hid (Blk W w.heap.size 33 (actCs A a.frame.length c a).toArray) := by rw [hW]; exact Blk.alloc hX1 _
  have HY : Hid (Blk W (w.heap.size + 1) 33 (actCs A' b.frame.length c' b).toArray) := by rw [hW, ← hs1]; exact Blk.new W1 _ _ _ rfl
  have HB : Hid (Below w.heap.size w W) := by rw [hW, hW1]; exact ((Below.refl _ _).alloc (Nat.le_refl _) _).alloc (by simp) _
  have HW1 := Lib.hid hW1
  have HW := Lib.hid hW
  clear hW1 hW hX1 hs1
  have HF := Lib.hid (hf.below HB.out)
  have HF' := Lib.hid (hf'.below HB.out)
  clear hf hf'
  rcases h0 : (a.kind == b.kind) with _ | _
  · have Hr : Hid (sameActB a b = false) := by show _ = _; simp only [sameActB, h0, Bool.false_and, Bool.and_false]
    go_enter Try.func35, Try.ntmps35
    go_upto_region 1 with fail
    rw [← HW1.out]
    rw [← HW.out]
    have RX := Lib.hid (ca_back HX.out ha.out)
    have RY := Lib.hid (ca_back HY.out hb.out)
    have d0 := ca_kind HX.out; have e0 := ca_kind HY.out; have d1 := ca_frame HX.out; have e1 := ca_frame HY.out; have d2 := ca_op HX.out; have e2 := ca_op HY.out
    have d3 := ca_oname HX.out ha.out; have e3 := ca_oname HY.out hb.out; have d4 := ca_owt HX.out ha.out; have e4 := ca_owt HY.out hb.out; have d5 := ca_name HX.out ha.out; have e5 := ca_name HY.out hb.out; have d6 := ca_well HX.out ha.out; have e6 := ca_well HY.out hb.out
    have q0 : ¬ a.kind = b.kind := by simpa using h0
    go_wp2
    go_ret
    exact ⟨by rw [Hr.out]; rfl, HB.out⟩
  · have K0 := Lib.hid h0
    clear h0
    rcases h1 : (a.frame == b.frame) with _ | _
    · have Hr : Hid (sameActB a b = false) := by show _ = _; simp only [sameActB, h1, Bool.false_and, Bool.and_false]
      go_enter Try.func35, Try.ntmps35
      go_upto_region 1 with fail
      rw [← HW1.out]
      rw [← HW.out]
      have RX := Lib.hid (ca_back HX.out ha.out)
      have RY := Lib.hid (ca_back HY.out hb.out)
      have d0 := ca_kind HX.out; have e0 := ca_kind HY.out; have d1 := ca_frame HX.out; have e1 := ca_frame HY.out; have d2 := ca_op HX.out; have e2 := ca_op HY.out
      have d3 := ca_oname HX.out ha.out; have e3 := ca_oname HY.out hb.out; have d4 := ca_owt HX.out ha.out; have e4 := ca_owt HY.out hb.out; have d5 := ca_name HX.out ha.out; have e5 := ca_name HY.out hb.out; have d6 := ca_well HX.out ha.out; have e6 := ca_well HY.out hb.out
      have q0 : a.kind = b.kind := by simpa using K0.out
      go_wp2_with fail
      refine (bytesEq_any A c a.frame A' c' b.frame W _ _ HF.out HF'.out).mono ?_
      rintro e w4 ⟨rfl, rfl⟩
      rw [h1]
      go_wp2
      go_ret
      exact ⟨by rw [Hr.out]; rfl, HB.out⟩
    · have K1 := Lib.hid h1
      clear h1
      rcases h2 : (a.op == b.op) with _ | _
      · have Hr : Hid (sameActB a b = false) := by show _ = _; simp only [sameActB, h2, Bool.false_and, Bool.and_false]
        go_enter Try.func35, Try.ntmps35
        go_upto_region 1 with fail
        rw [← HW1.out]
        rw [← HW.out]
        have RX := Lib.hid (ca_back HX.out ha.out)
        have RY := Lib.hid (ca_back HY.out hb.out)
        have d0 := ca_kind HX.out; have e0 := ca_kind HY.out; have d1 := ca_frame HX.out; have e1 := ca_frame HY.out; have d2 := ca_op HX.out; have e2 := ca_op HY.out
        have d3 := ca_oname HX.out ha.out; have e3 := ca_oname HY.out hb.out; have d4 := ca_owt HX.out ha.out; have e4 := ca_owt HY.out hb.out; have d5 := ca_name HX.out ha.out; have e5 := ca_name HY.out hb.out; have d6 := ca_well HX.out ha.out; have e6 := ca_well HY.out hb.out
        have q0 : a.kind = b.kind := by simpa using K0.out
        have q2 : ¬ a.op = b.op := by simpa using h2
        go_wp2_with fail
        refine (bytesEq_any A c a.frame A' c' b.frame W _ _ HF.out HF'.out).mono ?_
        rintro e w4 ⟨rfl, rfl⟩
        rw [K1.out]
        go_wp2
        go_ret
        exact ⟨by rw [Hr.out]; rfl, HB.out⟩
      · have K2 := Lib.hid h2
        clear h2
        rcases h3 : (a.oname == b.oname) with _ | _
        · have Hr : Hid (sameActB a b = false) := by show _ = _; simp only [sameActB, h3, Bool.false_and, Bool.and_false]
          go_enter Try.func35, Try.ntmps35
          go_upto_region 1 with fail
          rw [← HW1.out]
          rw [← HW.out]
          have RX := Lib.hid (ca_back HX.out ha.out)
          have RY := Lib.hid (ca_back HY.out hb.out)
          have d0 := ca_kind HX.out; have e0 := ca_kind HY.out; have d1 := ca_frame HX.out; have e1 := ca_frame HY.out; have d2 := ca_op HX.out; have e2 := ca_op HY.out
          have d3 := ca_oname HX.out ha.out; have e3 := ca_oname HY.out hb.out; have d4 := ca_owt HX.out ha.out; have e4 := ca_owt HY.out hb.out; have d5 := ca_name HX.out ha.out; have e5 := ca_name HY.out hb.out; have d6 := ca_well HX.out ha.out; have e6 := ca_well HY.out hb.out
          have q0 : a.kind = b.kind := by simpa using K0.out
          have q2 : a.op = b.op := by simpa using K2.out
          have q3 : (a.oname == b.oname) = false := h3
          go_wp2_with fail
          refine (bytesEq_any A c a.frame A' c' b.frame W _ _ HF.out HF'.out).mono ?_
          rintro e w4 ⟨rfl, rfl⟩
          rw [K1.out]
          go_wp2
          go_ret
          exact ⟨by rw [Hr.out]; rfl, HB.out⟩
        · have K3 := Lib.hid h3
          clear h3
          rcases h4 : (wbits a.owt == wbits b.owt) with _ | _
          · have Hr : Hid (sameActB a b = false) := by show _ = _; simp only [sameActB, h4, Bool.false_and, Bool.and_false]
            go_enter Try.func35, Try.ntmps35
            go_upto_region 1 with fail
            rw [← HW1.out]
            rw [← HW.out]
            have RX := Lib.hid (ca_back HX.out ha.out)
            have RY := Lib.hid (ca_back HY.out hb.out)
            have d0 := ca_kind HX.out; have e0 := ca_kind HY.out; have d1 := ca_frame HX.out; have e1 := ca_frame HY.out; have d2 := ca_op HX.out; have e2 := ca_op HY.out
            have d3 := ca_oname HX.out ha.out; have e3 := ca_oname HY.out hb.out; have d4 := ca_owt HX.out ha.out; have e4 := ca_owt HY.out hb.out; have d5 := ca_name HX.out ha.out; have e5 := ca_name HY.out hb.out; have d6 := ca_well HX.out ha.out; have e6 := ca_well HY.out hb.out
            have q0 : a.kind = b.kind := by simpa using K0.out
            have q2 : a.op = b.op := by simpa using K2.out
            have q3 : (a.oname == b.oname) = true := K3.out
            go_wp2_with fail
            refine (bytesEq_any A c a.frame A' c' b.frame W _ _ HF.out HF'.out).mono ?_
            rintro e w4 ⟨rfl, rfl⟩
            rw [K1.out]
            go_wp2_with fail
            refine (wsame_any a.owt b.owt W).mono ?_
            rintro e w4 ⟨rfl, rfl⟩
            rw [h4]
            go_wp2
            go_ret
            exact ⟨by rw [Hr.out]; rfl, HB.out⟩
          · have K4 := Lib.hid h4
            clear h4
            rcases h5 : (sameBackB a.back b.back) with _ | _
            · have Hr : Hid (sameActB a b = false) := by show _ = _; simp only [sameActB, h5, Bool.false_and, Bool.and_false]
              go_enter Try.func35, Try.ntmps35
              go_upto_region 1 with fail
              rw [← HW1.out]
              rw [← HW.out]
              have RX := Lib.hid (ca_back HX.out ha.out)
              have RY := Lib.hid (ca_back HY.out hb.out)
              have d0 := ca_kind HX.out; have e0 := ca_kind HY.out; have d1 := ca_frame HX.out; have e1 := ca_frame HY.out; have d2 := ca_op HX.out; have e2 := ca_op HY.out
              have d3 := ca_oname HX.out ha.out; have e3 := ca_oname HY.out hb.out; have d4 := ca_owt HX.out ha.out; have e4 := ca_owt HY.out hb.out; have d5 := ca_name HX.out ha.out; have e5 := ca_name HY.out hb.out; have d6 := ca_well HX.out ha.out; have e6 := ca_well HY.out hb.out
              have q0 : a.kind = b.kind := by simpa using K0.out
              have q2 : a.op = b.op := by simpa using K2.out
              have q3 : (a.oname == b.oname) = true := K3.out
              go_wp2_with fail
              refine (bytesEq_any A c a.frame A' c' b.frame W _ _ HF.out HF'.out).mono ?_
              rintro e w4 ⟨rfl, rfl⟩
              rw [K1.out]
              go_wp2_with fail
              refine (wsame_any a.owt b.owt W).mono ?_
              rintro e w4 ⟨rfl, rfl⟩
              rw [K4.out]
              go_wp2_with (first
                  | ((with_reducible refine gateL 29 ?_); refine wpList_load_g (by rfl) 29 (.tmp 46) rfl w.heap.size 3 rfl (backCs a.back) _ RX.out Try.underlying29 rfl (back_sz ha.out.back) ?_)
                  | ((with_reducible refine gateL 29 ?_); refine wpList_load_g (by rfl) 29 (.tmp 49) rfl (w.heap.size + 1) 3 rfl (backCs b.back) _ RY.out Try.underlying29 rfl (back_sz hb.out.back) ?_))
              refine (sameBack_any a.back b.back ha.out.back hb.out.back W).mono ?_
              rintro e w5 ⟨rfl, hb5⟩
              have HX5 := Lib.hid (Blk.below HX.out hb5 HX.out.lt)
              have HY5 := Lib.hid (Blk.below HY.out hb5 HY.out.lt)
              have HB5 : Hid (Below w.heap.size w w5) := HB.out.trans (hb5.mono HB.out.size)
              clear HX HY HB hb5
              have HX := HX5
              have HY := HY5
              have HB := HB5
              clear HX5 HY5 HB5
              rw [h5]
              clear d0 e0 d1 e1 d2 e2 d3 e3 d4 e4 d5 e5 d6 e6
              have d0 := ca_kind HX.out; have e0 := ca_kind HY.out; have d1 := ca_frame HX.out; have e1 := ca_frame HY.out; have d2 := ca_op HX.out; have e2 := ca_op HY.out
              have d3 := ca_oname HX.out ha.out; have e3 := ca_oname HY.out hb.out; have d4 := ca_owt HX.out ha.out; have e4 := ca_owt HY.out hb.out; have d5 := ca_name HX.out ha.out; have e5 := ca_name HY.out hb.out; have d6 := ca_well HX.out ha.out; have e6 := ca_well HY.out hb.out
              go_wp2
              go_ret
              exact ⟨by rw [Hr.out]; rfl, HB.out⟩
            · have K5 := Lib.hid h5
              clear h5
              rcases h6 : (a.name == b.name) with _ | _
              · have Hr : Hid (sameActB a b = false) := by show _ = _; simp only [sameActB, h6, Bool.false_and, Bool.and_false]
                go_enter Try.func35, Try.ntmps35
                go_upto_region 1 with fail
                rw [← HW1.out]
                rw [← HW.out]
                have RX := Lib.hid (ca_back HX.out ha.out)
                have RY := Lib.hid (ca_back HY.out hb.out)
                have d0 := ca_kind HX.out; have e0 := ca_kind HY.out; have d1 := ca_frame HX.out; have e1 := ca_frame HY.out; have d2 := ca_op HX.out; have e2 := ca_op HY.out
                have d3 := ca_oname HX.out ha.out; have e3 := ca_oname HY.out hb.out; have d4 := ca_owt HX.out ha.out; have e4 := ca_owt HY.out hb.out; have d5 := ca_name HX.out ha.out; have e5 := ca_name HY.out hb.out; have d6 := ca_well HX.out ha.out; have e6 := ca_well HY.out hb.out
                have q0 : a.kind = b.kind := by simpa using K0.out
                have q2 : a.op = b.op := by simpa using K2.out
                have q3 : (a.oname == b.oname) = true := K3.out
                have q6 : (a.name == b.name) = false := h6
                go_wp2_with fail
                refine (bytesEq_any A c a.frame A' c' b.frame W _ _ HF.out HF'.out).mono ?_
                rintro e w4 ⟨rfl, rfl⟩
                rw [K1.out]
                go_wp2_with fail
                refine (wsame_any a.owt b.owt W).mono ?_
                rintro e w4 ⟨rfl, rfl⟩
                rw [K4.out]
                go_wp2_with (first
                    | ((with_reducible refine gateL 29 ?_); refine wpList_load_g (by rfl) 29 (.tmp 46) rfl w.heap.size 3 rfl (backCs a.back) _ RX.out Try.underlying29 rfl (back_sz ha.out.back) ?_)
                    | ((with_reducible refine gateL 29 ?_); refine wpList_load_g (by rfl) 29 (.tmp 49) rfl (w.heap.size + 1) 3 rfl (backCs b.back) _ RY.out Try.underlying29 rfl (back_sz hb.out.back) ?_))
                refine (sameBack_any a.back b.back ha.out.back hb.out.back W).mono ?_
                rintro e w5 ⟨rfl, hb5⟩
                have HX5 := Lib.hid (Blk.below HX.out hb5 HX.out.lt)
                have HY5 := Lib.hid (Blk.below HY.out hb5 HY.out.lt)
                have HB5 : Hid (Below w.heap.size w w5) := HB.out.trans (hb5.mono HB.out.size)
                clear HX HY HB hb5
                have HX := HX5
                have HY := HY5
                have HB := HB5
                clear HX5 HY5 HB5
                rw [K5.out]
                clear d0 e0 d1 e1 d2 e2 d3 e3 d4 e4 d5 e5 d6 e6
                have d0 := ca_kind HX.out; have e0 := ca_kind HY.out; have d1 := ca_frame HX.out; have e1 := ca_frame HY.out; have d2 := ca_op HX.out; have e2 := ca_op HY.out
                have d3 := ca_oname HX.out ha.out; have e3 := ca_oname HY.out hb.out; have d4 := ca_owt HX.out ha.out; have e4 := ca_owt HY.out hb.out; have d5 := ca_name HX.out ha.out; have e5 := ca_name HY.out hb.out; have d6 := ca_well HX.out ha.out; have e6 := ca_well HY.out hb.out
                go_wp2
                go_ret
                exact ⟨by rw [Hr.out]; rfl, HB.out⟩
              · have K6 := Lib.hid h6
                clear h6
                rcases h7 : (a.well == b.well) with _ | _
                · have Hr : Hid (sameActB a b = false) := by show _ = _; simp only [sameActB, h7, Bool.false_and, Bool.and_false]
                  go_enter Try.func35, Try.ntmps35
                  go_upto_region 1 with fail
                  rw [← HW1.out]
                  rw [← HW.out]
                  have RX := Lib.hid (ca_back HX.out ha.out)
                  have RY := Lib.hid (ca_back HY.out hb.out)
                  have d0 := ca_kind HX.out; have e0 := ca_kind HY.out; have d1 := ca_frame HX.out; have e1 := ca_frame HY.out; have d2 := ca_op HX.out; have e2 := ca_op HY.out
                  have d3 := ca_oname HX.out ha.out; have e3 := ca_oname HY.out hb.out; have d4 := ca_owt HX.out ha.out; have e4 := ca_owt HY.out hb.out; have d5 := ca_name HX.out ha.out; have e5 := ca_name HY.out hb.out; have d6 := ca_well HX.out ha.out; have e6 := ca_well HY.out hb.out
                  have q0 : a.kind = b.kind := by simpa using K0.out
                  have q2 : a.op = b.op := by simpa using K2.out
                  have q3 : (a.oname == b.oname) = true := K3.out
                  have q6 : (a.name == b.name) = true := K6.out
                  have q7 : (a.well == b.well) = false := h7
                  go_wp2_with fail
                  refine (bytesEq_any A c a.frame A' c' b.frame W _ _ HF.out HF'.out).mono ?_
                  rintro e w4 ⟨rfl, rfl⟩
                  rw [K1.out]
                  go_wp2_with fail
                  refine (wsame_any a.owt b.owt W).mono ?_
                  rintro e w4 ⟨rfl, rfl⟩
                  rw [K4.out]
                  go_wp2_with (first
                      | ((with_reducible refine gateL 29 ?_); refine wpList_load_g (by rfl) 29 (.tmp 46) rfl w.heap.size 3 rfl (backCs a.back) _ RX.out Try.underlying29 rfl (back_sz ha.out.back) ?_)
                      | ((with_reducible refine gateL 29 ?_); refine wpList_load_g (by rfl) 29 (.tmp 49) rfl (w.heap.size + 1) 3 rfl (backCs b.back) _ RY.out Try.underlying29 rfl (back_sz hb.out.back) ?_))
                  refine (sameBack_any a.back b.back ha.out.back hb.out.back W).mono ?_
                  rintro e w5 ⟨rfl, hb5⟩
                  have HX5 := Lib.hid (Blk.below HX.out hb5 HX.out.lt)
                  have HY5 := Lib.hid (Blk.below HY.out hb5 HY.out.lt)
                  have HB5 : Hid (Below w.heap.size w w5) := HB.out.trans (hb5.mono HB.out.size)
                  clear HX HY HB hb5
                  have HX := HX5
                  have HY := HY5
                  have HB := HB5
                  clear HX5 HY5 HB5
                  rw [K5.out]
                  clear d0 e0 d1 e1 d2 e2 d3 e3 d4 e4 d5 e5 d6 e6
                  have d0 := ca_kind HX.out; have e0 := ca_kind HY.out; have d1 := ca_frame HX.out; have e1 := ca_frame HY.out; have d2 := ca_op HX.out; have e2 := ca_op HY.out
                  have d3 := ca_oname HX.out ha.out; have e3 := ca_oname HY.out hb.out; have d4 := ca_owt HX.out ha.out; have e4 := ca_owt HY.out hb.out; have d5 := ca_name HX.out ha.out; have e5 := ca_name HY.out hb.out; have d6 := ca_well HX.out ha.out; have e6 := ca_well HY.out hb.out
                  go_wp2
                  go_ret
                  exact ⟨by rw [Hr.out]; rfl, HB.out⟩
                · have K7 := Lib.hid h7
                  clear h7
                  have Hr : Hid (sameActB a b = true) := by show _ = _; simp only [sameActB, K0.out, K1.out, K2.out, K3.out, K4.out, K5.out, K6.out, K7.out, Bool.and_true]
                  go_enter Try.func35, Try.ntmps35
                  go_upto_region 1 with fail
                  rw [← HW1.out]
                  rw [← HW.out]
                  have RX := Lib.hid (ca_back HX.out ha.out)
                  have RY := Lib.hid (ca_back HY.out hb.out)
                  have d0 := ca_kind HX.out; have e0 := ca_kind HY.out; have d1 := ca_frame HX.out; have e1 := ca_frame HY.out; have d2 := ca_op HX.out; have e2 := ca_op HY.out
                  have d3 := ca_oname HX.out ha.out; have e3 := ca_oname HY.out hb.out; have d4 := ca_owt HX.out ha.out; have e4 := ca_owt HY.out hb.out; have d5 := ca_name HX.out ha.out; have e5 := ca_name HY.out hb.out; have d6 := ca_well HX.out ha.out; have e6 := ca_well HY.out hb.out
                  have q0 : a.kind = b.kind := by simpa using K0.out
                  have q2 : a.op = b.op := by simpa using K2.out
                  have q3 : (a.oname == b.oname) = true := K3.out
                  have q6 : (a.name == b.name) = true := K6.out
                  have q7 : (a.well == b.well) = true := K7.out
                  go_wp2_with fail
                  refine (bytesEq_any A c a.frame A' c' b.frame W _ _ HF.out HF'.out).mono ?_
                  rintro e w4 ⟨rfl, rfl⟩
                  rw [K1.out]
                  go_wp2_with fail
                  refine (wsame_any a.owt b.owt W).mono ?_
                  rintro e w4 ⟨rfl, rfl⟩
                  rw [K4.out]
                  go_wp2_with (first
                      | ((with_reducible refine gateL 29 ?_); refine wpList_load_g (by rfl) 29 (.tmp 46) rfl w.heap.size 3 rfl (backCs a.back) _ RX.out Try.underlying29 rfl (back_sz ha.out.back) ?_)
                      | ((with_reducible refine gateL 29 ?_); refine wpList_load_g (by rfl) 29 (.tmp 49) rfl (w.heap.size + 1) 3 rfl (backCs b.back) _ RY.out Try.underlying29 rfl (back_sz hb.out.back) ?_))
                  refine (sameBack_any a.back b.back ha.out.back hb.out.back W).mono ?_
                  rintro e w5 ⟨rfl, hb5⟩
                  have HX5 := Lib.hid (Blk.below HX.out hb5 HX.out.lt)
                  have HY5 := Lib.hid (Blk.below HY.out hb5 HY.out.lt)
                  have HB5 : Hid (Below w.heap.size w w5) := HB.out.trans (hb5.mono HB.out.size)
                  clear HX HY HB hb5
                  have HX := HX5
                  have HY := HY5
                  have HB := HB5
                  clear HX5 HY5 HB5
                  rw [K5.out]
                  clear d0 e0 d1 e1 d2 e2 d3 e3 d4 e4 d5 e5 d6 e6
                  have d0 := ca_kind HX.out; have e0 := ca_kind HY.out; have d1 := ca_frame HX.out; have e1 := ca_frame HY.out; have d2 := ca_op HX.out; have e2 := ca_op HY.out
                  have d3 := ca_oname HX.out ha.out; have e3 := ca_oname HY.out hb.out; have d4 := ca_owt HX.out ha.out; have e4 := ca_owt HY.out hb.out; have d5 := ca_name HX.out ha.out; have e5 := ca_name HY.out hb.out; have d6 := ca_well HX.out ha.out; have e6 := ca_well HY.out hb.out
                  go_wp2
                  go_ret
                  exact ⟨by rw [Hr.out]; rfl, HB.out⟩
end Go.Proofs.Ytgohhojoahlfiaa

/- The document's: weights alike, a weight read; backends alike, acts alike (printed by gen_evref.py). -/
namespace Go.Proofs.Ytgohhojoahlfiaa
open Go.RowKit
set_option linter.unusedVariables false
set_option linter.unusedSimpArgs false

theorem putS_beN {l : List UInt8} (h : l.length = 8) : putS 8 (beN l) true = l := by
  have e := beN_reverse l.reverse
  rw [List.reverse_reverse] at e
  have e2 := leB_of_val (l := l.reverse)
  rw [List.length_reverse, h, ← e] at e2
  simp only [putS, if_true]
  rw [e2, List.reverse_reverse]
theorem refWPut_bs (n : Nat) (w : World) (hn : n < 18446744073709551616) : Calls Try.prog 51 #[.float .f64 n] w fun e w' => ∃ A c, e = .returned (.slice A (wput n).length c) ∧ BS w' w'.heap.size A (wput n) ∧ Below w.heap.size w w' := by
  refine (refWPut_any n w hn).mono ?_
  rintro e w' ⟨A, c, rfl, hown, hb⟩
  have h8 := wput_len n
  refine ⟨A, c, by rw [h8], ?_, hb⟩
  rw [← h8] at hown
  exact (BS.of_own hown).1
set_option maxHeartbeats 1000000 in
set_option maxRecDepth 100000 in
theorem refWSame_any (a b : Nat) (ha : a < 18446744073709551616) (hb : b < 18446744073709551616) (w : World) :
    Calls Try.prog 70 #[.float .f64 a, .float .f64 b] w fun e w' => e = .returned (.bool (wbits a == wbits b)) ∧ Below w.heap.size w w' := by
  rw [← wput_beq ha hb]
  go_enter Try.func70, Try.ntmps70
  go_upto_region 1 with fail
  refine wp_region_noPanic ?_
  refine wp_region_held_drew (S := fun w' => Below w.heap.size w w') (by kernel_rfl) ((Below.refl _ _).drew) (fun hHeld => ?_)
  refine wpAnyH_take (i := 0) (v := ?_) rfl (by kernel_rfl) (by kernel_rfl) (by kernel_rfl) (fun _ _ _ h => h) (Or.inl ⟨by rfl, ?_⟩) hHeld ?_
  rotate_left
  · intro w' hSw
    skip
    go_simp
    try with_reducible rfl
  try (simp only [Act.put, List.getElem_toArray, List.getElem_cons_succ, List.getElem_cons_zero, List.setIfInBounds_toArray, List.set_cons_zero, List.set_cons_succ])
  refine wpAnyH_take (i := 3) (v := ?_) rfl (by kernel_rfl) (by kernel_rfl) (by kernel_rfl) (fun _ _ _ h => h) (Or.inl ⟨by rfl, ?_⟩) hHeld ?_
  rotate_left
  · intro w' hSw
    skip
    go_simp
    try with_reducible rfl
  try (simp only [Act.put, List.getElem_toArray, List.getElem_cons_succ, List.getElem_cons_zero, List.setIfInBounds_toArray, List.set_cons_zero, List.set_cons_succ])
  refine wpAnyH_ready (rs := [1]) (by kernel_rfl) (by simp) ?_
  refine AllReadyH.cons (i := 1) rfl (fun K hK => ?_) ?_
  · go_simp
    refine (refWPut_bs a _ ha).mono ?_
    rintro e w1 ⟨Aa, cAa, rfl, HAa0, hbAa⟩
    have hBehind : Below w.heap.size w w1 := hHeld.trans (hbAa.mono hHeld.size)
    have HAa := Lib.hid HAa0
    clear HAa0
    go_wp2_with fail
    refine hK.out _ _ hBehind (fun hHeld => ?_)
    clear hK K hBehind
    try (simp only [Act.put, List.getElem_toArray, List.getElem_cons_succ, List.getElem_cons_zero, List.setIfInBounds_toArray, List.set_cons_zero, List.set_cons_succ])
    refine wpAnyH_ready (rs := [2, 4]) (by kernel_rfl) (by simp) ?_
    refine AllReadyH.cons (i := 2) rfl (fun K hK => ?_) ?_
    · have hcv := run_convert_bs (P := Try.prog) 22 9 5 Try.underlying22 Try.underlying5 Try.underlying9 w1 _ Aa (wput a) HAa.out _ cAa rfl
      go_simp
      refine hK.out _ _ hHeld (fun hHeld => ?_)
      clear hK K hcv
      try (simp only [Act.put, List.getElem_toArray, List.getElem_cons_succ, List.getElem_cons_zero, List.setIfInBounds_toArray, List.set_cons_zero, List.set_cons_succ])
      refine wpAnyH_ready (rs := [4]) (by kernel_rfl) (by simp) ?_
      refine AllReadyH.cons (i := 4) rfl (fun K hK => ?_) ?_
      · go_simp
        refine (refWPut_bs b _ hb).mono ?_
        rintro e w2 ⟨Ab, cAb, rfl, HAb0, hbAb⟩
        have hBehind : Below w.heap.size w w2 := hHeld.trans (hbAb.mono hHeld.size)
        have HAb := Lib.hid HAb0
        clear HAb0
        go_wp2_with fail
        refine hK.out _ _ hBehind (fun hHeld => ?_)
        clear hK K hBehind
        try (simp only [Act.put, List.getElem_toArray, List.getElem_cons_succ, List.getElem_cons_zero, List.setIfInBounds_toArray, List.set_cons_zero, List.set_cons_succ])
        refine wpAnyH_ready (rs := [5]) (by kernel_rfl) (by simp) ?_
        refine AllReadyH.cons (i := 5) rfl (fun K hK => ?_) ?_
        · have hcv := run_convert_bs (P := Try.prog) 22 9 5 Try.underlying22 Try.underlying5 Try.underlying9 w2 _ Ab (wput b) HAb.out _ cAb rfl
          go_simp
          refine hK.out _ _ hHeld (fun hHeld => ?_)
          clear hK K hcv
          try (simp only [Act.put, List.getElem_toArray, List.getElem_cons_succ, List.getElem_cons_zero, List.setIfInBounds_toArray, List.set_cons_zero, List.set_cons_succ])
          refine wpAnyH_take (i := 6) (v := ?_) rfl (by kernel_rfl) (by kernel_rfl) (by kernel_rfl) (fun _ _ _ h => h) (Or.inl ⟨by rfl, ?_⟩) hHeld ?_
          rotate_left
          · intro w' hSw
            skip
            go_simp
            try with_reducible rfl
          try (simp only [Act.put, List.getElem_toArray, List.getElem_cons_succ, List.getElem_cons_zero, List.setIfInBounds_toArray, List.set_cons_zero, List.set_cons_succ])
          refine wpAnyH_take (i := 7) (v := ?_) rfl (by kernel_rfl) (by kernel_rfl) (by kernel_rfl) (fun _ _ _ h => h) (Or.inl ⟨by rfl, ?_⟩) hHeld ?_
          rotate_left
          · intro w' hSw
            skip
            go_simp
            try with_reducible rfl
          try (simp only [Act.put, List.getElem_toArray, List.getElem_cons_succ, List.getElem_cons_zero, List.setIfInBounds_toArray, List.set_cons_zero, List.set_cons_succ])
          refine wpAnyH_done (by kernel_rfl) ?_ _
          refine NoPanic.normal ?_
          go_wp2
          go_ret
          exact ⟨rfl, hHeld⟩
        exact AllReadyH.nil
      exact AllReadyH.nil
    refine AllReadyH.cons (i := 4) rfl (fun K hK => ?_) ?_
    · go_simp
      refine (refWPut_bs b _ hb).mono ?_
      rintro e w2 ⟨Ab, cAb, rfl, HAb0, hbAb⟩
      have hBehind : Below w.heap.size w w2 := hHeld.trans (hbAb.mono hHeld.size)
      have HAb := Lib.hid HAb0
      clear HAb0
      go_wp2_with fail
      refine hK.out _ _ hBehind (fun hHeld => ?_)
      clear hK K hBehind
      try (simp only [Act.put, List.getElem_toArray, List.getElem_cons_succ, List.getElem_cons_zero, List.setIfInBounds_toArray, List.set_cons_zero, List.set_cons_succ])
      refine wpAnyH_ready (rs := [2, 5]) (by kernel_rfl) (by simp) ?_
      refine AllReadyH.cons (i := 2) rfl (fun K hK => ?_) ?_
      · have hcv := run_convert_bs (P := Try.prog) 22 9 5 Try.underlying22 Try.underlying5 Try.underlying9 w2 _ Aa (wput a) (HAa.out.below hbAb) _ cAa rfl
        go_simp
        refine hK.out _ _ hHeld (fun hHeld => ?_)
        clear hK K hcv
        try (simp only [Act.put, List.getElem_toArray, List.getElem_cons_succ, List.getElem_cons_zero, List.setIfInBounds_toArray, List.set_cons_zero, List.set_cons_succ])
        refine wpAnyH_ready (rs := [5]) (by kernel_rfl) (by simp) ?_
        refine AllReadyH.cons (i := 5) rfl (fun K hK => ?_) ?_
        · have hcv := run_convert_bs (P := Try.prog) 22 9 5 Try.underlying22 Try.underlying5 Try.underlying9 w2 _ Ab (wput b) HAb.out _ cAb rfl
          go_simp
          refine hK.out _ _ hHeld (fun hHeld => ?_)
          clear hK K hcv
          try (simp only [Act.put, List.getElem_toArray, List.getElem_cons_succ, List.getElem_cons_zero, List.setIfInBounds_toArray, List.set_cons_zero, List.set_cons_succ])
          refine wpAnyH_take (i := 6) (v := ?_) rfl (by kernel_rfl) (by kernel_rfl) (by kernel_rfl) (fun _ _ _ h => h) (Or.inl ⟨by rfl, ?_⟩) hHeld ?_
          rotate_left
          · intro w' hSw
            skip
            go_simp
            try with_reducible rfl
          try (simp only [Act.put, List.getElem_toArray, List.getElem_cons_succ, List.getElem_cons_zero, List.setIfInBounds_toArray, List.set_cons_zero, List.set_cons_succ])
          refine wpAnyH_take (i := 7) (v := ?_) rfl (by kernel_rfl) (by kernel_rfl) (by kernel_rfl) (fun _ _ _ h => h) (Or.inl ⟨by rfl, ?_⟩) hHeld ?_
          rotate_left
          · intro w' hSw
            skip
            go_simp
            try with_reducible rfl
          try (simp only [Act.put, List.getElem_toArray, List.getElem_cons_succ, List.getElem_cons_zero, List.setIfInBounds_toArray, List.set_cons_zero, List.set_cons_succ])
          refine wpAnyH_done (by kernel_rfl) ?_ _
          refine NoPanic.normal ?_
          go_wp2
          go_ret
          exact ⟨rfl, hHeld⟩
        exact AllReadyH.nil
      refine AllReadyH.cons (i := 5) rfl (fun K hK => ?_) ?_
      · have hcv := run_convert_bs (P := Try.prog) 22 9 5 Try.underlying22 Try.underlying5 Try.underlying9 w2 _ Ab (wput b) HAb.out _ cAb rfl
        go_simp
        refine hK.out _ _ hHeld (fun hHeld => ?_)
        clear hK K hcv
        try (simp only [Act.put, List.getElem_toArray, List.getElem_cons_succ, List.getElem_cons_zero, List.setIfInBounds_toArray, List.set_cons_zero, List.set_cons_succ])
        refine wpAnyH_ready (rs := [2]) (by kernel_rfl) (by simp) ?_
        refine AllReadyH.cons (i := 2) rfl (fun K hK => ?_) ?_
        · have hcv := run_convert_bs (P := Try.prog) 22 9 5 Try.underlying22 Try.underlying5 Try.underlying9 w2 _ Aa (wput a) (HAa.out.below hbAb) _ cAa rfl
          go_simp
          refine hK.out _ _ hHeld (fun hHeld => ?_)
          clear hK K hcv
          try (simp only [Act.put, List.getElem_toArray, List.getElem_cons_succ, List.getElem_cons_zero, List.setIfInBounds_toArray, List.set_cons_zero, List.set_cons_succ])
          refine wpAnyH_take (i := 6) (v := ?_) rfl (by kernel_rfl) (by kernel_rfl) (by kernel_rfl) (fun _ _ _ h => h) (Or.inl ⟨by rfl, ?_⟩) hHeld ?_
          rotate_left
          · intro w' hSw
            skip
            go_simp
            try with_reducible rfl
          try (simp only [Act.put, List.getElem_toArray, List.getElem_cons_succ, List.getElem_cons_zero, List.setIfInBounds_toArray, List.set_cons_zero, List.set_cons_succ])
          refine wpAnyH_take (i := 7) (v := ?_) rfl (by kernel_rfl) (by kernel_rfl) (by kernel_rfl) (fun _ _ _ h => h) (Or.inl ⟨by rfl, ?_⟩) hHeld ?_
          rotate_left
          · intro w' hSw
            skip
            go_simp
            try with_reducible rfl
          try (simp only [Act.put, List.getElem_toArray, List.getElem_cons_succ, List.getElem_cons_zero, List.setIfInBounds_toArray, List.set_cons_zero, List.set_cons_succ])
          refine wpAnyH_done (by kernel_rfl) ?_ _
          refine NoPanic.normal ?_
          go_wp2
          go_ret
          exact ⟨rfl, hHeld⟩
        exact AllReadyH.nil
      exact AllReadyH.nil
    exact AllReadyH.nil
  exact AllReadyH.nil
set_option maxHeartbeats 1000000 in
set_option maxRecDepth 100000 in
theorem refWGet_any (A : Option Addr) (n c : Nat) (l : List UInt8) (w : World) (hn : n = l.length) (hb : BS w w.heap.size A l) (hl : n ≤ 8) (hc : n ≤ c) :
    Calls Try.prog 89 #[.slice A n c] w fun e w' => e = .returned (.tuple #[.float .f64 (wgetS l).1, .bool (wgetS l).2]) ∧ Below w.heap.size w w' := by
  subst hn
  have Hb := Lib.hid hb
  clear hb
  by_cases h8 : l.length = 8
  · have Hg := Lib.hid (refGetBe_any A _ c l w rfl Hb.out hl)
    obtain ⟨m, hm⟩ : ∃ m, m = beN l := ⟨_, rfl⟩
    have hm64 : m < 18446744073709551616 := by rw [hm]; exact beN_lt8 hl
    have hwb : (wput m == l) = (wbits m == m) := by
      have hl2 : l = putS 8 m true := by rw [hm]; exact (putS_beN h8).symm
      by_cases h : wbits m = m
      · rw [h, show wput m = l by unfold wput; rw [h]; exact hl2.symm]; simp
      · rw [beq_eq_false_iff_ne.2 h]
        exact beq_eq_false_iff_ne.2 (fun e => h (putS_inj (wbits_lt hm64) hm64 (by rw [← hl2]; exact e)))
    have hw : wgetS l = if l.length = 8 ∧ wbits m = m then (m, true) else (0, false) := by rw [hm]; rfl
    rw [← hm] at Hg
    have Hw := Lib.hid hw
    have Hwb := Lib.hid hwb
    have h8I : (l.length : Int) = 8 := by omega
    have H8 := Lib.hid h8
    clear hm hw hwb h8
    go_enter Try.func89, Try.ntmps89
    go_wp2_with fail
    refine Hg.out.mono ?_
    rintro e w2 ⟨rfl, rfl⟩
    have Hb2 := Lib.hid (Below.refl w.heap.size w)
    have hf := run_f64from m w
    clear Hg
    go_upto_region 4 with fail
    refine wp_region_noPanic ?_
    refine wp_region_held_drew (S := fun w' => Below w.heap.size w w') (by kernel_rfl) ((Below.refl _ _).drew) (fun hHeld => ?_)
    refine wpAnyH_take (i := 0) (v := ?_) rfl (by kernel_rfl) (by kernel_rfl) (by kernel_rfl) (fun _ _ _ h => h) (Or.inl ⟨by rfl, ?_⟩) hHeld ?_
    rotate_left
    · intro w' hSw
      skip
      go_simp
      try with_reducible rfl
    try (simp only [Act.put, List.getElem_toArray, List.getElem_cons_succ, List.getElem_cons_zero, List.setIfInBounds_toArray, List.set_cons_zero, List.set_cons_succ])
    refine wpAnyH_take (i := 3) (v := ?_) rfl (by kernel_rfl) (by kernel_rfl) (by kernel_rfl) (fun _ _ _ h => h) (Or.inl ⟨by rfl, ?_⟩) hHeld ?_
    rotate_left
    · intro w' hSw
      skip
      go_simp
      try with_reducible rfl
    try (simp only [Act.put, List.getElem_toArray, List.getElem_cons_succ, List.getElem_cons_zero, List.setIfInBounds_toArray, List.set_cons_zero, List.set_cons_succ])
    refine wpAnyH_take (i := 4) (v := ?_) rfl (by kernel_rfl) (by kernel_rfl) (by kernel_rfl) (fun _ _ _ h => h) (Or.inl ⟨by rfl, ?_⟩) hHeld ?_
    rotate_left
    · intro w' hSw
      have hcv := run_convert_bs (P := Try.prog) 22 9 5 Try.underlying22 Try.underlying5 Try.underlying9 w' _ A l ((Hb.out.below Hb2.out).more Hb2.out.size |>.below hSw) _ c rfl
      go_simp
      try with_reducible rfl
    try (simp only [Act.put, List.getElem_toArray, List.getElem_cons_succ, List.getElem_cons_zero, List.setIfInBounds_toArray, List.set_cons_zero, List.set_cons_succ])
    refine wpAnyH_ready (rs := [1]) (by kernel_rfl) (by simp) ?_
    refine AllReadyH.cons (i := 1) rfl (fun K hK => ?_) AllReadyH.nil
    go_simp
    refine (refWPut_bs m _ hm64).mono ?_
    rintro e w3 ⟨A3, c3, rfl, H30, hb3⟩
    have hBehind : Below w.heap.size w w3 := hHeld.trans (hb3.mono hHeld.size)
    have H3 := Lib.hid H30
    clear H30
    go_wp2_with fail
    refine hK.out _ _ hBehind (fun hHeld => ?_)
    clear hK K hBehind
    try (simp only [Act.put, List.getElem_toArray, List.getElem_cons_succ, List.getElem_cons_zero, List.setIfInBounds_toArray, List.set_cons_zero, List.set_cons_succ])
    refine wpAnyH_ready (rs := [2]) (by kernel_rfl) (by simp) ?_
    refine AllReadyH.cons (i := 2) rfl (fun K hK => ?_) AllReadyH.nil
    have hcv := run_convert_bs (P := Try.prog) 22 9 5 Try.underlying22 Try.underlying5 Try.underlying9 w3 _ A3 (wput m) H3.out _ c3 rfl
    go_simp
    refine hK.out _ _ hHeld (fun hHeld => ?_)
    clear hK K hcv
    try (simp only [Act.put, List.getElem_toArray, List.getElem_cons_succ, List.getElem_cons_zero, List.setIfInBounds_toArray, List.set_cons_zero, List.set_cons_succ])
    refine wpAnyH_take (i := 5) (v := ?_) rfl (by kernel_rfl) (by kernel_rfl) (by kernel_rfl) (fun _ _ _ h => h) (Or.inl ⟨by rfl, ?_⟩) hHeld ?_
    rotate_left
    · intro w' hSw
      skip
      go_simp
      try with_reducible rfl
    try (simp only [Act.put, List.getElem_toArray, List.getElem_cons_succ, List.getElem_cons_zero, List.setIfInBounds_toArray, List.set_cons_zero, List.set_cons_succ])
    refine wpAnyH_done (by kernel_rfl) ?_ _
    refine NoPanic.normal ?_
    have hend : Below w.heap.size w w3 := Hb2.out.trans (hHeld.mono Hb2.out.size)
    rw [Hwb.out]
    by_cases hm : wbits m = m
    · rw [show (wbits m == m) = true by simp [hm]]
      have hfin : wgetS l = (m, true) := Hw.out.trans (by simp [H8.out, hm])
      have Hfin := Lib.hid hfin
      clear hm hfin
      go_wp2
      go_ret2
      exact ⟨by rw [Hfin.out]; rfl, hend⟩
    · rw [show (wbits m == m) = false from beq_eq_false_iff_ne.2 hm]
      have hfin : wgetS l = (0, false) := Hw.out.trans (if_neg (fun h => hm h.2))
      have Hfin := Lib.hid hfin
      clear hm hfin
      go_wp2
      go_ret2
      exact ⟨by rw [Hfin.out]; rfl, hend⟩
  · have h8I : ((l.length : Int) != 8) = true := by simp; omega
    have hfin : wgetS l = (0, false) := if_neg (fun h => h8 h.1)
    have Hfin := Lib.hid hfin
    clear h8 hfin
    go_enter Try.func89, Try.ntmps89
    go_wp2
    go_ret2
    exact ⟨by rw [Hfin.out]; rfl, Below.refl _ _⟩
end Go.Proofs.Ytgohhojoahlfiaa

/- The document's: backends alike, acts alike (printed by gen_evsam2.py). -/
namespace Go.Proofs.Ytgohhojoahlfiaa
open Go.RowKit
set_option linter.unusedVariables false
set_option linter.unusedSimpArgs false

theorem mac_guard : Try.prog.eqGuardType Try.prog.depth 26 = false := by kernel_rfl
theorem mac_size : (Try.prog.info? 26).map (·.size) = some 6 := by kernel_rfl
theorem mac_sz {l : List UInt8} (h : l.length = 6) : (Try.prog.info? 26).map (·.size) = some (bcells l).length := by rw [bcells_length, h]; exact mac_size
theorem mac_eqIn (d : Nat) (a b : List UInt8) (ha : a.length = 6) (hb : b.length = 6) (w : World) : (Op.equalIn (d + 2) 26 (.agg (bcells a).toArray) (.agg (bcells b).toArray)).run Try.prog w = .ok (a == b) w :=
  run_equalIn_bytes (P := Try.prog) w d 26 5 6 Try.underlying26 Try.underlying5 u8_size1 a b ha hb
set_option maxHeartbeats 2000000 in
set_option maxRecDepth 100000 in
theorem sameOne_any (a b : BackP) (ha0 : BackShape a) (hb0 : BackShape b) (w : World) :
    Calls Try.prog 29 #[.agg (backCs a).toArray, .agg (backCs b).toArray] w fun e w' => e = .returned (.bool (sameBackB a b)) ∧ Below w.heap.size w w' := by
  have ha := Lib.hid ha0
  have hb := Lib.hid hb0
  clear ha0 hb0
  obtain ⟨W1, hW1⟩ : ∃ W, W = w.alloc (.cells (backCs a).toArray 29) := ⟨_, rfl⟩
  obtain ⟨W, hW⟩ : ∃ W, W = W1.alloc (.cells (backCs b).toArray 29) := ⟨_, rfl⟩
  have hs1 : W1.heap.size = w.heap.size + 1 := by rw [hW1]; simp
  have hX1 : Blk W1 w.heap.size 29 (backCs a).toArray := by rw [hW1]; exact Blk.new w _ _ _ rfl
  have HX : Hid (Blk W w.heap.size 29 (backCs a).toArray) := by rw [hW]; exact Blk.alloc hX1 _
  have HY : Hid (Blk W (w.heap.size + 1) 29 (backCs b).toArray) := by rw [hW, ← hs1]; exact Blk.new W1 _ _ _ rfl
  have HB : Hid (Below w.heap.size w W) := by rw [hW, hW1]; exact ((Below.refl _ _).alloc (Nat.le_refl _) _).alloc (by simp) _
  have HW1 := Lib.hid hW1
  have HW := Lib.hid hW
  clear hW1 hW hX1 hs1
  rcases h0 : (a.name == b.name) with _ | _
  · have Hr : Hid (sameBackB a b = false) := by show _ = _; simp only [sameBackB, h0, Bool.false_and, Bool.and_false]
    go_enter Try.func29, Try.ntmps29
    go_upto_region 1 with fail
    rw [← HW1.out]
    rw [← HW.out]
    have RXa := Lib.hid (cb_addr HX.out ha.out)
    have RYa := Lib.hid (cb_addr HY.out hb.out)
    have RXm := Lib.hid (cb_mac HX.out ha.out)
    have RYm := Lib.hid (cb_mac HY.out hb.out)
    have HE1 := Lib.hid (addr_eqIn 9997 a.addr b.addr ha.out.addr hb.out.addr W)
    have HE3 := Lib.hid (mac_eqIn 9998 a.mac b.mac ha.out.mac hb.out.mac W)
    have d0 := cb_name HX.out; have e0 := cb_name HY.out; have d1 := cb_port HX.out ha.out; have e1 := cb_port HY.out hb.out; have d2 := cb_drain HX.out ha.out; have e2 := cb_drain HY.out hb.out; have d3 := cb_wt HX.out ha.out; have e3 := cb_wt HY.out hb.out
    have q0 : (a.name == b.name) = false := h0
    go_wp2
    go_ret
    exact ⟨by rw [Hr.out]; rfl, HB.out⟩
  · have K0 := Lib.hid h0
    clear h0
    rcases h1 : (a.addr == b.addr) with _ | _
    · have Hr : Hid (sameBackB a b = false) := by show _ = _; simp only [sameBackB, h1, Bool.false_and, Bool.and_false]
      go_enter Try.func29, Try.ntmps29
      go_upto_region 1 with fail
      rw [← HW1.out]
      rw [← HW.out]
      have RXa := Lib.hid (cb_addr HX.out ha.out)
      have RYa := Lib.hid (cb_addr HY.out hb.out)
      have RXm := Lib.hid (cb_mac HX.out ha.out)
      have RYm := Lib.hid (cb_mac HY.out hb.out)
      have HE1 := Lib.hid (addr_eqIn 9997 a.addr b.addr ha.out.addr hb.out.addr W)
      have HE3 := Lib.hid (mac_eqIn 9998 a.mac b.mac ha.out.mac hb.out.mac W)
      have d0 := cb_name HX.out; have e0 := cb_name HY.out; have d1 := cb_port HX.out ha.out; have e1 := cb_port HY.out hb.out; have d2 := cb_drain HX.out ha.out; have e2 := cb_drain HY.out hb.out; have d3 := cb_wt HX.out ha.out; have e3 := cb_wt HY.out hb.out
      rw [h1] at HE1
      have q0 : (a.name == b.name) = true := K0.out
      have q1 := h1
      go_wp2_with (first
          | ((with_reducible refine gateL 25 ?_); refine wpList_load_g (by rfl) 25 (.tmp 11) rfl w.heap.size 1 rfl (addrCs a.addr) _ RXa.out Try.underlying25 rfl (addr_sz ha.out.addr) ?_)
          | ((with_reducible refine gateL 25 ?_); refine wpList_load_g (by rfl) 25 (.tmp 13) rfl (w.heap.size + 1) 1 rfl (addrCs b.addr) _ RYa.out Try.underlying25 rfl (addr_sz hb.out.addr) ?_)
          | ((with_reducible refine gateE 25 ?_); refine wpList_eqs_g (by rfl) 25 25 (.tmp 12) (.tmp 14) rfl (addrCs a.addr).toArray (addrCs b.addr).toArray rfl rfl addr_guard _ HE1.out ?_))
      go_ret
      exact ⟨by rw [Hr.out]; rfl, HB.out⟩
    · have K1 := Lib.hid h1
      clear h1
      rcases h2 : (a.port == b.port) with _ | _
      · have Hr : Hid (sameBackB a b = false) := by show _ = _; simp only [sameBackB, h2, Bool.false_and, Bool.and_false]
        go_enter Try.func29, Try.ntmps29
        go_upto_region 1 with fail
        rw [← HW1.out]
        rw [← HW.out]
        have RXa := Lib.hid (cb_addr HX.out ha.out)
        have RYa := Lib.hid (cb_addr HY.out hb.out)
        have RXm := Lib.hid (cb_mac HX.out ha.out)
        have RYm := Lib.hid (cb_mac HY.out hb.out)
        have HE1 := Lib.hid (addr_eqIn 9997 a.addr b.addr ha.out.addr hb.out.addr W)
        have HE3 := Lib.hid (mac_eqIn 9998 a.mac b.mac ha.out.mac hb.out.mac W)
        have d0 := cb_name HX.out; have e0 := cb_name HY.out; have d1 := cb_port HX.out ha.out; have e1 := cb_port HY.out hb.out; have d2 := cb_drain HX.out ha.out; have e2 := cb_drain HY.out hb.out; have d3 := cb_wt HX.out ha.out; have e3 := cb_wt HY.out hb.out
        rw [K1.out] at HE1
        have q0 : (a.name == b.name) = true := K0.out
        have q1 := K1.out
        have q2 : ¬ a.port = b.port := by simpa using h2
        go_wp2_with (first
            | ((with_reducible refine gateL 25 ?_); refine wpList_load_g (by rfl) 25 (.tmp 11) rfl w.heap.size 1 rfl (addrCs a.addr) _ RXa.out Try.underlying25 rfl (addr_sz ha.out.addr) ?_)
            | ((with_reducible refine gateL 25 ?_); refine wpList_load_g (by rfl) 25 (.tmp 13) rfl (w.heap.size + 1) 1 rfl (addrCs b.addr) _ RYa.out Try.underlying25 rfl (addr_sz hb.out.addr) ?_)
            | ((with_reducible refine gateE 25 ?_); refine wpList_eqs_g (by rfl) 25 25 (.tmp 12) (.tmp 14) rfl (addrCs a.addr).toArray (addrCs b.addr).toArray rfl rfl addr_guard _ HE1.out ?_))
        go_ret
        exact ⟨by rw [Hr.out]; rfl, HB.out⟩
      · have K2 := Lib.hid h2
        clear h2
        rcases h3 : (a.mac == b.mac) with _ | _
        · have Hr : Hid (sameBackB a b = false) := by show _ = _; simp only [sameBackB, h3, Bool.false_and, Bool.and_false]
          go_enter Try.func29, Try.ntmps29
          go_upto_region 1 with fail
          rw [← HW1.out]
          rw [← HW.out]
          have RXa := Lib.hid (cb_addr HX.out ha.out)
          have RYa := Lib.hid (cb_addr HY.out hb.out)
          have RXm := Lib.hid (cb_mac HX.out ha.out)
          have RYm := Lib.hid (cb_mac HY.out hb.out)
          have HE1 := Lib.hid (addr_eqIn 9997 a.addr b.addr ha.out.addr hb.out.addr W)
          have HE3 := Lib.hid (mac_eqIn 9998 a.mac b.mac ha.out.mac hb.out.mac W)
          have d0 := cb_name HX.out; have e0 := cb_name HY.out; have d1 := cb_port HX.out ha.out; have e1 := cb_port HY.out hb.out; have d2 := cb_drain HX.out ha.out; have e2 := cb_drain HY.out hb.out; have d3 := cb_wt HX.out ha.out; have e3 := cb_wt HY.out hb.out
          rw [K1.out] at HE1
          rw [h3] at HE3
          have q0 : (a.name == b.name) = true := K0.out
          have q1 := K1.out
          have q2 : a.port = b.port := by simpa using K2.out
          have q3 := h3
          go_wp2_with (first
              | ((with_reducible refine gateL 25 ?_); refine wpList_load_g (by rfl) 25 (.tmp 11) rfl w.heap.size 1 rfl (addrCs a.addr) _ RXa.out Try.underlying25 rfl (addr_sz ha.out.addr) ?_)
              | ((with_reducible refine gateL 25 ?_); refine wpList_load_g (by rfl) 25 (.tmp 13) rfl (w.heap.size + 1) 1 rfl (addrCs b.addr) _ RYa.out Try.underlying25 rfl (addr_sz hb.out.addr) ?_)
              | ((with_reducible refine gateE 25 ?_); refine wpList_eqs_g (by rfl) 25 25 (.tmp 12) (.tmp 14) rfl (addrCs a.addr).toArray (addrCs b.addr).toArray rfl rfl addr_guard _ HE1.out ?_)
              | ((with_reducible refine gateL 26 ?_); refine wpList_load_g (by rfl) 26 (.tmp 25) rfl w.heap.size 19 rfl (bcells a.mac) _ RXm.out Try.underlying26 rfl (mac_sz ha.out.mac) ?_)
              | ((with_reducible refine gateL 26 ?_); refine wpList_load_g (by rfl) 26 (.tmp 27) rfl (w.heap.size + 1) 19 rfl (bcells b.mac) _ RYm.out Try.underlying26 rfl (mac_sz hb.out.mac) ?_)
              | ((with_reducible refine gateE 26 ?_); refine wpList_eqs_g (by rfl) 26 26 (.tmp 26) (.tmp 28) rfl (bcells a.mac).toArray (bcells b.mac).toArray rfl rfl mac_guard _ HE3.out ?_))
          go_ret
          exact ⟨by rw [Hr.out]; rfl, HB.out⟩
        · have K3 := Lib.hid h3
          clear h3
          rcases h4 : (a.drain == b.drain) with _ | _
          · have Hr : Hid (sameBackB a b = false) := by show _ = _; simp only [sameBackB, h4, Bool.false_and, Bool.and_false]
            go_enter Try.func29, Try.ntmps29
            go_upto_region 1 with fail
            rw [← HW1.out]
            rw [← HW.out]
            have RXa := Lib.hid (cb_addr HX.out ha.out)
            have RYa := Lib.hid (cb_addr HY.out hb.out)
            have RXm := Lib.hid (cb_mac HX.out ha.out)
            have RYm := Lib.hid (cb_mac HY.out hb.out)
            have HE1 := Lib.hid (addr_eqIn 9997 a.addr b.addr ha.out.addr hb.out.addr W)
            have HE3 := Lib.hid (mac_eqIn 9998 a.mac b.mac ha.out.mac hb.out.mac W)
            have d0 := cb_name HX.out; have e0 := cb_name HY.out; have d1 := cb_port HX.out ha.out; have e1 := cb_port HY.out hb.out; have d2 := cb_drain HX.out ha.out; have e2 := cb_drain HY.out hb.out; have d3 := cb_wt HX.out ha.out; have e3 := cb_wt HY.out hb.out
            rw [K1.out] at HE1
            rw [K3.out] at HE3
            have q0 : (a.name == b.name) = true := K0.out
            have q1 := K1.out
            have q2 : a.port = b.port := by simpa using K2.out
            have q3 := K3.out
            have q4 : (a.drain == b.drain) = false := h4
            go_wp2_with (first
                | ((with_reducible refine gateL 25 ?_); refine wpList_load_g (by rfl) 25 (.tmp 11) rfl w.heap.size 1 rfl (addrCs a.addr) _ RXa.out Try.underlying25 rfl (addr_sz ha.out.addr) ?_)
                | ((with_reducible refine gateL 25 ?_); refine wpList_load_g (by rfl) 25 (.tmp 13) rfl (w.heap.size + 1) 1 rfl (addrCs b.addr) _ RYa.out Try.underlying25 rfl (addr_sz hb.out.addr) ?_)
                | ((with_reducible refine gateE 25 ?_); refine wpList_eqs_g (by rfl) 25 25 (.tmp 12) (.tmp 14) rfl (addrCs a.addr).toArray (addrCs b.addr).toArray rfl rfl addr_guard _ HE1.out ?_)
                | ((with_reducible refine gateL 26 ?_); refine wpList_load_g (by rfl) 26 (.tmp 25) rfl w.heap.size 19 rfl (bcells a.mac) _ RXm.out Try.underlying26 rfl (mac_sz ha.out.mac) ?_)
                | ((with_reducible refine gateL 26 ?_); refine wpList_load_g (by rfl) 26 (.tmp 27) rfl (w.heap.size + 1) 19 rfl (bcells b.mac) _ RYm.out Try.underlying26 rfl (mac_sz hb.out.mac) ?_)
                | ((with_reducible refine gateE 26 ?_); refine wpList_eqs_g (by rfl) 26 26 (.tmp 26) (.tmp 28) rfl (bcells a.mac).toArray (bcells b.mac).toArray rfl rfl mac_guard _ HE3.out ?_))
            go_ret
            exact ⟨by rw [Hr.out]; rfl, HB.out⟩
          · have K4 := Lib.hid h4
            clear h4
            rcases h5 : (wbits a.wt == wbits b.wt) with _ | _
            · have Hr : Hid (sameBackB a b = false) := by show _ = _; simp only [sameBackB, h5, Bool.false_and, Bool.and_false]
              go_enter Try.func29, Try.ntmps29
              go_upto_region 1 with fail
              rw [← HW1.out]
              rw [← HW.out]
              have RXa := Lib.hid (cb_addr HX.out ha.out)
              have RYa := Lib.hid (cb_addr HY.out hb.out)
              have RXm := Lib.hid (cb_mac HX.out ha.out)
              have RYm := Lib.hid (cb_mac HY.out hb.out)
              have HE1 := Lib.hid (addr_eqIn 9997 a.addr b.addr ha.out.addr hb.out.addr W)
              have HE3 := Lib.hid (mac_eqIn 9998 a.mac b.mac ha.out.mac hb.out.mac W)
              have d0 := cb_name HX.out; have e0 := cb_name HY.out; have d1 := cb_port HX.out ha.out; have e1 := cb_port HY.out hb.out; have d2 := cb_drain HX.out ha.out; have e2 := cb_drain HY.out hb.out; have d3 := cb_wt HX.out ha.out; have e3 := cb_wt HY.out hb.out
              rw [K1.out] at HE1
              rw [K3.out] at HE3
              have q0 : (a.name == b.name) = true := K0.out
              have q1 := K1.out
              have q2 : a.port = b.port := by simpa using K2.out
              have q3 := K3.out
              have q4 : (a.drain == b.drain) = true := K4.out
              go_wp2_with (first
                  | ((with_reducible refine gateL 25 ?_); refine wpList_load_g (by rfl) 25 (.tmp 11) rfl w.heap.size 1 rfl (addrCs a.addr) _ RXa.out Try.underlying25 rfl (addr_sz ha.out.addr) ?_)
                  | ((with_reducible refine gateL 25 ?_); refine wpList_load_g (by rfl) 25 (.tmp 13) rfl (w.heap.size + 1) 1 rfl (addrCs b.addr) _ RYa.out Try.underlying25 rfl (addr_sz hb.out.addr) ?_)
                  | ((with_reducible refine gateE 25 ?_); refine wpList_eqs_g (by rfl) 25 25 (.tmp 12) (.tmp 14) rfl (addrCs a.addr).toArray (addrCs b.addr).toArray rfl rfl addr_guard _ HE1.out ?_)
                  | ((with_reducible refine gateL 26 ?_); refine wpList_load_g (by rfl) 26 (.tmp 25) rfl w.heap.size 19 rfl (bcells a.mac) _ RXm.out Try.underlying26 rfl (mac_sz ha.out.mac) ?_)
                  | ((with_reducible refine gateL 26 ?_); refine wpList_load_g (by rfl) 26 (.tmp 27) rfl (w.heap.size + 1) 19 rfl (bcells b.mac) _ RYm.out Try.underlying26 rfl (mac_sz hb.out.mac) ?_)
                  | ((with_reducible refine gateE 26 ?_); refine wpList_eqs_g (by rfl) 26 26 (.tmp 26) (.tmp 28) rfl (bcells a.mac).toArray (bcells b.mac).toArray rfl rfl mac_guard _ HE3.out ?_))
              refine (refWSame_any a.wt b.wt ha.out.wt hb.out.wt W).mono ?_
              rintro e w5 ⟨rfl, hb5⟩
              have HX5 := Lib.hid (Blk.below HX.out hb5 HX.out.lt)
              have HY5 := Lib.hid (Blk.below HY.out hb5 HY.out.lt)
              have HB5 : Hid (Below w.heap.size w w5) := HB.out.trans (hb5.mono HB.out.size)
              clear HX HY HB hb5
              have HX := HX5
              have HY := HY5
              have HB := HB5
              clear HX5 HY5 HB5
              rw [h5]
              go_wp2
              go_ret
              exact ⟨by rw [Hr.out]; rfl, HB.out⟩
            · have K5 := Lib.hid h5
              clear h5
              have Hr : Hid (sameBackB a b = true) := by show _ = _; simp only [sameBackB, K0.out, K1.out, K2.out, K3.out, K4.out, K5.out, Bool.and_true]
              go_enter Try.func29, Try.ntmps29
              go_upto_region 1 with fail
              rw [← HW1.out]
              rw [← HW.out]
              have RXa := Lib.hid (cb_addr HX.out ha.out)
              have RYa := Lib.hid (cb_addr HY.out hb.out)
              have RXm := Lib.hid (cb_mac HX.out ha.out)
              have RYm := Lib.hid (cb_mac HY.out hb.out)
              have HE1 := Lib.hid (addr_eqIn 9997 a.addr b.addr ha.out.addr hb.out.addr W)
              have HE3 := Lib.hid (mac_eqIn 9998 a.mac b.mac ha.out.mac hb.out.mac W)
              have d0 := cb_name HX.out; have e0 := cb_name HY.out; have d1 := cb_port HX.out ha.out; have e1 := cb_port HY.out hb.out; have d2 := cb_drain HX.out ha.out; have e2 := cb_drain HY.out hb.out; have d3 := cb_wt HX.out ha.out; have e3 := cb_wt HY.out hb.out
              rw [K1.out] at HE1
              rw [K3.out] at HE3
              have q0 : (a.name == b.name) = true := K0.out
              have q1 := K1.out
              have q2 : a.port = b.port := by simpa using K2.out
              have q3 := K3.out
              have q4 : (a.drain == b.drain) = true := K4.out
              go_wp2_with (first
                  | ((with_reducible refine gateL 25 ?_); refine wpList_load_g (by rfl) 25 (.tmp 11) rfl w.heap.size 1 rfl (addrCs a.addr) _ RXa.out Try.underlying25 rfl (addr_sz ha.out.addr) ?_)
                  | ((with_reducible refine gateL 25 ?_); refine wpList_load_g (by rfl) 25 (.tmp 13) rfl (w.heap.size + 1) 1 rfl (addrCs b.addr) _ RYa.out Try.underlying25 rfl (addr_sz hb.out.addr) ?_)
                  | ((with_reducible refine gateE 25 ?_); refine wpList_eqs_g (by rfl) 25 25 (.tmp 12) (.tmp 14) rfl (addrCs a.addr).toArray (addrCs b.addr).toArray rfl rfl addr_guard _ HE1.out ?_)
                  | ((with_reducible refine gateL 26 ?_); refine wpList_load_g (by rfl) 26 (.tmp 25) rfl w.heap.size 19 rfl (bcells a.mac) _ RXm.out Try.underlying26 rfl (mac_sz ha.out.mac) ?_)
                  | ((with_reducible refine gateL 26 ?_); refine wpList_load_g (by rfl) 26 (.tmp 27) rfl (w.heap.size + 1) 19 rfl (bcells b.mac) _ RYm.out Try.underlying26 rfl (mac_sz hb.out.mac) ?_)
                  | ((with_reducible refine gateE 26 ?_); refine wpList_eqs_g (by rfl) 26 26 (.tmp 26) (.tmp 28) rfl (bcells a.mac).toArray (bcells b.mac).toArray rfl rfl mac_guard _ HE3.out ?_))
              refine (refWSame_any a.wt b.wt ha.out.wt hb.out.wt W).mono ?_
              rintro e w5 ⟨rfl, hb5⟩
              have HX5 := Lib.hid (Blk.below HX.out hb5 HX.out.lt)
              have HY5 := Lib.hid (Blk.below HY.out hb5 HY.out.lt)
              have HB5 : Hid (Below w.heap.size w w5) := HB.out.trans (hb5.mono HB.out.size)
              clear HX HY HB hb5
              have HX := HX5
              have HY := HY5
              have HB := HB5
              clear HX5 HY5 HB5
              rw [K5.out]
              go_wp2
              go_ret
              exact ⟨by rw [Hr.out]; rfl, HB.out⟩
set_option maxHeartbeats 2000000 in
set_option maxRecDepth 100000 in
theorem refSameAct_any (A : Option Addr) (c : Nat) (a : ActP) (A' : Option Addr) (c' : Nat) (b : ActP) (ha0 : ActShape a) (hb0 : ActShape b) (w : World) (hf : BS w w.heap.size A a.frame) (hf' : BS w w.heap.size A' b.frame) :
    Calls Try.prog 38 #[.agg (actCs A a.frame.length c a).toArray, .agg (actCs A' b.frame.length c' b).toArray] w fun e w' => e = .returned (.bool (sameActB a b)) ∧ Below w.heap.size w w' := by
  have ha := Lib.hid ha0
  have hb := Lib.hid hb0
  clear ha0 hb0
  obtain ⟨W1, hW1⟩ : ∃ W, W = w.alloc (.cells (actCs A a.frame.length c a).toArray 33) := ⟨_, rfl⟩
  obtain ⟨W, hW⟩ : ∃ W, W = W1.alloc (.cells (actCs A' b.frame.length c' b).toArray 33) := ⟨_, rfl⟩
  have hs1 : W1.heap.size = w.heap.size + 1 := by rw [hW1]; simp
  have hX1 : Blk W1 w.heap.size 33 (actCs A a.frame.length c a).toArray := by rw [hW1]; exact Blk.new w _ _ _ rfl
  have HX : Hid (Blk W w.heap.size 33 (actCs A a.frame.length c a).toArray) := by rw [hW]; exact Blk.alloc hX1 _
  have HY : Hid (Blk W (w.heap.size + 1) 33 (actCs A' b.frame.length c' b).toArray) := by rw [hW, ← hs1]; exact Blk.new W1 _ _ _ rfl
  have HB : Hid (Below w.heap.size w W) := by rw [hW, hW1]; exact ((Below.refl _ _).alloc (Nat.le_refl _) _).alloc (by simp) _
  clear hX1 hs1
  subst hW
  subst hW1
  have HF := Lib.hid (hf.below HB.out)
  have HF' := Lib.hid (hf'.below HB.out)
  clear hf hf'
  rcases h0 : (a.kind == b.kind) with _ | _
  · have Hr : Hid (sameActB a b = false) := by show _ = _; simp only [sameActB, h0, Bool.false_and, Bool.and_false]
    go_enter Try.func38, Try.ntmps38
    try simp only [List.append_eq, List.cons_append, List.nil_append]
    have cv0 := run_convert_bs (P := Try.prog) 22 9 5 Try.underlying22 Try.underlying5 Try.underlying9 ((w.alloc (.cells (actCs A a.frame.length c a).toArray 33)).alloc (.cells (actCs A' b.frame.length c' b).toArray 33)) _ A a.frame HF.out _ c rfl
    have cv1 := run_convert_bs (P := Try.prog) 22 9 5 Try.underlying22 Try.underlying5 Try.underlying9 ((w.alloc (.cells (actCs A a.frame.length c a).toArray 33)).alloc (.cells (actCs A' b.frame.length c' b).toArray 33)) _ A' b.frame HF'.out _ c' rfl
    have d0 := ca_kind HX.out; have e0 := ca_kind HY.out; have d1 := ca_frame HX.out; have e1 := ca_frame HY.out; have d2 := ca_op HX.out; have e2 := ca_op HY.out
    have d3 := ca_oname HX.out ha.out; have e3 := ca_oname HY.out hb.out; have d4 := ca_owt HX.out ha.out; have e4 := ca_owt HY.out hb.out; have d5 := ca_name HX.out ha.out; have e5 := ca_name HY.out hb.out; have d6 := ca_well HX.out ha.out; have e6 := ca_well HY.out hb.out
    have q0 : ¬ a.kind = b.kind := by simpa using h0
    go_wp2
    go_ret
    exact ⟨by rw [Hr.out]; rfl, HB.out⟩
  · have K0 := Lib.hid h0
    clear h0
    rcases h1 : (a.frame == b.frame) with _ | _
    · have Hr : Hid (sameActB a b = false) := by show _ = _; simp only [sameActB, h1, Bool.false_and, Bool.and_false]
      go_enter Try.func38, Try.ntmps38
      try simp only [List.append_eq, List.cons_append, List.nil_append]
      have cv0 := run_convert_bs (P := Try.prog) 22 9 5 Try.underlying22 Try.underlying5 Try.underlying9 ((w.alloc (.cells (actCs A a.frame.length c a).toArray 33)).alloc (.cells (actCs A' b.frame.length c' b).toArray 33)) _ A a.frame HF.out _ c rfl
      have cv1 := run_convert_bs (P := Try.prog) 22 9 5 Try.underlying22 Try.underlying5 Try.underlying9 ((w.alloc (.cells (actCs A a.frame.length c a).toArray 33)).alloc (.cells (actCs A' b.frame.length c' b).toArray 33)) _ A' b.frame HF'.out _ c' rfl
      have d0 := ca_kind HX.out; have e0 := ca_kind HY.out; have d1 := ca_frame HX.out; have e1 := ca_frame HY.out; have d2 := ca_op HX.out; have e2 := ca_op HY.out
      have d3 := ca_oname HX.out ha.out; have e3 := ca_oname HY.out hb.out; have d4 := ca_owt HX.out ha.out; have e4 := ca_owt HY.out hb.out; have d5 := ca_name HX.out ha.out; have e5 := ca_name HY.out hb.out; have d6 := ca_well HX.out ha.out; have e6 := ca_well HY.out hb.out
      have q0 : a.kind = b.kind := by simpa using K0.out
      have q1 : (a.frame == b.frame) = false := h1
      go_wp2
      go_ret
      exact ⟨by rw [Hr.out]; rfl, HB.out⟩
    · have K1 := Lib.hid h1
      clear h1
      rcases h2 : (a.op == b.op) with _ | _
      · have Hr : Hid (sameActB a b = false) := by show _ = _; simp only [sameActB, h2, Bool.false_and, Bool.and_false]
        go_enter Try.func38, Try.ntmps38
        try simp only [List.append_eq, List.cons_append, List.nil_append]
        have cv0 := run_convert_bs (P := Try.prog) 22 9 5 Try.underlying22 Try.underlying5 Try.underlying9 ((w.alloc (.cells (actCs A a.frame.length c a).toArray 33)).alloc (.cells (actCs A' b.frame.length c' b).toArray 33)) _ A a.frame HF.out _ c rfl
        have cv1 := run_convert_bs (P := Try.prog) 22 9 5 Try.underlying22 Try.underlying5 Try.underlying9 ((w.alloc (.cells (actCs A a.frame.length c a).toArray 33)).alloc (.cells (actCs A' b.frame.length c' b).toArray 33)) _ A' b.frame HF'.out _ c' rfl
        have d0 := ca_kind HX.out; have e0 := ca_kind HY.out; have d1 := ca_frame HX.out; have e1 := ca_frame HY.out; have d2 := ca_op HX.out; have e2 := ca_op HY.out
        have d3 := ca_oname HX.out ha.out; have e3 := ca_oname HY.out hb.out; have d4 := ca_owt HX.out ha.out; have e4 := ca_owt HY.out hb.out; have d5 := ca_name HX.out ha.out; have e5 := ca_name HY.out hb.out; have d6 := ca_well HX.out ha.out; have e6 := ca_well HY.out hb.out
        have q0 : a.kind = b.kind := by simpa using K0.out
        have q1 : (a.frame == b.frame) = true := K1.out
        have q2 : ¬ a.op = b.op := by simpa using h2
        go_wp2
        go_ret
        exact ⟨by rw [Hr.out]; rfl, HB.out⟩
      · have K2 := Lib.hid h2
        clear h2
        rcases h3 : (a.oname == b.oname) with _ | _
        · have Hr : Hid (sameActB a b = false) := by show _ = _; simp only [sameActB, h3, Bool.false_and, Bool.and_false]
          go_enter Try.func38, Try.ntmps38
          try simp only [List.append_eq, List.cons_append, List.nil_append]
          have cv0 := run_convert_bs (P := Try.prog) 22 9 5 Try.underlying22 Try.underlying5 Try.underlying9 ((w.alloc (.cells (actCs A a.frame.length c a).toArray 33)).alloc (.cells (actCs A' b.frame.length c' b).toArray 33)) _ A a.frame HF.out _ c rfl
          have cv1 := run_convert_bs (P := Try.prog) 22 9 5 Try.underlying22 Try.underlying5 Try.underlying9 ((w.alloc (.cells (actCs A a.frame.length c a).toArray 33)).alloc (.cells (actCs A' b.frame.length c' b).toArray 33)) _ A' b.frame HF'.out _ c' rfl
          have d0 := ca_kind HX.out; have e0 := ca_kind HY.out; have d1 := ca_frame HX.out; have e1 := ca_frame HY.out; have d2 := ca_op HX.out; have e2 := ca_op HY.out
          have d3 := ca_oname HX.out ha.out; have e3 := ca_oname HY.out hb.out; have d4 := ca_owt HX.out ha.out; have e4 := ca_owt HY.out hb.out; have d5 := ca_name HX.out ha.out; have e5 := ca_name HY.out hb.out; have d6 := ca_well HX.out ha.out; have e6 := ca_well HY.out hb.out
          have q0 : a.kind = b.kind := by simpa using K0.out
          have q1 : (a.frame == b.frame) = true := K1.out
          have q2 : a.op = b.op := by simpa using K2.out
          have q3 : (a.oname == b.oname) = false := h3
          go_wp2
          go_ret
          exact ⟨by rw [Hr.out]; rfl, HB.out⟩
        · have K3 := Lib.hid h3
          clear h3
          rcases h4 : (wbits a.owt == wbits b.owt) with _ | _
          · have Hr : Hid (sameActB a b = false) := by show _ = _; simp only [sameActB, h4, Bool.false_and, Bool.and_false]
            go_enter Try.func38, Try.ntmps38
            try simp only [List.append_eq, List.cons_append, List.nil_append]
            have cv0 := run_convert_bs (P := Try.prog) 22 9 5 Try.underlying22 Try.underlying5 Try.underlying9 ((w.alloc (.cells (actCs A a.frame.length c a).toArray 33)).alloc (.cells (actCs A' b.frame.length c' b).toArray 33)) _ A a.frame HF.out _ c rfl
            have cv1 := run_convert_bs (P := Try.prog) 22 9 5 Try.underlying22 Try.underlying5 Try.underlying9 ((w.alloc (.cells (actCs A a.frame.length c a).toArray 33)).alloc (.cells (actCs A' b.frame.length c' b).toArray 33)) _ A' b.frame HF'.out _ c' rfl
            have d0 := ca_kind HX.out; have e0 := ca_kind HY.out; have d1 := ca_frame HX.out; have e1 := ca_frame HY.out; have d2 := ca_op HX.out; have e2 := ca_op HY.out
            have d3 := ca_oname HX.out ha.out; have e3 := ca_oname HY.out hb.out; have d4 := ca_owt HX.out ha.out; have e4 := ca_owt HY.out hb.out; have d5 := ca_name HX.out ha.out; have e5 := ca_name HY.out hb.out; have d6 := ca_well HX.out ha.out; have e6 := ca_well HY.out hb.out
            have q0 : a.kind = b.kind := by simpa using K0.out
            have q1 : (a.frame == b.frame) = true := K1.out
            have q2 : a.op = b.op := by simpa using K2.out
            have q3 : (a.oname == b.oname) = true := K3.out
            go_wp2_with fail
            refine (refWSame_any a.owt b.owt ha.out.owt hb.out.owt _).mono ?_
            rintro e w4 ⟨rfl, hb5⟩
            have HX5 := Lib.hid (Blk.below HX.out hb5 HX.out.lt)
            have HY5 := Lib.hid (Blk.below HY.out hb5 HY.out.lt)
            have HB5 : Hid (Below w.heap.size w w4) := HB.out.trans (hb5.mono HB.out.size)
            clear HX HY HB hb5
            have HX := HX5
            have HY := HY5
            have HB := HB5
            clear HX5 HY5 HB5
            rw [h4]
            clear d0 e0 d1 e1 d2 e2 d3 e3 d4 e4 d5 e5 d6 e6 cv0 cv1
            have d0 := ca_kind HX.out; have e0 := ca_kind HY.out; have d1 := ca_frame HX.out; have e1 := ca_frame HY.out; have d2 := ca_op HX.out; have e2 := ca_op HY.out
            have d3 := ca_oname HX.out ha.out; have e3 := ca_oname HY.out hb.out; have d4 := ca_owt HX.out ha.out; have e4 := ca_owt HY.out hb.out; have d5 := ca_name HX.out ha.out; have e5 := ca_name HY.out hb.out; have d6 := ca_well HX.out ha.out; have e6 := ca_well HY.out hb.out
            go_wp2
            go_ret
            exact ⟨by rw [Hr.out]; rfl, HB.out⟩
          · have K4 := Lib.hid h4
            clear h4
            rcases h5 : (sameBackB a.back b.back) with _ | _
            · have Hr : Hid (sameActB a b = false) := by show _ = _; simp only [sameActB, h5, Bool.false_and, Bool.and_false]
              go_enter Try.func38, Try.ntmps38
              try simp only [List.append_eq, List.cons_append, List.nil_append]
              have cv0 := run_convert_bs (P := Try.prog) 22 9 5 Try.underlying22 Try.underlying5 Try.underlying9 ((w.alloc (.cells (actCs A a.frame.length c a).toArray 33)).alloc (.cells (actCs A' b.frame.length c' b).toArray 33)) _ A a.frame HF.out _ c rfl
              have cv1 := run_convert_bs (P := Try.prog) 22 9 5 Try.underlying22 Try.underlying5 Try.underlying9 ((w.alloc (.cells (actCs A a.frame.length c a).toArray 33)).alloc (.cells (actCs A' b.frame.length c' b).toArray 33)) _ A' b.frame HF'.out _ c' rfl
              have d0 := ca_kind HX.out; have e0 := ca_kind HY.out; have d1 := ca_frame HX.out; have e1 := ca_frame HY.out; have d2 := ca_op HX.out; have e2 := ca_op HY.out
              have d3 := ca_oname HX.out ha.out; have e3 := ca_oname HY.out hb.out; have d4 := ca_owt HX.out ha.out; have e4 := ca_owt HY.out hb.out; have d5 := ca_name HX.out ha.out; have e5 := ca_name HY.out hb.out; have d6 := ca_well HX.out ha.out; have e6 := ca_well HY.out hb.out
              have q0 : a.kind = b.kind := by simpa using K0.out
              have q1 : (a.frame == b.frame) = true := K1.out
              have q2 : a.op = b.op := by simpa using K2.out
              have q3 : (a.oname == b.oname) = true := K3.out
              go_wp2_with fail
              refine (refWSame_any a.owt b.owt ha.out.owt hb.out.owt _).mono ?_
              rintro e w4 ⟨rfl, hb5⟩
              have HX5 := Lib.hid (Blk.below HX.out hb5 HX.out.lt)
              have HY5 := Lib.hid (Blk.below HY.out hb5 HY.out.lt)
              have HB5 : Hid (Below w.heap.size w w4) := HB.out.trans (hb5.mono HB.out.size)
              clear HX HY HB hb5
              have HX := HX5
              have HY := HY5
              have HB := HB5
              clear HX5 HY5 HB5
              rw [K4.out]
              clear d0 e0 d1 e1 d2 e2 d3 e3 d4 e4 d5 e5 d6 e6 cv0 cv1
              have d0 := ca_kind HX.out; have e0 := ca_kind HY.out; have d1 := ca_frame HX.out; have e1 := ca_frame HY.out; have d2 := ca_op HX.out; have e2 := ca_op HY.out
              have d3 := ca_oname HX.out ha.out; have e3 := ca_oname HY.out hb.out; have d4 := ca_owt HX.out ha.out; have e4 := ca_owt HY.out hb.out; have d5 := ca_name HX.out ha.out; have e5 := ca_name HY.out hb.out; have d6 := ca_well HX.out ha.out; have e6 := ca_well HY.out hb.out
              have RX := Lib.hid (ca_back HX.out ha.out)
              have RY := Lib.hid (ca_back HY.out hb.out)
              go_wp2_with (first
                  | ((with_reducible refine gateL 29 ?_); refine wpList_load_g (by rfl) 29 (.tmp 48) rfl w.heap.size 3 rfl (backCs a.back) _ RX.out Try.underlying29 rfl (back_sz ha.out.back) ?_)
                  | ((with_reducible refine gateL 29 ?_); refine wpList_load_g (by rfl) 29 (.tmp 51) rfl (w.heap.size + 1) 3 rfl (backCs b.back) _ RY.out Try.underlying29 rfl (back_sz hb.out.back) ?_))
              refine (sameOne_any a.back b.back ha.out.back hb.out.back w4).mono ?_
              rintro e w5 ⟨rfl, hb5⟩
              have HX5 := Lib.hid (Blk.below HX.out hb5 HX.out.lt)
              have HY5 := Lib.hid (Blk.below HY.out hb5 HY.out.lt)
              have HB5 : Hid (Below w.heap.size w w5) := HB.out.trans (hb5.mono HB.out.size)
              clear HX HY HB hb5
              have HX := HX5
              have HY := HY5
              have HB := HB5
              clear HX5 HY5 HB5
              rw [h5]
              clear d0 e0 d1 e1 d2 e2 d3 e3 d4 e4 d5 e5 d6 e6
              have d0 := ca_kind HX.out; have e0 := ca_kind HY.out; have d1 := ca_frame HX.out; have e1 := ca_frame HY.out; have d2 := ca_op HX.out; have e2 := ca_op HY.out
              have d3 := ca_oname HX.out ha.out; have e3 := ca_oname HY.out hb.out; have d4 := ca_owt HX.out ha.out; have e4 := ca_owt HY.out hb.out; have d5 := ca_name HX.out ha.out; have e5 := ca_name HY.out hb.out; have d6 := ca_well HX.out ha.out; have e6 := ca_well HY.out hb.out
              go_wp2
              go_ret
              exact ⟨by rw [Hr.out]; rfl, HB.out⟩
            · have K5 := Lib.hid h5
              clear h5
              rcases h6 : (a.name == b.name) with _ | _
              · have Hr : Hid (sameActB a b = false) := by show _ = _; simp only [sameActB, h6, Bool.false_and, Bool.and_false]
                go_enter Try.func38, Try.ntmps38
                try simp only [List.append_eq, List.cons_append, List.nil_append]
                have cv0 := run_convert_bs (P := Try.prog) 22 9 5 Try.underlying22 Try.underlying5 Try.underlying9 ((w.alloc (.cells (actCs A a.frame.length c a).toArray 33)).alloc (.cells (actCs A' b.frame.length c' b).toArray 33)) _ A a.frame HF.out _ c rfl
                have cv1 := run_convert_bs (P := Try.prog) 22 9 5 Try.underlying22 Try.underlying5 Try.underlying9 ((w.alloc (.cells (actCs A a.frame.length c a).toArray 33)).alloc (.cells (actCs A' b.frame.length c' b).toArray 33)) _ A' b.frame HF'.out _ c' rfl
                have d0 := ca_kind HX.out; have e0 := ca_kind HY.out; have d1 := ca_frame HX.out; have e1 := ca_frame HY.out; have d2 := ca_op HX.out; have e2 := ca_op HY.out
                have d3 := ca_oname HX.out ha.out; have e3 := ca_oname HY.out hb.out; have d4 := ca_owt HX.out ha.out; have e4 := ca_owt HY.out hb.out; have d5 := ca_name HX.out ha.out; have e5 := ca_name HY.out hb.out; have d6 := ca_well HX.out ha.out; have e6 := ca_well HY.out hb.out
                have q0 : a.kind = b.kind := by simpa using K0.out
                have q1 : (a.frame == b.frame) = true := K1.out
                have q2 : a.op = b.op := by simpa using K2.out
                have q3 : (a.oname == b.oname) = true := K3.out
                have q6 : (a.name == b.name) = false := h6
                go_wp2_with fail
                refine (refWSame_any a.owt b.owt ha.out.owt hb.out.owt _).mono ?_
                rintro e w4 ⟨rfl, hb5⟩
                have HX5 := Lib.hid (Blk.below HX.out hb5 HX.out.lt)
                have HY5 := Lib.hid (Blk.below HY.out hb5 HY.out.lt)
                have HB5 : Hid (Below w.heap.size w w4) := HB.out.trans (hb5.mono HB.out.size)
                clear HX HY HB hb5
                have HX := HX5
                have HY := HY5
                have HB := HB5
                clear HX5 HY5 HB5
                rw [K4.out]
                clear d0 e0 d1 e1 d2 e2 d3 e3 d4 e4 d5 e5 d6 e6 cv0 cv1
                have d0 := ca_kind HX.out; have e0 := ca_kind HY.out; have d1 := ca_frame HX.out; have e1 := ca_frame HY.out; have d2 := ca_op HX.out; have e2 := ca_op HY.out
                have d3 := ca_oname HX.out ha.out; have e3 := ca_oname HY.out hb.out; have d4 := ca_owt HX.out ha.out; have e4 := ca_owt HY.out hb.out; have d5 := ca_name HX.out ha.out; have e5 := ca_name HY.out hb.out; have d6 := ca_well HX.out ha.out; have e6 := ca_well HY.out hb.out
                have RX := Lib.hid (ca_back HX.out ha.out)
                have RY := Lib.hid (ca_back HY.out hb.out)
                go_wp2_with (first
                    | ((with_reducible refine gateL 29 ?_); refine wpList_load_g (by rfl) 29 (.tmp 48) rfl w.heap.size 3 rfl (backCs a.back) _ RX.out Try.underlying29 rfl (back_sz ha.out.back) ?_)
                    | ((with_reducible refine gateL 29 ?_); refine wpList_load_g (by rfl) 29 (.tmp 51) rfl (w.heap.size + 1) 3 rfl (backCs b.back) _ RY.out Try.underlying29 rfl (back_sz hb.out.back) ?_))
                refine (sameOne_any a.back b.back ha.out.back hb.out.back w4).mono ?_
                rintro e w5 ⟨rfl, hb5⟩
                have HX5 := Lib.hid (Blk.below HX.out hb5 HX.out.lt)
                have HY5 := Lib.hid (Blk.below HY.out hb5 HY.out.lt)
                have HB5 : Hid (Below w.heap.size w w5) := HB.out.trans (hb5.mono HB.out.size)
                clear HX HY HB hb5
                have HX := HX5
                have HY := HY5
                have HB := HB5
                clear HX5 HY5 HB5
                rw [K5.out]
                clear d0 e0 d1 e1 d2 e2 d3 e3 d4 e4 d5 e5 d6 e6
                have d0 := ca_kind HX.out; have e0 := ca_kind HY.out; have d1 := ca_frame HX.out; have e1 := ca_frame HY.out; have d2 := ca_op HX.out; have e2 := ca_op HY.out
                have d3 := ca_oname HX.out ha.out; have e3 := ca_oname HY.out hb.out; have d4 := ca_owt HX.out ha.out; have e4 := ca_owt HY.out hb.out; have d5 := ca_name HX.out ha.out; have e5 := ca_name HY.out hb.out; have d6 := ca_well HX.out ha.out; have e6 := ca_well HY.out hb.out
                go_wp2
                go_ret
                exact ⟨by rw [Hr.out]; rfl, HB.out⟩
              · have K6 := Lib.hid h6
                clear h6
                rcases h7 : (a.well == b.well) with _ | _
                · have Hr : Hid (sameActB a b = false) := by show _ = _; simp only [sameActB, h7, Bool.false_and, Bool.and_false]
                  go_enter Try.func38, Try.ntmps38
                  try simp only [List.append_eq, List.cons_append, List.nil_append]
                  have cv0 := run_convert_bs (P := Try.prog) 22 9 5 Try.underlying22 Try.underlying5 Try.underlying9 ((w.alloc (.cells (actCs A a.frame.length c a).toArray 33)).alloc (.cells (actCs A' b.frame.length c' b).toArray 33)) _ A a.frame HF.out _ c rfl
                  have cv1 := run_convert_bs (P := Try.prog) 22 9 5 Try.underlying22 Try.underlying5 Try.underlying9 ((w.alloc (.cells (actCs A a.frame.length c a).toArray 33)).alloc (.cells (actCs A' b.frame.length c' b).toArray 33)) _ A' b.frame HF'.out _ c' rfl
                  have d0 := ca_kind HX.out; have e0 := ca_kind HY.out; have d1 := ca_frame HX.out; have e1 := ca_frame HY.out; have d2 := ca_op HX.out; have e2 := ca_op HY.out
                  have d3 := ca_oname HX.out ha.out; have e3 := ca_oname HY.out hb.out; have d4 := ca_owt HX.out ha.out; have e4 := ca_owt HY.out hb.out; have d5 := ca_name HX.out ha.out; have e5 := ca_name HY.out hb.out; have d6 := ca_well HX.out ha.out; have e6 := ca_well HY.out hb.out
                  have q0 : a.kind = b.kind := by simpa using K0.out
                  have q1 : (a.frame == b.frame) = true := K1.out
                  have q2 : a.op = b.op := by simpa using K2.out
                  have q3 : (a.oname == b.oname) = true := K3.out
                  have q6 : (a.name == b.name) = true := K6.out
                  have q7 : (a.well == b.well) = false := h7
                  go_wp2_with fail
                  refine (refWSame_any a.owt b.owt ha.out.owt hb.out.owt _).mono ?_
                  rintro e w4 ⟨rfl, hb5⟩
                  have HX5 := Lib.hid (Blk.below HX.out hb5 HX.out.lt)
                  have HY5 := Lib.hid (Blk.below HY.out hb5 HY.out.lt)
                  have HB5 : Hid (Below w.heap.size w w4) := HB.out.trans (hb5.mono HB.out.size)
                  clear HX HY HB hb5
                  have HX := HX5
                  have HY := HY5
                  have HB := HB5
                  clear HX5 HY5 HB5
                  rw [K4.out]
                  clear d0 e0 d1 e1 d2 e2 d3 e3 d4 e4 d5 e5 d6 e6 cv0 cv1
                  have d0 := ca_kind HX.out; have e0 := ca_kind HY.out; have d1 := ca_frame HX.out; have e1 := ca_frame HY.out; have d2 := ca_op HX.out; have e2 := ca_op HY.out
                  have d3 := ca_oname HX.out ha.out; have e3 := ca_oname HY.out hb.out; have d4 := ca_owt HX.out ha.out; have e4 := ca_owt HY.out hb.out; have d5 := ca_name HX.out ha.out; have e5 := ca_name HY.out hb.out; have d6 := ca_well HX.out ha.out; have e6 := ca_well HY.out hb.out
                  have RX := Lib.hid (ca_back HX.out ha.out)
                  have RY := Lib.hid (ca_back HY.out hb.out)
                  go_wp2_with (first
                      | ((with_reducible refine gateL 29 ?_); refine wpList_load_g (by rfl) 29 (.tmp 48) rfl w.heap.size 3 rfl (backCs a.back) _ RX.out Try.underlying29 rfl (back_sz ha.out.back) ?_)
                      | ((with_reducible refine gateL 29 ?_); refine wpList_load_g (by rfl) 29 (.tmp 51) rfl (w.heap.size + 1) 3 rfl (backCs b.back) _ RY.out Try.underlying29 rfl (back_sz hb.out.back) ?_))
                  refine (sameOne_any a.back b.back ha.out.back hb.out.back w4).mono ?_
                  rintro e w5 ⟨rfl, hb5⟩
                  have HX5 := Lib.hid (Blk.below HX.out hb5 HX.out.lt)
                  have HY5 := Lib.hid (Blk.below HY.out hb5 HY.out.lt)
                  have HB5 : Hid (Below w.heap.size w w5) := HB.out.trans (hb5.mono HB.out.size)
                  clear HX HY HB hb5
                  have HX := HX5
                  have HY := HY5
                  have HB := HB5
                  clear HX5 HY5 HB5
                  rw [K5.out]
                  clear d0 e0 d1 e1 d2 e2 d3 e3 d4 e4 d5 e5 d6 e6
                  have d0 := ca_kind HX.out; have e0 := ca_kind HY.out; have d1 := ca_frame HX.out; have e1 := ca_frame HY.out; have d2 := ca_op HX.out; have e2 := ca_op HY.out
                  have d3 := ca_oname HX.out ha.out; have e3 := ca_oname HY.out hb.out; have d4 := ca_owt HX.out ha.out; have e4 := ca_owt HY.out hb.out; have d5 := ca_name HX.out ha.out; have e5 := ca_name HY.out hb.out; have d6 := ca_well HX.out ha.out; have e6 := ca_well HY.out hb.out
                  go_wp2
                  go_ret
                  exact ⟨by rw [Hr.out]; rfl, HB.out⟩
                · have K7 := Lib.hid h7
                  clear h7
                  have Hr : Hid (sameActB a b = true) := by show _ = _; simp only [sameActB, K0.out, K1.out, K2.out, K3.out, K4.out, K5.out, K6.out, K7.out, Bool.and_true]
                  go_enter Try.func38, Try.ntmps38
                  try simp only [List.append_eq, List.cons_append, List.nil_append]
                  have cv0 := run_convert_bs (P := Try.prog) 22 9 5 Try.underlying22 Try.underlying5 Try.underlying9 ((w.alloc (.cells (actCs A a.frame.length c a).toArray 33)).alloc (.cells (actCs A' b.frame.length c' b).toArray 33)) _ A a.frame HF.out _ c rfl
                  have cv1 := run_convert_bs (P := Try.prog) 22 9 5 Try.underlying22 Try.underlying5 Try.underlying9 ((w.alloc (.cells (actCs A a.frame.length c a).toArray 33)).alloc (.cells (actCs A' b.frame.length c' b).toArray 33)) _ A' b.frame HF'.out _ c' rfl
                  have d0 := ca_kind HX.out; have e0 := ca_kind HY.out; have d1 := ca_frame HX.out; have e1 := ca_frame HY.out; have d2 := ca_op HX.out; have e2 := ca_op HY.out
                  have d3 := ca_oname HX.out ha.out; have e3 := ca_oname HY.out hb.out; have d4 := ca_owt HX.out ha.out; have e4 := ca_owt HY.out hb.out; have d5 := ca_name HX.out ha.out; have e5 := ca_name HY.out hb.out; have d6 := ca_well HX.out ha.out; have e6 := ca_well HY.out hb.out
                  have q0 : a.kind = b.kind := by simpa using K0.out
                  have q1 : (a.frame == b.frame) = true := K1.out
                  have q2 : a.op = b.op := by simpa using K2.out
                  have q3 : (a.oname == b.oname) = true := K3.out
                  have q6 : (a.name == b.name) = true := K6.out
                  have q7 : (a.well == b.well) = true := K7.out
                  go_wp2_with fail
                  refine (refWSame_any a.owt b.owt ha.out.owt hb.out.owt _).mono ?_
                  rintro e w4 ⟨rfl, hb5⟩
                  have HX5 := Lib.hid (Blk.below HX.out hb5 HX.out.lt)
                  have HY5 := Lib.hid (Blk.below HY.out hb5 HY.out.lt)
                  have HB5 : Hid (Below w.heap.size w w4) := HB.out.trans (hb5.mono HB.out.size)
                  clear HX HY HB hb5
                  have HX := HX5
                  have HY := HY5
                  have HB := HB5
                  clear HX5 HY5 HB5
                  rw [K4.out]
                  clear d0 e0 d1 e1 d2 e2 d3 e3 d4 e4 d5 e5 d6 e6 cv0 cv1
                  have d0 := ca_kind HX.out; have e0 := ca_kind HY.out; have d1 := ca_frame HX.out; have e1 := ca_frame HY.out; have d2 := ca_op HX.out; have e2 := ca_op HY.out
                  have d3 := ca_oname HX.out ha.out; have e3 := ca_oname HY.out hb.out; have d4 := ca_owt HX.out ha.out; have e4 := ca_owt HY.out hb.out; have d5 := ca_name HX.out ha.out; have e5 := ca_name HY.out hb.out; have d6 := ca_well HX.out ha.out; have e6 := ca_well HY.out hb.out
                  have RX := Lib.hid (ca_back HX.out ha.out)
                  have RY := Lib.hid (ca_back HY.out hb.out)
                  go_wp2_with (first
                      | ((with_reducible refine gateL 29 ?_); refine wpList_load_g (by rfl) 29 (.tmp 48) rfl w.heap.size 3 rfl (backCs a.back) _ RX.out Try.underlying29 rfl (back_sz ha.out.back) ?_)
                      | ((with_reducible refine gateL 29 ?_); refine wpList_load_g (by rfl) 29 (.tmp 51) rfl (w.heap.size + 1) 3 rfl (backCs b.back) _ RY.out Try.underlying29 rfl (back_sz hb.out.back) ?_))
                  refine (sameOne_any a.back b.back ha.out.back hb.out.back w4).mono ?_
                  rintro e w5 ⟨rfl, hb5⟩
                  have HX5 := Lib.hid (Blk.below HX.out hb5 HX.out.lt)
                  have HY5 := Lib.hid (Blk.below HY.out hb5 HY.out.lt)
                  have HB5 : Hid (Below w.heap.size w w5) := HB.out.trans (hb5.mono HB.out.size)
                  clear HX HY HB hb5
                  have HX := HX5
                  have HY := HY5
                  have HB := HB5
                  clear HX5 HY5 HB5
                  rw [K5.out]
                  clear d0 e0 d1 e1 d2 e2 d3 e3 d4 e4 d5 e5 d6 e6
                  have d0 := ca_kind HX.out; have e0 := ca_kind HY.out; have d1 := ca_frame HX.out; have e1 := ca_frame HY.out; have d2 := ca_op HX.out; have e2 := ca_op HY.out
                  have d3 := ca_oname HX.out ha.out; have e3 := ca_oname HY.out hb.out; have d4 := ca_owt HX.out ha.out; have e4 := ca_owt HY.out hb.out; have d5 := ca_name HX.out ha.out; have e5 := ca_name HY.out hb.out; have d6 := ca_well HX.out ha.out; have e6 := ca_well HY.out hb.out
                  go_wp2
                  go_ret
                  exact ⟨by rw [Hr.out]; rfl, HB.out⟩
end Go.Proofs.Ytgohhojoahlfiaa

/- Events alike, by the program and by the document (printed by gen_evsam3.py). -/
namespace Go.Proofs.Ytgohhojoahlfiaa
open Go.RowKit
set_option linter.unusedVariables false
set_option linter.unusedSimpArgs false

theorem out0_lit : (outCs none 0 0 out0).toArray = (#[.int .i64 0, .int .i64 0, .bool false, .int .i64 0, .string ⟨#[]⟩, .slice none 0 0] : Array Value) := rfl
section
variable {w : World} {g : Nat} {t : TypeId} {A : Option Addr} {n c : Nat} {x : OutP}
theorem co_err (hb : Blk w g t (outCs A n c x).toArray) : w.cell? ⟨g, 0, none⟩ = some (.int .i64 x.err) := hb.cell 0
theorem co_reason (hb : Blk w g t (outCs A n c x).toArray) : w.cell? ⟨g, 1, none⟩ = some (.int .i64 x.reason) := hb.cell 1
theorem co_hit (hb : Blk w g t (outCs A n c x).toArray) : w.cell? ⟨g, 2, none⟩ = some (.bool x.hit) := hb.cell 2
theorem co_version (hb : Blk w g t (outCs A n c x).toArray) : w.cell? ⟨g, 3, none⟩ = some (.int .i64 x.version) := hb.cell 3
theorem co_name (hb : Blk w g t (outCs A n c x).toArray) : w.cell? ⟨g, 4, none⟩ = some (.string ⟨x.name.toArray⟩) := hb.cell 4
theorem co_out (hb : Blk w g t (outCs A n c x).toArray) : w.cell? ⟨g, 5, none⟩ = some (.slice A n c) := hb.cell 5
end
set_option maxHeartbeats 4000000 in
set_option maxRecDepth 100000 in
theorem same_any (A : Option Addr) (c : Nat) (A2 : Option Addr) (c2 : Nat) (a : EvP) (A' : Option Addr) (c' : Nat) (A2' : Option Addr) (c2' : Nat) (b : EvP) (ha0 : EvShape a) (hb0 : EvShape b) (w : World) (hf : BS w w.heap.size A a.act.frame) (hf' : BS w w.heap.size A' b.act.frame) (ho : BS w w.heap.size A2 a.o.out) (ho' : BS w w.heap.size A2' b.o.out) :
    Calls Try.prog 16 #[.agg (evCs A a.act.frame.length c A2 a.o.out.length c2 a).toArray, .agg (evCs A' b.act.frame.length c' A2' b.o.out.length c2' b).toArray] w fun e w' => e = .returned (.bool (sameEvB a b)) ∧ Below w.heap.size w w' := by
  have ha := Lib.hid ha0
  have hb := Lib.hid hb0
  clear ha0 hb0
  obtain ⟨W1, hW1⟩ : ∃ W, W = w.alloc (.cells (evCs A a.act.frame.length c A2 a.o.out.length c2 a).toArray 39) := ⟨_, rfl⟩
  obtain ⟨W, hW⟩ : ∃ W, W = W1.alloc (.cells (evCs A' b.act.frame.length c' A2' b.o.out.length c2' b).toArray 39) := ⟨_, rfl⟩
  have hs1 : W1.heap.size = w.heap.size + 1 := by rw [hW1]; simp
  have hX1 : Blk W1 w.heap.size 39 (evCs A a.act.frame.length c A2 a.o.out.length c2 a).toArray := by rw [hW1]; exact Blk.new w _ _ _ rfl
  have HX : Hid (Blk W w.heap.size 39 (evCs A a.act.frame.length c A2 a.o.out.length c2 a).toArray) := by rw [hW]; exact Blk.alloc hX1 _
  have HY : Hid (Blk W (w.heap.size + 1) 39 (evCs A' b.act.frame.length c' A2' b.o.out.length c2' b).toArray) := by rw [hW, ← hs1]; exact Blk.new W1 _ _ _ rfl
  have HB : Hid (Below w.heap.size w W) := by rw [hW, hW1]; exact ((Below.refl _ _).alloc (Nat.le_refl _) _).alloc (by simp) _
  have HW1 := Lib.hid hW1
  have HW := Lib.hid hW
  clear hW1 hW hX1 hs1
  have HF := Lib.hid (hf.below HB.out)
  have HF' := Lib.hid (hf'.below HB.out)
  have HO := Lib.hid ho
  have HO' := Lib.hid ho'
  clear hf hf' ho ho'
  go_enter Try.func16, Try.ntmps16
  go_upto_region 1 with fail
  rw [← HW1.out]
  rw [← HW.out]
  clear HW1 HW
  go_cut [5, 6] from 7 (fun v5 v6 wc => ∃ p q : Nat, v5 = .pointer (some ⟨p, 0, none⟩) ∧ v6 = .pointer (some ⟨q, 0, none⟩) ∧ Hid (Blk wc p 36 (outCs A2 a.o.out.length c2 a.o).toArray) ∧ Hid (Blk wc q 36 (outCs A2' b.o.out.length c2' b.o).toArray) ∧ Hid (Below W.heap.size W wc))
  case first =>
    refine wp_region_noPanic ?_
    refine wp_region_held_drew (S := fun w' => Below W.heap.size W w') (by kernel_rfl) ((Below.refl _ _).drew) (fun hHeld => ?_)
    refine wpAnyH_take (i := 0) (v := ?_) rfl (by kernel_rfl) (by kernel_rfl) (by kernel_rfl) (fun _ _ _ h => h) (Or.inl ⟨by rfl, ?_⟩) hHeld ?_
    rotate_left
    · intro w' hSw
      skip
      go_simp
      try with_reducible rfl
    try (simp only [Act.put, List.getElem_toArray, List.getElem_cons_succ, List.getElem_cons_zero, List.setIfInBounds_toArray, List.set_cons_zero, List.set_cons_succ])
    refine wpAnyH_take (i := 1) rfl (by kernel_rfl) (by kernel_rfl) (by kernel_rfl) (fun _ _ _ h => h) (yieldsIf_load_mid (by rfl) 36 (.tmp 7) rfl (w.heap.size) (34) rfl (outCs A2 a.o.out.length c2 a.o) _ (fun w' hSw => ce_out (Blk.below HX.out hSw HX.out.lt) ha.out) Try.underlying36 rfl out_sz) hHeld ?_
    try (simp only [Act.put, List.getElem_toArray, List.getElem_cons_succ, List.getElem_cons_zero, List.setIfInBounds_toArray, List.set_cons_zero, List.set_cons_succ])
    refine wpAnyH_take (i := 2) (v := ?_) rfl (by kernel_rfl) (by kernel_rfl) (by kernel_rfl) (fun _ _ _ h => h) (Or.inl ⟨by rfl, ?_⟩) hHeld ?_
    rotate_left
    · intro w' hSw
      skip
      go_simp
      try with_reducible rfl
    try (simp only [Act.put, List.getElem_toArray, List.getElem_cons_succ, List.getElem_cons_zero, List.setIfInBounds_toArray, List.set_cons_zero, List.set_cons_succ])
    refine wpAnyH_take (i := 3) rfl (by kernel_rfl) (by kernel_rfl) (by kernel_rfl) (fun _ _ _ h => h) (yieldsIf_load_mid (by rfl) 36 (.tmp 9) rfl ((w.heap.size + 1)) (34) rfl (outCs A2' b.o.out.length c2' b.o) _ (fun w' hSw => ce_out (Blk.below HY.out hSw HY.out.lt) hb.out) Try.underlying36 rfl out_sz) hHeld ?_
    try (simp only [Act.put, List.getElem_toArray, List.getElem_cons_succ, List.getElem_cons_zero, List.setIfInBounds_toArray, List.set_cons_zero, List.set_cons_succ])
    generalize W.drew = Wd at hHeld ⊢
    refine wpAnyH_ready (rs := [4, 5]) (by kernel_rfl) (by simp) ?_
    refine AllReadyH.cons (i := 4) rfl (fun K hK => ?_) ?_
    · go_simp
      obtain ⟨x1, hx1⟩ : ∃ X, X = Wd.alloc (.cells (outCs none 0 0 out0).toArray 36) := ⟨_, rfl⟩
      have HP0 : Blk x1 Wd.heap.size 36 (outCs none 0 0 out0).toArray := by rw [hx1]; exact Blk.new _ _ _ _ rfl
      have hlep : W.heap.size ≤ Wd.heap.size := hHeld.size
      have hHn : Below W.heap.size W x1 := by rw [hx1]; exact hHeld.alloc hHeld.size _
      rw [out0_lit] at hx1
      rw [← hx1]
      obtain ⟨p, hp⟩ : ∃ z, z = Wd.heap.size := ⟨_, rfl⟩
      rw [← hp] at HP0 hlep ⊢
      clear hp hx1 hHeld
      have HP := Lib.hid HP0
      clear HP0
      refine hK.out _ _ hHn (fun hHeld => ?_)
      clear hK K hHn
      try (simp only [Act.put, List.getElem_toArray, List.getElem_cons_succ, List.getElem_cons_zero, List.setIfInBounds_toArray, List.set_cons_zero, List.set_cons_succ])
      refine wpAnyH_ready (rs := [5]) (by kernel_rfl) (by simp) ?_
      refine AllReadyH.cons (i := 5) rfl (fun K hK => ?_) ?_
      · go_simp
        obtain ⟨x2, hx2⟩ : ∃ X, X = x1.alloc (.cells (outCs none 0 0 out0).toArray 36) := ⟨_, rfl⟩
        have HQ0 : Blk x2 x1.heap.size 36 (outCs none 0 0 out0).toArray := by rw [hx2]; exact Blk.new _ _ _ _ rfl
        have hleq : W.heap.size ≤ x1.heap.size := hHeld.size
        have hHn : Below W.heap.size W x2 := by rw [hx2]; exact hHeld.alloc hHeld.size _
        have hpq : p < x1.heap.size := HP.out.lt
        have HP1 := Lib.hid (Blk.alloc HP.out (.cells (outCs none 0 0 out0).toArray 36))
        rw [← hx2] at HP1
        clear HP
        have HP := HP1
        clear HP1
        rw [out0_lit] at hx2
        rw [← hx2]
        obtain ⟨q, hq⟩ : ∃ z, z = x1.heap.size := ⟨_, rfl⟩
        rw [← hq] at HQ0 hleq hpq ⊢
        clear hq hx2 hHeld
        have HQ := Lib.hid HQ0
        clear HQ0
        refine hK.out _ _ hHn (fun hHeld => ?_)
        clear hK K hHn
        try (simp only [Act.put, List.getElem_toArray, List.getElem_cons_succ, List.getElem_cons_zero, List.setIfInBounds_toArray, List.set_cons_zero, List.set_cons_succ])
        refine wpAnyH_ready (rs := [6]) (by kernel_rfl) (by simp) ?_
        refine AllReadyH.cons (i := 6) rfl (fun K hK => ?_) ?_
        · rw [if_pos (by rfl)]
          refine wp_store_mid _ _ _ rfl p 0 (outCs A2 a.o.out.length c2 a.o).toArray rfl rfl (HP.out.there (Nat.le_refl 6)) out_sz (out_one _ _ _ _) ?_
          obtain ⟨x3, hx3⟩ : ∃ X, X = x2.setCells p 0 (outCs A2 a.o.out.length c2 a.o) := ⟨_, rfl⟩
          have HP0 := Blk.setCells (outCs A2 a.o.out.length c2 a.o) 0 HP.out
          rw [setL_whole (vs := outCs A2 a.o.out.length c2 a.o) (cs := outCs none 0 0 out0) rfl] at HP0
          have hHn := below_setCells hlep (outCs A2 a.o.out.length c2 a.o) 0 hHeld
          rw [← hx3] at HP0 hHn
          clear HP
          have HP := Lib.hid HP0
          clear HP0
          have HQ1 := Lib.hid (Blk.setCellsFar (show q ≠ p by omega) (outCs A2 a.o.out.length c2 a.o) 0 HQ.out)
          rw [← hx3] at HQ1
          clear HQ
          have HQ := HQ1
          clear HQ1
          show K _ (x2.setCells p 0 (outCs A2 a.o.out.length c2 a.o))
          rw [← hx3]
          clear hx3 hHeld
          refine hK.out _ _ hHn (fun hHeld => ?_)
          clear hK K hHn
          try (simp only [Act.put, List.getElem_toArray, List.getElem_cons_succ, List.getElem_cons_zero, List.setIfInBounds_toArray, List.set_cons_zero, List.set_cons_succ])
          refine wpAnyH_ready (rs := [7]) (by kernel_rfl) (by simp) ?_
          refine AllReadyH.cons (i := 7) rfl (fun K hK => ?_) ?_
          · rw [if_pos (by rfl)]
            refine wp_store_mid _ _ _ rfl q 0 (outCs A2' b.o.out.length c2' b.o).toArray rfl rfl (HQ.out.there (Nat.le_refl 6)) out_sz (out_one _ _ _ _) ?_
            obtain ⟨x4, hx4⟩ : ∃ X, X = x3.setCells q 0 (outCs A2' b.o.out.length c2' b.o) := ⟨_, rfl⟩
            have HQ0 := Blk.setCells (outCs A2' b.o.out.length c2' b.o) 0 HQ.out
            rw [setL_whole (vs := outCs A2' b.o.out.length c2' b.o) (cs := outCs none 0 0 out0) rfl] at HQ0
            have hHn := below_setCells hleq (outCs A2' b.o.out.length c2' b.o) 0 hHeld
            rw [← hx4] at HQ0 hHn
            clear HQ
            have HQ := Lib.hid HQ0
            clear HQ0
            have HP1 := Lib.hid (Blk.setCellsFar (show p ≠ q by omega) (outCs A2' b.o.out.length c2' b.o) 0 HP.out)
            rw [← hx4] at HP1
            clear HP
            have HP := HP1
            clear HP1
            show K _ (x3.setCells q 0 (outCs A2' b.o.out.length c2' b.o))
            rw [← hx4]
            clear hx4 hHeld
            refine hK.out _ _ hHn (fun hHeld => ?_)
            clear hK K hHn
            try (simp only [Act.put, List.getElem_toArray, List.getElem_cons_succ, List.getElem_cons_zero, List.setIfInBounds_toArray, List.set_cons_zero, List.set_cons_succ])
            refine wpAnyH_done (by kernel_rfl) ?_ _
            refine NoPanic.normal ?_
            go_wp2_with fail
            go_meet
            case rel => exact ⟨p, q, rfl, rfl, HP, HQ, hHeld⟩
          exact AllReadyH.nil
        exact AllReadyH.nil
      exact AllReadyH.nil
    refine AllReadyH.cons (i := 5) rfl (fun K hK => ?_) ?_
    · go_simp
      obtain ⟨x5, hx5⟩ : ∃ X, X = Wd.alloc (.cells (outCs none 0 0 out0).toArray 36) := ⟨_, rfl⟩
      have HQ0 : Blk x5 Wd.heap.size 36 (outCs none 0 0 out0).toArray := by rw [hx5]; exact Blk.new _ _ _ _ rfl
      have hleq : W.heap.size ≤ Wd.heap.size := hHeld.size
      have hHn : Below W.heap.size W x5 := by rw [hx5]; exact hHeld.alloc hHeld.size _
      rw [out0_lit] at hx5
      rw [← hx5]
      obtain ⟨q, hq⟩ : ∃ z, z = Wd.heap.size := ⟨_, rfl⟩
      rw [← hq] at HQ0 hleq ⊢
      clear hq hx5 hHeld
      have HQ := Lib.hid HQ0
      clear HQ0
      refine hK.out _ _ hHn (fun hHeld => ?_)
      clear hK K hHn
      try (simp only [Act.put, List.getElem_toArray, List.getElem_cons_succ, List.getElem_cons_zero, List.setIfInBounds_toArray, List.set_cons_zero, List.set_cons_succ])
      refine wpAnyH_ready (rs := [4]) (by kernel_rfl) (by simp) ?_
      refine AllReadyH.cons (i := 4) rfl (fun K hK => ?_) ?_
      · go_simp
        obtain ⟨x6, hx6⟩ : ∃ X, X = x5.alloc (.cells (outCs none 0 0 out0).toArray 36) := ⟨_, rfl⟩
        have HP0 : Blk x6 x5.heap.size 36 (outCs none 0 0 out0).toArray := by rw [hx6]; exact Blk.new _ _ _ _ rfl
        have hlep : W.heap.size ≤ x5.heap.size := hHeld.size
        have hHn : Below W.heap.size W x6 := by rw [hx6]; exact hHeld.alloc hHeld.size _
        have hpq : q < x5.heap.size := HQ.out.lt
        have HQ1 := Lib.hid (Blk.alloc HQ.out (.cells (outCs none 0 0 out0).toArray 36))
        rw [← hx6] at HQ1
        clear HQ
        have HQ := HQ1
        clear HQ1
        rw [out0_lit] at hx6
        rw [← hx6]
        obtain ⟨p, hp⟩ : ∃ z, z = x5.heap.size := ⟨_, rfl⟩
        rw [← hp] at HP0 hlep hpq ⊢
        clear hp hx6 hHeld
        have HP := Lib.hid HP0
        clear HP0
        refine hK.out _ _ hHn (fun hHeld => ?_)
        clear hK K hHn
        try (simp only [Act.put, List.getElem_toArray, List.getElem_cons_succ, List.getElem_cons_zero, List.setIfInBounds_toArray, List.set_cons_zero, List.set_cons_succ])
        refine wpAnyH_ready (rs := [6]) (by kernel_rfl) (by simp) ?_
        refine AllReadyH.cons (i := 6) rfl (fun K hK => ?_) ?_
        · rw [if_pos (by rfl)]
          refine wp_store_mid _ _ _ rfl p 0 (outCs A2 a.o.out.length c2 a.o).toArray rfl rfl (HP.out.there (Nat.le_refl 6)) out_sz (out_one _ _ _ _) ?_
          obtain ⟨x7, hx7⟩ : ∃ X, X = x6.setCells p 0 (outCs A2 a.o.out.length c2 a.o) := ⟨_, rfl⟩
          have HP0 := Blk.setCells (outCs A2 a.o.out.length c2 a.o) 0 HP.out
          rw [setL_whole (vs := outCs A2 a.o.out.length c2 a.o) (cs := outCs none 0 0 out0) rfl] at HP0
          have hHn := below_setCells hlep (outCs A2 a.o.out.length c2 a.o) 0 hHeld
          rw [← hx7] at HP0 hHn
          clear HP
          have HP := Lib.hid HP0
          clear HP0
          have HQ1 := Lib.hid (Blk.setCellsFar (show q ≠ p by omega) (outCs A2 a.o.out.length c2 a.o) 0 HQ.out)
          rw [← hx7] at HQ1
          clear HQ
          have HQ := HQ1
          clear HQ1
          show K _ (x6.setCells p 0 (outCs A2 a.o.out.length c2 a.o))
          rw [← hx7]
          clear hx7 hHeld
          refine hK.out _ _ hHn (fun hHeld => ?_)
          clear hK K hHn
          try (simp only [Act.put, List.getElem_toArray, List.getElem_cons_succ, List.getElem_cons_zero, List.setIfInBounds_toArray, List.set_cons_zero, List.set_cons_succ])
          refine wpAnyH_ready (rs := [7]) (by kernel_rfl) (by simp) ?_
          refine AllReadyH.cons (i := 7) rfl (fun K hK => ?_) ?_
          · rw [if_pos (by rfl)]
            refine wp_store_mid _ _ _ rfl q 0 (outCs A2' b.o.out.length c2' b.o).toArray rfl rfl (HQ.out.there (Nat.le_refl 6)) out_sz (out_one _ _ _ _) ?_
            obtain ⟨x8, hx8⟩ : ∃ X, X = x7.setCells q 0 (outCs A2' b.o.out.length c2' b.o) := ⟨_, rfl⟩
            have HQ0 := Blk.setCells (outCs A2' b.o.out.length c2' b.o) 0 HQ.out
            rw [setL_whole (vs := outCs A2' b.o.out.length c2' b.o) (cs := outCs none 0 0 out0) rfl] at HQ0
            have hHn := below_setCells hleq (outCs A2' b.o.out.length c2' b.o) 0 hHeld
            rw [← hx8] at HQ0 hHn
            clear HQ
            have HQ := Lib.hid HQ0
            clear HQ0
            have HP1 := Lib.hid (Blk.setCellsFar (show p ≠ q by omega) (outCs A2' b.o.out.length c2' b.o) 0 HP.out)
            rw [← hx8] at HP1
            clear HP
            have HP := HP1
            clear HP1
            show K _ (x7.setCells q 0 (outCs A2' b.o.out.length c2' b.o))
            rw [← hx8]
            clear hx8 hHeld
            refine hK.out _ _ hHn (fun hHeld => ?_)
            clear hK K hHn
            try (simp only [Act.put, List.getElem_toArray, List.getElem_cons_succ, List.getElem_cons_zero, List.setIfInBounds_toArray, List.set_cons_zero, List.set_cons_succ])
            refine wpAnyH_done (by kernel_rfl) ?_ _
            refine NoPanic.normal ?_
            go_wp2_with fail
            go_meet
            case rel => exact ⟨p, q, rfl, rfl, HP, HQ, hHeld⟩
          exact AllReadyH.nil
        exact AllReadyH.nil
      exact AllReadyH.nil
    exact AllReadyH.nil
  case rest =>
    obtain ⟨p, q, rfl, rfl, HP, HQ, HWc⟩ := hcut
    have HB0 : Hid (Below w.heap.size w wc) := HB.out.trans (HWc.out.mono HB.out.size)
    have HXc := Lib.hid (Blk.below HX.out HWc.out HX.out.lt)
    have HYc := Lib.hid (Blk.below HY.out HWc.out HY.out.lt)
    have HF1 := Lib.hid ((HF.out.below (HWc.out.mono HB.out.size)))
    have HF2 := Lib.hid ((HF'.out.below (HWc.out.mono HB.out.size)))
    clear HX HY HF HF' HB HWc
    have HX := HXc
    have HY := HYc
    clear HXc HYc
    rcases h0 : (sameActB a.act b.act) with _ | _
    · have Hr : Hid (sameEvB a b = false) := by show _ = _; simp only [sameEvB, h0, Bool.false_and, Bool.and_false]
      skip
      have RXa := Lib.hid (ce_act HX.out ha.out)
      have RYa := Lib.hid (ce_act HY.out hb.out)
      go_wp2_with (first
          | ((with_reducible refine gateL 33 ?_); refine wpList_load_g (by rfl) 33 (.tmp 11) rfl w.heap.size 0 rfl (actCs A a.act.frame.length c a.act) _ RXa.out Try.underlying33 rfl (act_sz ha.out.act) ?_)
          | ((with_reducible refine gateL 33 ?_); refine wpList_load_g (by rfl) 33 (.tmp 13) rfl (w.heap.size + 1) 0 rfl (actCs A' b.act.frame.length c' b.act) _ RYa.out Try.underlying33 rfl (act_sz hb.out.act) ?_))
      refine (sameAct_any A c a.act A' c' b.act ha.out.act hb.out.act wc (HF1.out.more HB0.out.size) (HF2.out.more HB0.out.size)).mono ?_
      rintro e w5 ⟨rfl, hb5⟩
      have HX5 := Lib.hid (Blk.below HX.out hb5 HX.out.lt)
      have HY5 := Lib.hid (Blk.below HY.out hb5 HY.out.lt)
      have HP5 := Lib.hid (Blk.below HP.out hb5 HP.out.lt)
      have HQ5 := Lib.hid (Blk.below HQ.out hb5 HQ.out.lt)
      have HB : Hid (Below w.heap.size w w5) := HB0.out.trans (hb5.mono HB0.out.size)
      clear HX HY HP HQ hb5
      have HX := HX5
      have HY := HY5
      have HP := HP5
      have HQ := HQ5
      clear HX5 HY5 HP5 HQ5
      have HOx := Lib.hid (HO.out.below HB.out)
      have HOy := Lib.hid (HO'.out.below HB.out)
      rw [h0]
      have d0 := co_err HP.out; have e0 := co_err HQ.out; have d1 := co_reason HP.out; have e1 := co_reason HQ.out; have d2 := co_hit HP.out; have e2 := co_hit HQ.out; have d3 := co_version HP.out; have e3 := co_version HQ.out
      have d4 := co_name HP.out; have e4 := co_name HQ.out; have d5 := co_out HP.out; have e5 := co_out HQ.out; have d6 := ce_len HX.out ha.out; have e6 := ce_len HY.out hb.out; have d7 := ce_sum HX.out ha.out; have e7 := ce_sum HY.out hb.out
      go_wp2
      go_ret
      exact ⟨by rw [Hr.out]; rfl, HB.out⟩
    · have K0 := Lib.hid h0
      clear h0
      rcases h1 : (a.o.err == b.o.err) with _ | _
      · have Hr : Hid (sameEvB a b = false) := by show _ = _; simp only [sameEvB, h1, Bool.false_and, Bool.and_false]
        skip
        have q1 : ¬ a.o.err = b.o.err := by simpa using h1
        have RXa := Lib.hid (ce_act HX.out ha.out)
        have RYa := Lib.hid (ce_act HY.out hb.out)
        go_wp2_with (first
            | ((with_reducible refine gateL 33 ?_); refine wpList_load_g (by rfl) 33 (.tmp 11) rfl w.heap.size 0 rfl (actCs A a.act.frame.length c a.act) _ RXa.out Try.underlying33 rfl (act_sz ha.out.act) ?_)
            | ((with_reducible refine gateL 33 ?_); refine wpList_load_g (by rfl) 33 (.tmp 13) rfl (w.heap.size + 1) 0 rfl (actCs A' b.act.frame.length c' b.act) _ RYa.out Try.underlying33 rfl (act_sz hb.out.act) ?_))
        refine (sameAct_any A c a.act A' c' b.act ha.out.act hb.out.act wc (HF1.out.more HB0.out.size) (HF2.out.more HB0.out.size)).mono ?_
        rintro e w5 ⟨rfl, hb5⟩
        have HX5 := Lib.hid (Blk.below HX.out hb5 HX.out.lt)
        have HY5 := Lib.hid (Blk.below HY.out hb5 HY.out.lt)
        have HP5 := Lib.hid (Blk.below HP.out hb5 HP.out.lt)
        have HQ5 := Lib.hid (Blk.below HQ.out hb5 HQ.out.lt)
        have HB : Hid (Below w.heap.size w w5) := HB0.out.trans (hb5.mono HB0.out.size)
        clear HX HY HP HQ hb5
        have HX := HX5
        have HY := HY5
        have HP := HP5
        have HQ := HQ5
        clear HX5 HY5 HP5 HQ5
        have HOx := Lib.hid (HO.out.below HB.out)
        have HOy := Lib.hid (HO'.out.below HB.out)
        rw [K0.out]
        have d0 := co_err HP.out; have e0 := co_err HQ.out; have d1 := co_reason HP.out; have e1 := co_reason HQ.out; have d2 := co_hit HP.out; have e2 := co_hit HQ.out; have d3 := co_version HP.out; have e3 := co_version HQ.out
        have d4 := co_name HP.out; have e4 := co_name HQ.out; have d5 := co_out HP.out; have e5 := co_out HQ.out; have d6 := ce_len HX.out ha.out; have e6 := ce_len HY.out hb.out; have d7 := ce_sum HX.out ha.out; have e7 := ce_sum HY.out hb.out
        go_wp2
        go_ret
        exact ⟨by rw [Hr.out]; rfl, HB.out⟩
      · have K1 := Lib.hid h1
        clear h1
        rcases h2 : (a.o.reason == b.o.reason) with _ | _
        · have Hr : Hid (sameEvB a b = false) := by show _ = _; simp only [sameEvB, h2, Bool.false_and, Bool.and_false]
          skip
          have q1 : a.o.err = b.o.err := by simpa using K1.out
          have q2 : ¬ a.o.reason = b.o.reason := by simpa using h2
          have RXa := Lib.hid (ce_act HX.out ha.out)
          have RYa := Lib.hid (ce_act HY.out hb.out)
          go_wp2_with (first
              | ((with_reducible refine gateL 33 ?_); refine wpList_load_g (by rfl) 33 (.tmp 11) rfl w.heap.size 0 rfl (actCs A a.act.frame.length c a.act) _ RXa.out Try.underlying33 rfl (act_sz ha.out.act) ?_)
              | ((with_reducible refine gateL 33 ?_); refine wpList_load_g (by rfl) 33 (.tmp 13) rfl (w.heap.size + 1) 0 rfl (actCs A' b.act.frame.length c' b.act) _ RYa.out Try.underlying33 rfl (act_sz hb.out.act) ?_))
          refine (sameAct_any A c a.act A' c' b.act ha.out.act hb.out.act wc (HF1.out.more HB0.out.size) (HF2.out.more HB0.out.size)).mono ?_
          rintro e w5 ⟨rfl, hb5⟩
          have HX5 := Lib.hid (Blk.below HX.out hb5 HX.out.lt)
          have HY5 := Lib.hid (Blk.below HY.out hb5 HY.out.lt)
          have HP5 := Lib.hid (Blk.below HP.out hb5 HP.out.lt)
          have HQ5 := Lib.hid (Blk.below HQ.out hb5 HQ.out.lt)
          have HB : Hid (Below w.heap.size w w5) := HB0.out.trans (hb5.mono HB0.out.size)
          clear HX HY HP HQ hb5
          have HX := HX5
          have HY := HY5
          have HP := HP5
          have HQ := HQ5
          clear HX5 HY5 HP5 HQ5
          have HOx := Lib.hid (HO.out.below HB.out)
          have HOy := Lib.hid (HO'.out.below HB.out)
          rw [K0.out]
          have d0 := co_err HP.out; have e0 := co_err HQ.out; have d1 := co_reason HP.out; have e1 := co_reason HQ.out; have d2 := co_hit HP.out; have e2 := co_hit HQ.out; have d3 := co_version HP.out; have e3 := co_version HQ.out
          have d4 := co_name HP.out; have e4 := co_name HQ.out; have d5 := co_out HP.out; have e5 := co_out HQ.out; have d6 := ce_len HX.out ha.out; have e6 := ce_len HY.out hb.out; have d7 := ce_sum HX.out ha.out; have e7 := ce_sum HY.out hb.out
          go_wp2
          go_ret
          exact ⟨by rw [Hr.out]; rfl, HB.out⟩
        · have K2 := Lib.hid h2
          clear h2
          rcases h3 : (a.o.hit == b.o.hit) with _ | _
          · have Hr : Hid (sameEvB a b = false) := by show _ = _; simp only [sameEvB, h3, Bool.false_and, Bool.and_false]
            skip
            have q1 : a.o.err = b.o.err := by simpa using K1.out
            have q2 : a.o.reason = b.o.reason := by simpa using K2.out
            have q3 : (a.o.hit == b.o.hit) = false := h3
            have RXa := Lib.hid (ce_act HX.out ha.out)
            have RYa := Lib.hid (ce_act HY.out hb.out)
            go_wp2_with (first
                | ((with_reducible refine gateL 33 ?_); refine wpList_load_g (by rfl) 33 (.tmp 11) rfl w.heap.size 0 rfl (actCs A a.act.frame.length c a.act) _ RXa.out Try.underlying33 rfl (act_sz ha.out.act) ?_)
                | ((with_reducible refine gateL 33 ?_); refine wpList_load_g (by rfl) 33 (.tmp 13) rfl (w.heap.size + 1) 0 rfl (actCs A' b.act.frame.length c' b.act) _ RYa.out Try.underlying33 rfl (act_sz hb.out.act) ?_))
            refine (sameAct_any A c a.act A' c' b.act ha.out.act hb.out.act wc (HF1.out.more HB0.out.size) (HF2.out.more HB0.out.size)).mono ?_
            rintro e w5 ⟨rfl, hb5⟩
            have HX5 := Lib.hid (Blk.below HX.out hb5 HX.out.lt)
            have HY5 := Lib.hid (Blk.below HY.out hb5 HY.out.lt)
            have HP5 := Lib.hid (Blk.below HP.out hb5 HP.out.lt)
            have HQ5 := Lib.hid (Blk.below HQ.out hb5 HQ.out.lt)
            have HB : Hid (Below w.heap.size w w5) := HB0.out.trans (hb5.mono HB0.out.size)
            clear HX HY HP HQ hb5
            have HX := HX5
            have HY := HY5
            have HP := HP5
            have HQ := HQ5
            clear HX5 HY5 HP5 HQ5
            have HOx := Lib.hid (HO.out.below HB.out)
            have HOy := Lib.hid (HO'.out.below HB.out)
            rw [K0.out]
            have d0 := co_err HP.out; have e0 := co_err HQ.out; have d1 := co_reason HP.out; have e1 := co_reason HQ.out; have d2 := co_hit HP.out; have e2 := co_hit HQ.out; have d3 := co_version HP.out; have e3 := co_version HQ.out
            have d4 := co_name HP.out; have e4 := co_name HQ.out; have d5 := co_out HP.out; have e5 := co_out HQ.out; have d6 := ce_len HX.out ha.out; have e6 := ce_len HY.out hb.out; have d7 := ce_sum HX.out ha.out; have e7 := ce_sum HY.out hb.out
            go_wp2
            go_ret
            exact ⟨by rw [Hr.out]; rfl, HB.out⟩
          · have K3 := Lib.hid h3
            clear h3
            rcases h4 : (a.o.version == b.o.version) with _ | _
            · have Hr : Hid (sameEvB a b = false) := by show _ = _; simp only [sameEvB, h4, Bool.false_and, Bool.and_false]
              skip
              have q1 : a.o.err = b.o.err := by simpa using K1.out
              have q2 : a.o.reason = b.o.reason := by simpa using K2.out
              have q3 : (a.o.hit == b.o.hit) = true := K3.out
              have q4 : ¬ a.o.version = b.o.version := by simpa using h4
              have RXa := Lib.hid (ce_act HX.out ha.out)
              have RYa := Lib.hid (ce_act HY.out hb.out)
              go_wp2_with (first
                  | ((with_reducible refine gateL 33 ?_); refine wpList_load_g (by rfl) 33 (.tmp 11) rfl w.heap.size 0 rfl (actCs A a.act.frame.length c a.act) _ RXa.out Try.underlying33 rfl (act_sz ha.out.act) ?_)
                  | ((with_reducible refine gateL 33 ?_); refine wpList_load_g (by rfl) 33 (.tmp 13) rfl (w.heap.size + 1) 0 rfl (actCs A' b.act.frame.length c' b.act) _ RYa.out Try.underlying33 rfl (act_sz hb.out.act) ?_))
              refine (sameAct_any A c a.act A' c' b.act ha.out.act hb.out.act wc (HF1.out.more HB0.out.size) (HF2.out.more HB0.out.size)).mono ?_
              rintro e w5 ⟨rfl, hb5⟩
              have HX5 := Lib.hid (Blk.below HX.out hb5 HX.out.lt)
              have HY5 := Lib.hid (Blk.below HY.out hb5 HY.out.lt)
              have HP5 := Lib.hid (Blk.below HP.out hb5 HP.out.lt)
              have HQ5 := Lib.hid (Blk.below HQ.out hb5 HQ.out.lt)
              have HB : Hid (Below w.heap.size w w5) := HB0.out.trans (hb5.mono HB0.out.size)
              clear HX HY HP HQ hb5
              have HX := HX5
              have HY := HY5
              have HP := HP5
              have HQ := HQ5
              clear HX5 HY5 HP5 HQ5
              have HOx := Lib.hid (HO.out.below HB.out)
              have HOy := Lib.hid (HO'.out.below HB.out)
              rw [K0.out]
              have d0 := co_err HP.out; have e0 := co_err HQ.out; have d1 := co_reason HP.out; have e1 := co_reason HQ.out; have d2 := co_hit HP.out; have e2 := co_hit HQ.out; have d3 := co_version HP.out; have e3 := co_version HQ.out
              have d4 := co_name HP.out; have e4 := co_name HQ.out; have d5 := co_out HP.out; have e5 := co_out HQ.out; have d6 := ce_len HX.out ha.out; have e6 := ce_len HY.out hb.out; have d7 := ce_sum HX.out ha.out; have e7 := ce_sum HY.out hb.out
              go_wp2
              go_ret
              exact ⟨by rw [Hr.out]; rfl, HB.out⟩
            · have K4 := Lib.hid h4
              clear h4
              rcases h5 : (a.o.name == b.o.name) with _ | _
              · have Hr : Hid (sameEvB a b = false) := by show _ = _; simp only [sameEvB, h5, Bool.false_and, Bool.and_false]
                skip
                have q1 : a.o.err = b.o.err := by simpa using K1.out
                have q2 : a.o.reason = b.o.reason := by simpa using K2.out
                have q3 : (a.o.hit == b.o.hit) = true := K3.out
                have q4 : a.o.version = b.o.version := by simpa using K4.out
                have q5 : (a.o.name == b.o.name) = false := h5
                have RXa := Lib.hid (ce_act HX.out ha.out)
                have RYa := Lib.hid (ce_act HY.out hb.out)
                go_wp2_with (first
                    | ((with_reducible refine gateL 33 ?_); refine wpList_load_g (by rfl) 33 (.tmp 11) rfl w.heap.size 0 rfl (actCs A a.act.frame.length c a.act) _ RXa.out Try.underlying33 rfl (act_sz ha.out.act) ?_)
                    | ((with_reducible refine gateL 33 ?_); refine wpList_load_g (by rfl) 33 (.tmp 13) rfl (w.heap.size + 1) 0 rfl (actCs A' b.act.frame.length c' b.act) _ RYa.out Try.underlying33 rfl (act_sz hb.out.act) ?_))
                refine (sameAct_any A c a.act A' c' b.act ha.out.act hb.out.act wc (HF1.out.more HB0.out.size) (HF2.out.more HB0.out.size)).mono ?_
                rintro e w5 ⟨rfl, hb5⟩
                have HX5 := Lib.hid (Blk.below HX.out hb5 HX.out.lt)
                have HY5 := Lib.hid (Blk.below HY.out hb5 HY.out.lt)
                have HP5 := Lib.hid (Blk.below HP.out hb5 HP.out.lt)
                have HQ5 := Lib.hid (Blk.below HQ.out hb5 HQ.out.lt)
                have HB : Hid (Below w.heap.size w w5) := HB0.out.trans (hb5.mono HB0.out.size)
                clear HX HY HP HQ hb5
                have HX := HX5
                have HY := HY5
                have HP := HP5
                have HQ := HQ5
                clear HX5 HY5 HP5 HQ5
                have HOx := Lib.hid (HO.out.below HB.out)
                have HOy := Lib.hid (HO'.out.below HB.out)
                rw [K0.out]
                have d0 := co_err HP.out; have e0 := co_err HQ.out; have d1 := co_reason HP.out; have e1 := co_reason HQ.out; have d2 := co_hit HP.out; have e2 := co_hit HQ.out; have d3 := co_version HP.out; have e3 := co_version HQ.out
                have d4 := co_name HP.out; have e4 := co_name HQ.out; have d5 := co_out HP.out; have e5 := co_out HQ.out; have d6 := ce_len HX.out ha.out; have e6 := ce_len HY.out hb.out; have d7 := ce_sum HX.out ha.out; have e7 := ce_sum HY.out hb.out
                go_wp2
                go_ret
                exact ⟨by rw [Hr.out]; rfl, HB.out⟩
              · have K5 := Lib.hid h5
                clear h5
                rcases h6 : (a.o.out == b.o.out) with _ | _
                · have Hr : Hid (sameEvB a b = false) := by show _ = _; simp only [sameEvB, h6, Bool.false_and, Bool.and_false]
                  skip
                  have q1 : a.o.err = b.o.err := by simpa using K1.out
                  have q2 : a.o.reason = b.o.reason := by simpa using K2.out
                  have q3 : (a.o.hit == b.o.hit) = true := K3.out
                  have q4 : a.o.version = b.o.version := by simpa using K4.out
                  have q5 : (a.o.name == b.o.name) = true := K5.out
                  have RXa := Lib.hid (ce_act HX.out ha.out)
                  have RYa := Lib.hid (ce_act HY.out hb.out)
                  go_wp2_with (first
                      | ((with_reducible refine gateL 33 ?_); refine wpList_load_g (by rfl) 33 (.tmp 11) rfl w.heap.size 0 rfl (actCs A a.act.frame.length c a.act) _ RXa.out Try.underlying33 rfl (act_sz ha.out.act) ?_)
                      | ((with_reducible refine gateL 33 ?_); refine wpList_load_g (by rfl) 33 (.tmp 13) rfl (w.heap.size + 1) 0 rfl (actCs A' b.act.frame.length c' b.act) _ RYa.out Try.underlying33 rfl (act_sz hb.out.act) ?_))
                  refine (sameAct_any A c a.act A' c' b.act ha.out.act hb.out.act wc (HF1.out.more HB0.out.size) (HF2.out.more HB0.out.size)).mono ?_
                  rintro e w5 ⟨rfl, hb5⟩
                  have HX5 := Lib.hid (Blk.below HX.out hb5 HX.out.lt)
                  have HY5 := Lib.hid (Blk.below HY.out hb5 HY.out.lt)
                  have HP5 := Lib.hid (Blk.below HP.out hb5 HP.out.lt)
                  have HQ5 := Lib.hid (Blk.below HQ.out hb5 HQ.out.lt)
                  have HB : Hid (Below w.heap.size w w5) := HB0.out.trans (hb5.mono HB0.out.size)
                  clear HX HY HP HQ hb5
                  have HX := HX5
                  have HY := HY5
                  have HP := HP5
                  have HQ := HQ5
                  clear HX5 HY5 HP5 HQ5
                  have HOx := Lib.hid (HO.out.below HB.out)
                  have HOy := Lib.hid (HO'.out.below HB.out)
                  rw [K0.out]
                  have d0 := co_err HP.out; have e0 := co_err HQ.out; have d1 := co_reason HP.out; have e1 := co_reason HQ.out; have d2 := co_hit HP.out; have e2 := co_hit HQ.out; have d3 := co_version HP.out; have e3 := co_version HQ.out
                  have d4 := co_name HP.out; have e4 := co_name HQ.out; have d5 := co_out HP.out; have e5 := co_out HQ.out; have d6 := ce_len HX.out ha.out; have e6 := ce_len HY.out hb.out; have d7 := ce_sum HX.out ha.out; have e7 := ce_sum HY.out hb.out
                  go_wp2_with fail
                  refine (bytesEq_any A2 c2 a.o.out A2' c2' b.o.out w5 _ _ HOx.out HOy.out).mono ?_
                  rintro e w6 ⟨rfl, rfl⟩
                  rw [h6]
                  go_wp2
                  go_ret
                  exact ⟨by rw [Hr.out]; rfl, HB.out⟩
                · have K6 := Lib.hid h6
                  clear h6
                  rcases h7 : (a.len == b.len) with _ | _
                  · have Hr : Hid (sameEvB a b = false) := by show _ = _; simp only [sameEvB, h7, Bool.false_and, Bool.and_false]
                    skip
                    have q1 : a.o.err = b.o.err := by simpa using K1.out
                    have q2 : a.o.reason = b.o.reason := by simpa using K2.out
                    have q3 : (a.o.hit == b.o.hit) = true := K3.out
                    have q4 : a.o.version = b.o.version := by simpa using K4.out
                    have q5 : (a.o.name == b.o.name) = true := K5.out
                    have q7 : ¬ a.len = b.len := by simpa using h7
                    have RXa := Lib.hid (ce_act HX.out ha.out)
                    have RYa := Lib.hid (ce_act HY.out hb.out)
                    go_wp2_with (first
                        | ((with_reducible refine gateL 33 ?_); refine wpList_load_g (by rfl) 33 (.tmp 11) rfl w.heap.size 0 rfl (actCs A a.act.frame.length c a.act) _ RXa.out Try.underlying33 rfl (act_sz ha.out.act) ?_)
                        | ((with_reducible refine gateL 33 ?_); refine wpList_load_g (by rfl) 33 (.tmp 13) rfl (w.heap.size + 1) 0 rfl (actCs A' b.act.frame.length c' b.act) _ RYa.out Try.underlying33 rfl (act_sz hb.out.act) ?_))
                    refine (sameAct_any A c a.act A' c' b.act ha.out.act hb.out.act wc (HF1.out.more HB0.out.size) (HF2.out.more HB0.out.size)).mono ?_
                    rintro e w5 ⟨rfl, hb5⟩
                    have HX5 := Lib.hid (Blk.below HX.out hb5 HX.out.lt)
                    have HY5 := Lib.hid (Blk.below HY.out hb5 HY.out.lt)
                    have HP5 := Lib.hid (Blk.below HP.out hb5 HP.out.lt)
                    have HQ5 := Lib.hid (Blk.below HQ.out hb5 HQ.out.lt)
                    have HB : Hid (Below w.heap.size w w5) := HB0.out.trans (hb5.mono HB0.out.size)
                    clear HX HY HP HQ hb5
                    have HX := HX5
                    have HY := HY5
                    have HP := HP5
                    have HQ := HQ5
                    clear HX5 HY5 HP5 HQ5
                    have HOx := Lib.hid (HO.out.below HB.out)
                    have HOy := Lib.hid (HO'.out.below HB.out)
                    rw [K0.out]
                    have d0 := co_err HP.out; have e0 := co_err HQ.out; have d1 := co_reason HP.out; have e1 := co_reason HQ.out; have d2 := co_hit HP.out; have e2 := co_hit HQ.out; have d3 := co_version HP.out; have e3 := co_version HQ.out
                    have d4 := co_name HP.out; have e4 := co_name HQ.out; have d5 := co_out HP.out; have e5 := co_out HQ.out; have d6 := ce_len HX.out ha.out; have e6 := ce_len HY.out hb.out; have d7 := ce_sum HX.out ha.out; have e7 := ce_sum HY.out hb.out
                    go_wp2_with fail
                    refine (bytesEq_any A2 c2 a.o.out A2' c2' b.o.out w5 _ _ HOx.out HOy.out).mono ?_
                    rintro e w6 ⟨rfl, rfl⟩
                    rw [K6.out]
                    go_wp2
                    go_ret
                    exact ⟨by rw [Hr.out]; rfl, HB.out⟩
                  · have K7 := Lib.hid h7
                    clear h7
                    rcases h8 : (a.sum == b.sum) with _ | _
                    · have Hr : Hid (sameEvB a b = false) := by show _ = _; simp only [sameEvB, h8, Bool.false_and, Bool.and_false]
                      skip
                      have q1 : a.o.err = b.o.err := by simpa using K1.out
                      have q2 : a.o.reason = b.o.reason := by simpa using K2.out
                      have q3 : (a.o.hit == b.o.hit) = true := K3.out
                      have q4 : a.o.version = b.o.version := by simpa using K4.out
                      have q5 : (a.o.name == b.o.name) = true := K5.out
                      have q7 : a.len = b.len := by simpa using K7.out
                      have q8 : ¬ (a.sum : Int) = (b.sum : Int) := by have := h8; simp at this; omega
                      have qb8 : ((a.sum : Int) == (b.sum : Int)) = false := by exact beq_eq_false_iff_ne.2 q8
                      have RXa := Lib.hid (ce_act HX.out ha.out)
                      have RYa := Lib.hid (ce_act HY.out hb.out)
                      go_wp2_with (first
                          | ((with_reducible refine gateL 33 ?_); refine wpList_load_g (by rfl) 33 (.tmp 11) rfl w.heap.size 0 rfl (actCs A a.act.frame.length c a.act) _ RXa.out Try.underlying33 rfl (act_sz ha.out.act) ?_)
                          | ((with_reducible refine gateL 33 ?_); refine wpList_load_g (by rfl) 33 (.tmp 13) rfl (w.heap.size + 1) 0 rfl (actCs A' b.act.frame.length c' b.act) _ RYa.out Try.underlying33 rfl (act_sz hb.out.act) ?_))
                      refine (sameAct_any A c a.act A' c' b.act ha.out.act hb.out.act wc (HF1.out.more HB0.out.size) (HF2.out.more HB0.out.size)).mono ?_
                      rintro e w5 ⟨rfl, hb5⟩
                      have HX5 := Lib.hid (Blk.below HX.out hb5 HX.out.lt)
                      have HY5 := Lib.hid (Blk.below HY.out hb5 HY.out.lt)
                      have HP5 := Lib.hid (Blk.below HP.out hb5 HP.out.lt)
                      have HQ5 := Lib.hid (Blk.below HQ.out hb5 HQ.out.lt)
                      have HB : Hid (Below w.heap.size w w5) := HB0.out.trans (hb5.mono HB0.out.size)
                      clear HX HY HP HQ hb5
                      have HX := HX5
                      have HY := HY5
                      have HP := HP5
                      have HQ := HQ5
                      clear HX5 HY5 HP5 HQ5
                      have HOx := Lib.hid (HO.out.below HB.out)
                      have HOy := Lib.hid (HO'.out.below HB.out)
                      rw [K0.out]
                      have d0 := co_err HP.out; have e0 := co_err HQ.out; have d1 := co_reason HP.out; have e1 := co_reason HQ.out; have d2 := co_hit HP.out; have e2 := co_hit HQ.out; have d3 := co_version HP.out; have e3 := co_version HQ.out
                      have d4 := co_name HP.out; have e4 := co_name HQ.out; have d5 := co_out HP.out; have e5 := co_out HQ.out; have d6 := ce_len HX.out ha.out; have e6 := ce_len HY.out hb.out; have d7 := ce_sum HX.out ha.out; have e7 := ce_sum HY.out hb.out
                      go_wp2_with fail
                      refine (bytesEq_any A2 c2 a.o.out A2' c2' b.o.out w5 _ _ HOx.out HOy.out).mono ?_
                      rintro e w6 ⟨rfl, rfl⟩
                      rw [K6.out]
                      go_wp2
                      go_ret
                      exact ⟨by rw [Hr.out]; rfl, HB.out⟩
                    · have K8 := Lib.hid h8
                      clear h8
                      have Hr : Hid (sameEvB a b = true) := by show _ = _; simp only [sameEvB, K0.out, K1.out, K2.out, K3.out, K4.out, K5.out, K6.out, K7.out, K8.out, Bool.and_true]
                      skip
                      have q1 : a.o.err = b.o.err := by simpa using K1.out
                      have q2 : a.o.reason = b.o.reason := by simpa using K2.out
                      have q3 : (a.o.hit == b.o.hit) = true := K3.out
                      have q4 : a.o.version = b.o.version := by simpa using K4.out
                      have q5 : (a.o.name == b.o.name) = true := K5.out
                      have q7 : a.len = b.len := by simpa using K7.out
                      have q8 : (a.sum : Int) = (b.sum : Int) := by have := K8.out; simp at this; omega
                      have qb8 : ((a.sum : Int) == (b.sum : Int)) = true := by rw [q8]; simp
                      have RXa := Lib.hid (ce_act HX.out ha.out)
                      have RYa := Lib.hid (ce_act HY.out hb.out)
                      go_wp2_with (first
                          | ((with_reducible refine gateL 33 ?_); refine wpList_load_g (by rfl) 33 (.tmp 11) rfl w.heap.size 0 rfl (actCs A a.act.frame.length c a.act) _ RXa.out Try.underlying33 rfl (act_sz ha.out.act) ?_)
                          | ((with_reducible refine gateL 33 ?_); refine wpList_load_g (by rfl) 33 (.tmp 13) rfl (w.heap.size + 1) 0 rfl (actCs A' b.act.frame.length c' b.act) _ RYa.out Try.underlying33 rfl (act_sz hb.out.act) ?_))
                      refine (sameAct_any A c a.act A' c' b.act ha.out.act hb.out.act wc (HF1.out.more HB0.out.size) (HF2.out.more HB0.out.size)).mono ?_
                      rintro e w5 ⟨rfl, hb5⟩
                      have HX5 := Lib.hid (Blk.below HX.out hb5 HX.out.lt)
                      have HY5 := Lib.hid (Blk.below HY.out hb5 HY.out.lt)
                      have HP5 := Lib.hid (Blk.below HP.out hb5 HP.out.lt)
                      have HQ5 := Lib.hid (Blk.below HQ.out hb5 HQ.out.lt)
                      have HB : Hid (Below w.heap.size w w5) := HB0.out.trans (hb5.mono HB0.out.size)
                      clear HX HY HP HQ hb5
                      have HX := HX5
                      have HY := HY5
                      have HP := HP5
                      have HQ := HQ5
                      clear HX5 HY5 HP5 HQ5
                      have HOx := Lib.hid (HO.out.below HB.out)
                      have HOy := Lib.hid (HO'.out.below HB.out)
                      rw [K0.out]
                      have d0 := co_err HP.out; have e0 := co_err HQ.out; have d1 := co_reason HP.out; have e1 := co_reason HQ.out; have d2 := co_hit HP.out; have e2 := co_hit HQ.out; have d3 := co_version HP.out; have e3 := co_version HQ.out
                      have d4 := co_name HP.out; have e4 := co_name HQ.out; have d5 := co_out HP.out; have e5 := co_out HQ.out; have d6 := ce_len HX.out ha.out; have e6 := ce_len HY.out hb.out; have d7 := ce_sum HX.out ha.out; have e7 := ce_sum HY.out hb.out
                      go_wp2_with fail
                      refine (bytesEq_any A2 c2 a.o.out A2' c2' b.o.out w5 _ _ HOx.out HOy.out).mono ?_
                      rintro e w6 ⟨rfl, rfl⟩
                      rw [K6.out]
                      go_wp2
                      go_ret
                      exact ⟨by rw [Hr.out]; rfl, HB.out⟩
set_option maxHeartbeats 4000000 in
set_option maxRecDepth 100000 in
theorem refSame_any (A : Option Addr) (c : Nat) (A2 : Option Addr) (c2 : Nat) (a : EvP) (A' : Option Addr) (c' : Nat) (A2' : Option Addr) (c2' : Nat) (b : EvP) (ha0 : EvShape a) (hb0 : EvShape b) (w : World) (hf : BS w w.heap.size A a.act.frame) (hf' : BS w w.heap.size A' b.act.frame) (ho : BS w w.heap.size A2 a.o.out) (ho' : BS w w.heap.size A2' b.o.out) :
    Calls Try.prog 17 #[.agg (evCs A a.act.frame.length c A2 a.o.out.length c2 a).toArray, .agg (evCs A' b.act.frame.length c' A2' b.o.out.length c2' b).toArray] w fun e w' => e = .returned (.bool (sameEvB a b)) ∧ Below w.heap.size w w' := by
  have ha := Lib.hid ha0
  have hb := Lib.hid hb0
  clear ha0 hb0
  obtain ⟨W1, hW1⟩ : ∃ W, W = w.alloc (.cells (evCs A a.act.frame.length c A2 a.o.out.length c2 a).toArray 39) := ⟨_, rfl⟩
  obtain ⟨W, hW⟩ : ∃ W, W = W1.alloc (.cells (evCs A' b.act.frame.length c' A2' b.o.out.length c2' b).toArray 39) := ⟨_, rfl⟩
  have hs1 : W1.heap.size = w.heap.size + 1 := by rw [hW1]; simp
  have hX1 : Blk W1 w.heap.size 39 (evCs A a.act.frame.length c A2 a.o.out.length c2 a).toArray := by rw [hW1]; exact Blk.new w _ _ _ rfl
  have HX : Hid (Blk W w.heap.size 39 (evCs A a.act.frame.length c A2 a.o.out.length c2 a).toArray) := by rw [hW]; exact Blk.alloc hX1 _
  have HY : Hid (Blk W (w.heap.size + 1) 39 (evCs A' b.act.frame.length c' A2' b.o.out.length c2' b).toArray) := by rw [hW, ← hs1]; exact Blk.new W1 _ _ _ rfl
  have HB : Hid (Below w.heap.size w W) := by rw [hW, hW1]; exact ((Below.refl _ _).alloc (Nat.le_refl _) _).alloc (by simp) _
  have HW1 := Lib.hid hW1
  have HW := Lib.hid hW
  clear hW1 hW hX1 hs1
  have HF := Lib.hid (hf.below HB.out)
  have HF' := Lib.hid (hf'.below HB.out)
  have HO := Lib.hid ho
  have HO' := Lib.hid ho'
  clear hf hf' ho ho'
  go_enter Try.func17, Try.ntmps17
  go_upto_region 1 with fail
  rw [← HW1.out]
  rw [← HW.out]
  have RXo := Lib.hid (ce_out HX.out ha.out)
  have RYo0 := Lib.hid HY
  obtain ⟨x1, hx1⟩ : ∃ Z, Z = W.alloc (.cells (outCs none 0 0 out0).toArray 36) := ⟨_, rfl⟩
  obtain ⟨y1, hy1⟩ : ∃ Z, Z = x1.setCells W.heap.size 0 (outCs A2 a.o.out.length c2 a.o) := ⟨_, rfl⟩
  obtain ⟨htx1, hbx1, hex1⟩ := boxed W x1 y1 36 (outCs none 0 0 out0) (outCs A2 a.o.out.length c2 a.o) rfl hx1 hy1
  rw [out0_lit] at hx1
  have Qx1 := Lib.hid hx1
  have Qy1 := Lib.hid hy1
  have Tx1 := Lib.hid htx1
  have Bx1 := Lib.hid hbx1
  have Ex1 := Lib.hid hex1
  clear hx1 hy1 htx1 hbx1 hex1
  go_upto_region 2 with (first
      | ((with_reducible refine gateL 36 ?_); refine wpList_load_g (by rfl) 36 (.tmp 7) rfl w.heap.size 34 rfl (outCs A2 a.o.out.length c2 a.o) _ RXo.out Try.underlying36 rfl out_sz ?_)
      | (rw [← Qx1.out]; (with_reducible refine gateS 36 ?_); refine wpList_store_mid rfl 36 (.tmp 5) (.tmp 8) rfl W.heap.size 0 (outCs A2 a.o.out.length c2 a.o).toArray rfl rfl Tx1.out out_sz (out_one _ _ _ _) ?_))
  rw [← Qy1.out]
  clear Qx1 Qy1 Tx1
  have HYc := Lib.hid (Blk.below HY.out Ex1.out HY.out.lt)
  have RYo := Lib.hid (ce_out HYc.out hb.out)
  obtain ⟨x2, hx2⟩ : ∃ Z, Z = y1.alloc (.cells (outCs none 0 0 out0).toArray 36) := ⟨_, rfl⟩
  obtain ⟨y2, hy2⟩ : ∃ Z, Z = x2.setCells y1.heap.size 0 (outCs A2' b.o.out.length c2' b.o) := ⟨_, rfl⟩
  obtain ⟨htx2, hbx2, hex2⟩ := boxed y1 x2 y2 36 (outCs none 0 0 out0) (outCs A2' b.o.out.length c2' b.o) rfl hx2 hy2
  rw [out0_lit] at hx2
  have Qx2 := Lib.hid hx2
  have Qy2 := Lib.hid hy2
  have Tx2 := Lib.hid htx2
  have Bx2 := Lib.hid hbx2
  have Ex2 := Lib.hid hex2
  clear hx2 hy2 htx2 hbx2 hex2
  go_upto_region 3 with (first
      | ((with_reducible refine gateL 36 ?_); refine wpList_load_g (by rfl) 36 (.tmp 9) rfl (w.heap.size + 1) 34 rfl (outCs A2' b.o.out.length c2' b.o) _ RYo.out Try.underlying36 rfl out_sz ?_)
      | (rw [← Qx2.out]; (with_reducible refine gateS 36 ?_); refine wpList_store_mid rfl 36 (.tmp 6) (.tmp 10) rfl y1.heap.size 0 (outCs A2' b.o.out.length c2' b.o).toArray rfl rfl Tx2.out out_sz (out_one _ _ _ _) ?_))
  rw [← Qy2.out]
  clear Qx2 Qy2 Tx2
  have HP := Lib.hid (Blk.below Bx1.out Ex2.out Bx1.out.lt)
  have HQ := Bx2
  have HXn := Lib.hid (Blk.below (Blk.below HX.out Ex1.out HX.out.lt) Ex2.out (Blk.below HX.out Ex1.out HX.out.lt).lt)
  have HYn := Lib.hid (Blk.below HYc.out Ex2.out HYc.out.lt)
  have HBw : Below W.heap.size W y2 := Ex1.out.trans (Ex2.out.mono Ex1.out.size)
  have HB0 : Hid (Below w.heap.size w y2) := HB.out.trans (HBw.mono HB.out.size)
  have HF1 := Lib.hid (HF.out.below (HBw.mono HB.out.size))
  have HF2 := Lib.hid (HF'.out.below (HBw.mono HB.out.size))
  clear HX HY HF HF' HB HBw HYc Ex1 Ex2 Bx1 Bx2 RXo RYo RYo0 HW HW1
  have HX := HXn
  have HY := HYn
  clear HXn HYn
  rcases h0 : (sameActB a.act b.act) with _ | _
  · have Hr : Hid (sameEvB a b = false) := by show _ = _; simp only [sameEvB, h0, Bool.false_and, Bool.and_false]
    skip
    have RXa := Lib.hid (ce_act HX.out ha.out)
    have RYa := Lib.hid (ce_act HY.out hb.out)
    go_wp2_with (first
        | ((with_reducible refine gateL 33 ?_); refine wpList_load_g (by rfl) 33 (.tmp 11) rfl w.heap.size 0 rfl (actCs A a.act.frame.length c a.act) _ RXa.out Try.underlying33 rfl (act_sz ha.out.act) ?_)
        | ((with_reducible refine gateL 33 ?_); refine wpList_load_g (by rfl) 33 (.tmp 13) rfl (w.heap.size + 1) 0 rfl (actCs A' b.act.frame.length c' b.act) _ RYa.out Try.underlying33 rfl (act_sz hb.out.act) ?_))
    refine (refSameAct_any A c a.act A' c' b.act ha.out.act hb.out.act y2 (HF1.out.more HB0.out.size) (HF2.out.more HB0.out.size)).mono ?_
    rintro e w5 ⟨rfl, hb5⟩
    have HX5 := Lib.hid (Blk.below HX.out hb5 HX.out.lt)
    have HY5 := Lib.hid (Blk.below HY.out hb5 HY.out.lt)
    have HP5 := Lib.hid (Blk.below HP.out hb5 HP.out.lt)
    have HQ5 := Lib.hid (Blk.below HQ.out hb5 HQ.out.lt)
    have HB : Hid (Below w.heap.size w w5) := HB0.out.trans (hb5.mono HB0.out.size)
    clear HX HY HP HQ hb5
    have HX := HX5
    have HY := HY5
    have HP := HP5
    have HQ := HQ5
    clear HX5 HY5 HP5 HQ5
    have HOx := Lib.hid (HO.out.below HB.out)
    have HOy := Lib.hid (HO'.out.below HB.out)
    rw [h0]
    have d0 := co_err HP.out; have e0 := co_err HQ.out; have d1 := co_reason HP.out; have e1 := co_reason HQ.out; have d2 := co_hit HP.out; have e2 := co_hit HQ.out; have d3 := co_version HP.out; have e3 := co_version HQ.out
    have d4 := co_name HP.out; have e4 := co_name HQ.out; have d5 := co_out HP.out; have e5 := co_out HQ.out; have d6 := ce_len HX.out ha.out; have e6 := ce_len HY.out hb.out; have d7 := ce_sum HX.out ha.out; have e7 := ce_sum HY.out hb.out
    have cv0 := run_convert_bs (P := Try.prog) 22 9 5 Try.underlying22 Try.underlying5 Try.underlying9 w5 _ A2 a.o.out HOx.out _ c2 rfl
    have cv1 := run_convert_bs (P := Try.prog) 22 9 5 Try.underlying22 Try.underlying5 Try.underlying9 w5 _ A2' b.o.out HOy.out _ c2' rfl
    go_wp2
    go_ret
    exact ⟨by rw [Hr.out]; rfl, HB.out⟩
  · have K0 := Lib.hid h0
    clear h0
    rcases h1 : (a.o.err == b.o.err) with _ | _
    · have Hr : Hid (sameEvB a b = false) := by show _ = _; simp only [sameEvB, h1, Bool.false_and, Bool.and_false]
      skip
      have q1 : ¬ a.o.err = b.o.err := by simpa using h1
      have RXa := Lib.hid (ce_act HX.out ha.out)
      have RYa := Lib.hid (ce_act HY.out hb.out)
      go_wp2_with (first
          | ((with_reducible refine gateL 33 ?_); refine wpList_load_g (by rfl) 33 (.tmp 11) rfl w.heap.size 0 rfl (actCs A a.act.frame.length c a.act) _ RXa.out Try.underlying33 rfl (act_sz ha.out.act) ?_)
          | ((with_reducible refine gateL 33 ?_); refine wpList_load_g (by rfl) 33 (.tmp 13) rfl (w.heap.size + 1) 0 rfl (actCs A' b.act.frame.length c' b.act) _ RYa.out Try.underlying33 rfl (act_sz hb.out.act) ?_))
      refine (refSameAct_any A c a.act A' c' b.act ha.out.act hb.out.act y2 (HF1.out.more HB0.out.size) (HF2.out.more HB0.out.size)).mono ?_
      rintro e w5 ⟨rfl, hb5⟩
      have HX5 := Lib.hid (Blk.below HX.out hb5 HX.out.lt)
      have HY5 := Lib.hid (Blk.below HY.out hb5 HY.out.lt)
      have HP5 := Lib.hid (Blk.below HP.out hb5 HP.out.lt)
      have HQ5 := Lib.hid (Blk.below HQ.out hb5 HQ.out.lt)
      have HB : Hid (Below w.heap.size w w5) := HB0.out.trans (hb5.mono HB0.out.size)
      clear HX HY HP HQ hb5
      have HX := HX5
      have HY := HY5
      have HP := HP5
      have HQ := HQ5
      clear HX5 HY5 HP5 HQ5
      have HOx := Lib.hid (HO.out.below HB.out)
      have HOy := Lib.hid (HO'.out.below HB.out)
      rw [K0.out]
      have d0 := co_err HP.out; have e0 := co_err HQ.out; have d1 := co_reason HP.out; have e1 := co_reason HQ.out; have d2 := co_hit HP.out; have e2 := co_hit HQ.out; have d3 := co_version HP.out; have e3 := co_version HQ.out
      have d4 := co_name HP.out; have e4 := co_name HQ.out; have d5 := co_out HP.out; have e5 := co_out HQ.out; have d6 := ce_len HX.out ha.out; have e6 := ce_len HY.out hb.out; have d7 := ce_sum HX.out ha.out; have e7 := ce_sum HY.out hb.out
      have cv0 := run_convert_bs (P := Try.prog) 22 9 5 Try.underlying22 Try.underlying5 Try.underlying9 w5 _ A2 a.o.out HOx.out _ c2 rfl
      have cv1 := run_convert_bs (P := Try.prog) 22 9 5 Try.underlying22 Try.underlying5 Try.underlying9 w5 _ A2' b.o.out HOy.out _ c2' rfl
      go_wp2
      go_ret
      exact ⟨by rw [Hr.out]; rfl, HB.out⟩
    · have K1 := Lib.hid h1
      clear h1
      rcases h2 : (a.o.reason == b.o.reason) with _ | _
      · have Hr : Hid (sameEvB a b = false) := by show _ = _; simp only [sameEvB, h2, Bool.false_and, Bool.and_false]
        skip
        have q1 : a.o.err = b.o.err := by simpa using K1.out
        have q2 : ¬ a.o.reason = b.o.reason := by simpa using h2
        have RXa := Lib.hid (ce_act HX.out ha.out)
        have RYa := Lib.hid (ce_act HY.out hb.out)
        go_wp2_with (first
            | ((with_reducible refine gateL 33 ?_); refine wpList_load_g (by rfl) 33 (.tmp 11) rfl w.heap.size 0 rfl (actCs A a.act.frame.length c a.act) _ RXa.out Try.underlying33 rfl (act_sz ha.out.act) ?_)
            | ((with_reducible refine gateL 33 ?_); refine wpList_load_g (by rfl) 33 (.tmp 13) rfl (w.heap.size + 1) 0 rfl (actCs A' b.act.frame.length c' b.act) _ RYa.out Try.underlying33 rfl (act_sz hb.out.act) ?_))
        refine (refSameAct_any A c a.act A' c' b.act ha.out.act hb.out.act y2 (HF1.out.more HB0.out.size) (HF2.out.more HB0.out.size)).mono ?_
        rintro e w5 ⟨rfl, hb5⟩
        have HX5 := Lib.hid (Blk.below HX.out hb5 HX.out.lt)
        have HY5 := Lib.hid (Blk.below HY.out hb5 HY.out.lt)
        have HP5 := Lib.hid (Blk.below HP.out hb5 HP.out.lt)
        have HQ5 := Lib.hid (Blk.below HQ.out hb5 HQ.out.lt)
        have HB : Hid (Below w.heap.size w w5) := HB0.out.trans (hb5.mono HB0.out.size)
        clear HX HY HP HQ hb5
        have HX := HX5
        have HY := HY5
        have HP := HP5
        have HQ := HQ5
        clear HX5 HY5 HP5 HQ5
        have HOx := Lib.hid (HO.out.below HB.out)
        have HOy := Lib.hid (HO'.out.below HB.out)
        rw [K0.out]
        have d0 := co_err HP.out; have e0 := co_err HQ.out; have d1 := co_reason HP.out; have e1 := co_reason HQ.out; have d2 := co_hit HP.out; have e2 := co_hit HQ.out; have d3 := co_version HP.out; have e3 := co_version HQ.out
        have d4 := co_name HP.out; have e4 := co_name HQ.out; have d5 := co_out HP.out; have e5 := co_out HQ.out; have d6 := ce_len HX.out ha.out; have e6 := ce_len HY.out hb.out; have d7 := ce_sum HX.out ha.out; have e7 := ce_sum HY.out hb.out
        have cv0 := run_convert_bs (P := Try.prog) 22 9 5 Try.underlying22 Try.underlying5 Try.underlying9 w5 _ A2 a.o.out HOx.out _ c2 rfl
        have cv1 := run_convert_bs (P := Try.prog) 22 9 5 Try.underlying22 Try.underlying5 Try.underlying9 w5 _ A2' b.o.out HOy.out _ c2' rfl
        go_wp2
        go_ret
        exact ⟨by rw [Hr.out]; rfl, HB.out⟩
      · have K2 := Lib.hid h2
        clear h2
        rcases h3 : (a.o.hit == b.o.hit) with _ | _
        · have Hr : Hid (sameEvB a b = false) := by show _ = _; simp only [sameEvB, h3, Bool.false_and, Bool.and_false]
          skip
          have q1 : a.o.err = b.o.err := by simpa using K1.out
          have q2 : a.o.reason = b.o.reason := by simpa using K2.out
          have q3 : (a.o.hit == b.o.hit) = false := h3
          have RXa := Lib.hid (ce_act HX.out ha.out)
          have RYa := Lib.hid (ce_act HY.out hb.out)
          go_wp2_with (first
              | ((with_reducible refine gateL 33 ?_); refine wpList_load_g (by rfl) 33 (.tmp 11) rfl w.heap.size 0 rfl (actCs A a.act.frame.length c a.act) _ RXa.out Try.underlying33 rfl (act_sz ha.out.act) ?_)
              | ((with_reducible refine gateL 33 ?_); refine wpList_load_g (by rfl) 33 (.tmp 13) rfl (w.heap.size + 1) 0 rfl (actCs A' b.act.frame.length c' b.act) _ RYa.out Try.underlying33 rfl (act_sz hb.out.act) ?_))
          refine (refSameAct_any A c a.act A' c' b.act ha.out.act hb.out.act y2 (HF1.out.more HB0.out.size) (HF2.out.more HB0.out.size)).mono ?_
          rintro e w5 ⟨rfl, hb5⟩
          have HX5 := Lib.hid (Blk.below HX.out hb5 HX.out.lt)
          have HY5 := Lib.hid (Blk.below HY.out hb5 HY.out.lt)
          have HP5 := Lib.hid (Blk.below HP.out hb5 HP.out.lt)
          have HQ5 := Lib.hid (Blk.below HQ.out hb5 HQ.out.lt)
          have HB : Hid (Below w.heap.size w w5) := HB0.out.trans (hb5.mono HB0.out.size)
          clear HX HY HP HQ hb5
          have HX := HX5
          have HY := HY5
          have HP := HP5
          have HQ := HQ5
          clear HX5 HY5 HP5 HQ5
          have HOx := Lib.hid (HO.out.below HB.out)
          have HOy := Lib.hid (HO'.out.below HB.out)
          rw [K0.out]
          have d0 := co_err HP.out; have e0 := co_err HQ.out; have d1 := co_reason HP.out; have e1 := co_reason HQ.out; have d2 := co_hit HP.out; have e2 := co_hit HQ.out; have d3 := co_version HP.out; have e3 := co_version HQ.out
          have d4 := co_name HP.out; have e4 := co_name HQ.out; have d5 := co_out HP.out; have e5 := co_out HQ.out; have d6 := ce_len HX.out ha.out; have e6 := ce_len HY.out hb.out; have d7 := ce_sum HX.out ha.out; have e7 := ce_sum HY.out hb.out
          have cv0 := run_convert_bs (P := Try.prog) 22 9 5 Try.underlying22 Try.underlying5 Try.underlying9 w5 _ A2 a.o.out HOx.out _ c2 rfl
          have cv1 := run_convert_bs (P := Try.prog) 22 9 5 Try.underlying22 Try.underlying5 Try.underlying9 w5 _ A2' b.o.out HOy.out _ c2' rfl
          go_wp2
          go_ret
          exact ⟨by rw [Hr.out]; rfl, HB.out⟩
        · have K3 := Lib.hid h3
          clear h3
          rcases h4 : (a.o.version == b.o.version) with _ | _
          · have Hr : Hid (sameEvB a b = false) := by show _ = _; simp only [sameEvB, h4, Bool.false_and, Bool.and_false]
            skip
            have q1 : a.o.err = b.o.err := by simpa using K1.out
            have q2 : a.o.reason = b.o.reason := by simpa using K2.out
            have q3 : (a.o.hit == b.o.hit) = true := K3.out
            have q4 : ¬ a.o.version = b.o.version := by simpa using h4
            have RXa := Lib.hid (ce_act HX.out ha.out)
            have RYa := Lib.hid (ce_act HY.out hb.out)
            go_wp2_with (first
                | ((with_reducible refine gateL 33 ?_); refine wpList_load_g (by rfl) 33 (.tmp 11) rfl w.heap.size 0 rfl (actCs A a.act.frame.length c a.act) _ RXa.out Try.underlying33 rfl (act_sz ha.out.act) ?_)
                | ((with_reducible refine gateL 33 ?_); refine wpList_load_g (by rfl) 33 (.tmp 13) rfl (w.heap.size + 1) 0 rfl (actCs A' b.act.frame.length c' b.act) _ RYa.out Try.underlying33 rfl (act_sz hb.out.act) ?_))
            refine (refSameAct_any A c a.act A' c' b.act ha.out.act hb.out.act y2 (HF1.out.more HB0.out.size) (HF2.out.more HB0.out.size)).mono ?_
            rintro e w5 ⟨rfl, hb5⟩
            have HX5 := Lib.hid (Blk.below HX.out hb5 HX.out.lt)
            have HY5 := Lib.hid (Blk.below HY.out hb5 HY.out.lt)
            have HP5 := Lib.hid (Blk.below HP.out hb5 HP.out.lt)
            have HQ5 := Lib.hid (Blk.below HQ.out hb5 HQ.out.lt)
            have HB : Hid (Below w.heap.size w w5) := HB0.out.trans (hb5.mono HB0.out.size)
            clear HX HY HP HQ hb5
            have HX := HX5
            have HY := HY5
            have HP := HP5
            have HQ := HQ5
            clear HX5 HY5 HP5 HQ5
            have HOx := Lib.hid (HO.out.below HB.out)
            have HOy := Lib.hid (HO'.out.below HB.out)
            rw [K0.out]
            have d0 := co_err HP.out; have e0 := co_err HQ.out; have d1 := co_reason HP.out; have e1 := co_reason HQ.out; have d2 := co_hit HP.out; have e2 := co_hit HQ.out; have d3 := co_version HP.out; have e3 := co_version HQ.out
            have d4 := co_name HP.out; have e4 := co_name HQ.out; have d5 := co_out HP.out; have e5 := co_out HQ.out; have d6 := ce_len HX.out ha.out; have e6 := ce_len HY.out hb.out; have d7 := ce_sum HX.out ha.out; have e7 := ce_sum HY.out hb.out
            have cv0 := run_convert_bs (P := Try.prog) 22 9 5 Try.underlying22 Try.underlying5 Try.underlying9 w5 _ A2 a.o.out HOx.out _ c2 rfl
            have cv1 := run_convert_bs (P := Try.prog) 22 9 5 Try.underlying22 Try.underlying5 Try.underlying9 w5 _ A2' b.o.out HOy.out _ c2' rfl
            go_wp2
            go_ret
            exact ⟨by rw [Hr.out]; rfl, HB.out⟩
          · have K4 := Lib.hid h4
            clear h4
            rcases h5 : (a.o.name == b.o.name) with _ | _
            · have Hr : Hid (sameEvB a b = false) := by show _ = _; simp only [sameEvB, h5, Bool.false_and, Bool.and_false]
              skip
              have q1 : a.o.err = b.o.err := by simpa using K1.out
              have q2 : a.o.reason = b.o.reason := by simpa using K2.out
              have q3 : (a.o.hit == b.o.hit) = true := K3.out
              have q4 : a.o.version = b.o.version := by simpa using K4.out
              have q5 : (a.o.name == b.o.name) = false := h5
              have RXa := Lib.hid (ce_act HX.out ha.out)
              have RYa := Lib.hid (ce_act HY.out hb.out)
              go_wp2_with (first
                  | ((with_reducible refine gateL 33 ?_); refine wpList_load_g (by rfl) 33 (.tmp 11) rfl w.heap.size 0 rfl (actCs A a.act.frame.length c a.act) _ RXa.out Try.underlying33 rfl (act_sz ha.out.act) ?_)
                  | ((with_reducible refine gateL 33 ?_); refine wpList_load_g (by rfl) 33 (.tmp 13) rfl (w.heap.size + 1) 0 rfl (actCs A' b.act.frame.length c' b.act) _ RYa.out Try.underlying33 rfl (act_sz hb.out.act) ?_))
              refine (refSameAct_any A c a.act A' c' b.act ha.out.act hb.out.act y2 (HF1.out.more HB0.out.size) (HF2.out.more HB0.out.size)).mono ?_
              rintro e w5 ⟨rfl, hb5⟩
              have HX5 := Lib.hid (Blk.below HX.out hb5 HX.out.lt)
              have HY5 := Lib.hid (Blk.below HY.out hb5 HY.out.lt)
              have HP5 := Lib.hid (Blk.below HP.out hb5 HP.out.lt)
              have HQ5 := Lib.hid (Blk.below HQ.out hb5 HQ.out.lt)
              have HB : Hid (Below w.heap.size w w5) := HB0.out.trans (hb5.mono HB0.out.size)
              clear HX HY HP HQ hb5
              have HX := HX5
              have HY := HY5
              have HP := HP5
              have HQ := HQ5
              clear HX5 HY5 HP5 HQ5
              have HOx := Lib.hid (HO.out.below HB.out)
              have HOy := Lib.hid (HO'.out.below HB.out)
              rw [K0.out]
              have d0 := co_err HP.out; have e0 := co_err HQ.out; have d1 := co_reason HP.out; have e1 := co_reason HQ.out; have d2 := co_hit HP.out; have e2 := co_hit HQ.out; have d3 := co_version HP.out; have e3 := co_version HQ.out
              have d4 := co_name HP.out; have e4 := co_name HQ.out; have d5 := co_out HP.out; have e5 := co_out HQ.out; have d6 := ce_len HX.out ha.out; have e6 := ce_len HY.out hb.out; have d7 := ce_sum HX.out ha.out; have e7 := ce_sum HY.out hb.out
              have cv0 := run_convert_bs (P := Try.prog) 22 9 5 Try.underlying22 Try.underlying5 Try.underlying9 w5 _ A2 a.o.out HOx.out _ c2 rfl
              have cv1 := run_convert_bs (P := Try.prog) 22 9 5 Try.underlying22 Try.underlying5 Try.underlying9 w5 _ A2' b.o.out HOy.out _ c2' rfl
              go_wp2
              go_ret
              exact ⟨by rw [Hr.out]; rfl, HB.out⟩
            · have K5 := Lib.hid h5
              clear h5
              rcases h6 : (a.o.out == b.o.out) with _ | _
              · have Hr : Hid (sameEvB a b = false) := by show _ = _; simp only [sameEvB, h6, Bool.false_and, Bool.and_false]
                skip
                have q1 : a.o.err = b.o.err := by simpa using K1.out
                have q2 : a.o.reason = b.o.reason := by simpa using K2.out
                have q3 : (a.o.hit == b.o.hit) = true := K3.out
                have q4 : a.o.version = b.o.version := by simpa using K4.out
                have q5 : (a.o.name == b.o.name) = true := K5.out
                have q6 : (a.o.out == b.o.out) = false := h6
                have RXa := Lib.hid (ce_act HX.out ha.out)
                have RYa := Lib.hid (ce_act HY.out hb.out)
                go_wp2_with (first
                    | ((with_reducible refine gateL 33 ?_); refine wpList_load_g (by rfl) 33 (.tmp 11) rfl w.heap.size 0 rfl (actCs A a.act.frame.length c a.act) _ RXa.out Try.underlying33 rfl (act_sz ha.out.act) ?_)
                    | ((with_reducible refine gateL 33 ?_); refine wpList_load_g (by rfl) 33 (.tmp 13) rfl (w.heap.size + 1) 0 rfl (actCs A' b.act.frame.length c' b.act) _ RYa.out Try.underlying33 rfl (act_sz hb.out.act) ?_))
                refine (refSameAct_any A c a.act A' c' b.act ha.out.act hb.out.act y2 (HF1.out.more HB0.out.size) (HF2.out.more HB0.out.size)).mono ?_
                rintro e w5 ⟨rfl, hb5⟩
                have HX5 := Lib.hid (Blk.below HX.out hb5 HX.out.lt)
                have HY5 := Lib.hid (Blk.below HY.out hb5 HY.out.lt)
                have HP5 := Lib.hid (Blk.below HP.out hb5 HP.out.lt)
                have HQ5 := Lib.hid (Blk.below HQ.out hb5 HQ.out.lt)
                have HB : Hid (Below w.heap.size w w5) := HB0.out.trans (hb5.mono HB0.out.size)
                clear HX HY HP HQ hb5
                have HX := HX5
                have HY := HY5
                have HP := HP5
                have HQ := HQ5
                clear HX5 HY5 HP5 HQ5
                have HOx := Lib.hid (HO.out.below HB.out)
                have HOy := Lib.hid (HO'.out.below HB.out)
                rw [K0.out]
                have d0 := co_err HP.out; have e0 := co_err HQ.out; have d1 := co_reason HP.out; have e1 := co_reason HQ.out; have d2 := co_hit HP.out; have e2 := co_hit HQ.out; have d3 := co_version HP.out; have e3 := co_version HQ.out
                have d4 := co_name HP.out; have e4 := co_name HQ.out; have d5 := co_out HP.out; have e5 := co_out HQ.out; have d6 := ce_len HX.out ha.out; have e6 := ce_len HY.out hb.out; have d7 := ce_sum HX.out ha.out; have e7 := ce_sum HY.out hb.out
                have cv0 := run_convert_bs (P := Try.prog) 22 9 5 Try.underlying22 Try.underlying5 Try.underlying9 w5 _ A2 a.o.out HOx.out _ c2 rfl
                have cv1 := run_convert_bs (P := Try.prog) 22 9 5 Try.underlying22 Try.underlying5 Try.underlying9 w5 _ A2' b.o.out HOy.out _ c2' rfl
                go_wp2
                go_ret
                exact ⟨by rw [Hr.out]; rfl, HB.out⟩
              · have K6 := Lib.hid h6
                clear h6
                rcases h7 : (a.len == b.len) with _ | _
                · have Hr : Hid (sameEvB a b = false) := by show _ = _; simp only [sameEvB, h7, Bool.false_and, Bool.and_false]
                  skip
                  have q1 : a.o.err = b.o.err := by simpa using K1.out
                  have q2 : a.o.reason = b.o.reason := by simpa using K2.out
                  have q3 : (a.o.hit == b.o.hit) = true := K3.out
                  have q4 : a.o.version = b.o.version := by simpa using K4.out
                  have q5 : (a.o.name == b.o.name) = true := K5.out
                  have q6 : (a.o.out == b.o.out) = true := K6.out
                  have q7 : ¬ a.len = b.len := by simpa using h7
                  have RXa := Lib.hid (ce_act HX.out ha.out)
                  have RYa := Lib.hid (ce_act HY.out hb.out)
                  go_wp2_with (first
                      | ((with_reducible refine gateL 33 ?_); refine wpList_load_g (by rfl) 33 (.tmp 11) rfl w.heap.size 0 rfl (actCs A a.act.frame.length c a.act) _ RXa.out Try.underlying33 rfl (act_sz ha.out.act) ?_)
                      | ((with_reducible refine gateL 33 ?_); refine wpList_load_g (by rfl) 33 (.tmp 13) rfl (w.heap.size + 1) 0 rfl (actCs A' b.act.frame.length c' b.act) _ RYa.out Try.underlying33 rfl (act_sz hb.out.act) ?_))
                  refine (refSameAct_any A c a.act A' c' b.act ha.out.act hb.out.act y2 (HF1.out.more HB0.out.size) (HF2.out.more HB0.out.size)).mono ?_
                  rintro e w5 ⟨rfl, hb5⟩
                  have HX5 := Lib.hid (Blk.below HX.out hb5 HX.out.lt)
                  have HY5 := Lib.hid (Blk.below HY.out hb5 HY.out.lt)
                  have HP5 := Lib.hid (Blk.below HP.out hb5 HP.out.lt)
                  have HQ5 := Lib.hid (Blk.below HQ.out hb5 HQ.out.lt)
                  have HB : Hid (Below w.heap.size w w5) := HB0.out.trans (hb5.mono HB0.out.size)
                  clear HX HY HP HQ hb5
                  have HX := HX5
                  have HY := HY5
                  have HP := HP5
                  have HQ := HQ5
                  clear HX5 HY5 HP5 HQ5
                  have HOx := Lib.hid (HO.out.below HB.out)
                  have HOy := Lib.hid (HO'.out.below HB.out)
                  rw [K0.out]
                  have d0 := co_err HP.out; have e0 := co_err HQ.out; have d1 := co_reason HP.out; have e1 := co_reason HQ.out; have d2 := co_hit HP.out; have e2 := co_hit HQ.out; have d3 := co_version HP.out; have e3 := co_version HQ.out
                  have d4 := co_name HP.out; have e4 := co_name HQ.out; have d5 := co_out HP.out; have e5 := co_out HQ.out; have d6 := ce_len HX.out ha.out; have e6 := ce_len HY.out hb.out; have d7 := ce_sum HX.out ha.out; have e7 := ce_sum HY.out hb.out
                  have cv0 := run_convert_bs (P := Try.prog) 22 9 5 Try.underlying22 Try.underlying5 Try.underlying9 w5 _ A2 a.o.out HOx.out _ c2 rfl
                  have cv1 := run_convert_bs (P := Try.prog) 22 9 5 Try.underlying22 Try.underlying5 Try.underlying9 w5 _ A2' b.o.out HOy.out _ c2' rfl
                  go_wp2
                  go_ret
                  exact ⟨by rw [Hr.out]; rfl, HB.out⟩
                · have K7 := Lib.hid h7
                  clear h7
                  rcases h8 : (a.sum == b.sum) with _ | _
                  · have Hr : Hid (sameEvB a b = false) := by show _ = _; simp only [sameEvB, h8, Bool.false_and, Bool.and_false]
                    skip
                    have q1 : a.o.err = b.o.err := by simpa using K1.out
                    have q2 : a.o.reason = b.o.reason := by simpa using K2.out
                    have q3 : (a.o.hit == b.o.hit) = true := K3.out
                    have q4 : a.o.version = b.o.version := by simpa using K4.out
                    have q5 : (a.o.name == b.o.name) = true := K5.out
                    have q6 : (a.o.out == b.o.out) = true := K6.out
                    have q7 : a.len = b.len := by simpa using K7.out
                    have q8 : ¬ (a.sum : Int) = (b.sum : Int) := by have := h8; simp at this; omega
                    have qb8 : ((a.sum : Int) == (b.sum : Int)) = false := by exact beq_eq_false_iff_ne.2 q8
                    have RXa := Lib.hid (ce_act HX.out ha.out)
                    have RYa := Lib.hid (ce_act HY.out hb.out)
                    go_wp2_with (first
                        | ((with_reducible refine gateL 33 ?_); refine wpList_load_g (by rfl) 33 (.tmp 11) rfl w.heap.size 0 rfl (actCs A a.act.frame.length c a.act) _ RXa.out Try.underlying33 rfl (act_sz ha.out.act) ?_)
                        | ((with_reducible refine gateL 33 ?_); refine wpList_load_g (by rfl) 33 (.tmp 13) rfl (w.heap.size + 1) 0 rfl (actCs A' b.act.frame.length c' b.act) _ RYa.out Try.underlying33 rfl (act_sz hb.out.act) ?_))
                    refine (refSameAct_any A c a.act A' c' b.act ha.out.act hb.out.act y2 (HF1.out.more HB0.out.size) (HF2.out.more HB0.out.size)).mono ?_
                    rintro e w5 ⟨rfl, hb5⟩
                    have HX5 := Lib.hid (Blk.below HX.out hb5 HX.out.lt)
                    have HY5 := Lib.hid (Blk.below HY.out hb5 HY.out.lt)
                    have HP5 := Lib.hid (Blk.below HP.out hb5 HP.out.lt)
                    have HQ5 := Lib.hid (Blk.below HQ.out hb5 HQ.out.lt)
                    have HB : Hid (Below w.heap.size w w5) := HB0.out.trans (hb5.mono HB0.out.size)
                    clear HX HY HP HQ hb5
                    have HX := HX5
                    have HY := HY5
                    have HP := HP5
                    have HQ := HQ5
                    clear HX5 HY5 HP5 HQ5
                    have HOx := Lib.hid (HO.out.below HB.out)
                    have HOy := Lib.hid (HO'.out.below HB.out)
                    rw [K0.out]
                    have d0 := co_err HP.out; have e0 := co_err HQ.out; have d1 := co_reason HP.out; have e1 := co_reason HQ.out; have d2 := co_hit HP.out; have e2 := co_hit HQ.out; have d3 := co_version HP.out; have e3 := co_version HQ.out
                    have d4 := co_name HP.out; have e4 := co_name HQ.out; have d5 := co_out HP.out; have e5 := co_out HQ.out; have d6 := ce_len HX.out ha.out; have e6 := ce_len HY.out hb.out; have d7 := ce_sum HX.out ha.out; have e7 := ce_sum HY.out hb.out
                    have cv0 := run_convert_bs (P := Try.prog) 22 9 5 Try.underlying22 Try.underlying5 Try.underlying9 w5 _ A2 a.o.out HOx.out _ c2 rfl
                    have cv1 := run_convert_bs (P := Try.prog) 22 9 5 Try.underlying22 Try.underlying5 Try.underlying9 w5 _ A2' b.o.out HOy.out _ c2' rfl
                    go_wp2
                    go_ret
                    exact ⟨by rw [Hr.out]; rfl, HB.out⟩
                  · have K8 := Lib.hid h8
                    clear h8
                    have Hr : Hid (sameEvB a b = true) := by show _ = _; simp only [sameEvB, K0.out, K1.out, K2.out, K3.out, K4.out, K5.out, K6.out, K7.out, K8.out, Bool.and_true]
                    skip
                    have q1 : a.o.err = b.o.err := by simpa using K1.out
                    have q2 : a.o.reason = b.o.reason := by simpa using K2.out
                    have q3 : (a.o.hit == b.o.hit) = true := K3.out
                    have q4 : a.o.version = b.o.version := by simpa using K4.out
                    have q5 : (a.o.name == b.o.name) = true := K5.out
                    have q6 : (a.o.out == b.o.out) = true := K6.out
                    have q7 : a.len = b.len := by simpa using K7.out
                    have q8 : (a.sum : Int) = (b.sum : Int) := by have := K8.out; simp at this; omega
                    have qb8 : ((a.sum : Int) == (b.sum : Int)) = true := by rw [q8]; simp
                    have RXa := Lib.hid (ce_act HX.out ha.out)
                    have RYa := Lib.hid (ce_act HY.out hb.out)
                    go_wp2_with (first
                        | ((with_reducible refine gateL 33 ?_); refine wpList_load_g (by rfl) 33 (.tmp 11) rfl w.heap.size 0 rfl (actCs A a.act.frame.length c a.act) _ RXa.out Try.underlying33 rfl (act_sz ha.out.act) ?_)
                        | ((with_reducible refine gateL 33 ?_); refine wpList_load_g (by rfl) 33 (.tmp 13) rfl (w.heap.size + 1) 0 rfl (actCs A' b.act.frame.length c' b.act) _ RYa.out Try.underlying33 rfl (act_sz hb.out.act) ?_))
                    refine (refSameAct_any A c a.act A' c' b.act ha.out.act hb.out.act y2 (HF1.out.more HB0.out.size) (HF2.out.more HB0.out.size)).mono ?_
                    rintro e w5 ⟨rfl, hb5⟩
                    have HX5 := Lib.hid (Blk.below HX.out hb5 HX.out.lt)
                    have HY5 := Lib.hid (Blk.below HY.out hb5 HY.out.lt)
                    have HP5 := Lib.hid (Blk.below HP.out hb5 HP.out.lt)
                    have HQ5 := Lib.hid (Blk.below HQ.out hb5 HQ.out.lt)
                    have HB : Hid (Below w.heap.size w w5) := HB0.out.trans (hb5.mono HB0.out.size)
                    clear HX HY HP HQ hb5
                    have HX := HX5
                    have HY := HY5
                    have HP := HP5
                    have HQ := HQ5
                    clear HX5 HY5 HP5 HQ5
                    have HOx := Lib.hid (HO.out.below HB.out)
                    have HOy := Lib.hid (HO'.out.below HB.out)
                    rw [K0.out]
                    have d0 := co_err HP.out; have e0 := co_err HQ.out; have d1 := co_reason HP.out; have e1 := co_reason HQ.out; have d2 := co_hit HP.out; have e2 := co_hit HQ.out; have d3 := co_version HP.out; have e3 := co_version HQ.out
                    have d4 := co_name HP.out; have e4 := co_name HQ.out; have d5 := co_out HP.out; have e5 := co_out HQ.out; have d6 := ce_len HX.out ha.out; have e6 := ce_len HY.out hb.out; have d7 := ce_sum HX.out ha.out; have e7 := ce_sum HY.out hb.out
                    have cv0 := run_convert_bs (P := Try.prog) 22 9 5 Try.underlying22 Try.underlying5 Try.underlying9 w5 _ A2 a.o.out HOx.out _ c2 rfl
                    have cv1 := run_convert_bs (P := Try.prog) 22 9 5 Try.underlying22 Try.underlying5 Try.underlying9 w5 _ A2' b.o.out HOy.out _ c2' rfl
                    go_wp2
                    go_ret
                    exact ⟨by rw [Hr.out]; rfl, HB.out⟩
end Go.Proofs.Ytgohhojoahlfiaa
