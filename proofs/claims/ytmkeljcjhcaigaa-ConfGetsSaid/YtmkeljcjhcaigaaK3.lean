/- Laid into one text: ConfA ConfB ConfC ConfD ConfE ConfF ConfG ConfH ConfI ConfJ ConfK ConfN. -/
import Derived.Test.YtmkeljcjhcaigaaK2
import Derived.Deep.LoopGhost
import Derived.Deep.Cut
import Derived.Deep.CutRange
import Derived.Deep.MidRow
import Derived.Test.YtmkeljcjhcaigaaKA
import Derived.Stop.BytesEq
import Derived.ChangeKeysEq
import Derived.Laws.ResultCell
import Derived.Test.YtmkeljcjhcaigaaKE
import Derived.Test.YtmkeljcjhcaigaaKV

/- Addresses: their cells; Short, by the program and by the document. -/
namespace Go.Proofs.Ytmkeljcjhcaigaa
open Go.RowKit
set_option linter.unusedVariables false

/-- An address: is it of the sixth version, its sixteen bytes. -/
abbrev AddrP : Type := Bool × List UInt8
def addrCs (a : AddrP) : List Value := .bool a.1 :: bcells a.2
def addrV (a : AddrP) : Value := .agg (addrCs a).toArray
def addrOk (a : AddrP) : Prop := a.2.length = 16
theorem addrCs_length {a : AddrP} (h : addrOk a) : (addrCs a).length = 17 := by
  have : a.2.length = 16 := h
  simp [addrCs, bcells_length, this]

/-- Has an address nothing behind what its family has? -/
def tailB (b : List UInt8) : Bool := (b.drop 4).all (· == 0)
def shortB (a : AddrP) : Bool := a.1 || tailB a.2

set_option maxHeartbeats 400000 in
theorem shortF_any (c : UInt8) (w : World) :
    Calls Try.prog 35 #[.int .u8 (c.toNat : Int)] w fun e w' => e = .returned (.bool (c != 0)) ∧ w = w' := by
  by_cases h : c = 0
  · subst h
    go_enter Try.func35, Try.ntmps35
    go_wp2
    go_ret
    exact ⟨rfl, rfl⟩
  · have h2 : c.toNat ≠ 0 := fun e => h (UInt8.toNat_inj.1 (by simpa using e))
    have h3 : ((c.toNat : Int) != 0) = true := by simp; omega
    have h4 : (c != 0) = true := by simpa using h
    rw [h4]
    go_enter Try.func35, Try.ntmps35
    go_wp2
    go_ret
    exact ⟨by simp, rfl⟩

set_option maxHeartbeats 800000 in
set_option maxRecDepth 100000 in
theorem idxShort_any (A : Option Addr) (n c : Nat) (l : List UInt8) (w : World) (B : Nat) (hn : n = l.length) (hb : BS w B A l) (hl : n ≤ 1000000) :
    Calls Try.prog 52 #[.slice A n c, .func (.func 35) #[] #[]] w fun e w' => (∃ z : Int, e = .returned (.int .i64 z) ∧ (decide (0 ≤ z) = !(l.all (· == 0)))) ∧ w = w' := by
  subst hn
  have HB := Lib.hid hb
  clear hb
  go_enter Try.func52, Try.ntmps52
  go_wp2
  go_loopw [8] (fun i wr => ∃ k : Nat, k ≤ l.length ∧ i = .int .i64 (k : Int) ∧ w = wr ∧ Hid ((l.take k).all (· == 0) = true)) (fun i _ => l.length - (intOf i).toNat)
  case atStart => exact ⟨0, by omega, rfl, rfl, rfl⟩
  case round =>
    obtain ⟨k, hk, rfl, rfl, hat⟩ := hrel
    by_cases hlt : k < l.length
    · have hltI : (k : Int) < (l.length : Int) := by omega
      have hk0 : (0 : Int) ≤ (k : Int) := by omega
      obtain ⟨ad, rfl, hadb, hcell⟩ := HB.out.at_ hlt
      have Hsplit : Hid (l.take (k + 1) = l.take k ++ [l[k]]) := by
        show _ = _
        rw [List.take_add_one, List.getElem?_eq_getElem hlt]
        rfl
      obtain ⟨x, hx⟩ : ∃ x, x = l[k] := ⟨_, rfl⟩
      rw [← hx] at hcell Hsplit
      have Hx := Lib.hid hx
      clear hx
      go_wp2_with fail
      refine (shortF_any x _).mono ?_
      rintro e w1 ⟨rfl, rfl⟩
      by_cases hz : x = 0
      · have hzb : (x != 0) = false := by simp [hz]
        have Hat2 : Hid ((l.take (k + 1)).all (· == 0) = true) := by
          show _ = _
          rw [Hsplit.out, List.all_append, hat.out]
          simp [hz]
        rw [hzb]
        clear hz hzb Hsplit
        go_wp2
        go_roundw
        case rel => exact ⟨k + 1, by omega, by go_num, trivial, Hat2⟩
        case measure => simp [intOf]; omega
      · have hzb : (x != 0) = true := by simp [hz]
        have Hno : Hid (l.all (· == 0) = false) := by
          show _ = _
          rw [List.all_eq_false]
          exact ⟨x, by rw [Hx.out]; exact List.getElem_mem hlt, by simp [hz]⟩
        rw [hzb]
        clear hz hzb Hsplit
        go_wp2
        go_ret
        exact ⟨⟨(k : Int), rfl, by rw [Hno.out]; simp⟩, rfl⟩
    · have hltI : ¬ (k : Int) < (l.length : Int) := by omega
      have Hall : Hid (l.all (· == 0) = true) := by
        have h := hat.out
        rw [List.take_of_length_le (by omega)] at h
        exact h
      go_wp2
      go_ret
      exact ⟨⟨-1, rfl, by rw [Hall.out]; rfl⟩, rfl⟩

set_option maxHeartbeats 400000 in
theorem containsShort_any (A : Option Addr) (n c : Nat) (l : List UInt8) (w : World) (B : Nat) (hn : n = l.length) (hb : BS w B A l) (hl : n ≤ 1000000) :
    Calls Try.prog 34 #[.slice A n c, .func (.func 35) #[] #[]] w fun e w' => e = .returned (.bool (!(l.all (· == 0)))) ∧ w = w' := by
  have H := Lib.hid (idxShort_any A n c l w B hn hb hl)
  clear hn hb
  go_enter Try.func34, Try.ntmps34
  go_wp2_with fail
  refine H.out.mono ?_
  rintro e w1 ⟨⟨z, rfl, hz⟩, rfl⟩
  have Hz := Lib.hid hz
  clear hz
  go_wp2
  go_ret
  exact ⟨by rw [← Hz.out]; rfl, rfl⟩
end Go.Proofs.Ytmkeljcjhcaigaa

/- Short, by the program and by the document. -/
namespace Go.Proofs.Ytmkeljcjhcaigaa
open Go.RowKit
set_option linter.unusedVariables false

theorem addr_blk (w : World) (a : AddrP) (t : TypeId) : Blk (w.alloc (.cells (addrCs a).toArray t)) w.heap.size t (addrCs a).toArray := Blk.new w _ _ _ rfl
theorem addr_c0 {w : World} {g : Nat} {t : TypeId} {a : AddrP} (h : Blk w g t (addrCs a).toArray) : w.cell? ⟨g, 0, none⟩ = some (.bool a.1) := h.cell 0
/-- The bytes of an address, from the k-th on. -/
theorem addr_bs {w : World} {g : Nat} {t : TypeId} {a : AddrP} (h : Blk w g t (addrCs a).toArray) (k : Nat) (B : Nat) (hB : g < B) : BS w B (some ⟨g, 1 + k, none⟩) (a.2.drop k) := fun hp => by
  refine ⟨_, rfl, hB, fun j c hj => ?_⟩
  rw [List.getElem?_drop] at hj
  have e : ((⟨g, 1 + k, none⟩ : Addr).add j) = ⟨g, 1 + k + j, none⟩ := by unfold Addr.add; split <;> simp_all
  rw [e, h.cell]
  simp only [addrCs, List.getElem?_toArray]
  rw [show 1 + k + j = (k + j) + 1 by omega, List.getElem?_cons_succ, bcells, List.getElem?_map, hj]
  rfl

set_option maxHeartbeats 800000 in
set_option maxRecDepth 100000 in
theorem short_any (a : AddrP) (ha : addrOk a) (w : World) :
    Calls Try.prog 14 #[addrV a] w fun e w' => e = .returned (.bool (shortB a)) ∧ Below w.heap.size w w' := by
  have hlen : a.2.length = 16 := ha
  unfold addrV
  obtain ⟨W, hW⟩ : ∃ W, W = w.alloc (.cells (addrCs a).toArray 27) := ⟨_, rfl⟩
  have hX : Blk W w.heap.size 27 (addrCs a).toArray := by rw [hW]; exact addr_blk _ _ _
  have hB : Below w.heap.size w W := by rw [hW]; exact (Below.refl _ _).alloc (Nat.le_refl _) _
  have c0 : W.cell? ⟨w.heap.size, 0, none⟩ = some (.bool a.1) := addr_c0 hX
  have hS : BS W W.heap.size (some ⟨w.heap.size, 5, none⟩) (a.2.drop 4) := addr_bs hX 4 _ hX.lt
  have hdl : 12 = (a.2.drop 4).length := by simp; omega
  have HW := Lib.hid hW
  have HX := Lib.hid hX
  have HB := Lib.hid hB
  have HS := Lib.hid hS
  have Hdl := Lib.hid hdl
  clear hW hX hB hS hdl hlen
  rcases h6 : a.1 with _ | _
  · rw [h6] at c0
    have Hr : Hid (shortB a = tailB a.2) := by show _ = _; unfold shortB; rw [h6]; rfl
    clear h6
    go_enter Try.func14, Try.ntmps14
    go_upto_region 1 with fail
    rw [← HW.out]
    go_wp2_with fail
    refine (containsShort_any _ _ _ (a.2.drop 4) _ _ Hdl.out HS.out (by omega)).mono ?_
    rintro e w1 ⟨rfl, rfl⟩
    go_wp2
    go_ret
    exact ⟨by rw [Hr.out]; unfold tailB; simp, HB.out⟩
  · rw [h6] at c0
    have Hr : Hid (shortB a = true) := by show _ = _; unfold shortB; rw [h6]; rfl
    clear h6
    go_enter Try.func14, Try.ntmps14
    go_upto_region 1 with fail
    rw [← HW.out]
    go_wp2
    go_ret
    exact ⟨by rw [Hr.out]; rfl, HB.out⟩

set_option maxHeartbeats 800000 in
set_option maxRecDepth 100000 in
theorem short8_any (a : AddrP) (ha : addrOk a) (w : World) :
    Calls Try.prog 36 #[addrV a] w fun e w' => e = .returned (.bool (tailB a.2 && !a.1)) ∧ Below w.heap.size w w' := by
  have hlen : a.2.length = 16 := ha
  unfold addrV
  obtain ⟨W, hW⟩ : ∃ W, W = w.alloc (.cells (addrCs a).toArray 27) := ⟨_, rfl⟩
  have hX : Blk W w.heap.size 27 (addrCs a).toArray := by rw [hW]; exact addr_blk _ _ _
  have hB : Below w.heap.size w W := by rw [hW]; exact (Below.refl _ _).alloc (Nat.le_refl _) _
  have c0 : W.cell? ⟨w.heap.size, 0, none⟩ = some (.bool a.1) := addr_c0 hX
  have HW := Lib.hid hW
  have HX := Lib.hid hX
  have HB := Lib.hid hB
  have Hlen := Lib.hid hlen
  clear hW hX hB
  go_enter Try.func36, Try.ntmps36
  go_upto_region 1 with fail
  rw [← HW.out]
  go_wp2
  go_loopw [3] (fun i wr => ∃ k : Nat, 4 ≤ k ∧ k ≤ 16 ∧ i = .int .i64 (k : Int) ∧ W = wr ∧ Hid (((a.2.drop 4).take (k - 4)).all (· == 0) = true)) (fun i _ => 16 - (intOf i).toNat)
  case atStart => exact ⟨4, by omega, by omega, rfl, rfl, rfl⟩
  case round =>
    obtain ⟨k, hk4, hk, rfl, rfl, hat⟩ := hrel
    by_cases hlt : k < 16
    · have hltI : (k : Int) < 16 := by omega
      have hk0 : (0 : Int) ≤ (k : Int) := by omega
      have hkl : k < a.2.length := by omega
      obtain ⟨x, hx⟩ : ∃ x, x = a.2[k] := ⟨_, rfl⟩
      have hcell : W.cell? ⟨w.heap.size, 1 + k, none⟩ = some (.int .u8 (x.toNat : Int)) := by
        have h := (addr_bs HX.out 0 W.heap.size HX.out.lt (by simp; omega))
        obtain ⟨ad, e1, _, h1⟩ := h
        injection e1 with e1
        subst e1
        have h2 := h1 k x (by rw [hx]; simp)
        have e : ((⟨w.heap.size, 1 + 0, none⟩ : Addr).add k) = ⟨w.heap.size, 1 + k, none⟩ := by unfold Addr.add; split <;> simp_all
        rw [e] at h2
        exact h2
      have Hsplit : Hid ((a.2.drop 4).take (k + 1 - 4) = (a.2.drop 4).take (k - 4) ++ [x]) := by
        show _ = _
        rw [show k + 1 - 4 = (k - 4) + 1 by omega, List.take_add_one, List.getElem?_drop, show 4 + (k - 4) = k by omega, List.getElem?_eq_getElem hkl, ← hx]
        rfl
      have Hmem : Hid (x ∈ a.2.drop 4) := by
        show _ ∈ _
        rw [hx, List.mem_iff_getElem?]
        exact ⟨k - 4, by rw [List.getElem?_drop, show 4 + (k - 4) = k by omega, List.getElem?_eq_getElem hkl]⟩
      clear hx hlen
      by_cases hz : x = 0
      · subst hz
        have Hat2 : Hid (((a.2.drop 4).take (k + 1 - 4)).all (· == 0) = true) := by
          show _ = _
          rw [Hsplit.out, List.all_append, hat.out]
          rfl
        clear Hsplit
        go_wp2
        go_roundw
        case rel => exact ⟨k + 1, by omega, by omega, by go_num, trivial, Hat2⟩
        case measure => simp [intOf]; omega
      · have hxn : ¬ (x.toNat : Int) = 0 := fun e => hz (UInt8.toNat_inj.1 (by simp; omega))
        have hxb : ((x.toNat : Int) != 0) = true := by simp; omega
        have Hno : Hid (tailB a.2 = false) := by
          show _ = _
          unfold tailB
          rw [List.all_eq_false]
          exact ⟨x, Hmem.out, by simp [hz]⟩
        clear Hsplit hz
        go_wp2
        go_ret
        exact ⟨by rw [Hno.out]; rfl, HB.out⟩
    · have hltI : ¬ (k : Int) < 16 := by omega
      have Hall : Hid (tailB a.2 = true) := by
        have h := hat.out
        rw [List.take_of_length_le (by simp; omega)] at h
        exact h
      go_wp2
      go_ret
      exact ⟨by rw [Hall.out]; simp, HB.out⟩
end Go.Proofs.Ytmkeljcjhcaigaa

/- A whole address read out of its block; the document's Short; numbers within bounds. -/
namespace Go.Proofs.Ytmkeljcjhcaigaa
open Go.RowKit
set_option linter.unusedVariables false

theorem blk_range {w : World} {g : Nat} {t : TypeId} {cs : List Value} (h : Blk w g t cs.toArray) : w.rangeAt g 0 cs := fun j v hj => by
  rw [h.cell, Nat.zero_add, List.getElem?_toArray]
  exact hj
theorem addr_size : (Try.prog.info? 27).map (·.size) = some 17 := by kernel_rfl
section
variable {P : Program}
/-- A load of a row or a struct, whole, guarded or not. -/
theorem wpList_load_g {ops : Array Oper} {rest : List Oper} {op : Oper} {a : Act} {w : World} {Q : Exit → Act → World → Prop} (hw : Region.wanted op (yielded ops a.tmps) = true) (ty : TypeId) (x : Operand) (ho : op.op = .load ty x)
    (b o : Nat) (hx : a.eval x = .pointer (some ⟨b, o, none⟩)) (cs : List Value) (d : TypeDesc) (hc : w.rangeAt b o cs)
    (hu : P.underlying ty = some d) (hd : d.isRow = true) (hi : (P.info? ty).map (·.size) = some cs.length)
    (h : wpList P ops Q rest (a.put op.dst (.agg cs.toArray)) w) : wpList P ops Q (op :: rest) a w :=
  wpList_step fun K hK => by
    rw [if_pos hw]
    exact wp_load_mid ty x ho b o hx cs d hc hu hd hi (hK _ _ h)
end
theorem addr_sz {a : AddrP} (ha : addrOk a) : (Try.prog.info? 27).map (·.size) = some (addrCs a).length := by rw [addrCs_length ha]; exact addr_size

set_option maxHeartbeats 800000 in
set_option maxRecDepth 100000 in
theorem refShort_any (a : AddrP) (ha : addrOk a) (w : World) :
    Calls Try.prog 15 #[addrV a] w fun e w' => e = .returned (.bool (shortB a)) ∧ Below w.heap.size w w' := by
  unfold addrV
  obtain ⟨W, hW⟩ : ∃ W, W = w.alloc (.cells (addrCs a).toArray 27) := ⟨_, rfl⟩
  have hX : Blk W w.heap.size 27 (addrCs a).toArray := by rw [hW]; exact addr_blk _ _ _
  have hB : Below w.heap.size w W := by rw [hW]; exact (Below.refl _ _).alloc (Nat.le_refl _) _
  have c0 : W.cell? ⟨w.heap.size, 0, none⟩ = some (.bool a.1) := addr_c0 hX
  have HR := Lib.hid (blk_range hX)
  have Hsz := Lib.hid (addr_sz ha)
  have Hs := Lib.hid (short8_any a ha W)
  unfold addrV at Hs
  have HW := Lib.hid hW
  have HB := Lib.hid hB
  clear hW hX hB
  rcases h6 : a.1 with _ | _
  · rw [h6] at c0 Hs
    have Hr : Hid (shortB a = tailB a.2) := by show _ = _; unfold shortB; rw [h6]; rfl
    clear h6
    go_enter Try.func15, Try.ntmps15
    go_upto_region 1 with fail
    rw [← HW.out]
    go_wp2_with
      (first
        | (refine wpList_load_g (by rfl) 27 (.tmp 1) rfl w.heap.size 0 rfl (addrCs a) _ HR.out Try.underlying27 rfl Hsz.out ?_)
        | (go_at_call 36
           refine Hs.out.mono ?_
           rintro e w1 ⟨rfl, hb1⟩))
    go_wp2
    go_ret
    exact ⟨by rw [Hr.out]; simp, HB.out.trans (hb1.mono HB.out.size)⟩
  · rw [h6] at c0
    have Hr : Hid (shortB a = true) := by show _ = _; unfold shortB; rw [h6]; rfl
    clear h6 Hs
    go_enter Try.func15, Try.ntmps15
    go_upto_region 1 with fail
    rw [← HW.out]
    go_wp2
    go_ret
    exact ⟨by rw [Hr.out]; rfl, HB.out⟩

/-- Is a number from one to another? -/
def inB (n lo hi : Int) : Bool := decide (lo ≤ n) && decide (n ≤ hi)
set_option maxHeartbeats 400000 in
theorem within_any (n lo hi : Int) (w : World) :
    Calls Try.prog 38 #[.int .i64 n, .int .i64 lo, .int .i64 hi] w fun e w' => e = .returned (.bool (inB n lo hi)) ∧ w = w' := by
  unfold inB
  by_cases h1 : lo ≤ n
  · by_cases h2 : n ≤ hi
    · go_enter Try.func38, Try.ntmps38
      go_wp2
      go_ret
      exact ⟨by simp [h1, h2], rfl⟩
    · go_enter Try.func38, Try.ntmps38
      go_wp2
      go_ret
      exact ⟨by simp [h2], rfl⟩
  · go_enter Try.func38, Try.ntmps38
    go_wp2
    go_ret
    exact ⟨by simp; omega, rfl⟩
set_option maxHeartbeats 400000 in
theorem refIn_any (n lo hi : Int) (w : World) :
    Calls Try.prog 40 #[.int .i64 n, .int .i64 lo, .int .i64 hi] w fun e w' => e = .returned (.bool (inB n lo hi)) ∧ w = w' := by
  unfold inB
  by_cases h1 : lo ≤ n
  · by_cases h2 : n ≤ hi
    · go_enter Try.func40, Try.ntmps40
      go_wp2
      go_ret
      exact ⟨by simp [h1, h2], rfl⟩
    · go_enter Try.func40, Try.ntmps40
      go_wp2
      go_ret
      exact ⟨by simp [h2], rfl⟩
  · go_enter Try.func40, Try.ntmps40
    go_wp2
    go_ret
    exact ⟨by simp; omega, rfl⟩
end Go.Proofs.Ytmkeljcjhcaigaa

/- The bytes of an address. -/
namespace Go.Proofs.Ytmkeljcjhcaigaa
open Go.RowKit
set_option linter.unusedVariables false

def putAddrS (a : AddrP) : List UInt8 := if a.1 then 6 :: a.2 else 4 :: a.2.take 4
theorem addr_bs0 {w : World} {g : Nat} {t : TypeId} {a : AddrP} (h : Blk w g t (addrCs a).toArray) (B : Nat) (hB : g < B) : BS w B (some ⟨g, 1, none⟩) a.2 := by
  have := addr_bs h 0 B hB
  simpa using this

set_option maxHeartbeats 800000 in
set_option maxRecDepth 100000 in
theorem putAddr_any (a : AddrP) (ha : addrOk a) (w : World) :
    Calls Try.prog 24 #[addrV a] w fun e w' => ∃ A c, e = .returned (.slice A (putAddrS a).length c) ∧ w'.ownsRow w.heap.size 5 1 (.slice A (putAddrS a).length c) (putAddrS a).length (bcells (putAddrS a)) ∧ Below w.heap.size w w' := by
  have hlen : a.2.length = 16 := ha
  unfold addrV
  obtain ⟨i0, hi0, hz0, hz1, hz2⟩ := info_parts u8_infoO
  obtain ⟨W, hW⟩ : ∃ W, W = w.alloc (.cells (addrCs a).toArray 27) := ⟨_, rfl⟩
  have hX : Blk W w.heap.size 27 (addrCs a).toArray := by rw [hW]; exact addr_blk _ _ _
  have hB : Below w.heap.size w W := by rw [hW]; exact (Below.refl _ _).alloc (Nat.le_refl _) _
  have c0 : W.cell? ⟨w.heap.size, 0, none⟩ = some (.bool a.1) := addr_c0 hX
  have HS := Lib.hid (addr_bs0 hX W.heap.size hX.lt)
  have HW := Lib.hid hW
  have HB := Lib.hid hB
  have Hlen := Lib.hid hlen
  have Hsz := Lib.hid hB.size
  clear hW hX hB hlen
  rcases h6 : a.1 with _ | _
  · rw [h6] at c0
    have Hr : Hid (putAddrS a = [4] ++ a.2.take 4) := by show _ = _; unfold putAddrS; rw [h6]; rfl
    have Hl4 : Hid (4 = (a.2.take 4).length) := by show _ = _; rw [List.length_take, Hlen.out]; rfl
    clear h6
    go_enter Try.func24, Try.ntmps24
    go_upto_region 1 with fail
    rw [← HW.out]
    go_wp2_with (at_builtin; refine wpList_append_bytes _ rfl _ _ 40 rfl w.heap.size 5 i0 (.int .u8 0) 1 Try.underlying40 hi0 hz0 hz1 hz2 rfl (.slice (some ⟨W.heap.size, 0, none⟩) 1 1) [4] rfl (own_one W _ _ 4 4 rfl Hsz.out) _ _ _ _ (a.2.take 4) rfl Hl4.out ((HS.out.take 4).alloc (Nat.le_refl _) _) (by rw [← Hl4.out]; simp [maxLen]) (by rw [← Hl4.out]; simp) (Nat.le_trans Hsz.out (Below.size ((Below.refl W.heap.size W).alloc (Nat.le_refl _) _))) ?_; intro A5 c5 w5 hown5 hg5 _)
    have hb5 : Below w.heap.size w w5 := (HB.out.alloc Hsz.out _).grown hg5 (Nat.le_trans Hsz.out (Below.size ((Below.refl W.heap.size W).alloc (Nat.le_refl _) _))) (by intro k hk; simp [Value.ownBlock] at hk; have := Hsz.out; omega)
    have Hown5 := Lib.hid hown5
    clear hown5 hg5
    go_ret
    refine ⟨A5, c5, ?_, ?_, hb5⟩
    · rw [Hr.out]; simp
    · rw [Hr.out]; exact Hown5.out
  · rw [h6] at c0
    have Hr : Hid (putAddrS a = [6] ++ a.2) := by show _ = _; unfold putAddrS; rw [h6]; rfl
    have Hl4 : Hid (16 = a.2.length) := Hlen.out.symm
    clear h6
    go_enter Try.func24, Try.ntmps24
    go_upto_region 1 with fail
    rw [← HW.out]
    go_wp2_with (at_builtin; refine wpList_append_bytes _ rfl _ _ 40 rfl w.heap.size 5 i0 (.int .u8 0) 1 Try.underlying40 hi0 hz0 hz1 hz2 rfl (.slice (some ⟨W.heap.size, 0, none⟩) 1 1) [6] rfl (own_one W _ _ 6 6 rfl Hsz.out) _ _ _ _ a.2 rfl Hl4.out (HS.out.alloc (Nat.le_refl _) _) (by rw [← Hl4.out]; simp [maxLen]) (by rw [← Hl4.out]; simp) (Nat.le_trans Hsz.out (Below.size ((Below.refl W.heap.size W).alloc (Nat.le_refl _) _))) ?_; intro A5 c5 w5 hown5 hg5 _)
    have hb5 : Below w.heap.size w w5 := (HB.out.alloc Hsz.out _).grown hg5 (Nat.le_trans Hsz.out (Below.size ((Below.refl W.heap.size W).alloc (Nat.le_refl _) _))) (by intro k hk; simp [Value.ownBlock] at hk; have := Hsz.out; omega)
    have Hown5 := Lib.hid hown5
    clear hown5 hg5
    go_ret
    refine ⟨A5, c5, ?_, ?_, hb5⟩
    · rw [Hr.out]; simp
    · rw [Hr.out]; exact Hown5.out
end Go.Proofs.Ytmkeljcjhcaigaa

/- The bytes of an address, by the document. -/
namespace Go.Proofs.Ytmkeljcjhcaigaa
open Go.RowKit
set_option linter.unusedVariables false

theorem addr_cell {w : World} {g : Nat} {t : TypeId} {a : AddrP} (h : Blk w g t (addrCs a).toArray) {k : Nat} (hk : k < a.2.length) : w.cell? ⟨g, 1 + k, none⟩ = some (.int .u8 ((a.2[k]).toNat : Int)) := by
  rw [h.cell]
  simp only [addrCs, List.getElem?_toArray]
  rw [show 1 + k = k + 1 by omega, List.getElem?_cons_succ, bcells, List.getElem?_map, List.getElem?_eq_getElem hk]
  rfl

/-- What holds in the loop that lays an address's bytes. -/
def RPutAt (w wr : World) (g : Nat) (a : AddrP) (h : UInt8) (A : Option Addr) (c k : Nat) : Prop :=
  Blk wr g 27 (addrCs a).toArray ∧ wr.ownsRow w.heap.size 5 1 (.slice A (h :: a.2.take k).length c) (h :: a.2.take k).length (bcells (h :: a.2.take k)) ∧ Below w.heap.size w wr

set_option maxHeartbeats 1600000 in
set_option maxRecDepth 100000 in
theorem refPutAddr_any (a : AddrP) (ha : addrOk a) (w : World) :
    Calls Try.prog 27 #[addrV a] w fun e w' => ∃ A c, e = .returned (.slice A (putAddrS a).length c) ∧ w'.ownsRow w.heap.size 5 1 (.slice A (putAddrS a).length c) (putAddrS a).length (bcells (putAddrS a)) ∧ Below w.heap.size w w' := by
  have hlen : a.2.length = 16 := ha
  unfold addrV
  obtain ⟨i0, hi0, hz0, hz1, hz2⟩ := info_parts u8_infoO
  obtain ⟨W, hW⟩ : ∃ W, W = w.alloc (.cells (addrCs a).toArray 27) := ⟨_, rfl⟩
  have hX : Blk W w.heap.size 27 (addrCs a).toArray := by rw [hW]; exact addr_blk _ _ _
  have hB : Below w.heap.size w W := by rw [hW]; exact (Below.refl _ _).alloc (Nat.le_refl _) _
  have c0 : ∀ o, (W.alloc o).cell? ⟨w.heap.size, 0, none⟩ = some (.bool a.1) := fun o => addr_c0 (Blk.alloc hX o)
  have HX := Lib.hid hX
  have HW := Lib.hid hW
  have HB := Lib.hid hB
  have Hlen := Lib.hid hlen
  have Hsz := Lib.hid hB.size
  clear hW hX hB hlen
  rcases h6 : a.1 with _ | _
  · rw [h6] at c0
    have Hr : Hid (putAddrS a = 4 :: a.2.take 4) := by show _ = _; unfold putAddrS; rw [h6]; rfl
    clear h6
    go_enter Try.func27, Try.ntmps27
    go_upto_region 1 with fail
    rw [← HW.out]
    go_wp2_with fail
    go_loopw [3, 5] (fun v i wr => ∃ (k : Nat) (A : Option Addr) (c : Nat), k ≤ 4 ∧ i = .int .i64 (k : Int) ∧ v = .slice A (k + 1) c ∧ Hid (RPutAt w wr w.heap.size a 4 A c k)) (fun _ i _ => 4 - (intOf i).toNat)
    case atStart => exact ⟨0, _, 1, by omega, rfl, rfl, ⟨Blk.alloc HX.out _, own_one W _ _ 4 4 rfl Hsz.out, HB.out.alloc Hsz.out _⟩⟩
    case round =>
      obtain ⟨k, A, c, hk, rfl, rfl, hat⟩ := hrel
      by_cases hlt : k < 4
      · have hltI : (k : Int) < 4 := by omega
        have hk0 : (0 : Int) ≤ (k : Int) := by omega
        have hk16 : (k : Int) < 16 := by omega
        have hkl : k < a.2.length := by have := Hlen.out; omega
        obtain ⟨hXr, hown, hbel⟩ := hat.out
        have hc := addr_cell hXr hkl
        obtain ⟨x, hx⟩ : ∃ x, x = a.2[k] := ⟨_, rfl⟩
        rw [← hx] at hc
        obtain ⟨m, hm⟩ : ∃ m, m = (4 : UInt8) :: a.2.take k := ⟨_, rfl⟩
        have hml : m.length = k + 1 := by rw [hm]; simp; omega
        have hm2 : (4 : UInt8) :: a.2.take (k + 1) = m ++ [x] := by rw [hm, List.take_add_one, List.getElem?_eq_getElem hkl, ← hx]; rfl
        rw [← hm] at hown
        rw [hml] at hown
        have hown' : wr.ownsRow w.heap.size 5 1 (.slice A (k + 1) c) m.length (bcells m) := by rw [hml]; exact hown
        have hsz : w.heap.size ≤ wr.heap.size := hbel.size
        have hne : some w.heap.size ≠ (Value.slice A (k + 1) c).ownBlock := by
          rcases own_blk_ne hown' hXr (by decide) with h | h
          · rw [h]; simp
          · exact fun e => h e.symm
        have Hown := Lib.hid hown'
        have HXr := Lib.hid hXr
        have Hbel := Lib.hid hbel
        have Hm2 := Lib.hid hm2
        have Hml := Lib.hid hml
        have Hne := Lib.hid hne
        clear hown hown' hXr hbel hm hm2 hml hne hx hat
        go_wp2_with (at_builtin; refine wpList_append_bytes _ rfl _ _ 40 rfl w.heap.size 5 i0 (.int .u8 0) 1 Try.underlying40 hi0 hz0 hz1 hz2 rfl (.slice A (k + 1) c) m rfl (own_below Hown.out ((Below.refl _ wr).alloc (Nat.le_refl _) _)) _ _ 1 _ [x] rfl rfl (BS.one' wr x _ rfl _) (by rw [Hml.out]; simp [maxLen]; omega) (by rw [Hml.out]; simp; omega) (Nat.le_trans hsz (Below.size ((Below.refl wr.heap.size wr).alloc (Nat.le_refl _) _))) ?_; intro A5 c5 w5 hown5 hg5 _)
        have Hat2 : Hid (RPutAt w w5 w.heap.size a 4 A5 c5 (k + 1)) := by
          refine ⟨Blk.grown (Blk.alloc HXr.out _) hg5 Hne.out, by rw [Hm2.out]; exact hown5, (Hbel.out.alloc hsz _).grown hg5 (Nat.le_trans hsz (Below.size ((Below.refl wr.heap.size wr).alloc (Nat.le_refl _) _))) (fun j hj => (Hown.out.lt j hj).1)⟩
        have Hl5 : Hid ((m ++ [x]).length = k + 1 + 1) := by show _ = _; rw [List.length_append, Hml.out]; rfl
        clear hown5 hg5 Hown HXr Hbel Hne
        go_roundw
        case rel => exact ⟨k + 1, A5, c5, by omega, by go_num, by first | rfl | (rw [Hl5.out]) | (have := Hml.out; simp; omega), Hat2⟩
        case measure => simp [intOf]; omega
      · have hltI : ¬ (k : Int) < 4 := by omega
        have hkN : k = 4 := by omega
        subst hkN
        obtain ⟨_, hown, hbel⟩ := hat.out
        have hpl : (putAddrS a).length = 4 + 1 := by rw [Hr.out]; simp; have := Hlen.out; omega
        have hown2 : wr.ownsRow w.heap.size 5 1 (.slice A (4 + 1) c) (4 + 1) (bcells (putAddrS a)) := by
          rw [Hr.out]
          have e : ((4 : UInt8) :: a.2.take 4).length = 4 + 1 := by simp; have := Hlen.out; omega
          rw [e] at hown
          exact hown
        have Hown := Lib.hid hown2
        have Hbel := Lib.hid hbel
        have Hpl := Lib.hid hpl
        clear hown hown2 hbel hpl hat
        go_wp2
        go_ret
        refine ⟨A, c, ?_, ?_, Hbel.out⟩
        · rw [Hpl.out]; rfl
        · rw [Hpl.out]; exact Hown.out
  · rw [h6] at c0
    have Hr : Hid (putAddrS a = 6 :: a.2) := by show _ = _; unfold putAddrS; rw [h6]; rfl
    clear h6
    go_enter Try.func27, Try.ntmps27
    go_upto_region 1 with fail
    rw [← HW.out]
    go_wp2_with fail
    go_loopw [3, 5] (fun v i wr => ∃ (k : Nat) (A : Option Addr) (c : Nat), k ≤ 16 ∧ i = .int .i64 (k : Int) ∧ v = .slice A (k + 1) c ∧ Hid (RPutAt w wr w.heap.size a 6 A c k)) (fun _ i _ => 16 - (intOf i).toNat)
    case atStart => exact ⟨0, _, 1, by omega, rfl, rfl, ⟨Blk.alloc HX.out _, own_one W _ _ 6 6 rfl Hsz.out, HB.out.alloc Hsz.out _⟩⟩
    case round =>
      obtain ⟨k, A, c, hk, rfl, rfl, hat⟩ := hrel
      by_cases hlt : k < 16
      · have hltI : (k : Int) < 16 := by omega
        have hk0 : (0 : Int) ≤ (k : Int) := by omega
        have hk16 : (k : Int) < 16 := by omega
        have hkl : k < a.2.length := by have := Hlen.out; omega
        obtain ⟨hXr, hown, hbel⟩ := hat.out
        have hc := addr_cell hXr hkl
        obtain ⟨x, hx⟩ : ∃ x, x = a.2[k] := ⟨_, rfl⟩
        rw [← hx] at hc
        obtain ⟨m, hm⟩ : ∃ m, m = (6 : UInt8) :: a.2.take k := ⟨_, rfl⟩
        have hml : m.length = k + 1 := by rw [hm]; simp; omega
        have hm2 : (6 : UInt8) :: a.2.take (k + 1) = m ++ [x] := by rw [hm, List.take_add_one, List.getElem?_eq_getElem hkl, ← hx]; rfl
        rw [← hm] at hown
        rw [hml] at hown
        have hown' : wr.ownsRow w.heap.size 5 1 (.slice A (k + 1) c) m.length (bcells m) := by rw [hml]; exact hown
        have hsz : w.heap.size ≤ wr.heap.size := hbel.size
        have hne : some w.heap.size ≠ (Value.slice A (k + 1) c).ownBlock := by
          rcases own_blk_ne hown' hXr (by decide) with h | h
          · rw [h]; simp
          · exact fun e => h e.symm
        have Hown := Lib.hid hown'
        have HXr := Lib.hid hXr
        have Hbel := Lib.hid hbel
        have Hm2 := Lib.hid hm2
        have Hml := Lib.hid hml
        have Hne := Lib.hid hne
        clear hown hown' hXr hbel hm hm2 hml hne hx hat
        go_wp2_with (at_builtin; refine wpList_append_bytes _ rfl _ _ 40 rfl w.heap.size 5 i0 (.int .u8 0) 1 Try.underlying40 hi0 hz0 hz1 hz2 rfl (.slice A (k + 1) c) m rfl (own_below Hown.out ((Below.refl _ wr).alloc (Nat.le_refl _) _)) _ _ 1 _ [x] rfl rfl (BS.one' wr x _ rfl _) (by rw [Hml.out]; simp [maxLen]; omega) (by rw [Hml.out]; simp; omega) (Nat.le_trans hsz (Below.size ((Below.refl wr.heap.size wr).alloc (Nat.le_refl _) _))) ?_; intro A5 c5 w5 hown5 hg5 _)
        have Hat2 : Hid (RPutAt w w5 w.heap.size a 6 A5 c5 (k + 1)) := by
          refine ⟨Blk.grown (Blk.alloc HXr.out _) hg5 Hne.out, by rw [Hm2.out]; exact hown5, (Hbel.out.alloc hsz _).grown hg5 (Nat.le_trans hsz (Below.size ((Below.refl wr.heap.size wr).alloc (Nat.le_refl _) _))) (fun j hj => (Hown.out.lt j hj).1)⟩
        have Hl5 : Hid ((m ++ [x]).length = k + 1 + 1) := by show _ = _; rw [List.length_append, Hml.out]; rfl
        clear hown5 hg5 Hown HXr Hbel Hne
        go_roundw
        case rel => exact ⟨k + 1, A5, c5, by omega, by go_num, by first | rfl | (rw [Hl5.out]) | (have := Hml.out; simp; omega), Hat2⟩
        case measure => simp [intOf]; omega
      · have hltI : ¬ (k : Int) < 16 := by omega
        have hkN : k = 16 := by omega
        subst hkN
        obtain ⟨_, hown, hbel⟩ := hat.out
        have hpl : (putAddrS a).length = 16 + 1 := by rw [Hr.out]; simp; have := Hlen.out; omega
        have hown2 : wr.ownsRow w.heap.size 5 1 (.slice A (16 + 1) c) (16 + 1) (bcells (putAddrS a)) := by
          rw [Hr.out]
          have e2 : a.2.take 16 = a.2 := List.take_of_length_le (by have := Hlen.out; omega)
          have e : ((6 : UInt8) :: a.2.take 16).length = 16 + 1 := by simp; have := Hlen.out; omega
          rw [e, e2] at hown
          exact hown
        have Hown := Lib.hid hown2
        have Hbel := Lib.hid hbel
        have Hpl := Lib.hid hpl
        clear hown hown2 hbel hpl hat
        go_wp2
        go_ret
        refine ⟨A, c, ?_, ?_, Hbel.out⟩
        · rw [Hpl.out]; rfl
        · rw [Hpl.out]; exact Hown.out
end Go.Proofs.Ytmkeljcjhcaigaa

/- Two addresses compared. -/
namespace Go.Proofs.Ytmkeljcjhcaigaa
open Go.RowKit
set_option linter.unusedVariables false

theorem addr_part1 (a : AddrP) (ha : addrOk a) : (addrCs a).toArray.extract 1 17 = (bcells a.2).toArray := by
  have h : a.2.length = 16 := ha
  apply Array.ext'
  simp only [Array.toList_extract, addrCs, List.extract_eq_take_drop, List.drop_succ_cons, List.drop_zero]
  exact List.take_of_length_le (by simp [bcells, h])
theorem addr_under : Try.prog.underlying 27 = some (.struct (Try.prog.fieldsOf 27)) := by kernel_rfl
theorem addr_held : Try.prog.stoodInHeld 27 = false := by kernel_rfl

theorem arr16_size (w : World) : (sizeOf 25).run Try.prog w = .ok 16 w := by
  obtain ⟨i, hi⟩ := info_of_underlying Try.underlying25
  rw [run_sizeOf w hi, show Try.prog.cellsOf 25 = 16 by kernel_rfl]
theorem u8_size1 (w : World) : (sizeOf 5).run Try.prog w = .ok 1 w := by
  obtain ⟨i, hi⟩ := info_of_underlying Try.underlying5
  rw [run_sizeOf w hi, show Try.prog.cellsOf 5 = 1 by kernel_rfl]
theorem addr_p0 (x : AddrP) (w : World) : (part 4 (addrCs x).toArray 0).run Try.prog w = .ok (.bool x.1) w := by
  simp [part, isAgg, run_underlying Try.underlying4, addrCs]
theorem addr_p1 (x : AddrP) (hx : addrOk x) (w : World) : (part 25 (addrCs x).toArray 1).run Try.prog w = .ok (.agg (x.2.map Extern.Stop.cell).toArray) w := by
  have h : bcells x.2 = x.2.map Extern.Stop.cell := rfl
  simp only [part, isAgg, Sem.run_bind, run_underlying Try.underlying25, Result.andThen_ok, Sem.run_pure, arr16_size, if_true, Nat.reduceAdd, addr_part1 x hx, h]

theorem addr_eqIn (d : Nat) (a b : AddrP) (ha : addrOk a) (hb : addrOk b) (w : World) :
    (Op.equalIn (d + 3) 27 (.agg (addrCs a).toArray) (.agg (addrCs b).toArray)).run Try.prog w = .ok (a == b) w := by
  have hab : (a == b) = (a.1 == b.1 && a.2 == b.2) := rfl
  rw [run_equalIn_struct w (d + 2) _ _ _ addr_under addr_held, hab]
  simp only [Program.fieldsOf, Try.underlying27, Op.eqFields]
  have h0 := run_equalIn_bool w (d + 1) 4 a.1 b.1 Try.underlying4
  have h1 := run_equalIn_bytes w d 25 5 16 Try.underlying25 Try.underlying5 u8_size1 a.2 b.2 ha hb
  rw [if_pos (by decide)]
  simp only [Sem.run_bind, addr_p0, Result.andThen_ok, h0]
  cases hc : (a.1 == b.1)
  · simp
  · simp only [Bool.not_true, Bool.false_eq_true, if_false]
    rw [if_pos (by decide)]
    simp only [Sem.run_bind, addr_p1 a ha, addr_p1 b hb, Result.andThen_ok, h1]
    cases hd : (a.2 == b.2) <;> simp
end Go.Proofs.Ytmkeljcjhcaigaa

/- A Vip: its cells; two Vips compared. -/
namespace Go.Proofs.Ytmkeljcjhcaigaa
open Go.RowKit
set_option linter.unusedVariables false

/-- A Vip: its address, its protocol, its port, whether it is tunnelled. -/
abbrev VipP : Type := AddrP × Int × Int × Bool
def vipCs (v : VipP) : List Value := addrCs v.1 ++ [.int .i64 v.2.1, .int .i64 v.2.2.1, .bool v.2.2.2]
def vipV (v : VipP) : Value := .agg (vipCs v).toArray
theorem vipCs_length {v : VipP} (h : addrOk v.1) : (vipCs v).length = 20 := by rw [vipCs, List.length_append, addrCs_length h]; rfl
theorem vip_under : Try.prog.underlying 33 = some (.struct (Try.prog.fieldsOf 33)) := by kernel_rfl
theorem vip_held : Try.prog.stoodInHeld 33 = false := by kernel_rfl
theorem vip_size : (Try.prog.info? 33).map (·.size) = some 20 := by kernel_rfl
theorem vip_sz {v : VipP} (h : addrOk v.1) : (Try.prog.info? 33).map (·.size) = some (vipCs v).length := by rw [vipCs_length h]; exact vip_size
theorem addr_size17 (w : World) : (sizeOf 27).run Try.prog w = .ok 17 w := by
  obtain ⟨i, hi⟩ := info_of_underlying Try.underlying27
  rw [run_sizeOf w hi, show Try.prog.cellsOf 27 = 17 by kernel_rfl]
theorem vip_at {v : VipP} (h : addrOk v.1) (i : Nat) : (vipCs v).toArray[17 + i]? = [Value.int .i64 v.2.1, .int .i64 v.2.2.1, .bool v.2.2.2][i]? := by
  rw [List.getElem?_toArray, vipCs, List.getElem?_append_right (by rw [addrCs_length h]; omega), addrCs_length h, Nat.add_sub_cancel_left]
theorem vip_p0 (v : VipP) (h : addrOk v.1) (w : World) : (part 27 (vipCs v).toArray 0).run Try.prog w = .ok (.agg (addrCs v.1).toArray) w := by
  have e : (vipCs v).toArray.extract 0 17 = (addrCs v.1).toArray := by
    apply Array.ext'
    simp only [Array.toList_extract, List.extract_eq_take_drop, List.drop_zero, vipCs, Nat.sub_zero]
    rw [List.take_append_of_le_length (by rw [addrCs_length h]; exact Nat.le_refl _), List.take_of_length_le (by rw [addrCs_length h]; exact Nat.le_refl _)]
  simp only [part, isAgg, Sem.run_bind, run_underlying Try.underlying27, Result.andThen_ok, Sem.run_pure, addr_size17, if_true, Nat.zero_add, e]
theorem vip_p1 (v : VipP) (h : addrOk v.1) (w : World) : (part 3 (vipCs v).toArray 17).run Try.prog w = .ok (.int .i64 v.2.1) w := by
  have e := vip_at h 0
  simp only [Nat.add_zero, List.getElem?_cons_zero] at e
  simp [part, isAgg, run_underlying Try.underlying3, e]
theorem vip_p2 (v : VipP) (h : addrOk v.1) (w : World) : (part 3 (vipCs v).toArray 18).run Try.prog w = .ok (.int .i64 v.2.2.1) w := by
  have e : (vipCs v).toArray[18]? = some (.int .i64 v.2.2.1) := vip_at h 1
  simp [part, isAgg, run_underlying Try.underlying3, e]
theorem vip_p3 (v : VipP) (h : addrOk v.1) (w : World) : (part 4 (vipCs v).toArray 19).run Try.prog w = .ok (.bool v.2.2.2) w := by
  have e : (vipCs v).toArray[19]? = some (.bool v.2.2.2) := vip_at h 2
  simp [part, isAgg, run_underlying Try.underlying4, e]

theorem vip_eqIn (d : Nat) (a b : VipP) (ha : addrOk a.1) (hb : addrOk b.1) (w : World) :
    (Op.equalIn (d + 4) 33 (.agg (vipCs a).toArray) (.agg (vipCs b).toArray)).run Try.prog w = .ok (a == b) w := by
  have hab : (a == b) = (a.1 == b.1 && (a.2.1 == b.2.1 && (a.2.2.1 == b.2.2.1 && a.2.2.2 == b.2.2.2))) := rfl
  have h0 := addr_eqIn d a.1 b.1 ha hb w
  have h1 := run_equalIn_int w (d + 2) 3 .i64 .i64 a.2.1 b.2.1 Try.underlying3
  have h2 := run_equalIn_int w (d + 2) 3 .i64 .i64 a.2.2.1 b.2.2.1 Try.underlying3
  have h3 := run_equalIn_bool w (d + 2) 4 a.2.2.2 b.2.2.2 Try.underlying4
  rw [run_equalIn_struct w (d + 3) _ _ _ vip_under vip_held, hab]
  simp only [Program.fieldsOf, Try.underlying33, Op.eqFields]
  rw [if_pos (by decide)]
  simp only [Sem.run_bind, vip_p0 a ha, vip_p0 b hb, Result.andThen_ok, h0]
  cases hc : (a.1 == b.1)
  · simp
  · simp only [Bool.not_true, Bool.false_eq_true, if_false]
    rw [if_pos (by decide)]
    simp only [Sem.run_bind, vip_p1 a ha, vip_p1 b hb, Result.andThen_ok, h1]
    cases hd : (a.2.1 == b.2.1)
    · simp
    · simp only [Bool.not_true, Bool.false_eq_true, if_false]
      rw [if_pos (by decide)]
      simp only [Sem.run_bind, vip_p2 a ha, vip_p2 b hb, Result.andThen_ok, h2]
      cases he : (a.2.2.1 == b.2.2.1)
      · simp
      · simp only [Bool.not_true, Bool.false_eq_true, if_false]
        rw [if_pos (by decide)]
        simp only [Sem.run_bind, vip_p3 a ha, vip_p3 b hb, Result.andThen_ok, h3]
        cases hf : (a.2.2.2 == b.2.2.2) <;> simp
end Go.Proofs.Ytmkeljcjhcaigaa

/- The test by which a Vip is found. -/
namespace Go.Proofs.Ytmkeljcjhcaigaa
open Go.RowKit
set_option linter.unusedVariables false

/-- Is a Vip alike in address, protocol and port? -/
def vipIs (addr : AddrP) (proto port : Int) (v : VipP) : Bool := v.1 == addr && v.2.1 == proto && v.2.2.1 == port
theorem addr_guard : Try.prog.eqGuardType Try.prog.depth 27 = false := by kernel_rfl
theorem vip_blk_range {w : World} {g : Nat} {t : TypeId} {v : VipP} (h : Blk w g t (vipCs v).toArray) : w.rangeAt g 0 (addrCs v.1) := fun j x hj => by
  have hl : j < (addrCs v.1).length := by
    rcases Nat.lt_or_ge j (addrCs v.1).length with h1 | h1
    · exact h1
    · rw [List.getElem?_eq_none h1] at hj; cases hj
  rw [h.cell, Nat.zero_add, List.getElem?_toArray, vipCs, List.getElem?_append_left hl]
  exact hj
theorem vip_blk_at {w : World} {g : Nat} {t : TypeId} {v : VipP} (hv : addrOk v.1) (h : Blk w g t (vipCs v).toArray) (i : Nat) : w.cell? ⟨g, 17 + i, none⟩ = [Value.int .i64 v.2.1, .int .i64 v.2.2.1, .bool v.2.2.2][i]? := by
  rw [h.cell, vip_at hv]

section
variable {P : Program}
/-- Two structs compared, guarded or not. -/
theorem wpList_eqs_g {ops : Array Oper} {rest : List Oper} {op : Oper} {a : Act} {w : World} {Q : Exit → Act → World → Prop} (hw : Region.wanted op (yielded ops a.tmps) = true) (ty tz : TypeId) (x y : Operand) (ho : op.op = .binOp .eql ty x y tz)
    (xs ys : Array Value) (hx : a.eval x = .agg xs) (hy : a.eval y = .agg ys) (hm : P.eqGuardType P.depth ty = false) (r : Bool) (he : (Op.equalIn 10000 ty (.agg xs) (.agg ys)).run P w = .ok r w)
    (h : wpList P ops Q rest (a.put op.dst (.bool r)) w) : wpList P ops Q (op :: rest) a w :=
  wpList_step fun K hK => by
    rw [if_pos hw]
    unfold Oper.wp execOp
    simp only [ho, hx, hy, Sem.run_bind, run_eqGuard_agg w _ _ _ _ _ _ hm, Result.andThen_ok, run_eql_struct, he, Sem.run_pure]
    exact hK _ _ h
end

set_option maxHeartbeats 1600000 in
set_option maxRecDepth 100000 in
theorem vipF_any (v : VipP) (hv : addrOk v.1) (addr : AddrP) (ha : addrOk addr) (proto port : Int) (g5 g6 g7 : Nat) (w : World) (h5 : Blk w g5 27 (addrCs addr).toArray) (h6 : w.cell? ⟨g6, 0, none⟩ = some (.int .i64 proto)) (h7 : w.cell? ⟨g7, 0, none⟩ = some (.int .i64 port)) :
    Calls Try.prog 33 #[vipV v, .pointer (some ⟨g5, 0, none⟩), .pointer (some ⟨g6, 0, none⟩), .pointer (some ⟨g7, 0, none⟩)] w fun e w' => e = .returned (.bool (vipIs addr proto port v)) ∧ Below w.heap.size w w' := by
  unfold vipV
  obtain ⟨W, hW⟩ : ∃ W, W = w.alloc (.cells (vipCs v).toArray 33) := ⟨_, rfl⟩
  have hX : Blk W w.heap.size 33 (vipCs v).toArray := by rw [hW]; exact Blk.new w _ _ _ rfl
  have hB : Below w.heap.size w W := by rw [hW]; exact (Below.refl _ _).alloc (Nat.le_refl _) _
  have c1 : W.cell? ⟨w.heap.size, 17, none⟩ = some (.int .i64 v.2.1) := vip_blk_at hv hX 0
  have c2 : W.cell? ⟨w.heap.size, 18, none⟩ = some (.int .i64 v.2.2.1) := vip_blk_at hv hX 1
  have d6 : W.cell? ⟨g6, 0, none⟩ = some (.int .i64 proto) := (hB.cell (p := ⟨g6, 0, none⟩) (World.block_lt_of_cell? w _ h6)).trans h6
  have d7 : W.cell? ⟨g7, 0, none⟩ = some (.int .i64 port) := (hB.cell (p := ⟨g7, 0, none⟩) (World.block_lt_of_cell? w _ h7)).trans h7
  have HR1 := Lib.hid (vip_blk_range hX)
  have HR2 := Lib.hid (blk_range (Blk.below h5 hB h5.lt))
  have Hs1 := Lib.hid (addr_sz hv)
  have Hs2 := Lib.hid (addr_sz ha)
  have He := Lib.hid (addr_eqIn 9997 v.1 addr hv ha W)
  have HW := Lib.hid hW
  have HB := Lib.hid hB
  clear hW hX hB h5 h6 h7
  rcases h1 : (v.1 == addr) with _ | _
  · rw [h1] at He
    have H1 := Lib.hid h1
    clear h1
    go_enter Try.func33, Try.ntmps33
    go_upto_region 1 with fail
    rw [← HW.out]
    go_wp2_with
      (first
        | (refine wpList_load_g (by rfl) 27 (.tmp 6) rfl w.heap.size 0 rfl (addrCs v.1) _ HR1.out Try.underlying27 rfl Hs1.out ?_)
        | (refine wpList_load_g (by rfl) 27 (.tmp 1) rfl g5 0 rfl (addrCs addr) _ HR2.out Try.underlying27 rfl Hs2.out ?_)
        | (refine wpList_eqs_g (by rfl) 27 27 (.tmp 7) (.tmp 8) rfl (addrCs v.1).toArray (addrCs addr).toArray rfl rfl addr_guard false He.out ?_))
    go_ret
    exact ⟨by unfold vipIs; rw [H1.out]; rfl, HB.out⟩
  · rw [h1] at He
    have H1 := Lib.hid h1
    clear h1
    rcases h2 : (v.2.1 == proto) with _ | _
    · have H2 := Lib.hid h2
      go_enter Try.func33, Try.ntmps33
      go_upto_region 1 with fail
      rw [← HW.out]
      go_wp2_with
        (first
          | (refine wpList_load_g (by rfl) 27 (.tmp 6) rfl w.heap.size 0 rfl (addrCs v.1) _ HR1.out Try.underlying27 rfl Hs1.out ?_)
          | (refine wpList_load_g (by rfl) 27 (.tmp 1) rfl g5 0 rfl (addrCs addr) _ HR2.out Try.underlying27 rfl Hs2.out ?_)
          | (refine wpList_eqs_g (by rfl) 27 27 (.tmp 7) (.tmp 8) rfl (addrCs v.1).toArray (addrCs addr).toArray rfl rfl addr_guard true He.out ?_))
      go_ret
      exact ⟨by unfold vipIs; rw [H1.out, H2.out]; rfl, HB.out⟩
    · have H2 := Lib.hid h2
      rcases h3 : (v.2.2.1 == port) with _ | _
      · have H3 := Lib.hid h3
        go_enter Try.func33, Try.ntmps33
        go_upto_region 1 with fail
        rw [← HW.out]
        go_wp2_with
          (first
            | (refine wpList_load_g (by rfl) 27 (.tmp 6) rfl w.heap.size 0 rfl (addrCs v.1) _ HR1.out Try.underlying27 rfl Hs1.out ?_)
            | (refine wpList_load_g (by rfl) 27 (.tmp 1) rfl g5 0 rfl (addrCs addr) _ HR2.out Try.underlying27 rfl Hs2.out ?_)
            | (refine wpList_eqs_g (by rfl) 27 27 (.tmp 7) (.tmp 8) rfl (addrCs v.1).toArray (addrCs addr).toArray rfl rfl addr_guard true He.out ?_))
        go_ret
        exact ⟨by unfold vipIs; rw [H1.out, H2.out, H3.out]; rfl, HB.out⟩
      · have H3 := Lib.hid h3
        go_enter Try.func33, Try.ntmps33
        go_upto_region 1 with fail
        rw [← HW.out]
        go_wp2_with
          (first
            | (refine wpList_load_g (by rfl) 27 (.tmp 6) rfl w.heap.size 0 rfl (addrCs v.1) _ HR1.out Try.underlying27 rfl Hs1.out ?_)
            | (refine wpList_load_g (by rfl) 27 (.tmp 1) rfl g5 0 rfl (addrCs addr) _ HR2.out Try.underlying27 rfl Hs2.out ?_)
            | (refine wpList_eqs_g (by rfl) 27 27 (.tmp 7) (.tmp 8) rfl (addrCs v.1).toArray (addrCs addr).toArray rfl rfl addr_guard true He.out ?_))
        go_ret
        exact ⟨by unfold vipIs; rw [H1.out, H2.out, H3.out]; rfl, HB.out⟩
end Go.Proofs.Ytmkeljcjhcaigaa

/- A row of Vips that is read; the place of the one that is sought. -/
namespace Go.Proofs.Ytmkeljcjhcaigaa
open Go.RowKit
set_option linter.unusedVariables false

/-- The slice value '.slice A vs.length _' reads, in world w and below block B, as the Vips. -/
def VS (w : World) (B : Nat) (A : Option Addr) (vs : List VipP) : Prop :=
  0 < vs.length → ∃ b o, A = some ⟨b, o, none⟩ ∧ b < B ∧ ∀ j v, vs[j]? = some v → w.rangeAt b (o + j * 20) (vipCs v)
section
variable {w w' : World} {B B' : Nat} {A : Option Addr} {vs : List VipP}
theorem VS.keep (h : VS w B A vs) (hk : ∀ p : Addr, p.block < B → w'.cell? p = w.cell? p) : VS w' B A vs := fun hn => by
  obtain ⟨b, o, e, hb, hc⟩ := h hn
  exact ⟨b, o, e, hb, fun j v hj i c hi => (hk ⟨b, _, none⟩ hb).trans (hc j v hj i c hi)⟩
theorem VS.more (h : VS w B A vs) (hB : B ≤ B') : VS w B' A vs := fun hn => by
  obtain ⟨b, o, e, hb, hc⟩ := h hn
  exact ⟨b, o, e, by omega, hc⟩
theorem VS.below (h : VS w B A vs) (hb : Below B w w') : VS w' B A vs := h.keep fun _ hp => hb.cell hp
theorem VS.take (h : VS w B A vs) (k : Nat) : VS w B A (vs.take k) := fun hn => by
  obtain ⟨b, o, e, hb, hc⟩ := h (by rw [List.length_take] at hn; omega)
  refine ⟨b, o, e, hb, fun j v hj => hc j v ?_⟩
  rw [List.getElem?_take] at hj
  split at hj
  · exact hj
  · cases hj
end

/-- The place of the first Vip that is alike. -/
def vipIdx (addr : AddrP) (proto port : Int) (vs : List VipP) : Int := match vs.findIdx? (vipIs addr proto port) with | some i => (i : Int) | none => -1

set_option maxHeartbeats 1600000 in
set_option maxRecDepth 100000 in
theorem idxVip_any (A : Option Addr) (n c : Nat) (vs : List VipP) (hv : ∀ v ∈ vs, addrOk v.1) (addr : AddrP) (ha : addrOk addr) (proto port : Int) (g5 g6 g7 : Nat) (w : World) (B : Nat) (hB : B ≤ w.heap.size) (hn : n = vs.length) (hb : VS w B A vs) (hl : n ≤ 1000000)
    (h5 : Blk w g5 27 (addrCs addr).toArray) (h6 : w.cell? ⟨g6, 0, none⟩ = some (.int .i64 proto)) (h7 : w.cell? ⟨g7, 0, none⟩ = some (.int .i64 port)) :
    Calls Try.prog 32 #[.slice A n c, .func (.func 33) #[] #[.pointer (some ⟨g5, 0, none⟩), .pointer (some ⟨g6, 0, none⟩), .pointer (some ⟨g7, 0, none⟩)]] w fun e w' => e = .returned (.int .i64 (vipIdx addr proto port vs)) ∧ Below w.heap.size w w' := by
  subst hn
  have HV := Lib.hid hb
  have Hok := Lib.hid hv
  have H5 := Lib.hid h5
  have H6 := Lib.hid h6
  have H7 := Lib.hid h7
  clear hb hv h5 h6 h7
  go_enter Try.func32, Try.ntmps32
  go_wp2
  go_loopw [8] (fun i wr => ∃ k : Nat, k ≤ vs.length ∧ i = .int .i64 (k : Int) ∧ Hid (Below w.heap.size w wr) ∧ Hid (∀ j v, j < k → vs[j]? = some v → vipIs addr proto port v = false)) (fun i _ => vs.length - (intOf i).toNat)
  case atStart => exact ⟨0, by omega, rfl, Below.refl _ _, fun j v hj => by omega⟩
  case round =>
    obtain ⟨k, hk, rfl, hbel, hat⟩ := hrel
    by_cases hlt : k < vs.length
    · have hltI : (k : Int) < (vs.length : Int) := by omega
      have hk0 : (0 : Int) ≤ (k : Int) := by omega
      obtain ⟨b, o, hA, hbB, hc⟩ := (HV.out.below (hbel.out.mono hB)) (by omega)
      subst hA
      obtain ⟨x, hx⟩ : ∃ x, x = vs[k] := ⟨_, rfl⟩
      have hrg := hc k x (by rw [List.getElem?_eq_getElem hlt, hx])
      have hxo : addrOk x.1 := Hok.out x (by rw [hx]; exact List.getElem_mem hlt)
      have Hrg := Lib.hid hrg
      have Hsz := Lib.hid (vip_sz hxo)
      have Hx := Lib.hid hx
      clear hc hrg hx
      go_wp2_with (first | (refine wpList_load_g (by rfl) 33 (.tmp 14) rfl b (o + k * 20) rfl (vipCs x) _ Hrg.out Try.underlying33 rfl Hsz.out ?_))
      have hbw := hbel.out
      refine (vipF_any x hxo addr ha proto port g5 g6 g7 wr (Blk.below H5.out hbw H5.out.lt) ((hbw.cell (p := ⟨g6, 0, none⟩) (World.block_lt_of_cell? w _ H6.out)).trans H6.out) ((hbw.cell (p := ⟨g7, 0, none⟩) (World.block_lt_of_cell? w _ H7.out)).trans H7.out)).mono ?_
      rintro e w2 ⟨rfl, hb2⟩
      have Hb2 : Hid (Below w.heap.size w w2) := hbw.trans (hb2.mono hbw.size)
      clear hbw hb2
      rcases hz : vipIs addr proto port x with _ | _
      · have Hat2 : Hid (∀ j v, j < k + 1 → vs[j]? = some v → vipIs addr proto port v = false) := fun j v hj hjv => by
          rcases Nat.lt_or_ge j k with h1 | h1
          · exact hat.out j v h1 hjv
          · obtain rfl : j = k := by omega
            rw [List.getElem?_eq_getElem hlt, ← Hx.out] at hjv
            injection hjv with hjv
            rw [← hjv]
            exact hz
        clear hz hat
        go_wp2
        go_roundw
        case rel => exact ⟨k + 1, by omega, by go_num, Hb2, Hat2⟩
        case measure => simp [intOf]; omega
      · have Hr : Hid (vipIdx addr proto port vs = (k : Int)) := by
          show _ = _
          have hf : vs.findIdx? (vipIs addr proto port) = some k := by
            rw [List.findIdx?_eq_some_iff_getElem]
            refine ⟨hlt, by rw [← Hx.out]; exact hz, fun j hj => ?_⟩
            rw [hat.out j _ hj (List.getElem?_eq_getElem (Nat.lt_trans hj hlt))]
            simp
          unfold vipIdx
          rw [hf]
        clear hz hat
        go_wp2
        go_ret
        exact ⟨by rw [Hr.out]; rfl, Hb2.out⟩
    · have hltI : ¬ (k : Int) < (vs.length : Int) := by omega
      go_wp2
      have Hr : Hid (vipIdx addr proto port vs = -1) := by
        show _ = _
        have hf : vs.findIdx? (vipIs addr proto port) = none := by
          rw [List.findIdx?_eq_none_iff]
          intro v hv
          obtain ⟨j, hj, rfl⟩ := List.getElem_of_mem hv
          exact hat.out j _ (by omega) (List.getElem?_eq_getElem hj)
        unfold vipIdx
        rw [hf]
      go_ret
      exact ⟨by rw [Hr.out]; rfl, hbel.out⟩
end Go.Proofs.Ytmkeljcjhcaigaa

/- A result that lies in a block as a whole, and one in a slot beside it; the Vip that is none. -/
namespace Go.Proofs.Ytmkeljcjhcaigaa
open Go.RowKit
set_option linter.unusedVariables false

section
variable {P : Program}
theorem results_row_tmp {fn : Func} {p u : Tmp} {ty : TypeId} (h : fn.results = #[.cell p ty, .tmp u]) (tmps : Array Value) (w : World) (g : Nat) (t : TypeId) (cs : Array Value) (fr : Nat × Nat) (d : TypeDesc)
    (hp : tmps.getD p undef = .pointer (some ⟨g, 0, none⟩)) (hg : w.heap[g]? = some (.cells cs t fr))
    (hu : P.underlying ty = some d) (hd : (match d with | .struct _ | .array _ _ => true | _ => false) = true) (hi : (P.info? ty).map (·.size) = some cs.size) :
    (results fn tmps).run P w = .ok (.tuple #[.agg cs, tmps.getD u undef]) w := by
  rw [results_cell_tmp h, hp]
  simp [asAddr, run_loadVar_row w g t ty cs fr d hg hu hd hi]
end

/-- The address, and the Vip, that are none. -/
def addr0 : AddrP := (false, List.replicate 16 0)
def vip0 : VipP := (addr0, 0, 0, false)
theorem addr0_ok : addrOk addr0 := rfl
theorem addr0_cs : addrCs addr0 = .bool false :: List.replicate 16 (.int .u8 0) := rfl
theorem vip0_cs : vipCs vip0 = (.bool false :: List.replicate 16 (.int .u8 0)) ++ [.int .i64 0, .int .i64 0, .bool false] := rfl
/-- The whole of a block stored anew. -/
theorem Blk.setCells_all {w : World} {g : Nat} {t : TypeId} {cs cs' : Array Value} (h : Blk w g t cs) (hl : cs'.size = cs.size) : Blk (w.setRow g cs') g t cs' := Blk.row h cs'
end Go.Proofs.Ytmkeljcjhcaigaa

/- conf.Vip. -/
namespace Go.Proofs.Ytmkeljcjhcaigaa
open Go.RowKit
set_option linter.unusedVariables false

theorem vip0_lit : (vipCs vip0).toArray = (#[.bool false, .int .u8 0, .int .u8 0, .int .u8 0, .int .u8 0, .int .u8 0, .int .u8 0, .int .u8 0, .int .u8 0, .int .u8 0, .int .u8 0, .int .u8 0, .int .u8 0, .int .u8 0, .int .u8 0, .int .u8 0, .int .u8 0, .int .i64 0, .int .i64 0, .bool false] : Array Value) := rfl
theorem vip_one (v : VipP) : (vipCs v).toArray.all (·.oneCell') = true := all_oneCell_toArray (by
  intro u hu
  rw [vipCs, addrCs, List.cons_append] at hu
  refine all_one_addr _ _ _ ?_ u hu
  intro x hx
  simp only [List.mem_cons, List.mem_nil_iff, or_false] at hx
  rcases hx with rfl | rfl | rfl <;> rfl)
/-- What is found: the Vip, and that there is one. -/
def vipFind (addr : AddrP) (proto port : Int) (vs : List VipP) : VipP × Bool := match vs.findIdx? (vipIs addr proto port) with | some i => (vs[i]?.getD vip0, true) | none => (vip0, false)

set_option maxHeartbeats 1600000 in
set_option maxRecDepth 100000 in
theorem vip_any (cs : Array Value) (A : Option Addr) (n c : Nat) (hcs : cs[0]? = some (.slice A n c)) (vs : List VipP) (hv : ∀ v ∈ vs, addrOk v.1) (addr : AddrP) (ha : addrOk addr) (proto port : Int) (w : World) (hn : n = vs.length) (hb : VS w w.heap.size A vs) (hl : n ≤ 1000000) :
    Calls Try.prog 12 #[.agg cs, addrV addr, .int .i64 proto, .int .i64 port] w fun e w' => e = .returned (.tuple #[vipV (vipFind addr proto port vs).1, .bool (vipFind addr proto port vs).2]) ∧ Below w.heap.size w w' := by
  subst hn
  unfold addrV
  have HV := Lib.hid hb
  have Hok := Lib.hid hv
  have Hcs := Lib.hid hcs
  clear hb hv hcs
  obtain ⟨W, hW⟩ : ∃ W, W = ((((w.alloc (.cells cs 29)).alloc (.cells (addrCs addr).toArray 27)).alloc (.cells #[.int .i64 proto] 3)).alloc (.cells #[.int .i64 port] 3)).alloc (.cells #[.bool false, .int .u8 0, .int .u8 0, .int .u8 0, .int .u8 0, .int .u8 0, .int .u8 0, .int .u8 0, .int .u8 0, .int .u8 0, .int .u8 0, .int .u8 0, .int .u8 0, .int .u8 0, .int .u8 0, .int .u8 0, .int .u8 0, .int .i64 0, .int .i64 0, .bool false] 33) := ⟨_, rfl⟩
  have hX4 : Blk W w.heap.size 29 cs := by rw [hW]; exact Blk.alloc (Blk.alloc (Blk.alloc (Blk.alloc (Blk.new w _ _ _ rfl) _) _) _) _
  have hX5 : Blk W (w.heap.size + 1) 27 (addrCs addr).toArray := by rw [hW]; exact Blk.alloc (Blk.alloc (Blk.alloc (Blk.new _ _ _ _ (by simp)) _) _) _
  have hX6 : Blk W (w.heap.size + 1 + 1) 3 #[.int .i64 proto] := by rw [hW]; exact Blk.alloc (Blk.alloc (Blk.new _ _ _ _ (by simp)) _) _
  have hX7 : Blk W (w.heap.size + 1 + 1 + 1) 3 #[.int .i64 port] := by rw [hW]; exact Blk.alloc (Blk.new _ _ _ _ (by simp)) _
  have hX8 : Blk W (w.heap.size + 1 + 1 + 1 + 1) 33 (vipCs vip0).toArray := by rw [hW, vip0_lit]; exact Blk.new _ _ _ _ (by simp)
  have hB : Below w.heap.size w W := by rw [hW]; exact (((((Below.refl _ _).alloc (Nat.le_refl _) _).alloc (by simp) _).alloc (by simp; omega) _).alloc (by simp; omega) _).alloc (by simp; omega) _
  have c4 : W.cell? ⟨w.heap.size, 0, none⟩ = some (.slice A vs.length c) := (hX4.cell 0).trans Hcs.out
  have Hidx := Lib.hid (idxVip_any A _ c vs Hok.out addr ha proto port (w.heap.size + 1) (w.heap.size + 1 + 1) (w.heap.size + 1 + 1 + 1) W w.heap.size hB.size rfl (HV.out.below hB) hl hX5 (hX6.cell 0) (hX7.cell 0))
  have HX4 := Lib.hid hX4
  have HX8 := Lib.hid hX8
  have HB := Lib.hid hB
  have HW := Lib.hid hW
  clear hW hX4 hX5 hX6 hX7 hX8 hB
  rcases hf : vs.findIdx? (vipIs addr proto port) with _ | i
  · have hidx : vipIdx addr proto port vs = -1 := by unfold vipIdx; rw [hf]
    have hfind : vipFind addr proto port vs = (vip0, false) := by unfold vipFind; rw [hf]
    rw [hidx] at Hidx
    rw [hfind]
    clear hf hidx hfind
    go_enter Try.func12, Try.ntmps12
    go_upto_region 1 with fail
    rw [← HW.out]
    go_wp2_with fail
    refine Hidx.out.mono ?_
    rintro e w1 ⟨rfl, hb1⟩
    have hX8 := Blk.below HX8.out hb1 HX8.out.lt
    have Hth : Hid (w1.there (w.heap.size + 1 + 1 + 1 + 1) 0 20) := hX8.there (by rw [vip0_lit]; decide)
    have HX8' := Lib.hid hX8
    have HB1 : Hid (Below w.heap.size w w1) := HB.out.trans (hb1.mono HB.out.size)
    clear hX8 hb1
    go_wp2_with (first | (refine wpList_store_mid rfl 33 (.tmp 8) (.tmp 17) rfl (w.heap.size + 1 + 1 + 1 + 1) 0 (vipCs vip0).toArray rfl rfl Hth.out vip_size (vip_one vip0) ?_))
    have hX9 := Blk.setCells (vipCs vip0) 0 HX8'.out
    rw [setL_whole rfl] at hX9
    refine bodyPost_ret (v := .tuple #[vipV vip0, .bool false]) (results_row_tmp (P := Try.prog) (p := 8) (u := 9) rfl _ _ (w.heap.size + 1 + 1 + 1 + 1) _ _ _ _ rfl hX9 vip_under rfl (vip_sz addr0_ok)) rfl ⟨rfl, below_setCells (by omega) _ _ HB1.out⟩
  · have hidx : vipIdx addr proto port vs = (i : Int) := by unfold vipIdx; rw [hf]
    have hlt : i < vs.length := (List.findIdx?_eq_some_iff_getElem.1 hf).1
    have hltI : (i : Int) < (vs.length : Int) := by omega
    have hi0 : (0 : Int) ≤ (i : Int) := by omega
    obtain ⟨x, hx⟩ : ∃ x, x = vs[i] := ⟨_, rfl⟩
    have hxo : addrOk x.1 := Hok.out x (by rw [hx]; exact List.getElem_mem hlt)
    have hfind : vipFind addr proto port vs = (x, true) := by unfold vipFind; rw [hf]; simp only [List.getElem?_eq_getElem hlt, ← hx, Option.getD_some]
    obtain ⟨b, o, hA, hbB, hc⟩ := HV.out (by omega)
    have hrg := hc i x (by rw [List.getElem?_eq_getElem hlt, hx])
    subst hA
    rw [hidx] at Hidx
    rw [hfind]
    have Hrg := Lib.hid hrg
    have Hsz := Lib.hid (vip_sz hxo)
    have hnl : ¬ (i : Int) < 0 := by omega
    clear hf hidx hfind hx hc hrg
    go_enter Try.func12, Try.ntmps12
    go_upto_region 1 with fail
    rw [← HW.out]
    go_wp2_with fail
    refine Hidx.out.mono ?_
    rintro e w1 ⟨rfl, hb1⟩
    have hX8 := Blk.below HX8.out hb1 HX8.out.lt
    have hX4 := Blk.below HX4.out hb1 HX4.out.lt
    have c5 : w1.cell? ⟨w.heap.size, 0, none⟩ = some (.slice (some ⟨b, o, none⟩) vs.length c) := (hX4.cell 0).trans Hcs.out
    have Hth : Hid (w1.there (w.heap.size + 1 + 1 + 1 + 1) 0 (vipCs x).toArray.size) := hX8.there (by rw [vip0_lit, List.size_toArray, vipCs_length hxo]; decide)
    have HX8' := Lib.hid hX8
    have HB1 : Hid (Below w.heap.size w w1) := HB.out.trans (hb1.mono HB.out.size)
    have Hrg1 : Hid (w1.rangeAt b (o + i * 20) (vipCs x)) := fun j u hj => (HB1.out.cell (p := ⟨b, _, none⟩) hbB).trans (Hrg.out j u hj)
    clear hX8 hX4 hb1
    go_wp2_with (first
      | (refine wpList_load_g (by rfl) 33 (.tmp 21) rfl b (o + i * 20) rfl (vipCs x) _ Hrg1.out Try.underlying33 rfl Hsz.out ?_)
      | (refine wpList_store_mid rfl 33 (.tmp 8) (.tmp 22) rfl (w.heap.size + 1 + 1 + 1 + 1) 0 (vipCs x).toArray rfl rfl Hth.out Hsz.out (vip_one x) ?_))
    have hX9 := Blk.setCells (vipCs x) 0 HX8'.out
    rw [setL_whole (by rw [vipCs_length hxo]; rfl)] at hX9
    refine bodyPost_ret (v := .tuple #[vipV x, .bool true]) (results_row_tmp (P := Try.prog) (p := 8) (u := 9) rfl _ _ (w.heap.size + 1 + 1 + 1 + 1) _ _ _ _ rfl hX9 vip_under rfl (vip_sz hxo)) rfl ⟨rfl, below_setCells (by omega) _ _ HB1.out⟩
end Go.Proofs.Ytmkeljcjhcaigaa

/- Numbers that a config has: one read; many laid. -/
namespace Go.Proofs.Ytmkeljcjhcaigaa
open Go.RowKit
set_option linter.unusedVariables false

/-- A number that is read, no greater one than a config has. -/
def numberS (l : List UInt8) (s : St) : St × Nat := ((varS l s).1, min (varS l s).2 1048577)

set_option maxHeartbeats 800000 in
set_option maxRecDepth 100000 in
theorem number_any (base g : Nat) (l : List UInt8) (s : St) (w : World) (h : RdW w base g l s) (hs : okS l s) (hl : l.length ≤ 1000000000) :
    Calls Try.prog 45 #[.pointer (some ⟨g, 0, none⟩)] w fun x w' => x = .returned (.int .i64 ((numberS l s).2 : Int)) ∧ RdW w' base g l (numberS l s).1 ∧ w.grownBy w' (some g) := by
  have H := Lib.hid (rdVar_any base g l s w h hs hl)
  unfold numberS
  clear h hs
  rcases hv : varS l s with ⟨s2, v⟩
  rw [hv] at H
  by_cases hle : v ≤ 1048577
  · have hm : min v 1048577 = v := Nat.min_eq_left hle
    have hmI : min (v : Int) 1048577 = (v : Int) := by omega
    have hw : IntKind.i64.wrap (v : Int) = (v : Int) := IntWalk.i64_in _ (by omega)
    rw [hm]
    clear hm hv
    go_enter Try.func45, Try.ntmps45
    go_wp2_with fail
    refine H.out.mono ?_
    rintro e w1 ⟨rfl, hR, hg⟩
    have HR := Lib.hid hR
    have Hg := Lib.hid hg
    clear hR hg
    go_wp2
    go_ret
    exact ⟨rfl, HR.out, Hg.out⟩
  · have hm : min v 1048577 = 1048577 := Nat.min_eq_right (by omega)
    have hmI : min (v : Int) 1048577 = 1048577 := by omega
    rw [hm]
    clear hm hv
    go_enter Try.func45, Try.ntmps45
    go_wp2_with fail
    refine H.out.mono ?_
    rintro e w1 ⟨rfl, hR, hg⟩
    have HR := Lib.hid hR
    have Hg := Lib.hid hg
    clear hR hg
    go_wp2
    go_ret
    exact ⟨rfl, HR.out, Hg.out⟩

/-- The varints of numbers, one behind the other. -/
def vputs : List Nat → List UInt8
  | [] => []
  | n :: ns => vput n ++ vputs ns
theorem vputs_append (a b : List Nat) : vputs (a ++ b) = vputs a ++ vputs b := by
  induction a with
  | nil => rfl
  | cons x xs ih => simp [vputs, ih]
theorem vputs_le {ns : List Nat} (h : ∀ n ∈ ns, n < 18446744073709551616) : (vputs ns).length ≤ 10 * ns.length := by
  induction ns with
  | nil => simp [vputs]
  | cons x xs ih =>
    have h1 := vput_le (h x (by simp))
    have h2 := ih (fun n hn => h n (by simp [hn]))
    simp [vputs]
    omega

/-- The slice that begins at ad reads as these numbers. -/
def NS (w : World) (ad : Addr) (ns : List Nat) : Prop := ∀ (j n : Nat), ns[j]? = some n → w.cell? (ad.add j) = some (.int .i64 (n : Int))
theorem putN_own (n : Nat) (w : World) (hn : n < 18446744073709551616) :
    Calls Try.prog 53 #[.int .u64 (n : Int)] w fun e w' => ∃ A c, e = .returned (.slice A (vput n).length c) ∧ w'.ownsRow w.heap.size 5 1 (.slice A (vput n).length c) (vput n).length (bcells (vput n)) ∧ Below w.heap.size w w' :=
  (put_any n w n rfl hn).mono fun e w' ⟨v, h1, h2, h3⟩ => by
    obtain ⟨A, c, rfl, _⟩ := own_slice h2
    exact ⟨A, c, h1, h2, h3⟩

theorem own_flatN (A : Option Addr) (n c : Nat) : (Value.slice A n c).ownBlock = (Value.slice A 0 0).ownBlock := by cases A <;> rfl
/-- What holds in the loop that lays numbers: k of them are laid behind m. -/
def NumsAt (w wr : World) (base : Nat) (row : Option Nat) (A : Option Addr) (c : Nat) (m : List UInt8) (ns : List Nat) (k : Nat) : Prop :=
  wr.ownsRow base 5 1 (.slice A (m ++ vputs (ns.take k)).length c) (m ++ vputs (ns.take k)).length (bcells (m ++ vputs (ns.take k))) ∧ Below base w wr ∧
    w.grownBy wr row ∧ ((Value.slice A 0 0).ownBlock = row ∨ ∃ g, (Value.slice A 0 0).ownBlock = some g ∧ w.heap.size ≤ g)

set_option maxHeartbeats 1600000 in
set_option maxRecDepth 100000 in
theorem numbers_own (base : Nat) (A : Option Addr) (c : Nat) (m : List UInt8) (ad : Addr) (k cap : Nat) (ns : List Nat) (w : World) (hk : k = ns.length) (hown : w.ownsRow base 5 1 (.slice A m.length c) m.length (bcells m)) (hns : NS w ad ns) (hlt : ad.block < w.heap.size)
    (hne : (Value.slice A 0 0).ownBlock ≠ some ad.block) (hn64 : ∀ n ∈ ns, n < 9223372036854775808) (hml : m.length ≤ 1000000) (hnl : ns.length ≤ 1000) (hbase : base ≤ w.heap.size) :
    Calls Try.prog 43 #[.slice A m.length c, .slice (some ad) k cap] w fun e w' => ∃ A' c', e = .returned (.slice A' (m ++ vputs ns).length c') ∧ w'.ownsRow base 5 1 (.slice A' (m ++ vputs ns).length c') (m ++ vputs ns).length (bcells (m ++ vputs ns)) ∧ Below base w w' ∧
      w.grownBy w' (Value.slice A 0 0).ownBlock := by
  subst hk
  obtain ⟨i0, hi0, hz0, hz1, hz2⟩ := info_parts u8_infoO
  have Hns := Lib.hid hns
  have H64 := Lib.hid hn64
  have Hne := Lib.hid hne
  have Hat0 : Hid (NumsAt w w base (Value.slice A 0 0).ownBlock A c m ns 0) := ⟨by simpa [vputs] using hown, Below.refl _ _, World.grownBy.refl _ _, .inl rfl⟩
  clear hns hn64 hne hown
  go_enter Try.func43, Try.ntmps43
  go_wp2_with fail
  go_loopw [0, 9] (fun v i wr => ∃ (j : Nat) (A' : Option Addr) (c' : Nat), j ≤ ns.length ∧ i = .int .i64 (j : Int) ∧ v = .slice A' (m ++ vputs (ns.take j)).length c' ∧ Hid (NumsAt w wr base (Value.slice A 0 0).ownBlock A' c' m ns j)) (fun _ i _ => ns.length - (intOf i).toNat)
  case atStart => exact ⟨0, A, c, by omega, rfl, by simp [vputs], Hat0⟩
  case round =>
    obtain ⟨j, A', c', hj, rfl, rfl, hat⟩ := hrel
    by_cases hlt2 : j < ns.length
    · have hltI : (j : Int) < (ns.length : Int) := by omega
      have hj0 : (0 : Int) ≤ (j : Int) := by omega
      obtain ⟨hown, hbel, hcell, hob⟩ := hat.out
      have hx64 := H64.out _ (List.getElem_mem hlt2)
      obtain ⟨x, hx⟩ : ∃ x, x = ns[j] := ⟨_, rfl⟩
      rw [← hx] at hx64
      have hc : wr.cell? (ad.add j) = some (.int .i64 (x : Int)) := by
        rw [World.cell?_of_block (hcell.block (ad.add j).block (by rw [block_of_add]; exact hlt) (by rw [block_of_add]; exact fun e => Hne.out e.symm))]
        exact Hns.out j x (by rw [List.getElem?_eq_getElem hlt2, hx])
      have hwx : IntKind.u64.wrap (x : Int) = (x : Int) := by simp [IntKind.wrap, IntKind.bits, IntKind.signed]; omega
      obtain ⟨m2, hm2⟩ : ∃ m2, m2 = m ++ vputs (ns.take j) := ⟨_, rfl⟩
      have hm3 : m ++ vputs (ns.take (j + 1)) = m2 ++ vput x := by
        rw [List.take_add_one, List.getElem?_eq_getElem hlt2, ← hx, vputs_append, hm2, List.append_assoc]
        simp [vputs]
      have hm2l : m2.length ≤ 1010000 := by
        rw [hm2, List.length_append]
        have := vputs_le (ns := ns.take j) (fun n hn => by have := H64.out n (List.mem_of_mem_take hn); omega)
        rw [List.length_take] at this
        omega
      have hvl := vput_le (n := x) (by omega)
      rw [← hm2] at hown ⊢
      have Hown := Lib.hid hown
      have Hm3 := Lib.hid hm3
      have hsz : w.heap.size ≤ wr.heap.size := hbel.size
      have Hbel := Lib.hid hbel
      have Hcell := Lib.hid hcell
      have Hob := Lib.hid hob
      clear hown hbel hcell hob hx hm2 hm3 hat
      go_wp2_with fail
      refine (putN_own x wr (by omega)).mono ?_
      rintro e w2 ⟨A2, c2, rfl, hown2, hb2⟩
      have Hown2 := Lib.hid (own_below Hown.out hb2)
      have HB2 := Lib.hid (BS.of_own hown2).1
      have Hb2 := Lib.hid hb2
      clear hown2 hb2
      go_wp2_with (at_builtin; refine wpList_append_bytes _ rfl _ _ 40 rfl base 5 i0 (.int .u8 0) 1 Try.underlying40 hi0 hz0 hz1 hz2 rfl (.slice A' m2.length c') m2 rfl Hown2.out _ A2 _ c2 (vput x) rfl rfl HB2.out (by unfold maxLen; omega) (by omega) (Nat.le_trans hbase (Nat.le_trans hsz Hb2.out.size)) ?_; intro A5 c5 w5 hown5 hg5 hob5)
      have Hat2 : Hid (NumsAt w w5 base (Value.slice A 0 0).ownBlock A5 c5 m ns (j + 1)) := by
        refine ⟨by rw [Hm3.out]; exact hown5, (Hbel.out.trans (Hb2.out.mono (Nat.le_trans hbase hsz))).grown hg5 (Nat.le_trans hbase (Nat.le_trans hsz Hb2.out.size)) (fun k hk => (Hown2.out.lt k hk).1), ?_, ?_⟩
        · have h12 := grownTrans Hcell.out (grownOf (row := (Value.slice A 0 0).ownBlock) Hb2.out)
          refine ⟨hg5.os.trans h12.os, hg5.tape.trans h12.tape, hg5.output.trans h12.output, Nat.le_trans h12.size hg5.size, fun k hk hne => ?_⟩
          refine (hg5.block k (Nat.lt_of_lt_of_le hk h12.size) ?_).trans (h12.block k hk hne)
          rw [own_flatN]
          rcases Hob.out with h | ⟨g, h, hg⟩
          · rw [h]; exact hne
          · rw [h]; intro e; injection e with e; omega
        · rw [← own_flatN A5 (m2 ++ vput x).length c5]
          rcases hob5 with h | h
          · rw [h, own_flatN]; exact Hob.out
          · exact .inr ⟨_, h, Nat.le_trans hsz Hb2.out.size⟩
      have Hlen : Hid ((m ++ vputs (ns.take (j + 1))).length = m2.length + (vput x).length) := by show _ = _; rw [Hm3.out, List.length_append]
      clear hown5 hg5 hob5 Hown2 HB2 Hb2 Hob Hcell Hbel Hown
      go_roundw
      case rel => exact ⟨j + 1, A5, c5, by omega, by go_num, by rw [Hlen.out], Hat2⟩
      case measure => simp [intOf]; omega
    · have hltI : ¬ (j : Int) < (ns.length : Int) := by omega
      have hjn : ns.take j = ns := List.take_of_length_le (by omega)
      obtain ⟨h1, h2, h3, _⟩ := hat.out
      rw [hjn, List.length_append] at h1
      rw [hjn]
      have H1 := Lib.hid h1
      have H2 := Lib.hid h2
      have H3 := Lib.hid h3
      clear hjn h1 h2 h3 hat
      go_wp2
      go_ret
      exact ⟨A', c', rfl, H1.out, H2.out, H3.out⟩
end Go.Proofs.Ytmkeljcjhcaigaa
