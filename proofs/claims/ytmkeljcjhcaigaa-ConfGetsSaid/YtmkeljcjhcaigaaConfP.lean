/- A config, as plain data: its cells, whether it is right, whether two are alike, its bytes. No program in sight. -/
import Derived.Test.YtmkeljcjhcaigaaK3
import Derived.Test.YtmkeljcjhcaigaaPrime
namespace Go.Proofs.Ytmkeljcjhcaigaa
open Go.RowKit
set_option linter.unusedVariables false

structure ConfP where
  vips : List VipP
  size : Int
  room : Int
  idle : List Int
  rise : Int
  fall : Int
  mac : List UInt8
  four : AddrP
  six : AddrP
  most : Int
  keep : Int
  batch : Int

def iv (n : Int) : Value := .int .i64 n
/-- The cells behind the Vips. -/
def confTail (f : ConfP) : List Value :=
  iv f.size :: iv f.room :: (f.idle.map iv ++ (iv f.rise :: iv f.fall :: (bcells f.mac ++ (addrCs f.four ++ (addrCs f.six ++ [iv f.most, iv f.keep, iv f.batch])))))
def confCs (A : Option Addr) (n c : Nat) (f : ConfP) : List Value := .slice A n c :: confTail f
def confV (A : Option Addr) (n c : Nat) (f : ConfP) : Value := .agg (confCs A n c f).toArray

/-- What a config's parts have of cells. -/
structure ConfShape (f : ConfP) : Prop where
  vips : ∀ v ∈ f.vips, addrOk v.1
  idle : f.idle.length = 6
  mac : f.mac.length = 6
  four : addrOk f.four
  six : addrOk f.six

section
variable {A : Option Addr} {n c : Nat} {f : ConfP}
theorem conf_len (h : ConfShape f) : (confCs A n c f).length = 54 := by
  simp [confCs, confTail, h.idle, bcells_length, h.mac, addrCs_length h.four, addrCs_length h.six]
theorem conf_idle (h : ConfShape f) {k : Nat} (hk : k < 6) : (confCs A n c f)[3 + k]? = (f.idle[k]?).map iv := by
  have hi := h.idle
  rw [show 3 + k = (k + 2) + 1 by omega, confCs, List.getElem?_cons_succ, confTail, List.getElem?_cons_succ, List.getElem?_cons_succ, List.getElem?_append_left (by simp; omega), List.getElem?_map]
theorem conf_rise (h : ConfShape f) (k : Nat) : (confCs A n c f)[9 + k]? = (iv f.rise :: iv f.fall :: (bcells f.mac ++ (addrCs f.four ++ (addrCs f.six ++ [iv f.most, iv f.keep, iv f.batch]))))[k]? := by
  have hi := h.idle
  rw [show 9 + k = (6 + k + 2) + 1 by omega, confCs, List.getElem?_cons_succ, confTail, List.getElem?_cons_succ, List.getElem?_cons_succ, List.getElem?_append_right (by simp; omega)]
  simp [hi]
theorem conf_mac (h : ConfShape f) {k : Nat} (hk : k < 6) : (confCs A n c f)[11 + k]? = (bcells f.mac)[k]? := by
  have := conf_rise (A := A) (n := n) (c := c) h (k + 2)
  rw [show 11 + k = 9 + (k + 2) by omega, this, List.getElem?_cons_succ, List.getElem?_cons_succ, List.getElem?_append_left (by rw [bcells_length, h.mac]; exact hk)]
theorem conf_addrs (h : ConfShape f) (k : Nat) : (confCs A n c f)[17 + k]? = (addrCs f.four ++ (addrCs f.six ++ [iv f.most, iv f.keep, iv f.batch]))[k]? := by
  have := conf_rise (A := A) (n := n) (c := c) h (k + 8)
  rw [show 17 + k = 9 + (k + 8) by omega, this, show k + 8 = (k + 6 + 1) + 1 by omega, List.getElem?_cons_succ, List.getElem?_cons_succ, List.getElem?_append_right (by rw [bcells_length, h.mac]; omega), bcells_length, h.mac]
  simp
theorem conf_four (h : ConfShape f) {k : Nat} (hk : k < 17) : (confCs A n c f)[17 + k]? = (addrCs f.four)[k]? := by
  rw [conf_addrs h, List.getElem?_append_left (by rw [addrCs_length h.four]; exact hk)]
theorem conf_six (h : ConfShape f) {k : Nat} (hk : k < 17) : (confCs A n c f)[34 + k]? = (addrCs f.six)[k]? := by
  have := conf_addrs (A := A) (n := n) (c := c) h (17 + k)
  rw [show 34 + k = 17 + (17 + k) by omega, this, List.getElem?_append_right (by rw [addrCs_length h.four]; omega), addrCs_length h.four, List.getElem?_append_left (by rw [addrCs_length h.six]; omega)]
  simp
theorem conf_last (h : ConfShape f) (k : Nat) : (confCs A n c f)[51 + k]? = [iv f.most, iv f.keep, iv f.batch][k]? := by
  have := conf_addrs (A := A) (n := n) (c := c) h (34 + k)
  rw [show 51 + k = 17 + (34 + k) by omega, this, List.getElem?_append_right (by rw [addrCs_length h.four]; omega), addrCs_length h.four, List.getElem?_append_right (by rw [addrCs_length h.six]; omega), addrCs_length h.six]
  simp [show 34 + k - 17 - 17 = k by omega]
end

section
variable {w : World} {g : Nat} {t : TypeId} {A : Option Addr} {n c : Nat} {f : ConfP}
theorem cf_c0 (hb : Blk w g t (confCs A n c f).toArray) : w.cell? ⟨g, 0, none⟩ = some (.slice A n c) := hb.cell 0
theorem cf_size (hb : Blk w g t (confCs A n c f).toArray) : w.cell? ⟨g, 1, none⟩ = some (.int .i64 f.size) := hb.cell 1
theorem cf_room (hb : Blk w g t (confCs A n c f).toArray) : w.cell? ⟨g, 2, none⟩ = some (.int .i64 f.room) := hb.cell 2
theorem cf_idle (hb : Blk w g t (confCs A n c f).toArray) (h : ConfShape f) {k : Nat} (hk : k < 6) : w.cell? ⟨g, 3 + k, none⟩ = (f.idle[k]?).map iv := by
  rw [hb.cell, List.getElem?_toArray, conf_idle h hk]
theorem cf_idles (hb : Blk w g t (confCs A n c f).toArray) (h : ConfShape f) : w.rangeAt g 3 (f.idle.map iv) := fun j v hj => by
  have hi := h.idle
  have hk : j < 6 := by have := (List.getElem?_eq_some_iff.1 hj).1; simp at this; omega
  rw [cf_idle hb h hk, ← hj, List.getElem?_map]
theorem cf_rise (hb : Blk w g t (confCs A n c f).toArray) (h : ConfShape f) : w.cell? ⟨g, 9, none⟩ = some (.int .i64 f.rise) := by
  rw [hb.cell, List.getElem?_toArray, show 9 = 9 + 0 from rfl, conf_rise h]; rfl
theorem cf_fall (hb : Blk w g t (confCs A n c f).toArray) (h : ConfShape f) : w.cell? ⟨g, 10, none⟩ = some (.int .i64 f.fall) := by
  rw [hb.cell, List.getElem?_toArray, show 10 = 9 + 1 from rfl, conf_rise h]; rfl
theorem cf_mac (hb : Blk w g t (confCs A n c f).toArray) (h : ConfShape f) {k : Nat} (hk : k < f.mac.length) : w.cell? ⟨g, 11 + k, none⟩ = some (.int .u8 ((f.mac[k]).toNat : Int)) := by
  have hm := h.mac
  rw [hb.cell, List.getElem?_toArray, conf_mac h (by omega), bcells, List.getElem?_map, List.getElem?_eq_getElem hk]
  rfl
theorem cf_macs (hb : Blk w g t (confCs A n c f).toArray) (h : ConfShape f) : w.rangeAt g 11 (bcells f.mac) := fun j v hj => by
  have hk : j < 6 := by have := (List.getElem?_eq_some_iff.1 hj).1; rw [bcells_length, h.mac] at this; omega
  rw [hb.cell, List.getElem?_toArray, conf_mac h hk, hj]
theorem cf_four (hb : Blk w g t (confCs A n c f).toArray) (h : ConfShape f) : w.rangeAt g 17 (addrCs f.four) := fun j v hj => by
  have hk : j < 17 := by have := (List.getElem?_eq_some_iff.1 hj).1; rw [addrCs_length h.four] at this; omega
  rw [hb.cell, List.getElem?_toArray, conf_four h hk, hj]
theorem cf_six (hb : Blk w g t (confCs A n c f).toArray) (h : ConfShape f) : w.rangeAt g 34 (addrCs f.six) := fun j v hj => by
  have hk : j < 17 := by have := (List.getElem?_eq_some_iff.1 hj).1; rw [addrCs_length h.six] at this; omega
  rw [hb.cell, List.getElem?_toArray, conf_six h hk, hj]
theorem cf_four0 (hb : Blk w g t (confCs A n c f).toArray) (h : ConfShape f) : w.cell? ⟨g, 17, none⟩ = some (.bool f.four.1) := cf_four hb h 0 _ rfl
theorem cf_six0 (hb : Blk w g t (confCs A n c f).toArray) (h : ConfShape f) : w.cell? ⟨g, 34, none⟩ = some (.bool f.six.1) := cf_six hb h 0 _ rfl
theorem cf_most (hb : Blk w g t (confCs A n c f).toArray) (h : ConfShape f) : w.cell? ⟨g, 51, none⟩ = some (.int .i64 f.most) := by
  rw [hb.cell, List.getElem?_toArray, show 51 = 51 + 0 from rfl, conf_last h]; rfl
theorem cf_keep (hb : Blk w g t (confCs A n c f).toArray) (h : ConfShape f) : w.cell? ⟨g, 52, none⟩ = some (.int .i64 f.keep) := by
  rw [hb.cell, List.getElem?_toArray, show 52 = 51 + 1 from rfl, conf_last h]; rfl
theorem cf_batch (hb : Blk w g t (confCs A n c f).toArray) (h : ConfShape f) : w.cell? ⟨g, 53, none⟩ = some (.int .i64 f.batch) := by
  rw [hb.cell, List.getElem?_toArray, show 53 = 51 + 2 from rfl, conf_last h]; rfl
end

/-- May a Vip be? -/
def vipR (v : VipP) : Bool := shortB v.1 && (v.2.1 == 6 || v.2.1 == 17) && inB v.2.2.1 1 65535
/-- Is the i-th Vip right, and unlike those ahead? -/
def vipAt (vs : List VipP) (i : Nat) : Bool := match vs[i]? with | some v => vipR v && !((vs.take i).any (vipIs v.1 v.2.1 v.2.2.1)) | none => true
def vipsB (vs : List VipP) : Bool := decide (vs.length ≤ 64) && (List.range vs.length).all (vipAt vs)
def idleB (l : List Int) : Bool := (l.head? == some 0) && l.all (fun n => inB n 0 1000000)
/-- Is a config right? -/
def rightB (f : ConfP) : Bool :=
  idleB f.idle && (vipsB f.vips && (inB f.size 2 65537 && (primeB f.size.toNat && (inB f.room 1 4096 && (inB f.rise 1 100 && (inB f.fall 1 100 && (!f.four.1 && (shortB f.four && (f.six.1 && (inB f.most 1000 1048576 && (inB f.keep 1 100 && inB f.batch 1 1000)))))))))))
/-- Are two configs alike? -/
def sameB (a b : ConfP) : Bool :=
  a.vips == b.vips && (a.size == b.size && (a.room == b.room && (a.idle == b.idle && (a.rise == b.rise && (a.fall == b.fall && (a.mac == b.mac && (a.four == b.four && (a.six == b.six && (a.most == b.most && (a.keep == b.keep && a.batch == b.batch))))))))))
theorem inB_iff {n lo hi : Int} : inB n lo hi = true ↔ lo ≤ n ∧ n ≤ hi := by simp [inB]
theorem idleB_all {l : List Int} (h : idleB l = true) : l.head? = some 0 ∧ ∀ n ∈ l, 0 ≤ n ∧ n ≤ 1000000 := by
  unfold idleB at h
  simp only [Bool.and_eq_true, beq_iff_eq, List.all_eq_true] at h
  exact ⟨h.1, fun n hn => inB_iff.1 (h.2 n hn)⟩
theorem sameB_iff {a b : ConfP} : sameB a b = true ↔ a = b := by
  cases a; cases b
  simp [sameB]
theorem vipsB_iff {vs : List VipP} : vipsB vs = true ↔ vs.length ≤ 64 ∧ ∀ i, i < vs.length → vipAt vs i = true := by
  simp [vipsB]

/-- The bytes of a Vip. -/
def vipBytes (v : VipP) : List UInt8 := putAddrS v.1 ++ [UInt8.ofNat v.2.1.toNat, UInt8.ofNat (v.2.2.1.toNat / 256), UInt8.ofNat v.2.2.1.toNat, if v.2.2.2 then 1 else 0]
def confNums (f : ConfP) : List Nat := f.size.toNat :: f.room.toNat :: ((f.idle.drop 1).map Int.toNat ++ [f.rise.toNat, f.fall.toNat])
def confLast (f : ConfP) : List Nat := [f.most.toNat, f.keep.toNat, f.batch.toNat]
/-- The bytes of a config. -/
def confPutS (f : ConfP) : List UInt8 :=
  vput f.vips.length ++ (f.vips.flatMap vipBytes ++ (vputs (confNums f) ++ (f.mac ++ (f.four.2.take 4 ++ (f.six.2 ++ vputs (confLast f))))))
end Go.Proofs.Ytmkeljcjhcaigaa
