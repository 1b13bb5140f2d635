/- Events, acts, backends: their cells; whether two are alike, whether one may be. No program in sight but the types' sizes. -/
import Derived.Test.YtgohhojoahlfiaaWt
namespace Go.Proofs.Ytgohhojoahlfiaa
open Go.RowKit
set_option linter.unusedVariables false
set_option linter.unusedSimpArgs false

def zv (n : Int) : Value := .int .i64 n
def sv (l : List UInt8) : Value := .string ⟨l.toArray⟩
structure BackP where
  name : List UInt8
  addr : AddrP
  port : Int
  mac : List UInt8
  wt : Nat
  drain : Bool
structure ActP where
  kind : Int
  frame : List UInt8
  op : Int
  back : BackP
  oname : List UInt8
  owt : Nat
  name : List UInt8
  well : Bool
structure OutP where
  err : Int
  reason : Int
  hit : Bool
  version : Int
  name : List UInt8
  out : List UInt8
structure EvP where
  act : ActP
  o : OutP
  len : Int
  sum : Nat
def back0 : BackP := { name := [], addr := addr0, port := 0, mac := List.replicate 6 0, wt := 0, drain := false }
def act0 : ActP := { kind := 0, frame := [], op := 0, back := back0, oname := [], owt := 0, name := [], well := false }
def out0 : OutP := { err := 0, reason := 0, hit := false, version := 0, name := [], out := [] }
def ev0 : EvP := { act := act0, o := out0, len := 0, sum := 0 }
structure BackShape (b : BackP) : Prop where
  addr : addrOk b.addr
  mac : b.mac.length = 6
  wt : b.wt < 18446744073709551616
structure ActShape (a : ActP) : Prop where
  back : BackShape a.back
  owt : a.owt < 18446744073709551616
structure EvShape (e : EvP) : Prop where
  act : ActShape e.act
  sum : e.sum < 4294967296
theorem back0_shape : BackShape back0 := ⟨rfl, rfl, by decide⟩
theorem act0_shape : ActShape act0 := ⟨back0_shape, by decide⟩
theorem ev0_shape : EvShape ev0 := ⟨act0_shape, by decide⟩

/-- The cells. -/
def backCs (b : BackP) : List Value := sv b.name :: (addrCs b.addr ++ (zv b.port :: (bcells b.mac ++ [.float .f64 b.wt, .bool b.drain])))
def actCs (A : Option Addr) (n c : Nat) (a : ActP) : List Value := zv a.kind :: .slice A n c :: zv a.op :: (backCs a.back ++ [sv a.oname, .float .f64 a.owt, sv a.name, .bool a.well])
def outCs (A : Option Addr) (n c : Nat) (o : OutP) : List Value := [zv o.err, zv o.reason, .bool o.hit, zv o.version, sv o.name, .slice A n c]
def evCs (A : Option Addr) (n c : Nat) (A' : Option Addr) (n' c' : Nat) (e : EvP) : List Value := actCs A n c e.act ++ (outCs A' n' c' e.o ++ [zv e.len, .int .u32 (e.sum : Int)])
theorem back_len {b : BackP} (h : BackShape b) : (backCs b).length = 27 := by
  have h1 := addrCs_length h.addr; have h2 := h.mac
  simp [backCs, h1, bcells_length, h2]
theorem act_len {A : Option Addr} {n c : Nat} {a : ActP} (h : ActShape a) : (actCs A n c a).length = 34 := by
  have := back_len h.back
  simp [actCs, this]
theorem out_len {A : Option Addr} {n c : Nat} {o : OutP} : (outCs A n c o).length = 6 := rfl
theorem ev_len {A A' : Option Addr} {n c n' c' : Nat} {e : EvP} (h : EvShape e) : (evCs A n c A' n' c' e).length = 42 := by
  have := act_len (A := A) (n := n) (c := c) h.act
  simp [evCs, this, out_len]
section
variable {b : BackP}
theorem back_addr (h : BackShape b) {k : Nat} (hk : k < 17) : (backCs b)[1 + k]? = (addrCs b.addr)[k]? := by
  rw [show 1 + k = k + 1 by omega, backCs, List.getElem?_cons_succ, List.getElem?_append_left (by rw [addrCs_length h.addr]; exact hk)]
theorem back_18 (h : BackShape b) (k : Nat) : (backCs b)[18 + k]? = (zv b.port :: (bcells b.mac ++ [.float .f64 b.wt, .bool b.drain]))[k]? := by
  rw [show 18 + k = (17 + k) + 1 by omega, backCs, List.getElem?_cons_succ, List.getElem?_append_right (by rw [addrCs_length h.addr]; omega), addrCs_length h.addr, Nat.add_sub_cancel_left]
theorem back_mac (h : BackShape b) {k : Nat} (hk : k < 6) : (backCs b)[19 + k]? = (bcells b.mac)[k]? := by
  have := back_18 h (k + 1)
  rw [show 19 + k = 18 + (k + 1) by omega, this, List.getElem?_cons_succ, List.getElem?_append_left (by rw [bcells_length, h.mac]; exact hk)]
theorem back_25 (h : BackShape b) (k : Nat) : (backCs b)[25 + k]? = [Value.float .f64 b.wt, .bool b.drain][k]? := by
  have := back_18 h (k + 7)
  rw [show 25 + k = 18 + (k + 7) by omega, this, show k + 7 = (k + 6) + 1 by omega, List.getElem?_cons_succ, List.getElem?_append_right (by rw [bcells_length, h.mac]; omega), bcells_length, h.mac]
  simp
end
section
variable {A : Option Addr} {n c : Nat} {a : ActP}
theorem act_back (h : ActShape a) {k : Nat} (hk : k < 27) : (actCs A n c a)[3 + k]? = (backCs a.back)[k]? := by
  rw [show 3 + k = (k + 2) + 1 by omega, actCs, List.getElem?_cons_succ, List.getElem?_cons_succ, List.getElem?_cons_succ, List.getElem?_append_left (by rw [back_len h.back]; exact hk)]
theorem act_30 (h : ActShape a) (k : Nat) : (actCs A n c a)[30 + k]? = [sv a.oname, .float .f64 a.owt, sv a.name, .bool a.well][k]? := by
  rw [show 30 + k = (27 + k + 2) + 1 by omega, actCs, List.getElem?_cons_succ, List.getElem?_cons_succ, List.getElem?_cons_succ, List.getElem?_append_right (by rw [back_len h.back]; omega), back_len h.back, Nat.add_sub_cancel_left]
end
section
variable {A A' : Option Addr} {n c n' c' : Nat} {e : EvP}
theorem ev_act (h : EvShape e) {k : Nat} (hk : k < 34) : (evCs A n c A' n' c' e)[k]? = (actCs A n c e.act)[k]? := by
  rw [evCs, List.getElem?_append_left (by rw [act_len h.act]; exact hk)]
theorem ev_34 (h : EvShape e) (k : Nat) : (evCs A n c A' n' c' e)[34 + k]? = [zv e.o.err, zv e.o.reason, .bool e.o.hit, zv e.o.version, sv e.o.name, .slice A' n' c', zv e.len, .int .u32 (e.sum : Int)][k]? := by
  rw [evCs, List.getElem?_append_right (by rw [act_len h.act]; omega), act_len h.act, Nat.add_sub_cancel_left]
  rfl
end

/-- Are two alike? -/
def sameBackB (a b : BackP) : Bool := a.name == b.name && (a.addr == b.addr && (a.port == b.port && (a.mac == b.mac && (wbits a.wt == wbits b.wt && a.drain == b.drain))))
def sameActB (a b : ActP) : Bool := a.kind == b.kind && (a.frame == b.frame && (a.op == b.op && (a.oname == b.oname && (wbits a.owt == wbits b.owt && (sameBackB a.back b.back && (a.name == b.name && a.well == b.well))))))
def sameEvB (a b : EvP) : Bool := sameActB a.act b.act && (a.o.err == b.o.err && (a.o.reason == b.o.reason && (a.o.hit == b.o.hit && (a.o.version == b.o.version && (a.o.name == b.o.name && (a.o.out == b.o.out && (a.len == b.len && a.sum == b.sum)))))))
theorem sameBack_self (a : BackP) : sameBackB a a = true := by simp [sameBackB]
theorem sameAct_self (a : ActP) : sameActB a a = true := by simp [sameActB, sameBack_self]
theorem sameEv_self (a : EvP) : sameEvB a a = true := by simp [sameEvB, sameAct_self]
/-- Of its kind alone. -/
def onlyA (a : ActP) : ActP :=
  if a.kind = 1 then { act0 with kind := a.kind, frame := a.frame }
  else if a.kind = 2 then
    (if a.op = 1 then { act0 with kind := a.kind, op := a.op, back := a.back }
     else if a.op = 3 then { act0 with kind := a.kind, op := a.op, oname := a.oname, owt := a.owt }
     else { act0 with kind := a.kind, op := a.op, oname := a.oname })
  else if a.kind = 3 then { act0 with kind := a.kind, name := a.name, well := a.well }
  else { act0 with kind := a.kind }
theorem only_shape {a : ActP} (h : ActShape a) : ActShape (onlyA a) := by
  have h0 : (0 : Nat) < 18446744073709551616 := by decide
  unfold onlyA
  split
  · exact ⟨back0_shape, h0⟩
  · split
    · split
      · exact ⟨h.back, h0⟩
      · split
        · exact ⟨back0_shape, h.owt⟩
        · exact ⟨back0_shape, h0⟩
    · split
      · exact ⟨back0_shape, h0⟩
      · exact ⟨back0_shape, h0⟩
def inZ (n lo hi : Int) : Bool := decide (lo ≤ n) && decide (n ≤ hi)
theorem inZ_iff {n lo hi : Int} : inZ n lo hi = true ↔ lo ≤ n ∧ n ≤ hi := by simp [inZ]
def toldB (b : BackP) : Bool := decide (b.name.length ≤ 255) && inZ b.port 0 65535
def plainB (a : ActP) : Bool := inZ a.kind 1 4 && ((a.kind != 2 || inZ a.op 1 5) && (sameActB a (onlyA a) && (decide (a.frame.length ≤ 131072) && (decide (a.oname.length ≤ 255) && (decide (a.name.length ≤ 255) && toldB a.back)))))
def rightEB (e : EvP) : Bool := plainB e.act && (inZ e.o.err 0 9 && (inZ e.o.reason 0 10 && (inZ e.o.version 0 1099511627776 && (decide (e.o.name.length ≤ 255) && (decide (e.o.out.length = 0) && inZ e.len 0 262144)))))

theorem back_size : (Try.prog.info? 29).map (·.size) = some 27 := by kernel_rfl
theorem act_size : (Try.prog.info? 33).map (·.size) = some 34 := by kernel_rfl
theorem out_size : (Try.prog.info? 36).map (·.size) = some 6 := by kernel_rfl
theorem ev_size : (Try.prog.info? 39).map (·.size) = some 42 := by kernel_rfl
theorem back_sz {b : BackP} (h : BackShape b) : (Try.prog.info? 29).map (·.size) = some (backCs b).length := by rw [back_len h]; exact back_size
theorem act_sz {A : Option Addr} {n c : Nat} {a : ActP} (h : ActShape a) : (Try.prog.info? 33).map (·.size) = some (actCs A n c a).length := by rw [act_len h]; exact act_size
theorem out_sz {A : Option Addr} {n c : Nat} {o : OutP} : (Try.prog.info? 36).map (·.size) = some (outCs A n c o).length := out_size
theorem ev_sz {A A' : Option Addr} {n c n' c' : Nat} {e : EvP} (h : EvShape e) : (Try.prog.info? 39).map (·.size) = some (evCs A n c A' n' c' e).length := by rw [ev_len h]; exact ev_size
theorem back_one (b : BackP) : (backCs b).toArray.all (·.oneCell') = true := all_oneCell_toArray (by
  intro u hu
  simp only [backCs, addrCs, List.mem_cons, List.mem_append, List.cons_append, List.not_mem_nil, or_false] at hu
  rcases hu with rfl | rfl | hu | rfl | hu | rfl | rfl
  all_goals first | rfl | exact bcells_one _ u hu)
theorem act_one (A : Option Addr) (n c : Nat) (a : ActP) : (actCs A n c a).toArray.all (·.oneCell') = true := all_oneCell_toArray (by
  intro u hu
  simp only [actCs, List.mem_cons, List.mem_append, List.not_mem_nil, or_false] at hu
  rcases hu with rfl | rfl | rfl | hu | rfl | rfl | rfl | rfl
  all_goals first | rfl | exact Array.all_eq_true_iff_forall_mem.1 (back_one a.back) u (by simpa using hu))
theorem out_one (A : Option Addr) (n c : Nat) (o : OutP) : (outCs A n c o).toArray.all (·.oneCell') = true := all_oneCell_toArray (by
  intro u hu
  simp only [outCs, List.mem_cons, List.not_mem_nil, or_false] at hu
  rcases hu with rfl | rfl | rfl | rfl | rfl | rfl
  all_goals rfl)
theorem ev_one (A : Option Addr) (n c : Nat) (A' : Option Addr) (n' c' : Nat) (e : EvP) : (evCs A n c A' n' c' e).toArray.all (·.oneCell') = true := all_oneCell_toArray (by
  intro u hu
  simp only [evCs, List.mem_cons, List.mem_append, List.not_mem_nil, or_false] at hu
  rcases hu with hu | hu | rfl | rfl
  · exact Array.all_eq_true_iff_forall_mem.1 (act_one A n c e.act) u (by simpa using hu)
  · exact Array.all_eq_true_iff_forall_mem.1 (out_one A' n' c' e.o) u (by simpa using hu)
  · rfl
  · rfl)
theorem back0_lit : (backCs back0).toArray = (#[.string ⟨#[]⟩, .bool false, .int .u8 0, .int .u8 0, .int .u8 0, .int .u8 0, .int .u8 0, .int .u8 0, .int .u8 0, .int .u8 0, .int .u8 0, .int .u8 0, .int .u8 0, .int .u8 0, .int .u8 0, .int .u8 0, .int .u8 0, .int .u8 0, .int .i64 0, .int .u8 0, .int .u8 0, .int .u8 0, .int .u8 0, .int .u8 0, .int .u8 0, .float .f64 0, .bool false] : Array Value) := rfl
theorem act0_lit : (actCs none 0 0 act0).toArray = (#[.int .i64 0, .slice none 0 0, .int .i64 0, .string ⟨#[]⟩, .bool false, .int .u8 0, .int .u8 0, .int .u8 0, .int .u8 0, .int .u8 0, .int .u8 0, .int .u8 0, .int .u8 0, .int .u8 0, .int .u8 0, .int .u8 0, .int .u8 0, .int .u8 0, .int .u8 0, .int .u8 0, .int .u8 0, .int .i64 0, .int .u8 0, .int .u8 0, .int .u8 0, .int .u8 0, .int .u8 0, .int .u8 0, .float .f64 0, .bool false, .string ⟨#[]⟩, .float .f64 0, .string ⟨#[]⟩, .bool false] : Array Value) := rfl
end Go.Proofs.Ytgohhojoahlfiaa
