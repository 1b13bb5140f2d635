/- A backend, an act, an outcome, an event that came in: opened as plain data (printed by gen_trode.py). No program in sight but the types. -/
import Derived.Test.YtgohhojoahlfiaaTrodB
import Derived.Test.YtgohhojoahlfiaaEvP
import Derived.OpenShut
namespace Go.Proofs.Ytgohhojoahlfiaa
open Go.RowKit Go.Deep Go.ChangeShapes Go.WideShapes
set_option linter.unusedVariables false
set_option linter.unusedSimpArgs false

def zok (n : Int) : Prop := -9223372036854775808 ≤ n ∧ n < 9223372036854775808
structure BackWf (b : BackP) : Prop where
  name : b.name.length ≤ maxLen
  port : zok b.port
structure ActWf (a : ActP) : Prop where
  kind : zok a.kind
  frame : a.frame.length ≤ maxLen
  op : zok a.op
  back : BackWf a.back
  oname : a.oname.length ≤ maxLen
  name : a.name.length ≤ maxLen
structure OutWf (o : OutP) : Prop where
  err : zok o.err
  reason : zok o.reason
  version : zok o.version
  name : o.name.length ≤ maxLen
  out : o.out.length ≤ maxLen
structure EvWf (e : EvP) : Prop where
  act : ActWf e.act
  o : OutWf e.o
  len : zok e.len

theorem ones {cs : List Value} {n : Nat} (hl : cs.length = n) {Q : Value → Prop} (h : ∀ i, i < n → ∃ v, (cs.drop i).take 1 = [v] ∧ Q v) : ∀ v ∈ cs, Q v := by
  intro v hv
  obtain ⟨i, hi, rfl⟩ := List.getElem_of_mem hv
  obtain ⟨u, h1, h2⟩ := h i (by omega)
  have h3 : (cs.drop i).take 1 = [cs[i]] := by rw [List.drop_eq_getElem_cons hi]; rfl
  rw [h3] at h1
  injection h1 with h1 _
  rw [h1]
  exact h2
theorem u8s : ∀ {cs : List Value}, (∀ v ∈ cs, ∃ b : UInt8, v = .int .u8 (b.toNat : Int)) → ∃ l : List UInt8, cs = bcells l ∧ l.length = cs.length
  | [], _ => ⟨[], rfl, rfl⟩
  | v :: cs, h => by
    obtain ⟨b, rfl⟩ := h v (by simp)
    obtain ⟨l, rfl, hl⟩ := u8s (cs := cs) (fun u hu => h u (by simp [hu]))
    exact ⟨b :: l, rfl, by simp [hl]⟩
theorem u8_wf {n : Int} (h : (Lit.int .u8 n).wf = true) : ∃ b : UInt8, n = (b.toNat : Int) := by
  simp [Lit.wf, IntKind.min, IntKind.max, IntKind.bits, IntKind.signed] at h
  refine ⟨UInt8.ofNat n.toNat, ?_⟩
  rw [UInt8.toNat_ofNat', Nat.mod_eq_of_lt (by omega)]
  omega
theorem dtk (cs : List Value) (a k b : Nat) (h : b = a + k) : cs.drop a = (cs.drop a).take k ++ cs.drop b := by
  subst h
  rw [← List.drop_drop, List.take_append_drop]

section
variable {H : Type} {enc : TypeId × Value → H} {w : World} {base : Nat} {held : Bool} {fuel : Nat} {x : DataW H × List MemPlace} {cs : List Value} {t e : TypeId}

theorem bytes_trod {n : Nat} (ht : Try.prog.underlying t = some (.array n e)) (he : Try.prog.underlying e = some (.int .u8)) (ce : Try.prog.cellsOf e = 1) (ct : Try.prog.cellsOf t = n)
    (h : DataW.trod enc Try.prog w base (fun _ => true) held fuel t cs = some x) : ∃ l : List UInt8, cs = bcells l ∧ l.length = n := by
  obtain ⟨xs, m, _, _, hl, hx, hi⟩ := DataW.trod_array ht h
  rw [ct] at hl
  obtain ⟨l, h1, h2⟩ := u8s (cs := cs) (ones hl fun i hi' => by
    have := hi i hi'
    rw [ce, Nat.mul_one, List.getElem?_eq_getElem (by omega)] at this
    obtain ⟨z, hz, _, hw⟩ := DataW.trod_int he this
    obtain ⟨b, rfl⟩ := u8_wf hw
    exact ⟨_, hz, b, rfl⟩)
  exact ⟨l, h1, by omega⟩

theorem cells_addr : Try.prog.cellsOf 25 = 17 := by kernel_rfl
theorem cells_bool : Try.prog.cellsOf 4 = 1 := by kernel_rfl
theorem cells_int : Try.prog.cellsOf 3 = 1 := by kernel_rfl
theorem cells_u8 : Try.prog.cellsOf 5 = 1 := by kernel_rfl
theorem cells_16 : Try.prog.cellsOf 23 = 16 := by kernel_rfl
theorem cells_6b : Try.prog.cellsOf 26 = 6 := by kernel_rfl
theorem cells_bs : Try.prog.cellsOf 22 = 1 := by kernel_rfl
theorem cells_str : Try.prog.cellsOf 9 = 1 := by kernel_rfl
theorem cells_f64 : Try.prog.cellsOf 27 = 1 := by kernel_rfl
theorem cells_u32 : Try.prog.cellsOf 37 = 1 := by kernel_rfl
theorem cells_errno : Try.prog.cellsOf 34 = 1 := by kernel_rfl
theorem cells_back : Try.prog.cellsOf 29 = 27 := by kernel_rfl
theorem cells_op : Try.prog.cellsOf 31 = 30 := by kernel_rfl
theorem cells_act : Try.prog.cellsOf 33 = 34 := by kernel_rfl
theorem cells_out : Try.prog.cellsOf 36 = 6 := by kernel_rfl
theorem cells_ev : Try.prog.cellsOf 39 = 42 := by kernel_rfl

theorem addr_trod (h : DataW.trod enc Try.prog w base (fun _ => true) held fuel 25 cs = some x) : ∃ a : AddrP, cs = addrCs a ∧ addrOk a := by
  obtain ⟨ys, n, _, _, hl, hlen, hf⟩ := DataW.trod_struct Try.underlying25 h
  rw [cells_addr] at hl
  have hlen2 : ys.length = 2 := hlen
  have g0 := hf 0 _ rfl
  have g1 := hf 1 _ rfl
  rw [List.getElem?_eq_getElem (by omega)] at g0 g1
  obtain ⟨b, h0, _⟩ := DataW.trod_bool Try.underlying4 g0
  obtain ⟨l, h1, hl1⟩ := bytes_trod Try.underlying23 Try.underlying5 cells_u8 cells_16 g1
  have h0' : (cs.drop 0).take 1 = [.bool b] := by rw [← h0]; exact congrArg (fun k => (cs.drop 0).take k) cells_bool.symm
  have h1' : (cs.drop 1).take 16 = bcells l := by rw [← h1]; exact congrArg (fun k => (cs.drop 1).take k) cells_16.symm
  refine ⟨(b, l), ?_, hl1⟩
  have e0 := dtk cs 0 1 1 rfl
  have e1 := dtk cs 1 16 17 rfl
  rw [h1', List.drop_of_length_le (show cs.length ≤ 17 by omega), List.append_nil] at e1
  rw [h0', e1] at e0
  exact e0

theorem int_trod1 (h : DataW.trod enc Try.prog w base (fun _ => true) held fuel 3 cs = some x) : ∃ z : Int, cs = [zv z] ∧ zok z := by
  obtain ⟨z, hz, _, hw⟩ := DataW.trod_int Try.underlying3 h
  exact ⟨z, hz, i64_of_wf hw⟩
theorem errno_trod (h : DataW.trod enc Try.prog w base (fun _ => true) held fuel 34 cs = some x) : ∃ z : Int, cs = [zv z] ∧ zok z := by
  obtain ⟨z, hz, _, hw⟩ := DataW.trod_int Try.underlying34 h
  exact ⟨z, hz, i64_of_wf hw⟩
theorem u32_trod (h : DataW.trod enc Try.prog w base (fun _ => true) held fuel 37 cs = some x) : ∃ n : Nat, cs = [.int .u32 (n : Int)] ∧ n < 4294967296 := by
  obtain ⟨z, hz, _, hw⟩ := DataW.trod_int Try.underlying37 h
  have := bounds_u32 hw
  refine ⟨z.toNat, ?_, by omega⟩
  rw [hz, show ((z.toNat : Nat) : Int) = z by omega]
theorem str_trod (h : DataW.trod enc Try.prog w base (fun _ => true) held fuel 9 cs = some x) : ∃ l : List UInt8, cs = [sv l] ∧ l.length ≤ maxLen := by
  obtain ⟨s, rfl, _, hm⟩ := DataW.trod_string Try.underlying9 h
  refine ⟨s.data.toList, rfl, ?_⟩
  have hl : s.data.toList.length = s.size := Array.length_toList
  rw [hl]
  exact hm
theorem float_trod {P : Program} {k : FloatKind} (ht : P.underlying t = some (.float k)) (h : DataW.trod enc P w base (fun _ => true) held fuel t cs = some x) : ∃ n : Nat, cs = [.float k n] ∧ x = (.lit (.float k n), []) ∧ (Lit.float k n).wf = true := by
  cases fuel with
  | zero => simp [DataW.trod] at h
  | succ n =>
    unfold DataW.trod at h
    rw [ht] at h
    split at h <;> simp_all
theorem f64_trod (h : DataW.trod enc Try.prog w base (fun _ => true) held fuel 27 cs = some x) : ∃ n : Nat, cs = [.float .f64 n] ∧ n < 18446744073709551616 := by
  obtain ⟨n, h1, _, h2⟩ := float_trod Try.underlying27 h
  exact ⟨n, h1, of_decide_eq_true h2⟩
theorem bs_trod (h : DataW.trod enc Try.prog w base (fun _ => true) held fuel 22 cs = some x) : ∃ (A : Option Addr) (c : Nat) (l : List UInt8), cs = [.slice A l.length c] ∧ l.length ≤ c ∧ c ≤ maxLen ∧ BS w w.heap.size A l := by
  have hcs : ∃ A n c, cs = [.slice A n c] := by
    rcases open_ints Try.underlying22 Try.underlying5 (by kernel_rfl) h with ⟨hc, _⟩ | ⟨a', l', c', zs, hc, _⟩
    · exact ⟨_, _, _, by simpa using hc⟩
    · exact ⟨_, _, _, by simpa using hc⟩
  obtain ⟨A, n, c, rfl⟩ := hcs
  obtain ⟨l, rfl, h2, h3, h4⟩ := BS.of_trod Try.underlying22 Try.underlying5 (by kernel_rfl) h
  exact ⟨A, c, l, rfl, h2, h3, h4⟩

theorem back_trod (h : DataW.trod enc Try.prog w base (fun _ => true) held fuel 29 cs = some x) : ∃ b : BackP, cs = backCs b ∧ BackShape b ∧ BackWf b := by
  obtain ⟨ys, n, _, _, hl, hlen, hf⟩ := DataW.trod_struct Try.underlying29 h
  rw [cells_back] at hl
  have hlen2 : ys.length = 6 := hlen
  have g0 := hf 0 _ rfl
  have g1 := hf 1 _ rfl
  have g2 := hf 2 _ rfl
  have g3 := hf 3 _ rfl
  have g4 := hf 4 _ rfl
  have g5 := hf 5 _ rfl
  rw [List.getElem?_eq_getElem (by omega)] at g0 g1 g2 g3 g4 g5
  obtain ⟨nm, h0, u0⟩ := str_trod g0
  have k0 : (cs.drop 0).take 1 = [sv nm] := by rw [← h0]; exact congrArg (fun k => (cs.drop 0).take k) cells_str.symm
  obtain ⟨ad, h1, u1⟩ := addr_trod g1
  have k1 : (cs.drop 1).take 17 = addrCs ad := by rw [← h1]; exact congrArg (fun k => (cs.drop 1).take k) cells_addr.symm
  obtain ⟨po, h2, u2⟩ := int_trod1 g2
  have k2 : (cs.drop 18).take 1 = [zv po] := by rw [← h2]; exact congrArg (fun k => (cs.drop 18).take k) cells_int.symm
  obtain ⟨mac, h3, u3⟩ := bytes_trod Try.underlying26 Try.underlying5 cells_u8 cells_6b g3
  have k3 : (cs.drop 19).take 6 = bcells mac := by rw [← h3]; exact congrArg (fun k => (cs.drop 19).take k) cells_6b.symm
  obtain ⟨wt, h4, u4⟩ := f64_trod g4
  have k4 : (cs.drop 25).take 1 = [.float .f64 wt] := by rw [← h4]; exact congrArg (fun k => (cs.drop 25).take k) cells_f64.symm
  obtain ⟨dr, h5, _⟩ := DataW.trod_bool Try.underlying4 g5
  have k5 : (cs.drop 26).take 1 = [.bool dr] := by rw [← h5]; exact congrArg (fun k => (cs.drop 26).take k) cells_bool.symm
  clear g0 g1 g2 g3 g4 g5 h0 h1 h2 h3 h4 h5 hf
  have e5 := dtk cs 26 1 27 rfl
  rw [k5, List.drop_of_length_le (show cs.length ≤ 27 by omega)] at e5
  have e4 := dtk cs 25 1 26 rfl
  rw [k4, e5] at e4
  have e3 := dtk cs 19 6 25 rfl
  rw [k3, e4] at e3
  have e2 := dtk cs 18 1 19 rfl
  rw [k2, e3] at e2
  have e1 := dtk cs 1 17 18 rfl
  rw [k1, e2] at e1
  have e0 := dtk cs 0 1 1 rfl
  rw [k0, e1] at e0
  refine ⟨{ name := nm, addr := ad, port := po, mac := mac, wt := wt, drain := dr }, ?_, ⟨u1, u3, u4⟩, ⟨u0, u2⟩⟩
  simpa [backCs] using e0
theorem op_trod (h : DataW.trod enc Try.prog w base (fun _ => true) held fuel 31 cs = some x) : ∃ (k : Int) (b : BackP) (nm : List UInt8) (wt : Nat), cs = zv k :: (backCs b ++ [sv nm, .float .f64 wt]) ∧ zok k ∧ BackShape b ∧ BackWf b ∧ nm.length ≤ maxLen ∧ wt < 18446744073709551616 := by
  obtain ⟨ys, n, _, _, hl, hlen, hf⟩ := DataW.trod_struct Try.underlying31 h
  rw [cells_op] at hl
  have hlen2 : ys.length = 4 := hlen
  have g0 := hf 0 _ rfl
  have g1 := hf 1 _ rfl
  have g2 := hf 2 _ rfl
  have g3 := hf 3 _ rfl
  rw [List.getElem?_eq_getElem (by omega)] at g0 g1 g2 g3
  obtain ⟨k, h0, u0⟩ := int_trod1 g0
  have k0 : (cs.drop 0).take 1 = [zv k] := by rw [← h0]; exact congrArg (fun k => (cs.drop 0).take k) cells_int.symm
  obtain ⟨b, h1, u1, v1⟩ := back_trod g1
  have k1 : (cs.drop 1).take 27 = backCs b := by rw [← h1]; exact congrArg (fun k => (cs.drop 1).take k) cells_back.symm
  obtain ⟨nm, h2, u2⟩ := str_trod g2
  have k2 : (cs.drop 28).take 1 = [sv nm] := by rw [← h2]; exact congrArg (fun k => (cs.drop 28).take k) cells_str.symm
  obtain ⟨wt, h3, u3⟩ := f64_trod g3
  have k3 : (cs.drop 29).take 1 = [.float .f64 wt] := by rw [← h3]; exact congrArg (fun k => (cs.drop 29).take k) cells_f64.symm
  clear g0 g1 g2 g3 h0 h1 h2 h3 hf
  have e3 := dtk cs 29 1 30 rfl
  rw [k3, List.drop_of_length_le (show cs.length ≤ 30 by omega)] at e3
  have e2 := dtk cs 28 1 29 rfl
  rw [k2, e3] at e2
  have e1 := dtk cs 1 27 28 rfl
  rw [k1, e2] at e1
  have e0 := dtk cs 0 1 1 rfl
  rw [k0, e1] at e0
  refine ⟨k, b, nm, wt, ?_, u0, u1, v1, u2, u3⟩
  simpa [List.append_assoc] using e0
theorem act_trod (h : DataW.trod enc Try.prog w base (fun _ => true) held fuel 33 cs = some x) : ∃ (A : Option Addr) (c : Nat) (a : ActP), cs = actCs A a.frame.length c a ∧ a.frame.length ≤ c ∧ c ≤ maxLen ∧ BS w w.heap.size A a.frame ∧ ActShape a ∧ ActWf a := by
  obtain ⟨ys, n, _, _, hl, hlen, hf⟩ := DataW.trod_struct Try.underlying33 h
  rw [cells_act] at hl
  have hlen2 : ys.length = 5 := hlen
  have g0 := hf 0 _ rfl
  have g1 := hf 1 _ rfl
  have g2 := hf 2 _ rfl
  have g3 := hf 3 _ rfl
  have g4 := hf 4 _ rfl
  rw [List.getElem?_eq_getElem (by omega)] at g0 g1 g2 g3 g4
  obtain ⟨k, h0, u0⟩ := int_trod1 g0
  have k0 : (cs.drop 0).take 1 = [zv k] := by rw [← h0]; exact congrArg (fun k => (cs.drop 0).take k) cells_int.symm
  obtain ⟨A, c, fr, h1, u1, v1, x1⟩ := bs_trod g1
  have k1 : (cs.drop 1).take 1 = [.slice A fr.length c] := by rw [← h1]; exact congrArg (fun k => (cs.drop 1).take k) cells_bs.symm
  obtain ⟨op, b, nm, wt, h2, u2, u3, u4, u5, u6⟩ := op_trod g2
  have k2 : (cs.drop 2).take 30 = zv op :: (backCs b ++ [sv nm, .float .f64 wt]) := by rw [← h2]; exact congrArg (fun k => (cs.drop 2).take k) cells_op.symm
  obtain ⟨na, h3, u7⟩ := str_trod g3
  have k3 : (cs.drop 32).take 1 = [sv na] := by rw [← h3]; exact congrArg (fun k => (cs.drop 32).take k) cells_str.symm
  obtain ⟨we, h4, _⟩ := DataW.trod_bool Try.underlying4 g4
  have k4 : (cs.drop 33).take 1 = [.bool we] := by rw [← h4]; exact congrArg (fun k => (cs.drop 33).take k) cells_bool.symm
  clear g0 g1 g2 g3 g4 h0 h1 h2 h3 h4 hf
  have e4 := dtk cs 33 1 34 rfl
  rw [k4, List.drop_of_length_le (show cs.length ≤ 34 by omega)] at e4
  have e3 := dtk cs 32 1 33 rfl
  rw [k3, e4] at e3
  have e2 := dtk cs 2 30 32 rfl
  rw [k2, e3] at e2
  have e1 := dtk cs 1 1 2 rfl
  rw [k1, e2] at e1
  have e0 := dtk cs 0 1 1 rfl
  rw [k0, e1] at e0
  refine ⟨A, c, { kind := k, frame := fr, op := op, back := b, oname := nm, owt := wt, name := na, well := we }, ?_, u1, v1, x1, ⟨u3, u6⟩, ⟨u0, Nat.le_trans u1 v1, u2, u4, u5, u7⟩⟩
  simpa [actCs] using e0
theorem out_trod (h : DataW.trod enc Try.prog w base (fun _ => true) held fuel 36 cs = some x) : ∃ (A : Option Addr) (c : Nat) (o : OutP), cs = outCs A o.out.length c o ∧ o.out.length ≤ c ∧ c ≤ maxLen ∧ BS w w.heap.size A o.out ∧ OutWf o := by
  obtain ⟨ys, n, _, _, hl, hlen, hf⟩ := DataW.trod_struct Try.underlying36 h
  rw [cells_out] at hl
  have hlen2 : ys.length = 6 := hlen
  have g0 := hf 0 _ rfl
  have g1 := hf 1 _ rfl
  have g2 := hf 2 _ rfl
  have g3 := hf 3 _ rfl
  have g4 := hf 4 _ rfl
  have g5 := hf 5 _ rfl
  rw [List.getElem?_eq_getElem (by omega)] at g0 g1 g2 g3 g4 g5
  obtain ⟨er, h0, u0⟩ := errno_trod g0
  have k0 : (cs.drop 0).take 1 = [zv er] := by rw [← h0]; exact congrArg (fun k => (cs.drop 0).take k) cells_errno.symm
  obtain ⟨re, h1, u1⟩ := int_trod1 g1
  have k1 : (cs.drop 1).take 1 = [zv re] := by rw [← h1]; exact congrArg (fun k => (cs.drop 1).take k) cells_int.symm
  obtain ⟨hi, h2, _⟩ := DataW.trod_bool Try.underlying4 g2
  have k2 : (cs.drop 2).take 1 = [.bool hi] := by rw [← h2]; exact congrArg (fun k => (cs.drop 2).take k) cells_bool.symm
  obtain ⟨ve, h3, u3⟩ := int_trod1 g3
  have k3 : (cs.drop 3).take 1 = [zv ve] := by rw [← h3]; exact congrArg (fun k => (cs.drop 3).take k) cells_int.symm
  obtain ⟨na, h4, u4⟩ := str_trod g4
  have k4 : (cs.drop 4).take 1 = [sv na] := by rw [← h4]; exact congrArg (fun k => (cs.drop 4).take k) cells_str.symm
  obtain ⟨A, c, ou, h5, u5, v5, x5⟩ := bs_trod g5
  have k5 : (cs.drop 5).take 1 = [.slice A ou.length c] := by rw [← h5]; exact congrArg (fun k => (cs.drop 5).take k) cells_bs.symm
  clear g0 g1 g2 g3 g4 g5 h0 h1 h2 h3 h4 h5 hf
  have e5 := dtk cs 5 1 6 rfl
  rw [k5, List.drop_of_length_le (show cs.length ≤ 6 by omega)] at e5
  have e4 := dtk cs 4 1 5 rfl
  rw [k4, e5] at e4
  have e3 := dtk cs 3 1 4 rfl
  rw [k3, e4] at e3
  have e2 := dtk cs 2 1 3 rfl
  rw [k2, e3] at e2
  have e1 := dtk cs 1 1 2 rfl
  rw [k1, e2] at e1
  have e0 := dtk cs 0 1 1 rfl
  rw [k0, e1] at e0
  refine ⟨A, c, { err := er, reason := re, hit := hi, version := ve, name := na, out := ou }, ?_, u5, v5, x5, ⟨u0, u1, u3, u4, Nat.le_trans u5 v5⟩⟩
  simpa [outCs] using e0
theorem ev_trod (h : DataW.trod enc Try.prog w base (fun _ => true) held fuel 39 cs = some x) : ∃ (A : Option Addr) (c : Nat) (A' : Option Addr) (c' : Nat) (e : EvP), cs = evCs A e.act.frame.length c A' e.o.out.length c' e ∧ e.act.frame.length ≤ c ∧ c ≤ maxLen ∧ BS w w.heap.size A e.act.frame ∧ e.o.out.length ≤ c' ∧ c' ≤ maxLen ∧ BS w w.heap.size A' e.o.out ∧ EvShape e ∧ EvWf e := by
  obtain ⟨ys, n, _, _, hl, hlen, hf⟩ := DataW.trod_struct Try.underlying39 h
  rw [cells_ev] at hl
  have hlen2 : ys.length = 4 := hlen
  have g0 := hf 0 _ rfl
  have g1 := hf 1 _ rfl
  have g2 := hf 2 _ rfl
  have g3 := hf 3 _ rfl
  rw [List.getElem?_eq_getElem (by omega)] at g0 g1 g2 g3
  obtain ⟨A, c, a, h0, u0, u1, u2, u3, u4⟩ := act_trod g0
  have k0 : (cs.drop 0).take 34 = actCs A a.frame.length c a := by rw [← h0]; exact congrArg (fun k => (cs.drop 0).take k) cells_act.symm
  obtain ⟨A', c', o, h1, u5, u6, u7, u8⟩ := out_trod g1
  have k1 : (cs.drop 34).take 6 = outCs A' o.out.length c' o := by rw [← h1]; exact congrArg (fun k => (cs.drop 34).take k) cells_out.symm
  obtain ⟨ln, h2, u9⟩ := int_trod1 g2
  have k2 : (cs.drop 40).take 1 = [zv ln] := by rw [← h2]; exact congrArg (fun k => (cs.drop 40).take k) cells_int.symm
  obtain ⟨su, h3, u10⟩ := u32_trod g3
  have k3 : (cs.drop 41).take 1 = [.int .u32 (su : Int)] := by rw [← h3]; exact congrArg (fun k => (cs.drop 41).take k) cells_u32.symm
  clear g0 g1 g2 g3 h0 h1 h2 h3 hf
  have e3 := dtk cs 41 1 42 rfl
  rw [k3, List.drop_of_length_le (show cs.length ≤ 42 by omega)] at e3
  have e2 := dtk cs 40 1 41 rfl
  rw [k2, e3] at e2
  have e1 := dtk cs 34 6 40 rfl
  rw [k1, e2] at e1
  have e0 := dtk cs 0 34 34 rfl
  rw [k0, e1] at e0
  refine ⟨A, c, A', c', { act := a, o := o, len := ln, sum := su }, ?_, u0, u1, u2, u5, u6, u7, ⟨u3, u10⟩, ⟨u4, u8, u9⟩⟩
  simpa [evCs, outCs] using e0
end
end Go.Proofs.Ytgohhojoahlfiaa
