/- A config that came in: opened as plain data. No program in sight but the types. -/
import Derived.Test.YtmkeljcjhcaigaaTrodB
import Derived.Test.YtmkeljcjhcaigaaConfP
import Derived.OpenShut
namespace Go.Proofs.Ytmkeljcjhcaigaa
open Go.RowKit Go.Deep Go.ChangeShapes Go.WideShapes
set_option linter.unusedVariables false

theorem ones {cs : List Value} {n : Nat} (hl : cs.length = n) {Q : Value → Prop} (h : ∀ i, i < n → ∃ v, (cs.drop i).take 1 = [v] ∧ Q v) : ∀ v ∈ cs, Q v := by
  intro v hv
  obtain ⟨i, hi, rfl⟩ := List.getElem_of_mem hv
  obtain ⟨u, h1, h2⟩ := h i (by omega)
  have h3 : (cs.drop i).take 1 = [cs[i]] := by rw [List.drop_eq_getElem_cons hi]; rfl
  rw [h3] at h1
  injection h1 with h1 _
  rw [h1]
  exact h2
theorem u8s : ∀ {cs : List Value}, (∀ v ∈ cs, ∃ b : UInt8, v = .int .u8 (b.toNat : Int)) → ∃ l : List UInt8, cs = bcells l ∧ l.length = cs.length
  | [], _ => ⟨[], rfl, rfl⟩
  | v :: cs, h => by
    obtain ⟨b, rfl⟩ := h v (by simp)
    obtain ⟨l, rfl, hl⟩ := u8s (cs := cs) (fun u hu => h u (by simp [hu]))
    exact ⟨b :: l, rfl, by simp [hl]⟩
theorem i64s : ∀ {cs : List Value}, (∀ v ∈ cs, ∃ z : Int, v = .int .i64 z) → ∃ zs : List Int, cs = zs.map iv ∧ zs.length = cs.length
  | [], _ => ⟨[], rfl, rfl⟩
  | v :: cs, h => by
    obtain ⟨z, rfl⟩ := h v (by simp)
    obtain ⟨l, rfl, hl⟩ := i64s (cs := cs) (fun u hu => h u (by simp [hu]))
    exact ⟨z :: l, rfl, by rw [List.length_cons, List.length_cons, hl]⟩
theorem u8_wf {n : Int} (h : (Lit.int .u8 n).wf = true) : ∃ b : UInt8, n = (b.toNat : Int) := by
  simp [Lit.wf, IntKind.min, IntKind.max, IntKind.bits, IntKind.signed] at h
  refine ⟨UInt8.ofNat n.toNat, ?_⟩
  rw [UInt8.toNat_ofNat', Nat.mod_eq_of_lt (by omega)]
  omega
theorem dtk (cs : List Value) (a k b : Nat) (h : b = a + k) : cs.drop a = (cs.drop a).take k ++ cs.drop b := by
  subst h
  rw [← List.drop_drop, List.take_append_drop]

section
variable {H : Type} {enc : TypeId × Value → H} {w : World} {base : Nat} {held : Bool} {fuel : Nat} {x : DataW H × List MemPlace} {cs : List Value} {t e : TypeId}

theorem bytes_trod {n : Nat} (ht : Try.prog.underlying t = some (.array n e)) (he : Try.prog.underlying e = some (.int .u8)) (ce : Try.prog.cellsOf e = 1) (ct : Try.prog.cellsOf t = n)
    (h : DataW.trod enc Try.prog w base (fun _ => true) held fuel t cs = some x) : ∃ l : List UInt8, cs = bcells l ∧ l.length = n := by
  obtain ⟨xs, m, _, _, hl, hx, hi⟩ := DataW.trod_array ht h
  rw [ct] at hl
  obtain ⟨l, h1, h2⟩ := u8s (cs := cs) (ones hl fun i hi' => by
    have := hi i hi'
    rw [ce, Nat.mul_one, List.getElem?_eq_getElem (by omega)] at this
    obtain ⟨z, hz, _, hw⟩ := DataW.trod_int he this
    obtain ⟨b, rfl⟩ := u8_wf hw
    exact ⟨_, hz, b, rfl⟩)
  exact ⟨l, h1, by omega⟩
theorem ints_trod {n : Nat} (ht : Try.prog.underlying t = some (.array n e)) (he : Try.prog.underlying e = some (.int .i64)) (ce : Try.prog.cellsOf e = 1) (ct : Try.prog.cellsOf t = n)
    (h : DataW.trod enc Try.prog w base (fun _ => true) held fuel t cs = some x) : ∃ zs : List Int, cs = zs.map iv ∧ zs.length = n := by
  obtain ⟨xs, m, _, _, hl, hx, hi⟩ := DataW.trod_array ht h
  rw [ct] at hl
  obtain ⟨l, h1, h2⟩ := i64s (cs := cs) (ones hl fun i hi' => by
    have := hi i hi'
    rw [ce, Nat.mul_one, List.getElem?_eq_getElem (by omega)] at this
    obtain ⟨z, hz, _, hw⟩ := DataW.trod_int he this
    exact ⟨_, hz, z, rfl⟩)
  exact ⟨l, h1, by omega⟩
theorem cells_addr : Try.prog.cellsOf 27 = 17 := by kernel_rfl
theorem cells_vip : Try.prog.cellsOf 33 = 20 := by kernel_rfl
theorem cells_conf : Try.prog.cellsOf 29 = 54 := by kernel_rfl
theorem cells_bool : Try.prog.cellsOf 4 = 1 := by kernel_rfl
theorem cells_int : Try.prog.cellsOf 3 = 1 := by kernel_rfl
theorem cells_u8 : Try.prog.cellsOf 5 = 1 := by kernel_rfl
theorem cells_16 : Try.prog.cellsOf 25 = 16 := by kernel_rfl
theorem cells_6b : Try.prog.cellsOf 24 = 6 := by kernel_rfl
theorem cells_6i : Try.prog.cellsOf 23 = 6 := by kernel_rfl
theorem cells_vips : Try.prog.cellsOf 22 = 1 := by kernel_rfl

theorem addr_trod (h : DataW.trod enc Try.prog w base (fun _ => true) held fuel 27 cs = some x) : ∃ a : AddrP, cs = addrCs a ∧ addrOk a := by
  obtain ⟨ys, n, _, _, hl, hlen, hf⟩ := DataW.trod_struct Try.underlying27 h
  rw [cells_addr] at hl
  have hlen2 : ys.length = 2 := hlen
  have g0 := hf 0 _ rfl
  have g1 := hf 1 _ rfl
  rw [List.getElem?_eq_getElem (by omega)] at g0 g1
  obtain ⟨b, h0, _⟩ := DataW.trod_bool Try.underlying4 g0
  obtain ⟨l, h1, hl1⟩ := bytes_trod Try.underlying25 Try.underlying5 cells_u8 cells_16 g1
  have h0' : (cs.drop 0).take 1 = [.bool b] := by rw [← h0]; exact congrArg (fun k => (cs.drop 0).take k) cells_bool.symm
  have h1' : (cs.drop 1).take 16 = bcells l := by rw [← h1]; exact congrArg (fun k => (cs.drop 1).take k) cells_16.symm
  refine ⟨(b, l), ?_, hl1⟩
  have e0 := dtk cs 0 1 1 rfl
  have e1 := dtk cs 1 16 17 rfl
  rw [h1', List.drop_of_length_le (show cs.length ≤ 17 by omega), List.append_nil] at e1
  rw [h0', e1] at e0
  exact e0
theorem int_trod1 (h : DataW.trod enc Try.prog w base (fun _ => true) held fuel 3 cs = some x) : ∃ z : Int, cs = [iv z] ∧ (Lit.int .i64 z).wf = true := by
  obtain ⟨z, hz, _, hw⟩ := DataW.trod_int Try.underlying3 h
  exact ⟨z, hz, hw⟩
theorem vip_trod (h : DataW.trod enc Try.prog w base (fun _ => true) held fuel 33 cs = some x) : ∃ v : VipP, cs = vipCs v ∧ addrOk v.1 := by
  obtain ⟨ys, n, _, _, hl, hlen, hf⟩ := DataW.trod_struct Try.underlying33 h
  rw [cells_vip] at hl
  have hlen2 : ys.length = 4 := hlen
  have g0 := hf 0 _ rfl
  have g1 := hf 1 _ rfl
  have g2 := hf 2 _ rfl
  have g3 := hf 3 _ rfl
  rw [List.getElem?_eq_getElem (by omega)] at g0 g1 g2 g3
  obtain ⟨a, h0, ha⟩ := addr_trod g0
  obtain ⟨p, h1, _⟩ := int_trod1 g1
  obtain ⟨q, h2, _⟩ := int_trod1 g2
  obtain ⟨b, h3, _⟩ := DataW.trod_bool Try.underlying4 g3
  have h0' : (cs.drop 0).take 17 = addrCs a := by rw [← h0]; exact congrArg (fun k => (cs.drop 0).take k) cells_addr.symm
  have h1' : (cs.drop 17).take 1 = [iv p] := by rw [← h1]; exact congrArg (fun k => (cs.drop 17).take k) cells_int.symm
  have h2' : (cs.drop 18).take 1 = [iv q] := by rw [← h2]; exact congrArg (fun k => (cs.drop 18).take k) cells_int.symm
  have h3' : (cs.drop 19).take 1 = [.bool b] := by rw [← h3]; exact congrArg (fun k => (cs.drop 19).take k) cells_bool.symm
  have e0 := dtk cs 0 17 17 rfl
  have e1 := dtk cs 17 1 18 rfl
  have e2 := dtk cs 18 1 19 rfl
  have e3 := dtk cs 19 1 20 rfl
  rw [h3', List.drop_of_length_le (show cs.length ≤ 20 by omega)] at e3
  rw [h2', e3] at e2
  rw [h1', e2] at e1
  rw [h0', e1] at e0
  exact ⟨(a, p, q, b), e0, ha⟩
theorem vips_trod (h : DataW.trod enc Try.prog w base (fun _ => true) held fuel 22 cs = some x) : ∃ (A : Option Addr) (c : Nat) (vs : List VipP), cs = [.slice A vs.length c] ∧ vs.length ≤ c ∧ c ≤ maxLen ∧ VS w w.heap.size A vs ∧ ∀ v ∈ vs, addrOk v.1 := by
  rcases open_slice Try.underlying22 h with ⟨hcs, _⟩ | ⟨a, len, cap, m, n, D, Pl, hcs, _, hlc, hcm, hm, _, hi⟩
  · exact ⟨none, 0, [], hcs, Nat.le_refl _, by simp [maxLen], fun hp => absurd hp (by simp), by simp⟩
  · rw [if_pos rfl] at hm
    have each : ∀ r, r < len → ∃ v : VipP, (∀ i u, (vipCs v)[i]? = some u → w.cell? (a.add (r * 20 + i)) = some u) ∧ addrOk v.1 := by
      intro r hr
      obtain ⟨cs', hc, htr⟩ := hi r (by omega)
      rw [cells_vip] at hc
      obtain ⟨v, rfl, hv⟩ := vip_trod htr
      obtain ⟨_, _, hat⟩ := World.cells?_some hc
      refine ⟨v, fun i u hu => ?_, hv⟩
      have hil : i < (vipCs v).length := (List.getElem?_eq_some_iff.1 hu).1
      have := hat i (by rw [vipCs_length hv] at hil; exact hil)
      rw [add_of_add] at this
      rw [this, ← hu]
      try rfl
    obtain ⟨y, hy⟩ := choose_lt each
    refine ⟨some a, cap, (List.range len).map y, by simpa using hcs, by simpa using hlc, hcm, fun hp => ?_, ?_⟩
    · have hp' : 0 < len := by simpa using hp
      have hsp : ∃ b o, a = ⟨b, o, none⟩ := by
        have h0 := (hy 0 hp').1 0 (.bool (y 0).1.1) rfl
        obtain ⟨b, o, spot⟩ := a
        have hs : spot = none := by
          have := World.cell?_spot h0
          unfold Addr.add at this
          split at this <;> simp_all
        subst hs
        exact ⟨b, o, rfl⟩
      obtain ⟨b, o, rfl⟩ := hsp
      refine ⟨b, o, rfl, block_lt_of_add ((hy 0 hp').1 0 (.bool (y 0).1.1) rfl), fun j v hj i u hu => ?_⟩
      rw [List.getElem?_map] at hj
      by_cases hjl : j < len
      · rw [List.getElem?_range hjl] at hj
        simp only [Option.map_some, Option.some.injEq] at hj
        subst hj
        have := (hy j hjl).1 i u hu
        rw [Go.WideShapes.add_plain] at this
        rw [Nat.add_assoc]
        exact this
      · rw [List.getElem?_eq_none (by simp; omega)] at hj
        simp at hj
    · intro z hz
      simp only [List.mem_map, List.mem_range] at hz
      obtain ⟨j, hj, rfl⟩ := hz
      exact (hy j hj).2
theorem conf_trod (h : DataW.trod enc Try.prog w base (fun _ => true) held fuel 29 cs = some x) : ∃ (A : Option Addr) (c : Nat) (f : ConfP), cs = confCs A f.vips.length c f ∧ f.vips.length ≤ c ∧ c ≤ maxLen ∧ VS w w.heap.size A f.vips ∧ ConfShape f := by
  obtain ⟨ys, n, _, _, hl, hlen, hf⟩ := DataW.trod_struct Try.underlying29 h
  rw [cells_conf] at hl
  have hlen2 : ys.length = 12 := hlen
  have g0 := hf 0 _ rfl
  have g1 := hf 1 _ rfl
  have g2 := hf 2 _ rfl
  have g3 := hf 3 _ rfl
  have g4 := hf 4 _ rfl
  have g5 := hf 5 _ rfl
  have g6 := hf 6 _ rfl
  have g7 := hf 7 _ rfl
  have g8 := hf 8 _ rfl
  have g9 := hf 9 _ rfl
  have g10 := hf 10 _ rfl
  have g11 := hf 11 _ rfl
  rw [List.getElem?_eq_getElem (by omega)] at g0 g1 g2 g3 g4 g5 g6 g7 g8 g9 g10 g11
  obtain ⟨A, c, vs, h0, hc1, hc2, hvs, hva⟩ := vips_trod g0
  obtain ⟨z1, h1, _⟩ := int_trod1 g1
  obtain ⟨z2, h2, _⟩ := int_trod1 g2
  obtain ⟨idle, h3, hl3⟩ := ints_trod Try.underlying23 Try.underlying3 cells_int cells_6i g3
  obtain ⟨z4, h4, _⟩ := int_trod1 g4
  obtain ⟨z5, h5, _⟩ := int_trod1 g5
  obtain ⟨mac, h6, hl6⟩ := bytes_trod Try.underlying24 Try.underlying5 cells_u8 cells_6b g6
  obtain ⟨four, h7, hl7⟩ := addr_trod g7
  obtain ⟨six, h8, hl8⟩ := addr_trod g8
  obtain ⟨z9, h9, _⟩ := int_trod1 g9
  obtain ⟨z10, h10, _⟩ := int_trod1 g10
  obtain ⟨z11, h11, _⟩ := int_trod1 g11
  have k0 : (cs.drop 0).take 1 = [.slice A vs.length c] := by rw [← h0]; exact congrArg (fun k => (cs.drop 0).take k) cells_vips.symm
  have k1 : (cs.drop 1).take 1 = [iv z1] := by rw [← h1]; exact congrArg (fun k => (cs.drop 1).take k) cells_int.symm
  have k2 : (cs.drop 2).take 1 = [iv z2] := by rw [← h2]; exact congrArg (fun k => (cs.drop 2).take k) cells_int.symm
  have k3 : (cs.drop 3).take 6 = idle.map iv := by rw [← h3]; exact congrArg (fun k => (cs.drop 3).take k) cells_6i.symm
  have k4 : (cs.drop 9).take 1 = [iv z4] := by rw [← h4]; exact congrArg (fun k => (cs.drop 9).take k) cells_int.symm
  have k5 : (cs.drop 10).take 1 = [iv z5] := by rw [← h5]; exact congrArg (fun k => (cs.drop 10).take k) cells_int.symm
  have k6 : (cs.drop 11).take 6 = bcells mac := by rw [← h6]; exact congrArg (fun k => (cs.drop 11).take k) cells_6b.symm
  have k7 : (cs.drop 17).take 17 = addrCs four := by rw [← h7]; exact congrArg (fun k => (cs.drop 17).take k) cells_addr.symm
  have k8 : (cs.drop 34).take 17 = addrCs six := by rw [← h8]; exact congrArg (fun k => (cs.drop 34).take k) cells_addr.symm
  have k9 : (cs.drop 51).take 1 = [iv z9] := by rw [← h9]; exact congrArg (fun k => (cs.drop 51).take k) cells_int.symm
  have k10 : (cs.drop 52).take 1 = [iv z10] := by rw [← h10]; exact congrArg (fun k => (cs.drop 52).take k) cells_int.symm
  have k11 : (cs.drop 53).take 1 = [iv z11] := by rw [← h11]; exact congrArg (fun k => (cs.drop 53).take k) cells_int.symm
  clear g0 g1 g2 g3 g4 g5 g6 g7 g8 g9 g10 g11 h0 h1 h2 h3 h4 h5 h6 h7 h8 h9 h10 h11 hf
  have e11 := dtk cs 53 1 54 rfl
  rw [k11, List.drop_of_length_le (show cs.length ≤ 54 by omega)] at e11
  have e10 := dtk cs 52 1 53 rfl
  rw [k10, e11] at e10
  have e9 := dtk cs 51 1 52 rfl
  rw [k9, e10] at e9
  have e8 := dtk cs 34 17 51 rfl
  rw [k8, e9] at e8
  have e7 := dtk cs 17 17 34 rfl
  rw [k7, e8] at e7
  have e6 := dtk cs 11 6 17 rfl
  rw [k6, e7] at e6
  have e5 := dtk cs 10 1 11 rfl
  rw [k5, e6] at e5
  have e4 := dtk cs 9 1 10 rfl
  rw [k4, e5] at e4
  have e3 := dtk cs 3 6 9 rfl
  rw [k3, e4] at e3
  have e2 := dtk cs 2 1 3 rfl
  rw [k2, e3] at e2
  have e1 := dtk cs 1 1 2 rfl
  rw [k1, e2] at e1
  have e0 := dtk cs 0 1 1 rfl
  rw [k0, e1] at e0
  refine ⟨A, c, { vips := vs, size := z1, room := z2, idle := idle, rise := z4, fall := z5, mac := mac, four := four, six := six, most := z9, keep := z10, batch := z11 }, ?_, hc1, hc2, hvs, ⟨hva, hl3, hl6, hl7, hl8⟩⟩
  simpa [confCs, confTail] using e0
end
end Go.Proofs.Ytmkeljcjhcaigaa
