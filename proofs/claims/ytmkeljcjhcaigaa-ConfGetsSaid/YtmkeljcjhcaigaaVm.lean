/- Rows of Vips of a call's own: all Vips of a row appended; one Vip of them blotted out. -/
import Derived.Test.YtmkeljcjhcaigaaCgsv
import Derived.Test.YtmkeljcjhcaigaaTurn
namespace Go.Proofs.Ytmkeljcjhcaigaa
open Go.RowKit
set_option linter.unusedVariables false

theorem vsCs_get {vs : List VipP} (h : ∀ v ∈ vs, addrOk v.1) {j : Nat} {u : Value} (hj : (vsCs vs)[j]? = some u) : ∃ q i v, j = q * 20 + i ∧ vs[q]? = some v ∧ (vipCs v)[i]? = some u := by
  have hl := vsCs_len h
  have hjl : j < vs.length * 20 := by
    have := (List.getElem?_eq_some_iff.1 hj).1
    omega
  have hq : j / 20 < vs.length := by omega
  refine ⟨j / 20, j % 20, vs[j / 20], by omega, List.getElem?_eq_getElem hq, ?_⟩
  have h20 : (vipCs vs[j / 20]).length = 20 := vipCs_length (h _ (List.getElem_mem hq))
  have hi : (vipCs vs[j / 20])[j % 20]? = some ((vipCs vs[j / 20])[j % 20]'(by omega)) := List.getElem?_eq_getElem (by omega)
  have := vsCs_at h (List.getElem?_eq_getElem hq) hi
  rw [show j / 20 * 20 + j % 20 = j by omega, hj] at this
  rw [hi, this]
theorem VOwn.lit (w : World) (base : Nat) (hb : base ≤ w.heap.size) : VOwn (w.alloc (.cells #[] 33)) base (some ⟨w.heap.size, 0, none⟩) 0 [] :=
  ⟨World.ownsRow_lit w #[] 0 hb (by unfold maxLen; omega) (by simp), by simp⟩
section
variable {P : Program} (w : World)
theorem run_append_vips (base : Nat) (t ty : TypeId) (i : TypeInfo) (z : Value) (bytes : Nat) (ht : P.underlying t = some (.slice 33)) (hi : P.info? 33 = some i) (hz : i.zero = some z)
    (hsize : i.size = 20) (hby : i.bytes = bytes) (hzs : z.cells.size = 20)
    (A : Option Addr) (c : Nat) (vs : List VipP) (hown : VOwn w base A c vs)
    (B : Nat) (A2 : Option Addr) (c2 : Nat) (us : List VipP) (hu : ∀ v ∈ us, addrOk v.1) (hr : VS w B A2 us)
    (h63 : vs.length + us.length ≤ maxLen) (hbytes : (vs.length + us.length) * bytes ≤ 140737488355328) (hbase : base ≤ w.heap.size) :
    ∃ v' w', (Builtin.append_ #[t, t] ty #[.slice A vs.length c, .slice A2 us.length c2]).run P w = .ok v' w' ∧ w'.ownsRow base 33 20 v' (vs ++ us).length (vsCs (vs ++ us)) ∧ w.grownBy w' (Value.slice A vs.length c).ownBlock ∧
      (v'.ownBlock = (Value.slice A vs.length c).ownBlock ∨ v'.ownBlock = some w.heap.size) := by
  have hcs : vsCs (vs ++ us) = vsCs vs ++ vsCs us := by simp [vsCs]
  rw [List.length_append, hcs]
  rcases A2 with _ | ad
  · have hm : us = [] := by
      rcases us with _ | ⟨a, m⟩
      · rfl
      · obtain ⟨b, o, h, _⟩ := hr (by simp)
        cases h
    subst hm
    refine ⟨_, w, run_append_of_nil w base t ty _ i 20 ht hi _ _ _ hown.1 c2, ?_, World.grownBy.refl w _, .inl rfl⟩
    simpa [vsCs] using hown.1
  · have hcells : ∀ j u, (vsCs us)[j]? = some u → w.cell? (ad.add j) = some u := by
      intro j u hj
      obtain ⟨q, i, v, rfl, hv, hiv⟩ := vsCs_get hu hj
      have h0 : 0 < us.length := by
        have := (List.getElem?_eq_some_iff.1 hv).1
        omega
      obtain ⟨b, o, h, _, hc⟩ := hr h0
      injection h with h
      subst h
      have := hc q v hv i u hiv
      rw [show (⟨b, o, none⟩ : Addr).add (q * 20 + i) = ⟨b, o + q * 20 + i, none⟩ by unfold Addr.add; split <;> simp_all [Nat.add_assoc]]
      exact this
    obtain ⟨v', w', hrun, h2, h3, _, h5⟩ := run_append_own_at (P := P) w base t ty _ i z 20 bytes ht hi hz hsize hby hzs (by omega) _ _ _ hown.1 ad us.length c2 (vsCs us) (vsCs_len hu) hcells (by
      intro u hm
      obtain ⟨j, hj, hju⟩ := List.getElem_of_mem hm
      obtain ⟨q, i, v, _, _, hiv⟩ := vsCs_get hu (by rw [List.getElem?_eq_getElem hj, hju])
      exact Array.all_eq_true_iff_forall_mem.1 (vip_one v) u (by simpa using List.mem_of_getElem? hiv)) h63 hbytes hbase
    exact ⟨v', w', hrun, h2, h3, h5⟩
theorem wp_append_vips {o : Oper} {a : Act} {K : Act → World → Prop} {Q : Exit → Act → World → Prop} (s x : Operand) (t : TypeId)
    (ho : o.op = .call { callee := .builtin .append, args := #[s, x], argTypes := #[t, t] })
    (base : Nat) (i : TypeInfo) (z : Value) (bytes : Nat) (ht : P.underlying t = some (.slice 33)) (hi : P.info? 33 = some i) (hz : i.zero = some z)
    (hsize : i.size = 20) (hby : i.bytes = bytes) (hzs : z.cells.size = 20)
    (A : Option Addr) (c : Nat) (vs : List VipP) (hs : a.eval s = .slice A vs.length c) (hown : VOwn w base A c vs)
    (B : Nat) (A2 : Option Addr) (c2 : Nat) (us : List VipP) (hu : ∀ v ∈ us, addrOk v.1) (hx : a.eval x = .slice A2 us.length c2) (hr : VS w B A2 us)
    (h63 : vs.length + us.length ≤ maxLen) (hbytes : (vs.length + us.length) * bytes ≤ 140737488355328) (hbase : base ≤ w.heap.size)
    (h : ∀ A' c' w', VOwn w' base A' c' (vs ++ us) → w.grownBy w' (Value.slice A vs.length c).ownBlock → ((Value.slice A' (vs ++ us).length c').ownBlock = (Value.slice A vs.length c).ownBlock ∨ (Value.slice A' (vs ++ us).length c').ownBlock = some w.heap.size) → K (a.put o.dst (.slice A' (vs ++ us).length c')) w') : o.wp P a w K Q := by
  obtain ⟨v', w', hrun, h2, h3, h4⟩ := run_append_vips (P := P) w base t o.type i z bytes ht hi hz hsize hby hzs A c vs hown B A2 c2 us hu hr h63 hbytes hbase
  unfold Oper.wp execOp
  simp only [ho, resolve, invoke, builtin, Sem.run_bind, Sem.run_pure, Result.andThen_ok, List.map_toArray, List.map_cons, List.map_nil, hs, hx, hrun]
  obtain ⟨A', c', rfl, _⟩ := own_slice h2
  exact h A' c' w' ⟨h2, fun u hm => (List.mem_append.1 hm).elim (hown.2 u) (hu u)⟩ h3 h4
theorem wpList_append_vips {ops : Array Oper} {rest : List Oper} {o : Oper} {a : Act} {Q : Exit → Act → World → Prop} (hgd : o.guard = none) (s x : Operand) (t : TypeId)
    (ho : o.op = .call { callee := .builtin .append, args := #[s, x], argTypes := #[t, t] })
    (base : Nat) (i : TypeInfo) (z : Value) (bytes : Nat) (ht : P.underlying t = some (.slice 33)) (hi : P.info? 33 = some i) (hz : i.zero = some z)
    (hsize : i.size = 20) (hby : i.bytes = bytes) (hzs : z.cells.size = 20)
    (A : Option Addr) (c : Nat) (vs : List VipP) (hs : a.eval s = .slice A vs.length c) (hown : VOwn w base A c vs)
    (B : Nat) (A2 : Option Addr) (c2 : Nat) (us : List VipP) (hu : ∀ v ∈ us, addrOk v.1) (hx : a.eval x = .slice A2 us.length c2) (hr : VS w B A2 us)
    (h63 : vs.length + us.length ≤ maxLen) (hbytes : (vs.length + us.length) * bytes ≤ 140737488355328) (hbase : base ≤ w.heap.size)
    (h : ∀ A' c' w', VOwn w' base A' c' (vs ++ us) → w.grownBy w' (Value.slice A vs.length c).ownBlock → ((Value.slice A' (vs ++ us).length c').ownBlock = (Value.slice A vs.length c).ownBlock ∨ (Value.slice A' (vs ++ us).length c').ownBlock = some w.heap.size) → wpList P ops Q rest (a.put o.dst (.slice A' (vs ++ us).length c')) w') : wpList P ops Q (o :: rest) a w :=
  wpList_plain hgd fun _ hK => wp_append_vips w s x t ho base i z bytes ht hi hz hsize hby hzs A c vs hs hown B A2 c2 us hu hx hr h63 hbytes hbase fun A' c' w' h2 h3 h4 => hK _ _ (h A' c' w' h2 h3 h4)
end
theorem vsCs_set {vs : List VipP} (h : ∀ v ∈ vs, addrOk v.1) {k : Nat} (hk : k < vs.length) {v : VipP} (hv : addrOk v.1) : vsCs (vs.set k v) = (vsCs vs).take (k * 20) ++ (vipCs v ++ (vsCs vs).drop (k * 20 + 20)) := by
  have e : vs = vs.take k ++ (vs[k] :: vs.drop (k + 1)) := by rw [List.getElem_cons_drop, List.take_append_drop]
  have h1 : (vs.take k).length = k := by rw [List.length_take]; omega
  have hs : vs.set k v = vs.take k ++ (v :: vs.drop (k + 1)) := by
    rw [List.set_eq_take_append_cons_drop, if_pos hk]
  have hm : ∀ (l : List VipP) (a : VipP), vsCs (a :: l) = vipCs a ++ vsCs l := fun l a => rfl
  have ha : ∀ (a b : List VipP), vsCs (a ++ b) = vsCs a ++ vsCs b := fun a b => by simp [vsCs]
  have l1 : (vsCs (vs.take k)).length = k * 20 := by rw [vsCs_len (fun v hv => h v (List.mem_of_mem_take hv)), h1]
  have l2 : (vipCs vs[k]).length = 20 := vipCs_length (h _ (List.getElem_mem hk))
  have hvs : vsCs vs = vsCs (vs.take k) ++ (vipCs vs[k] ++ vsCs (vs.drop (k + 1))) := by
    conv => lhs; rw [e]
    rw [ha, hm]
  have l3 : (vsCs (vs.take k) ++ vipCs vs[k]).length = k * 20 + 20 := by rw [List.length_append, l1, l2]
  have hd : (vsCs vs).drop (k * 20 + 20) = vsCs (vs.drop (k + 1)) := by rw [hvs, ← List.append_assoc, List.drop_left' l3]
  have ht : (vsCs vs).take (k * 20) = vsCs (vs.take k) := by rw [hvs, List.take_left' l1]
  rw [hs, ha, hm, hd, ht]
/-- One Vip of the row stored anew. -/
theorem VOwn.put {w : World} {base : Nat} {A : Option Addr} {c : Nat} {vs : List VipP} (h : VOwn w base A c vs) {k : Nat} (hk : k < vs.length) (v : VipP) (hv : addrOk v.1) :
    ∃ g, A = some ⟨g, 0, none⟩ ∧ base ≤ g ∧ g < w.heap.size ∧ w.there g (k * 20) 20 ∧ VOwn (w.setCells g (k * 20) (vipCs v)) base A c (vs.set k v) := by
  obtain ⟨⟨hl, hcase⟩, ho⟩ := h
  rcases hcase with ⟨h1, h2⟩ | ⟨g, cap, cur, h1, h2, h3, h4, h5, h6, h7⟩
  · omega
  · injection h1 with hA hn hc
    subst hA hc
    have hb : Blk w g 33 cur := h3
    have h20 : (vipCs v).length = 20 := vipCs_length hv
    have hcl : cur.toList.length = c * 20 := by rw [Array.length_toList]; exact h6
    have hkc : k * 20 + 20 ≤ c * 20 := by omega
    have hb2 := Blk.setCells (vipCs v) (k * 20) hb
    have hcur : cur = cur.toList.toArray := by simp
    rw [hcur, setL_list (vipCs v) cur.toList (k * 20) (by rw [hcl, h20]; exact hkc)] at hb2
    refine ⟨g, rfl, h2, hb.lt, Blk.there hb (by rw [h6]; exact hkc), ⟨?_, .inr ⟨g, c, _, ?_, h2, hb2, ?_, h5, ?_, ?_⟩⟩, ?_⟩
    · rw [vsCs_len (fun u hu => (List.mem_or_eq_of_mem_set hu).elim (ho u) (fun e => by rw [e]; exact hv)), List.length_set]
    · rw [List.length_set]
    · rw [List.length_set]; exact h4
    · simp only [List.size_toArray, List.length_append, List.length_take, List.length_drop, hcl, h20]
      omega
    · rw [vsCs_set ho hk hv, ← h7]
      simp only [List.length_set]
      have hkn : k * 20 + 20 ≤ vs.length * 20 := by omega
      have e1 : (cur.toList.take (vs.length * 20)).take (k * 20) = cur.toList.take (k * 20) := by rw [List.take_take, Nat.min_eq_left (by omega)]
      have e2 : (cur.toList.take (vs.length * 20)).drop (k * 20 + 20) = (cur.toList.drop (k * 20 + 20)).take (vs.length * 20 - (k * 20 + 20)) := List.drop_take
      have l1 : (cur.toList.take (k * 20)).length = k * 20 := by rw [List.length_take, hcl]; omega
      have l2 : vs.length * 20 = (cur.toList.take (k * 20)).length + ((vipCs v).length + (vs.length * 20 - (k * 20 + 20))) := by rw [l1, h20]; omega
      rw [e1, e2]
      conv => lhs; rw [l2]
      rw [List.take_length_add_append, List.take_length_add_append, h20]
    · intro u hu
      exact (List.mem_or_eq_of_mem_set hu).elim (ho u) (fun e => by rw [e]; exact hv)
theorem own_types_ne {w : World} {b b' : Nat} {e e' : TypeId} {s s' n n' : Nat} {v v' : Value} {xs xs' : List Value} (h : w.ownsRow b e s v n xs) (h' : w.ownsRow b' e' s' v' n' xs') (hne : e ≠ e') : v.ownBlock = none ∨ v.ownBlock ≠ v'.ownBlock := by
  rcases h.2 with ⟨rfl, _⟩ | ⟨g, cap, cur, rfl, _, hh, _⟩
  · exact .inl rfl
  · right
    rcases h'.2 with ⟨rfl, _⟩ | ⟨g', cap', cur', rfl, _, hh', _⟩
    · simp [Value.ownBlock]
    · intro e1
      have : g = g' := by simpa [Value.ownBlock] using e1
      subst this
      rw [hh] at hh'
      injection hh' with hh'
      injection hh' with _ ht
      exact hne ht
theorem own_ne_row {w : World} {base : Nat} {e : TypeId} {size n : Nat} {v : Value} {xs : List Value} {row : Option Nat} (h : w.ownsRow base e size v n xs) (hr : ∀ k, row = some k → k < base) : v.ownBlock = none ∨ v.ownBlock ≠ row := by
  rcases hv : v.ownBlock with _ | k
  · exact .inl rfl
  · right
    intro h2
    have h3 := hr k h2.symm
    have h4 := (h.lt k hv).1
    omega
/-- One byte of a row stored anew. -/
theorem own_put8 {w : World} {base : Nat} {A : Option Addr} {c : Nat} {l : List UInt8} (h : w.ownsRow base 5 1 (.slice A l.length c) l.length (bcells l)) {k : Nat} (hk : k < l.length) (x : UInt8) :
    ∃ g, A = some ⟨g, 0, none⟩ ∧ base ≤ g ∧ g < w.heap.size ∧ w.cell? ⟨g, k, none⟩ = some (.int .u8 (l[k].toNat : Int)) ∧ w.frozen? ⟨g, k, none⟩ = false ∧ (w.setCell ⟨g, k, none⟩ (.int .u8 (x.toNat : Int))).ownsRow base 5 1 (.slice A (l.set k x).length c) (l.set k x).length (bcells (l.set k x)) := by
  obtain ⟨g, cap, hv, h2, h3⟩ := h.form (by omega)
  injection hv with hA hn hc
  subst hA hc
  have hcell := h.cellAt (g := g) k (by omega)
  refine ⟨g, rfl, h2, h3, ?_, h.frozenAt k, ?_⟩
  · rw [hcell, bcells, List.getElem?_map, List.getElem?_eq_getElem hk]; rfl
  · have := (h.stored k (.int .u8 (x.toNat : Int))).1
    rw [List.length_set, bcells_set]
    exact this
end Go.Proofs.Ytmkeljcjhcaigaa
