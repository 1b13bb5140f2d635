/- A row of Vips of the call's own: what it reads as; a Vip appended. -/
import Derived.Test.YtmkeljcjhcaigaaCset
import Derived.Test.YtmkeljcjhcaigaaK3
namespace Go.Proofs.Ytmkeljcjhcaigaa
open Go.RowKit
set_option linter.unusedVariables false
set_option linter.unusedSimpArgs false

def vsCs (vs : List VipP) : List Value := vs.flatMap vipCs
theorem vsCs_len {vs : List VipP} (h : ∀ v ∈ vs, addrOk v.1) : (vsCs vs).length = vs.length * 20 := by
  induction vs with
  | nil => rfl
  | cons v vs ih =>
    have := ih (fun u hu => h u (by simp [hu]))
    rw [vsCs, List.flatMap_cons, List.length_append, vipCs_length (h v (by simp))]
    rw [vsCs] at this
    simp only [List.length_cons]
    omega
theorem vsCs_at {vs : List VipP} (h : ∀ v ∈ vs, addrOk v.1) {j : Nat} {v : VipP} (hj : vs[j]? = some v) {i : Nat} {u : Value} (hi : (vipCs v)[i]? = some u) : (vsCs vs)[j * 20 + i]? = some u := by
  induction vs generalizing j with
  | nil => simp at hj
  | cons x xs ih =>
    have hx := vipCs_length (h x (by simp))
    rw [vsCs, List.flatMap_cons]
    rcases j with _ | j
    · simp only [List.getElem?_cons_zero, Option.some.injEq] at hj
      subst hj
      rw [Nat.zero_mul, Nat.zero_add, List.getElem?_append_left (List.getElem?_eq_some_iff.1 hi).1]
      exact hi
    · rw [List.getElem?_cons_succ] at hj
      have := ih (fun u hu => h u (by simp [hu])) hj
      rw [List.getElem?_append_right (by rw [hx]; omega), hx, show (j + 1) * 20 + i - 20 = j * 20 + i by omega]
      exact this
def VOwn (w : World) (base : Nat) (A : Option Addr) (c : Nat) (vs : List VipP) : Prop :=
  w.ownsRow base 33 20 (.slice A vs.length c) vs.length (vsCs vs) ∧ ∀ v ∈ vs, addrOk v.1
theorem VOwn.vs {w : World} {base : Nat} {A : Option Addr} {c : Nat} {vs : List VipP} (h : VOwn w base A c vs) : VS w w.heap.size A vs := fun hn => by
  obtain ⟨g, cap, hv, _, hlt⟩ := h.1.form (by omega)
  have hA : A = some ⟨g, 0, none⟩ := by injection hv
  subst hA
  refine ⟨g, 0, rfl, hlt, fun j v hj i u hu => ?_⟩
  have := h.1.cells (g := g) rfl (j * 20 + i) u (vsCs_at h.2 hj hu)
  rw [Nat.zero_add]
  rw [show (⟨g, 0, none⟩ : Addr).add (j * 20 + i) = ⟨g, j * 20 + i, none⟩ by unfold Addr.add; split <;> simp_all] at this
  exact this
theorem VOwn.nil (w : World) (base : Nat) : VOwn w base none 0 [] := ⟨World.ownsRow_nil _ _ _ _, by simp⟩
theorem VOwn.below {w w' : World} {base : Nat} {A : Option Addr} {c : Nat} {vs : List VipP} (h : VOwn w base A c vs) (hb : Below w.heap.size w w') : VOwn w' base A c vs := ⟨own_below h.1 hb, h.2⟩
theorem VOwn.grown {w w' : World} {base g : Nat} {A : Option Addr} {c : Nat} {vs : List VipP} {t : TypeId} {cs : Array Value} (h : VOwn w base A c vs) (hb : Blk w g t cs) (ht : t ≠ 33) (hg : w.grownBy w' (some g)) : VOwn w' base A c vs :=
  ⟨h.1.kept hg (own_blk_ne h.1 hb ht), h.2⟩
theorem vip_infoO : (Try.prog.info? 33).map (fun i => (i.zero.map (fun z => z.cells.size), i.size, i.bytes)) = some (some 20, 20, 48) := by kernel_rfl
section
variable {P : Program} {w : World}
/-- 'append(vs, v)' onto a row of the call's own: v's cells lie in the new block ahead. -/
theorem wpList_append_vip {ops : Array Oper} {rest : List Oper} {o : Oper} {a : Act} {Q : Exit → Act → World → Prop} (hgd : o.guard = none) (s x : Operand) (t : TypeId)
    (ho : o.op = .call { callee := .builtin .append, args := #[s, x], argTypes := #[t, t] })
    (base : Nat) (i : TypeInfo) (z : Value) (bytes : Nat) (ht : P.underlying t = some (.slice 33)) (hi : P.info? 33 = some i) (hz : i.zero = some z)
    (hsize : i.size = 20) (hby : i.bytes = bytes) (hzs : z.cells.size = 20)
    (A : Option Addr) (c : Nat) (vs : List VipP) (v : VipP) (hv : addrOk v.1) (hs : a.eval s = .slice A vs.length c) (hown : VOwn w base A c vs)
    (b c1 : Nat) (hx : a.eval x = .slice (some ⟨b, 0, none⟩) 1 c1) (hel : w.rangeAt b 0 (vipCs v))
    (h63 : vs.length + 1 ≤ maxLen) (hbytes : (vs.length + 1) * bytes ≤ 140737488355328) (hbase : base ≤ w.heap.size)
    (h : ∀ A' c' w', VOwn w' base A' c' (vs ++ [v]) → w.grownBy w' (Value.slice A vs.length c).ownBlock → ((Value.slice A' (vs.length + 1) c').ownBlock = (Value.slice A vs.length c).ownBlock ∨ (Value.slice A' (vs.length + 1) c').ownBlock = some w.heap.size) → wpList P ops Q rest (a.put o.dst (.slice A' (vs.length + 1) c')) w') :
    wpList P ops Q (o :: rest) a w := by
  refine wpList_append_own_at (P := P) w hgd s x t ho base 33 i z 20 bytes ht hi hz hsize hby hzs (by decide) _ vs.length (vsCs vs) hs hown.1 ⟨b, 0, none⟩ 1 c1 (vipCs v) hx (by rw [vipCs_length hv]) (fun j u hj => ?_) ?_ h63 hbytes hbase ?_
  · rw [show (⟨b, 0, none⟩ : Addr).add j = ⟨b, 0 + j, none⟩ by unfold Addr.add; split <;> simp_all]
    exact hel j u hj
  · intro u hu
    have := Array.all_eq_true_iff_forall_mem.1 (vip_one v) u (by simpa using hu)
    exact this
  · intro v' w' h1 h2 _ h4
    obtain ⟨A', c', rfl, _⟩ := own_slice h1
    refine h A' c' w' ⟨?_, ?_⟩ h2 h4
    · rw [List.length_append, show vsCs (vs ++ [v]) = vsCs vs ++ vipCs v by simp [vsCs]]
      exact h1
    · intro u hu
      rcases List.mem_append.1 hu with hu | hu
      · exact hown.2 u hu
      · simp only [List.mem_singleton] at hu
        rw [hu]; exact hv
end
end Go.Proofs.Ytmkeljcjhcaigaa
