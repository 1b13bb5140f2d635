/- The walk of record.Row. -/
import Derived.Test.YtpeknjbcjpdmnaaRecL
import Derived.Test.YtpeknjbcjpdmnaaLists
namespace Go.Proofs.Ytpeknjbcjpdmnaa
open Go.RowKit
set_option linter.unusedVariables false

/-- A row of records. -/
def rowB (ls : List (List UInt8)) : List UInt8 := (ls.map recB).flatten
theorem rowB_snoc (ls : List (List UInt8)) (l : List UInt8) : rowB (ls ++ [l]) = rowB ls ++ recB l := by simp [rowB]
def rowOk (ls : List (List UInt8)) : Prop := ∀ l ∈ ls, l.length ≤ 1048576
/-- How much room a row may want. -/
def room (ls : List (List UInt8)) : Nat := (ls.map fun l => l.length + 14).sum
theorem room_take_le : ∀ (ls : List (List UInt8)) (k : Nat), room (ls.take k) ≤ room ls
  | [], k => by simp [room]
  | l :: ls, 0 => by simp [room]
  | l :: ls, k + 1 => by
    have := room_take_le ls k
    simp only [room, List.take_succ_cons, List.map_cons, List.sum_cons] at this ⊢
    omega
theorem rowB_len : ∀ (ls : List (List UInt8)), rowOk ls → (rowB ls).length ≤ room ls
  | [], _ => by simp [rowB, room]
  | l :: ls, h => by
    have ih := rowB_len ls (fun x hx => h x (by simp [hx]))
    have hl := h l (by simp)
    have h1 := recB_length l
    have h2 := vput_le (n := l.length) (by omega)
    simp only [rowB, room, List.map_cons, List.flatten_cons, List.length_append, List.sum_cons] at ih ⊢
    omega
theorem take_step {α : Type} {xs : List α} {k : Nat} (h : k < xs.length) : xs.take (k + 1) = xs.take k ++ [xs[k]] := by
  rw [List.take_add_one, List.getElem?_eq_getElem h]; rfl
theorem rowOk_step {ls : List (List UInt8)} {k : Nat} (h : k < ls.length) (h1 : rowOk (ls.take k)) (h2 : (ls[k]).length ≤ 1048576) : rowOk (ls.take (k + 1)) := by
  intro l hl
  rw [take_step h, List.mem_append] at hl
  rcases hl with hl | hl
  · exact h1 l hl
  · simp at hl
    subst hl
    exact h2

def RowIs (w : World) (ls : List (List UInt8)) (e : Ending) (w' : World) : Prop :=
  (rowOk ls ∧ ∃ A' c', e = .returned (.tuple #[.slice A' (rowB ls).length c', .int .i64 0]) ∧ w'.ownsRow w.heap.size 5 1 (.slice A' (rowB ls).length c') (rowB ls).length (bcells (rowB ls)) ∧ Below w.heap.size w w') ∨
  (¬ rowOk ls ∧ e = .returned (.tuple #[.slice none 0 0, .int .i64 4]) ∧ Below w.heap.size w w')

set_option maxHeartbeats 1600000 in
set_option maxRecDepth 100000 in
theorem row_any (A : Option Addr) (n c : Nat) (ls : List (List UInt8)) (w : World) (hn : n = ls.length) (hb : LS w w.heap.size A ls) (hl : n ≤ 1000000000) (hroom : room ls ≤ 1000000000) :
    Calls Try.prog 16 #[.slice A n c] w (RowIs w ls) := by
  subst hn
  obtain ⟨i0, hi0, hz0, hz1, hz2⟩ := info_parts u8_infoO
  have HB := Lib.hid hb
  have Hroom := Lib.hid hroom
  clear hb hroom
  go_enter Try.func16, Try.ntmps16
  go_wp2
  go_loopw [4, 11] (fun v i wr => ∃ (k : Nat) (dn : List UInt8) (A' : Option Addr) (c' : Nat), k ≤ ls.length ∧ i = .int .i64 (k : Int) ∧ v = .slice A' dn.length c' ∧ Below w.heap.size w wr ∧ Hid (dn = rowB (ls.take k)) ∧ Hid (rowOk (ls.take k)) ∧ dn.length ≤ 1000000000 ∧ Hid (wr.ownsRow w.heap.size 5 1 (.slice A' dn.length c') dn.length (bcells dn))) (fun _ i _ => ls.length - (intOf i).toNat)
  case atStart => exact ⟨0, [], none, 0, by omega, rfl, rfl, Below.refl _ _, by simp [Hid, rowB], by simp [Hid, rowOk], by simp, World.ownsRow_nil _ _ _ _⟩
  case round =>
    obtain ⟨k, dn, A', c', hk, rfl, rfl, hbel, hdn, hok, hlen, hown⟩ := hrel
    have hsz : w.heap.size ≤ wr.heap.size := hbel.size
    have hrow : ∀ g, (Value.slice A' dn.length c').ownBlock = some g → w.heap.size ≤ g := fun g hg => (hown.out.lt g hg).1
    by_cases hlt : k < ls.length
    · have hkI : (k : Int) < (ls.length : Int) := by omega
      obtain ⟨ad, A1, c1, rfl, hadb, hc, hcc, hbs⟩ := (HB.out.below hbel).at_ hlt
      have hl0 : Hid (ls[k] ∈ ls) := List.getElem_mem hlt
      by_cases hbig : 1048576 < (ls[k]).length
      · have hno : Hid (¬ rowOk ls) := fun h => by have := h _ hl0.out; omega
        clear hbs
        generalize (ls[k]).length = L at *
        go_wp2_with fail
        refine (recPut_long _ _ _ _ hbig).mono ?_
        rintro e w1 ⟨rfl, rfl⟩
        go_wp2
        go_ret2
        exact .inr ⟨hno.out, rfl, hbel⟩
      · have hL : (ls[k]).length ≤ 1048576 := by omega
        have hok' : Hid (rowOk (ls.take (k + 1))) := rowOk_step hlt hok.out hL
        have hdn' : Hid (dn ++ recB ls[k] = rowB (ls.take (k + 1))) := by
          show _ = _
          rw [hdn.out, take_step hlt, rowB_snoc]
        have hle' : (dn ++ recB ls[k]).length ≤ 1000000000 := by
          rw [hdn'.out]
          exact Nat.le_trans (rowB_len _ hok'.out) (Nat.le_trans (room_take_le ls (k + 1)) Hroom.out)
        have Hbs := Lib.hid (hbs.more hsz)
        clear hbs hl0
        generalize ls[k] = l at *
        rw [List.length_append] at hle'
        go_wp2_with fail
        refine (recPut_any _ _ _ l _ rfl Hbs.out hL).mono ?_
        rintro e w1 ⟨A2, c2, rfl, hown2, hb2⟩
        have hB2 := hbel.trans (hb2.mono hsz)
        have Hown2 := Lib.hid hown2
        have Hown1 := Lib.hid (own_below hown.out hb2)
        clear hown2
        go_wp2_with (at_builtin; refine wpList_append_bytes _ rfl _ _ 22 rfl w.heap.size 5 i0 (.int .u8 0) 1 Try.underlying22 hi0 hz0 hz1 hz2 rfl (.slice A' dn.length c') dn rfl Hown1.out w1.heap.size A2 _ c2 (recB l) rfl rfl (BS.of_own Hown2.out).1 (by unfold maxLen; omega) (by omega) hB2.size ?_; intro A3 c3 w3 hown3 hg3 _)
        have hb3 : Below w.heap.size w w3 := hB2.grown hg3 hB2.size hrow
        have hlen3 : (dn ++ recB l).length = dn.length + (recB l).length := List.length_append
        have Hown3 := Lib.hid hown3
        have Hlen3 := Lib.hid hlen3
        clear hown3 hlen3 hg3 hb2
        go_roundw
        case rel => exact ⟨k + 1, dn ++ recB l, A3, c3, by omega, by go_num, by simp, hb3, hdn', hok', by simp; omega, Hown3.out⟩
        case measure => simp [intOf]; omega
    · have hke : ls.take k = ls := List.take_of_length_le (by omega)
      have hd := hdn.out
      have ho := hok.out
      rw [hke] at hd ho
      subst hd
      clear hdn hke
      go_wp2
      go_ret2
      exact .inl ⟨ho, A', c', rfl, hown.out, hbel⟩
end Go.Proofs.Ytpeknjbcjpdmnaa
