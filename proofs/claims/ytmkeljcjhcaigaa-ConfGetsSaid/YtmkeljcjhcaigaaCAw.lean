/- The statements of layer 22: awake answers yes (printed by gen_caw.py). -/
import Derived.Test.YtmkeljcjhcaigaaCAwP
import Derived.Test.YtmkeljcjhcaigaaCget
import Derived.Test.YtmkeljcjhcaigaaCput
import Derived.Test.YtmkeljcjhcaigaaConfX
import Derived.Test.YtmkeljcjhcaigaaConfT
namespace Go.Proofs.Ytmkeljcjhcaigaa
open Go.RowKit
set_option linter.unusedVariables false
set_option linter.unusedSimpArgs false

theorem conf_szA {A : Option Addr} {n c : Nat} {f : ConfP} (h : ConfShape f) : (Try.prog.info? 29).map (·.size) = some (confCs A n c f).toArray.size := by
  rw [List.size_toArray, conf_len h]; exact conf_size54
theorem conf_szL {A : Option Addr} {n c : Nat} {f : ConfP} (h : ConfShape f) : (Try.prog.info? 29).map (·.size) = some (confCs A n c f).length := by
  rw [conf_len h]; exact conf_size54
theorem putA_yes (F : ConfP) (hF : F = cA) (w : World) : Calls Try.prog 20 #[.agg (confCs none 0 0 F).toArray] w fun e w' => ∃ A' c', e = .returned (.tuple #[.slice A' 40 c', .int .i64 0]) ∧ w'.ownsRow w.heap.size 5 1 (.slice A' 40 c') 40 (bcells lA) ∧ Below w.heap.size w w' := by
  subst hF
  refine (put_cany none 0 0 cA cA_shape w rfl (Nat.le_refl _) (fun h => absurd h (by decide)) (by decide)).mono ?_
  rintro e w' ⟨h1, _, h3⟩
  obtain ⟨A', c', h4, h5⟩ := h3 cA_right
  rw [cA_put] at h4 h5
  exact ⟨A', c', h4, h5, h1⟩
theorem putA_no (w : World) : Calls Try.prog 20 #[.agg (#[.slice none 0 0, .int .i64 0, .int .i64 0, .int .i64 0, .int .i64 0, .int .i64 0, .int .i64 0, .int .i64 0, .int .i64 0, .int .i64 0, .int .i64 0, .int .u8 0, .int .u8 0, .int .u8 0, .int .u8 0, .int .u8 0, .int .u8 0, .bool false, .int .u8 0, .int .u8 0, .int .u8 0, .int .u8 0, .int .u8 0, .int .u8 0, .int .u8 0, .int .u8 0, .int .u8 0, .int .u8 0, .int .u8 0, .int .u8 0, .int .u8 0, .int .u8 0, .int .u8 0, .int .u8 0, .bool false, .int .u8 0, .int .u8 0, .int .u8 0, .int .u8 0, .int .u8 0, .int .u8 0, .int .u8 0, .int .u8 0, .int .u8 0, .int .u8 0, .int .u8 0, .int .u8 0, .int .u8 0, .int .u8 0, .int .u8 0, .int .u8 0, .int .i64 0, .int .i64 0, .int .i64 0] : Array Value)] w fun e w' => e = .returned (.tuple #[.slice none 0 0, .int .i64 1]) ∧ Below w.heap.size w w' := by
  refine (put_cany none 0 0 conf0 conf0_shape w rfl (Nat.le_refl _) (fun h => absurd h (by decide)) (by decide)).mono ?_
  rintro e w' ⟨h1, h2, _⟩
  exact ⟨h2 conf0_right, h1⟩
theorem getA_yes (F : ConfP) (hF : F = cA) (A : Option Addr) (c : Nat) (w : World) (hb : BS w w.heap.size A lA) : Calls Try.prog 22 #[.slice A 40 c] w fun e w' => ∃ A c, e = .returned (.tuple #[.agg (confCs A 0 c F).toArray, .int .i64 0]) ∧ Below w.heap.size w w' := by
  subst hF
  refine (get_cany A 40 c lA w rfl hb (by decide)).mono ?_
  rintro e w' ⟨h1, _, h3⟩
  obtain ⟨A', c', h4, _⟩ := h3 cA cA_get
  exact ⟨A', c', h4, h1⟩
theorem getA_no (F : ConfP) (hF : F = conf0) (w : World) : Calls Try.prog 22 #[.slice none 0 0] w fun e w' => e = .returned (.tuple #[.agg (confCs none 0 0 F).toArray, .int .i64 3]) ∧ Below w.heap.size w w' := by
  subst hF
  refine (get_cany none 0 0 [] w rfl (BS.nil _ _ _) (by decide)).mono ?_
  rintro e w' ⟨h1, h2, _⟩
  exact ⟨h2 nil_get, h1⟩
theorem sameA (F : ConfP) (hF : F = cA) (A : Option Addr) (c : Nat) (w : World) : Calls Try.prog 18 #[.agg (confCs none 0 0 F).toArray, .agg (confCs A 0 c F).toArray] w fun e w' => e = .returned (.bool true) ∧ Below w.heap.size w w' := by
  subst hF
  have := same_any none 0 0 cA A 0 c cA cA_shape cA_shape w rfl rfl (fun h => absurd h (by decide)) (fun h => absurd h (by decide)) (by decide) (by decide)
  rw [cA_same] at this
  exact this
theorem rightA (F : ConfP) (hF : F = cA) (w : World) : Calls Try.prog 16 #[.agg (confCs none 0 0 F).toArray] w fun e w' => e = .returned (.bool true) ∧ Below w.heap.size w w' := by
  subst hF
  have := right_any none 0 0 cA cA_shape w rfl (Nat.le_refl _) (fun h => absurd h (by decide)) (by decide)
  rw [cA_right] at this
  exact this
/-- A box made and written. -/
theorem boxed (w W1 W2 : World) (t : TypeId) (z cs : List Value) (hl : cs.length = z.length) (h1 : W1 = w.alloc (.cells z.toArray t)) (h2 : W2 = W1.setCells w.heap.size 0 cs) :
    W1.there w.heap.size 0 cs.toArray.size ∧ Blk W2 w.heap.size t cs.toArray ∧ Below w.heap.size w W2 := by
  subst h1 h2
  have hb : Blk (w.alloc (.cells z.toArray t)) w.heap.size t z.toArray := Blk.new w _ _ _ rfl
  refine ⟨hb.there (by simp [hl]), ?_, below_setCells (Nat.le_refl _) _ _ ((Below.refl _ _).alloc (Nat.le_refl _) _)⟩
  have := Blk.setCells cs 0 hb
  rw [setL_whole (vs := cs) (cs := z) hl] at this
  exact this
theorem addr0_litA : (addrCs addr0).toArray = (#[.bool false, .int .u8 0, .int .u8 0, .int .u8 0, .int .u8 0, .int .u8 0, .int .u8 0, .int .u8 0, .int .u8 0, .int .u8 0, .int .u8 0, .int .u8 0, .int .u8 0, .int .u8 0, .int .u8 0, .int .u8 0, .int .u8 0] : Array Value) := rfl
theorem vip0_litA : (vipCs vip0).toArray = (#[.bool false, .int .u8 0, .int .u8 0, .int .u8 0, .int .u8 0, .int .u8 0, .int .u8 0, .int .u8 0, .int .u8 0, .int .u8 0, .int .u8 0, .int .u8 0, .int .u8 0, .int .u8 0, .int .u8 0, .int .u8 0, .int .u8 0, .int .i64 0, .int .i64 0, .bool false] : Array Value) := rfl
theorem VS.blk {w : World} {g : Nat} {t : TypeId} {v : VipP} (h : Blk w g t (vipCs v).toArray) : VS w w.heap.size (some ⟨g, 0, none⟩) [v] := by
  intro _
  refine ⟨g, 0, rfl, h.lt, fun j u hj => ?_⟩
  rcases j with _ | j
  · simp only [List.getElem?_cons_zero, Option.some.injEq] at hj
    subst hj
    exact blk_range h
  · simp at hj
theorem vipA (proto : Int) (r : VipP × Bool) (hr : vipFind aA proto 80 [vA] = r) (g : Nat) (cs : Array Value) (hcs : cs[0]? = some (.slice (some ⟨g, 0, none⟩) 1 1)) (w : World) (t : TypeId) (h : Blk w g t ([.bool false, .int .u8 1, .int .u8 2, .int .u8 3, .int .u8 4, .int .u8 0, .int .u8 0, .int .u8 0, .int .u8 0, .int .u8 0, .int .u8 0, .int .u8 0, .int .u8 0, .int .u8 0, .int .u8 0, .int .u8 0, .int .u8 0, .int .i64 6, .int .i64 80, .bool false] : List Value).toArray) :
    Calls Try.prog 12 #[.agg cs, .agg ([.bool false, .int .u8 1, .int .u8 2, .int .u8 3, .int .u8 4, .int .u8 0, .int .u8 0, .int .u8 0, .int .u8 0, .int .u8 0, .int .u8 0, .int .u8 0, .int .u8 0, .int .u8 0, .int .u8 0, .int .u8 0, .int .u8 0] : List Value).toArray, .int .i64 proto, .int .i64 80] w fun e w' => e = .returned (.tuple #[vipV r.1, .bool r.2]) ∧ Below w.heap.size w w' := by
  have h' : Blk w g t (vipCs vA).toArray := h
  have := vip_any cs (some ⟨g, 0, none⟩) 1 1 hcs [vA] (by simp [vA, aA_ok]) aA aA_ok proto 80 w rfl (VS.blk h') (by decide)
  rw [hr] at this
  exact this
theorem vipA_yes (g : Nat) (cs : Array Value) (hcs : cs[0]? = some (.slice (some ⟨g, 0, none⟩) 1 1)) (w : World) (t : TypeId) (h : Blk w g t ([.bool false, .int .u8 1, .int .u8 2, .int .u8 3, .int .u8 4, .int .u8 0, .int .u8 0, .int .u8 0, .int .u8 0, .int .u8 0, .int .u8 0, .int .u8 0, .int .u8 0, .int .u8 0, .int .u8 0, .int .u8 0, .int .u8 0, .int .i64 6, .int .i64 80, .bool false] : List Value).toArray) :
    Calls Try.prog 12 #[.agg cs, .agg ([.bool false, .int .u8 1, .int .u8 2, .int .u8 3, .int .u8 4, .int .u8 0, .int .u8 0, .int .u8 0, .int .u8 0, .int .u8 0, .int .u8 0, .int .u8 0, .int .u8 0, .int .u8 0, .int .u8 0, .int .u8 0, .int .u8 0] : List Value).toArray, .int .i64 6, .int .i64 80] w fun e w' => e = .returned (.tuple #[.agg ([.bool false, .int .u8 1, .int .u8 2, .int .u8 3, .int .u8 4, .int .u8 0, .int .u8 0, .int .u8 0, .int .u8 0, .int .u8 0, .int .u8 0, .int .u8 0, .int .u8 0, .int .u8 0, .int .u8 0, .int .u8 0, .int .u8 0, .int .i64 6, .int .i64 80, .bool false] : List Value).toArray, .bool true]) ∧ Below w.heap.size w w' := vipA 6 (vA, true) aA_find g cs hcs w t h
theorem vipA_no (g : Nat) (cs : Array Value) (hcs : cs[0]? = some (.slice (some ⟨g, 0, none⟩) 1 1)) (w : World) (t : TypeId) (h : Blk w g t ([.bool false, .int .u8 1, .int .u8 2, .int .u8 3, .int .u8 4, .int .u8 0, .int .u8 0, .int .u8 0, .int .u8 0, .int .u8 0, .int .u8 0, .int .u8 0, .int .u8 0, .int .u8 0, .int .u8 0, .int .u8 0, .int .u8 0, .int .i64 6, .int .i64 80, .bool false] : List Value).toArray) :
    Calls Try.prog 12 #[.agg cs, .agg ([.bool false, .int .u8 1, .int .u8 2, .int .u8 3, .int .u8 4, .int .u8 0, .int .u8 0, .int .u8 0, .int .u8 0, .int .u8 0, .int .u8 0, .int .u8 0, .int .u8 0, .int .u8 0, .int .u8 0, .int .u8 0, .int .u8 0] : List Value).toArray, .int .i64 17, .int .i64 80] w fun e w' => e = .returned (.tuple #[.agg ([.bool false, .int .u8 0, .int .u8 0, .int .u8 0, .int .u8 0, .int .u8 0, .int .u8 0, .int .u8 0, .int .u8 0, .int .u8 0, .int .u8 0, .int .u8 0, .int .u8 0, .int .u8 0, .int .u8 0, .int .u8 0, .int .u8 0, .int .i64 0, .int .i64 0, .bool false] : List Value).toArray, .bool false]) ∧ Below w.heap.size w w' := vipA 17 (vip0, false) aA_nofind g cs hcs w t h
theorem eqVA (w : World) : (Op.equalIn 10000 33 (.agg ([.bool false, .int .u8 1, .int .u8 2, .int .u8 3, .int .u8 4, .int .u8 0, .int .u8 0, .int .u8 0, .int .u8 0, .int .u8 0, .int .u8 0, .int .u8 0, .int .u8 0, .int .u8 0, .int .u8 0, .int .u8 0, .int .u8 0, .int .i64 6, .int .i64 80, .bool false] : List Value).toArray) (.agg ([.bool false, .int .u8 1, .int .u8 2, .int .u8 3, .int .u8 4, .int .u8 0, .int .u8 0, .int .u8 0, .int .u8 0, .int .u8 0, .int .u8 0, .int .u8 0, .int .u8 0, .int .u8 0, .int .u8 0, .int .u8 0, .int .u8 0, .int .i64 6, .int .i64 80, .bool false] : List Value).toArray)).run Try.prog w = .ok true w := by
  have := vip_eqIn 9996 vA vA aA_ok aA_ok w
  rw [show (vA == vA) = true from by decide] at this
  exact this
theorem eqAA (w : World) : (Op.equalIn 10000 27 (.agg ([.bool false, .int .u8 1, .int .u8 2, .int .u8 3, .int .u8 4, .int .u8 0, .int .u8 0, .int .u8 0, .int .u8 0, .int .u8 0, .int .u8 0, .int .u8 0, .int .u8 0, .int .u8 0, .int .u8 0, .int .u8 0, .int .u8 0] : List Value).toArray) (.agg ([.bool false, .int .u8 1, .int .u8 2, .int .u8 3, .int .u8 4, .int .u8 0, .int .u8 0, .int .u8 0, .int .u8 0, .int .u8 0, .int .u8 0, .int .u8 0, .int .u8 0, .int .u8 0, .int .u8 0, .int .u8 0, .int .u8 0] : List Value).toArray)).run Try.prog w = .ok true w := by
  have := addr_eqIn 9997 aA aA aA_ok aA_ok w
  rw [show (aA == aA) = true from by decide] at this
  exact this
theorem putaA (w : World) : Calls Try.prog 24 #[.agg ([.bool false, .int .u8 1, .int .u8 2, .int .u8 3, .int .u8 4, .int .u8 0, .int .u8 0, .int .u8 0, .int .u8 0, .int .u8 0, .int .u8 0, .int .u8 0, .int .u8 0, .int .u8 0, .int .u8 0, .int .u8 0, .int .u8 0] : List Value).toArray] w fun e w' => ∃ A c, e = .returned (.slice A 5 c) ∧ BS w' w'.heap.size A [4, 1, 2, 3, 4] ∧ Below w.heap.size w w' := by
  refine (putAddr_any aA aA_ok w).mono ?_
  rintro e w' ⟨A, c, h1, h2, h3⟩
  rw [aA_put] at h1 h2
  exact ⟨A, c, h1, (BS.of_own h2).1, h3⟩
theorem shortaA (w : World) : Calls Try.prog 14 #[.agg ([.bool false, .int .u8 1, .int .u8 2, .int .u8 3, .int .u8 4, .int .u8 0, .int .u8 0, .int .u8 0, .int .u8 0, .int .u8 0, .int .u8 0, .int .u8 0, .int .u8 0, .int .u8 0, .int .u8 0, .int .u8 0, .int .u8 0] : List Value).toArray] w fun e w' => e = .returned (.bool true) ∧ Below w.heap.size w w' := by
  have := short_any aA aA_ok w
  rw [aA_short] at this
  exact this
theorem take_aw (base g : Nat) (l : List UInt8) (r : St × Option AddrP) (w : World) (hr : takeAddrS l (0, 0, 0) = r) (h : RdW w base g l (0, 0, 0)) (hl : l.length ≤ 1000000000) (W : World) (hg : W.heap.size ≤ g) (hb : Below W.heap.size W w) :
    Calls Try.prog 25 #[.pointer (some ⟨g, 0, none⟩)] w fun e w' => e = .returned (.tuple #[.agg (addrCs (r.2.getD addr0)).toArray, .bool r.2.isSome]) ∧ Below W.heap.size W w' := by
  refine (takeAddr_any base g l (0, 0, 0) w h ⟨Nat.zero_le _, Nat.zero_le _, Nat.zero_le _⟩ hl).mono ?_
  rintro e w' ⟨h1, _, h3⟩
  unfold takeR at h1
  rw [hr] at h1
  exact ⟨h1, hb.grown h3 hb.size (fun k hk => by simp only [Option.some.injEq] at hk; omega)⟩

theorem take_yes (g : Nat) (base : Nat) (w : World) (h : RdW w base g [4, 1, 2, 3, 4] (0, 0, 0)) (W : World) (hg : W.heap.size ≤ g) (hb : Below W.heap.size W w) :
    Calls Try.prog 25 #[.pointer (some ⟨g, 0, none⟩)] w fun e w' => e = .returned (.tuple #[.agg ([.bool false, .int .u8 1, .int .u8 2, .int .u8 3, .int .u8 4, .int .u8 0, .int .u8 0, .int .u8 0, .int .u8 0, .int .u8 0, .int .u8 0, .int .u8 0, .int .u8 0, .int .u8 0, .int .u8 0, .int .u8 0, .int .u8 0] : List Value).toArray, .bool true]) ∧ Below W.heap.size W w' :=
  take_aw base g [4, 1, 2, 3, 4] _ w aA_take h (by decide) W hg hb
theorem take_no (g : Nat) (base : Nat) (w : World) (h : RdW w base g [5, 1, 2, 3, 4] (0, 0, 0)) (W : World) (hg : W.heap.size ≤ g) (hb : Below W.heap.size W w) :
    Calls Try.prog 25 #[.pointer (some ⟨g, 0, none⟩)] w fun e w' => e = .returned (.tuple #[.agg ([.bool false, .int .u8 0, .int .u8 0, .int .u8 0, .int .u8 0, .int .u8 0, .int .u8 0, .int .u8 0, .int .u8 0, .int .u8 0, .int .u8 0, .int .u8 0, .int .u8 0, .int .u8 0, .int .u8 0, .int .u8 0, .int .u8 0] : List Value).toArray, .bool false]) ∧ Below W.heap.size W w' :=
  take_aw base g [5, 1, 2, 3, 4] _ w aA_notake h (by decide) W hg hb

set_option maxHeartbeats 1000000 in
set_option maxRecDepth 100000 in
theorem awake22 (w : World) : Calls Try.prog 10 #[] w fun e w' => e = .returned (.bool true) ∧ Below w.heap.size w w' := by
  go_enter Try.func10, Try.ntmps10
  obtain ⟨x1, hx1⟩ : ∃ W, W = w.alloc (.cells (confCs none 0 0 conf0).toArray 29) := ⟨_, rfl⟩
  obtain ⟨y1, hy1⟩ : ∃ W, W = x1.setCells w.heap.size 0 (confCs none 0 0 cA) := ⟨_, rfl⟩
  obtain ⟨hth1, hbx1, hbe1⟩ := boxed w x1 y1 29 (confCs none 0 0 conf0) (confCs none 0 0 cA) rfl hx1 hy1
  rw [conf0_lit] at hx1
  have HX1 := Lib.hid hx1
  have HY1 := Lib.hid hy1
  have Hth1 := Lib.hid hth1
  have Hbe1 := Lib.hid hbe1
  have H1n := Lib.hid hbx1
  clear hx1 hy1 hth1 hbx1 hbe1
  go_upto_region 2 with (first
      | (rw [← HX1.out]; (with_reducible refine gateS 29 ?_); refine wpList_store_mid rfl 29 (.tmp 1) (.tmp 21) rfl w.heap.size 0 (confCs none 0 0 cA).toArray rfl rfl Hth1.out conf_size54 (conf_one none 0 0 cA) ?_))
  rw [← HY1.out]
  clear HX1 HY1 Hth1
  have Bw := Hbe1
  have H1 := H1n
  clear H1n Hbe1
  obtain ⟨F, hF⟩ : ∃ F, F = cA := ⟨_, rfl⟩
  obtain ⟨F0, hF0⟩ : ∃ F, F = conf0 := ⟨_, rfl⟩
  have HF : Hid (ConfShape F) := by rw [hF]; exact cA_shape
  have HF0 : Hid (ConfShape F0) := by rw [hF0]; exact conf0_shape
  rw [← hF] at H1
  have HE := Lib.hid hF
  have HE0 := Lib.hid hF0
  clear hF hF0
  have R1 := Lib.hid (blk_range H1.out)
  go_wp2_with (first
      | ((with_reducible refine gateL 29 ?_); refine wpList_load_g (by rfl) 29 (.tmp 1) rfl w.heap.size 0 rfl (confCs none 0 0 F) _ R1.out conf_under rfl (conf_szL HF.out) ?_))
  clear R1
  refine (putA_yes F HE.out y1).mono ?_
  rintro e w2 ⟨A2, c2, rfl, hown2, hb2⟩
  have Hbs := Lib.hid (BS.of_own hown2).1
  have hcap : 40 ≤ c2 := own_le hown2
  have hcapI : (10 : Int) ≤ (c2 : Int) := by omega
  have Hb2 := Lib.hid hb2
  clear hown2 hb2
  have H1' := Lib.hid (Blk.below H1.out Hb2.out H1.out.lt)
  clear H1
  have H1 := H1'
  clear H1'
  have Bw' : Hid (Below w.heap.size w w2) := Bw.out.trans (Hb2.out.mono Bw.out.size)
  clear Bw
  have Bw := Bw'
  clear Bw'
  clear Hb2
  go_wp2_with fail
  refine (getA_yes F HE.out A2 c2 w2 Hbs.out).mono ?_
  rintro e w3 ⟨A3, c3, rfl, hb3⟩
  have Hb3 := Lib.hid hb3
  clear hb3
  have H1' := Lib.hid (Blk.below H1.out Hb3.out H1.out.lt)
  clear H1
  have H1 := H1'
  clear H1'
  have Hbs' := Lib.hid ((Hbs.out.below Hb3.out).more Hb3.out.size)
  clear Hbs
  have Hbs := Hbs'
  clear Hbs'
  have Bw' : Hid (Below w.heap.size w w3) := Bw.out.trans (Hb3.out.mono Bw.out.size)
  clear Bw
  have Bw := Bw'
  clear Bw'
  clear Hb3
  obtain ⟨x2, hx2⟩ : ∃ W, W = w3.alloc (.cells (confCs none 0 0 conf0).toArray 29) := ⟨_, rfl⟩
  obtain ⟨y2, hy2⟩ : ∃ W, W = x2.setCells w3.heap.size 0 (confCs A3 0 c3 F) := ⟨_, rfl⟩
  obtain ⟨hth2, hbx2, hbe2⟩ := boxed w3 x2 y2 29 (confCs none 0 0 conf0) (confCs A3 0 c3 F) (by rw [conf_len HF.out, conf_len conf0_shape]) hx2 hy2
  rw [conf0_lit] at hx2
  have HX2 := Lib.hid hx2
  have HY2 := Lib.hid hy2
  have Hth2 := Lib.hid hth2
  have Hbe2 := Lib.hid hbe2
  have H4n := Lib.hid hbx2
  clear hx2 hy2 hth2 hbx2 hbe2
  have R1 := Lib.hid (blk_range H1.out)
  go_upto_region 4 with (first
      | ((with_reducible refine gateL 29 ?_); refine wpList_load_g (by rfl) 29 (.tmp 1) rfl w.heap.size 0 rfl (confCs none 0 0 F) _ R1.out conf_under rfl (conf_szL HF.out) ?_)
      | (rw [← HX2.out]; (with_reducible refine gateS 29 ?_); refine wpList_store_mid rfl 29 (.tmp 4) (.tmp 30) rfl w3.heap.size 0 (confCs A3 0 c3 F).toArray rfl rfl Hth2.out (conf_szA HF.out) (conf_one A3 0 c3 F) ?_))
  clear R1
  rw [← HY2.out]
  clear HX2 HY2 Hth2
  have H1' := Lib.hid (Blk.below H1.out Hbe2.out H1.out.lt)
  clear H1
  have H1 := H1'
  clear H1'
  have Hbs' := Lib.hid ((Hbs.out.below Hbe2.out).more Hbe2.out.size)
  clear Hbs
  have Hbs := Hbs'
  clear Hbs'
  have Bw' : Hid (Below w.heap.size w y2) := Bw.out.trans (Hbe2.out.mono Bw.out.size)
  clear Bw
  have Bw := Bw'
  clear Bw'
  have H4 := H4n
  clear H4n Hbe2
  go_wp2_with fail
  refine (getA_no F0 HE0.out y2).mono ?_
  rintro e w4 ⟨rfl, hb4⟩
  have Hb4 := Lib.hid hb4
  clear hb4
  have H1' := Lib.hid (Blk.below H1.out Hb4.out H1.out.lt)
  clear H1
  have H1 := H1'
  clear H1'
  have H4' := Lib.hid (Blk.below H4.out Hb4.out H4.out.lt)
  clear H4
  have H4 := H4'
  clear H4'
  have Hbs' := Lib.hid ((Hbs.out.below Hb4.out).more Hb4.out.size)
  clear Hbs
  have Hbs := Hbs'
  clear Hbs'
  have Bw' : Hid (Below w.heap.size w w4) := Bw.out.trans (Hb4.out.mono Bw.out.size)
  clear Bw
  have Bw := Bw'
  clear Bw'
  clear Hb4
  obtain ⟨x3, hx3⟩ : ∃ W, W = w4.alloc (.cells (confCs none 0 0 conf0).toArray 29) := ⟨_, rfl⟩
  obtain ⟨y3, hy3⟩ : ∃ W, W = x3.setCells w4.heap.size 0 (confCs none 0 0 F0) := ⟨_, rfl⟩
  obtain ⟨hth3, hbx3, hbe3⟩ := boxed w4 x3 y3 29 (confCs none 0 0 conf0) (confCs none 0 0 F0) (by rw [conf_len HF0.out, conf_len conf0_shape]) hx3 hy3
  rw [conf0_lit] at hx3
  have HX3 := Lib.hid hx3
  have HY3 := Lib.hid hy3
  have Hth3 := Lib.hid hth3
  have Hbe3 := Lib.hid hbe3
  have H6n := Lib.hid hbx3
  clear hx3 hy3 hth3 hbx3 hbe3
  have R1 := Lib.hid (blk_range H1.out)
  have R4 := Lib.hid (blk_range H4.out)
  go_upto_region 5 with (first
      | ((with_reducible refine gateL 29 ?_); refine wpList_load_g (by rfl) 29 (.tmp 1) rfl w.heap.size 0 rfl (confCs none 0 0 F) _ R1.out conf_under rfl (conf_szL HF.out) ?_)
      | ((with_reducible refine gateL 29 ?_); refine wpList_load_g (by rfl) 29 (.tmp 4) rfl w3.heap.size 0 rfl (confCs A3 0 c3 F) _ R4.out conf_under rfl (conf_szL HF.out) ?_)
      | (rw [← HX3.out]; (with_reducible refine gateS 29 ?_); refine wpList_store_mid rfl 29 (.tmp 6) (.tmp 34) rfl w4.heap.size 0 (confCs none 0 0 F0).toArray rfl rfl Hth3.out (conf_szA HF0.out) (conf_one none 0 0 F0) ?_))
  clear R1
  clear R4
  rw [← HY3.out]
  clear HX3 HY3 Hth3
  have H1' := Lib.hid (Blk.below H1.out Hbe3.out H1.out.lt)
  clear H1
  have H1 := H1'
  clear H1'
  have H4' := Lib.hid (Blk.below H4.out Hbe3.out H4.out.lt)
  clear H4
  have H4 := H4'
  clear H4'
  have Hbs' := Lib.hid ((Hbs.out.below Hbe3.out).more Hbe3.out.size)
  clear Hbs
  have Hbs := Hbs'
  clear Hbs'
  have Bw' : Hid (Below w.heap.size w y3) := Bw.out.trans (Hbe3.out.mono Bw.out.size)
  clear Bw
  have Bw := Bw'
  clear Bw'
  have H6 := H6n
  clear H6n Hbe3
  clear H6
  go_wp2_with fail
  refine (putA_no y3).mono ?_
  rintro e w5 ⟨rfl, hb5⟩
  have Hb5 := Lib.hid hb5
  clear hb5
  have H1' := Lib.hid (Blk.below H1.out Hb5.out H1.out.lt)
  clear H1
  have H1 := H1'
  clear H1'
  have H4' := Lib.hid (Blk.below H4.out Hb5.out H4.out.lt)
  clear H4
  have H4 := H4'
  clear H4'
  have Hbs' := Lib.hid ((Hbs.out.below Hb5.out).more Hb5.out.size)
  clear Hbs
  have Hbs := Hbs'
  clear Hbs'
  have Bw' : Hid (Below w.heap.size w w5) := Bw.out.trans (Hb5.out.mono Bw.out.size)
  clear Bw
  have Bw := Bw'
  clear Bw'
  clear Hb5
  obtain ⟨x4, hx4⟩ : ∃ W, W = w5.alloc (.cells (addrCs addr0).toArray 27) := ⟨_, rfl⟩
  obtain ⟨y4, hy4⟩ : ∃ W, W = x4.setCells w5.heap.size 0 (([.bool false, .int .u8 1, .int .u8 2, .int .u8 3, .int .u8 4, .int .u8 0, .int .u8 0, .int .u8 0, .int .u8 0, .int .u8 0, .int .u8 0, .int .u8 0, .int .u8 0, .int .u8 0, .int .u8 0, .int .u8 0, .int .u8 0] : List Value)) := ⟨_, rfl⟩
  obtain ⟨hth4, hbx4, hbe4⟩ := boxed w5 x4 y4 27 (addrCs addr0) (([.bool false, .int .u8 1, .int .u8 2, .int .u8 3, .int .u8 4, .int .u8 0, .int .u8 0, .int .u8 0, .int .u8 0, .int .u8 0, .int .u8 0, .int .u8 0, .int .u8 0, .int .u8 0, .int .u8 0, .int .u8 0, .int .u8 0] : List Value)) rfl hx4 hy4
  rw [addr0_litA] at hx4
  have HX4 := Lib.hid hx4
  have HY4 := Lib.hid hy4
  have Hth4 := Lib.hid hth4
  have Hbe4 := Lib.hid hbe4
  have H10n := Lib.hid hbx4
  clear hx4 hy4 hth4 hbx4 hbe4
  have R1 := Lib.hid (blk_range H1.out)
  have R4 := Lib.hid (blk_range H4.out)
  go_upto_region 7 with (first
      | ((with_reducible refine gateL 29 ?_); refine wpList_load_g (by rfl) 29 (.tmp 1) rfl w.heap.size 0 rfl (confCs none 0 0 F) _ R1.out conf_under rfl (conf_szL HF.out) ?_)
      | ((with_reducible refine gateL 29 ?_); refine wpList_load_g (by rfl) 29 (.tmp 4) rfl w3.heap.size 0 rfl (confCs A3 0 c3 F) _ R4.out conf_under rfl (conf_szL HF.out) ?_)
      | (rw [← HX4.out]; (with_reducible refine gateS 27 ?_); refine wpList_store_mid rfl 27 (.tmp 10) (.tmp 42) rfl w5.heap.size 0 (([.bool false, .int .u8 1, .int .u8 2, .int .u8 3, .int .u8 4, .int .u8 0, .int .u8 0, .int .u8 0, .int .u8 0, .int .u8 0, .int .u8 0, .int .u8 0, .int .u8 0, .int .u8 0, .int .u8 0, .int .u8 0, .int .u8 0] : List Value)).toArray rfl rfl Hth4.out addr_size (addr_one aA) ?_))
  clear R1
  clear R4
  rw [← HY4.out]
  clear HX4 HY4 Hth4
  have H1' := Lib.hid (Blk.below H1.out Hbe4.out H1.out.lt)
  clear H1
  have H1 := H1'
  clear H1'
  have H4' := Lib.hid (Blk.below H4.out Hbe4.out H4.out.lt)
  clear H4
  have H4 := H4'
  clear H4'
  have Hbs' := Lib.hid ((Hbs.out.below Hbe4.out).more Hbe4.out.size)
  clear Hbs
  have Hbs := Hbs'
  clear Hbs'
  have Bw' : Hid (Below w.heap.size w y4) := Bw.out.trans (Hbe4.out.mono Bw.out.size)
  clear Bw
  have Bw := Bw'
  clear Bw'
  have H10 := H10n
  clear H10n Hbe4
  obtain ⟨x5, hx5⟩ : ∃ W, W = y4.alloc (.cells (vipCs vip0).toArray 33) := ⟨_, rfl⟩
  obtain ⟨y5, hy5⟩ : ∃ W, W = x5.setCells y4.heap.size 0 (([.bool false, .int .u8 1, .int .u8 2, .int .u8 3, .int .u8 4, .int .u8 0, .int .u8 0, .int .u8 0, .int .u8 0, .int .u8 0, .int .u8 0, .int .u8 0, .int .u8 0, .int .u8 0, .int .u8 0, .int .u8 0, .int .u8 0, .int .i64 6, .int .i64 80, .bool false] : List Value)) := ⟨_, rfl⟩
  obtain ⟨hth5, hbx5, hbe5⟩ := boxed y4 x5 y5 33 (vipCs vip0) (([.bool false, .int .u8 1, .int .u8 2, .int .u8 3, .int .u8 4, .int .u8 0, .int .u8 0, .int .u8 0, .int .u8 0, .int .u8 0, .int .u8 0, .int .u8 0, .int .u8 0, .int .u8 0, .int .u8 0, .int .u8 0, .int .u8 0, .int .i64 6, .int .i64 80, .bool false] : List Value)) rfl hx5 hy5
  rw [vip0_litA] at hx5
  have HX5 := Lib.hid hx5
  have HY5 := Lib.hid hy5
  have Hth5 := Lib.hid hth5
  have Hbe5 := Lib.hid hbe5
  have H11n := Lib.hid hbx5
  clear hx5 hy5 hth5 hbx5 hbe5
  have R1 := Lib.hid (blk_range H1.out)
  have R4 := Lib.hid (blk_range H4.out)
  have R10 := Lib.hid (blk_range H10.out)
  go_upto_region 8 with (first
      | ((with_reducible refine gateL 29 ?_); refine wpList_load_g (by rfl) 29 (.tmp 1) rfl w.heap.size 0 rfl (confCs none 0 0 F) _ R1.out conf_under rfl (conf_szL HF.out) ?_)
      | ((with_reducible refine gateL 29 ?_); refine wpList_load_g (by rfl) 29 (.tmp 4) rfl w3.heap.size 0 rfl (confCs A3 0 c3 F) _ R4.out conf_under rfl (conf_szL HF.out) ?_)
      | ((with_reducible refine gateL 27 ?_); refine wpList_load_g (by rfl) 27 (.tmp 10) rfl w5.heap.size 0 rfl (([.bool false, .int .u8 1, .int .u8 2, .int .u8 3, .int .u8 4, .int .u8 0, .int .u8 0, .int .u8 0, .int .u8 0, .int .u8 0, .int .u8 0, .int .u8 0, .int .u8 0, .int .u8 0, .int .u8 0, .int .u8 0, .int .u8 0] : List Value)) _ R10.out Try.underlying27 rfl addr_size ?_)
      | (rw [← HX5.out]; (with_reducible refine gateS 33 ?_); refine wpList_store_mid rfl 33 (.tmp 11) (.tmp 44) rfl y4.heap.size 0 (([.bool false, .int .u8 1, .int .u8 2, .int .u8 3, .int .u8 4, .int .u8 0, .int .u8 0, .int .u8 0, .int .u8 0, .int .u8 0, .int .u8 0, .int .u8 0, .int .u8 0, .int .u8 0, .int .u8 0, .int .u8 0, .int .u8 0, .int .i64 6, .int .i64 80, .bool false] : List Value)).toArray rfl rfl Hth5.out vip_size (vip_one vA) ?_))
  clear R1
  clear R4
  clear R10
  rw [← HY5.out]
  clear HX5 HY5 Hth5
  have H1' := Lib.hid (Blk.below H1.out Hbe5.out H1.out.lt)
  clear H1
  have H1 := H1'
  clear H1'
  have H4' := Lib.hid (Blk.below H4.out Hbe5.out H4.out.lt)
  clear H4
  have H4 := H4'
  clear H4'
  have H10' := Lib.hid (Blk.below H10.out Hbe5.out H10.out.lt)
  clear H10
  have H10 := H10'
  clear H10'
  have Hbs' := Lib.hid ((Hbs.out.below Hbe5.out).more Hbe5.out.size)
  clear Hbs
  have Hbs := Hbs'
  clear Hbs'
  have Bw' : Hid (Below w.heap.size w y5) := Bw.out.trans (Hbe5.out.mono Bw.out.size)
  clear Bw
  have Bw := Bw'
  clear Bw'
  have H11 := H11n
  clear H11n Hbe5
  have Q10 : Hid (∀ o, (y5.alloc o).rangeAt w5.heap.size 0 ([.bool false, .int .u8 1, .int .u8 2, .int .u8 3, .int .u8 4, .int .u8 0, .int .u8 0, .int .u8 0, .int .u8 0, .int .u8 0, .int .u8 0, .int .u8 0, .int .u8 0, .int .u8 0, .int .u8 0, .int .u8 0, .int .u8 0] : List Value)) := fun o => blk_range (Blk.alloc H10.out o)
  have R1 := Lib.hid (blk_range H1.out)
  have R4 := Lib.hid (blk_range H4.out)
  have R10 := Lib.hid (blk_range H10.out)
  have R11 := Lib.hid (blk_range H11.out)
  go_wp2_with (first
      | ((with_reducible refine gateL 29 ?_); refine wpList_load_g (by rfl) 29 (.tmp 1) rfl w.heap.size 0 rfl (confCs none 0 0 F) _ R1.out conf_under rfl (conf_szL HF.out) ?_)
      | ((with_reducible refine gateL 29 ?_); refine wpList_load_g (by rfl) 29 (.tmp 4) rfl w3.heap.size 0 rfl (confCs A3 0 c3 F) _ R4.out conf_under rfl (conf_szL HF.out) ?_)
      | ((with_reducible refine gateL 27 ?_); refine wpList_load_g (by rfl) 27 (.tmp 10) rfl w5.heap.size 0 rfl (([.bool false, .int .u8 1, .int .u8 2, .int .u8 3, .int .u8 4, .int .u8 0, .int .u8 0, .int .u8 0, .int .u8 0, .int .u8 0, .int .u8 0, .int .u8 0, .int .u8 0, .int .u8 0, .int .u8 0, .int .u8 0, .int .u8 0] : List Value)) _ R10.out Try.underlying27 rfl addr_size ?_)
      | ((with_reducible refine gateL 33 ?_); refine wpList_load_g (by rfl) 33 (.tmp 11) rfl y4.heap.size 0 rfl (([.bool false, .int .u8 1, .int .u8 2, .int .u8 3, .int .u8 4, .int .u8 0, .int .u8 0, .int .u8 0, .int .u8 0, .int .u8 0, .int .u8 0, .int .u8 0, .int .u8 0, .int .u8 0, .int .u8 0, .int .u8 0, .int .u8 0, .int .i64 6, .int .i64 80, .bool false] : List Value)) _ R11.out Try.underlying33 rfl vip_size ?_)
      | ((with_reducible refine gateL 27 ?_); refine wpList_load_g (by rfl) 27 (.tmp 10) rfl w5.heap.size 0 rfl (([.bool false, .int .u8 1, .int .u8 2, .int .u8 3, .int .u8 4, .int .u8 0, .int .u8 0, .int .u8 0, .int .u8 0, .int .u8 0, .int .u8 0, .int .u8 0, .int .u8 0, .int .u8 0, .int .u8 0, .int .u8 0, .int .u8 0] : List Value)) _ (Q10.out _) Try.underlying27 rfl addr_size ?_))
  clear R1
  clear R4
  clear R10
  clear R11
  clear Q10
  obtain ⟨z1, hz1⟩ : ∃ W, W = y5.alloc (.cells ([.bool false, .int .u8 1, .int .u8 2, .int .u8 3, .int .u8 4, .int .u8 0, .int .u8 0, .int .u8 0, .int .u8 0, .int .u8 0, .int .u8 0, .int .u8 0, .int .u8 0, .int .u8 0, .int .u8 0, .int .u8 0, .int .u8 0, .int .i64 6, .int .i64 80, .bool false] : List Value).toArray 33) := ⟨_, rfl⟩
  have Hz1 : Hid (Blk z1 y5.heap.size 33 ([.bool false, .int .u8 1, .int .u8 2, .int .u8 3, .int .u8 4, .int .u8 0, .int .u8 0, .int .u8 0, .int .u8 0, .int .u8 0, .int .u8 0, .int .u8 0, .int .u8 0, .int .u8 0, .int .u8 0, .int .u8 0, .int .u8 0, .int .i64 6, .int .i64 80, .bool false] : List Value).toArray) := by rw [hz1]; exact Blk.new _ _ _ _ rfl
  have Hzb1 : Hid (Below y5.heap.size y5 z1) := by rw [hz1]; exact (Below.refl _ _).alloc (Nat.le_refl _) _
  rw [← hz1]
  clear hz1
  refine (vipA_yes y5.heap.size _ ?_ z1 _ Hz1.out).mono ?_
  · rfl
  rintro e w6 ⟨rfl, hb⟩
  have Hb : Hid (Below y5.heap.size y5 w6) := Hzb1.out.trans (hb.mono Hzb1.out.size)
  clear hb Hz1 Hzb1
  have H1' := Lib.hid (Blk.below H1.out Hb.out H1.out.lt)
  clear H1
  have H1 := H1'
  clear H1'
  have H4' := Lib.hid (Blk.below H4.out Hb.out H4.out.lt)
  clear H4
  have H4 := H4'
  clear H4'
  have H10' := Lib.hid (Blk.below H10.out Hb.out H10.out.lt)
  clear H10
  have H10 := H10'
  clear H10'
  have H11' := Lib.hid (Blk.below H11.out Hb.out H11.out.lt)
  clear H11
  have H11 := H11'
  clear H11'
  have Hbs' := Lib.hid ((Hbs.out.below Hb.out).more Hb.out.size)
  clear Hbs
  have Hbs := Hbs'
  clear Hbs'
  have Bw' : Hid (Below w.heap.size w w6) := Bw.out.trans (Hb.out.mono Bw.out.size)
  clear Bw
  have Bw := Bw'
  clear Bw'
  clear Hb
  obtain ⟨x6, hx6⟩ : ∃ W, W = w6.alloc (.cells (vipCs vip0).toArray 33) := ⟨_, rfl⟩
  obtain ⟨y6, hy6⟩ : ∃ W, W = x6.setCells w6.heap.size 0 (([.bool false, .int .u8 1, .int .u8 2, .int .u8 3, .int .u8 4, .int .u8 0, .int .u8 0, .int .u8 0, .int .u8 0, .int .u8 0, .int .u8 0, .int .u8 0, .int .u8 0, .int .u8 0, .int .u8 0, .int .u8 0, .int .u8 0, .int .i64 6, .int .i64 80, .bool false] : List Value)) := ⟨_, rfl⟩
  obtain ⟨hth6, hbx6, hbe6⟩ := boxed w6 x6 y6 33 (vipCs vip0) (([.bool false, .int .u8 1, .int .u8 2, .int .u8 3, .int .u8 4, .int .u8 0, .int .u8 0, .int .u8 0, .int .u8 0, .int .u8 0, .int .u8 0, .int .u8 0, .int .u8 0, .int .u8 0, .int .u8 0, .int .u8 0, .int .u8 0, .int .i64 6, .int .i64 80, .bool false] : List Value)) rfl hx6 hy6
  rw [vip0_litA] at hx6
  have HX6 := Lib.hid hx6
  have HY6 := Lib.hid hy6
  have Hth6 := Lib.hid hth6
  have Hbe6 := Lib.hid hbe6
  have H12n := Lib.hid hbx6
  clear hx6 hy6 hth6 hbx6 hbe6
  have R1 := Lib.hid (blk_range H1.out)
  have R4 := Lib.hid (blk_range H4.out)
  have R10 := Lib.hid (blk_range H10.out)
  have R11 := Lib.hid (blk_range H11.out)
  go_upto_region 9 with (first
      | ((with_reducible refine gateL 29 ?_); refine wpList_load_g (by rfl) 29 (.tmp 1) rfl w.heap.size 0 rfl (confCs none 0 0 F) _ R1.out conf_under rfl (conf_szL HF.out) ?_)
      | ((with_reducible refine gateL 29 ?_); refine wpList_load_g (by rfl) 29 (.tmp 4) rfl w3.heap.size 0 rfl (confCs A3 0 c3 F) _ R4.out conf_under rfl (conf_szL HF.out) ?_)
      | ((with_reducible refine gateL 27 ?_); refine wpList_load_g (by rfl) 27 (.tmp 10) rfl w5.heap.size 0 rfl (([.bool false, .int .u8 1, .int .u8 2, .int .u8 3, .int .u8 4, .int .u8 0, .int .u8 0, .int .u8 0, .int .u8 0, .int .u8 0, .int .u8 0, .int .u8 0, .int .u8 0, .int .u8 0, .int .u8 0, .int .u8 0, .int .u8 0] : List Value)) _ R10.out Try.underlying27 rfl addr_size ?_)
      | ((with_reducible refine gateL 33 ?_); refine wpList_load_g (by rfl) 33 (.tmp 11) rfl y4.heap.size 0 rfl (([.bool false, .int .u8 1, .int .u8 2, .int .u8 3, .int .u8 4, .int .u8 0, .int .u8 0, .int .u8 0, .int .u8 0, .int .u8 0, .int .u8 0, .int .u8 0, .int .u8 0, .int .u8 0, .int .u8 0, .int .u8 0, .int .u8 0, .int .i64 6, .int .i64 80, .bool false] : List Value)) _ R11.out Try.underlying33 rfl vip_size ?_)
      | (rw [← HX6.out]; (with_reducible refine gateS 33 ?_); refine wpList_store_mid rfl 33 (.tmp 12) (.tmp 51) rfl w6.heap.size 0 (([.bool false, .int .u8 1, .int .u8 2, .int .u8 3, .int .u8 4, .int .u8 0, .int .u8 0, .int .u8 0, .int .u8 0, .int .u8 0, .int .u8 0, .int .u8 0, .int .u8 0, .int .u8 0, .int .u8 0, .int .u8 0, .int .u8 0, .int .i64 6, .int .i64 80, .bool false] : List Value)).toArray rfl rfl Hth6.out vip_size (vip_one vA) ?_))
  clear R1
  clear R4
  clear R10
  clear R11
  rw [← HY6.out]
  clear HX6 HY6 Hth6
  have H1' := Lib.hid (Blk.below H1.out Hbe6.out H1.out.lt)
  clear H1
  have H1 := H1'
  clear H1'
  have H4' := Lib.hid (Blk.below H4.out Hbe6.out H4.out.lt)
  clear H4
  have H4 := H4'
  clear H4'
  have H10' := Lib.hid (Blk.below H10.out Hbe6.out H10.out.lt)
  clear H10
  have H10 := H10'
  clear H10'
  have H11' := Lib.hid (Blk.below H11.out Hbe6.out H11.out.lt)
  clear H11
  have H11 := H11'
  clear H11'
  have Hbs' := Lib.hid ((Hbs.out.below Hbe6.out).more Hbe6.out.size)
  clear Hbs
  have Hbs := Hbs'
  clear Hbs'
  have Bw' : Hid (Below w.heap.size w y6) := Bw.out.trans (Hbe6.out.mono Bw.out.size)
  clear Bw
  have Bw := Bw'
  clear Bw'
  have H12 := H12n
  clear H12n Hbe6
  have Q10 : Hid (∀ o, (y6.alloc o).rangeAt w5.heap.size 0 ([.bool false, .int .u8 1, .int .u8 2, .int .u8 3, .int .u8 4, .int .u8 0, .int .u8 0, .int .u8 0, .int .u8 0, .int .u8 0, .int .u8 0, .int .u8 0, .int .u8 0, .int .u8 0, .int .u8 0, .int .u8 0, .int .u8 0] : List Value)) := fun o => blk_range (Blk.alloc H10.out o)
  have R1 := Lib.hid (blk_range H1.out)
  have R4 := Lib.hid (blk_range H4.out)
  have R10 := Lib.hid (blk_range H10.out)
  have R11 := Lib.hid (blk_range H11.out)
  have R12 := Lib.hid (blk_range H12.out)
  go_wp2_with (first
      | ((with_reducible refine gateL 29 ?_); refine wpList_load_g (by rfl) 29 (.tmp 1) rfl w.heap.size 0 rfl (confCs none 0 0 F) _ R1.out conf_under rfl (conf_szL HF.out) ?_)
      | ((with_reducible refine gateL 29 ?_); refine wpList_load_g (by rfl) 29 (.tmp 4) rfl w3.heap.size 0 rfl (confCs A3 0 c3 F) _ R4.out conf_under rfl (conf_szL HF.out) ?_)
      | ((with_reducible refine gateL 27 ?_); refine wpList_load_g (by rfl) 27 (.tmp 10) rfl w5.heap.size 0 rfl (([.bool false, .int .u8 1, .int .u8 2, .int .u8 3, .int .u8 4, .int .u8 0, .int .u8 0, .int .u8 0, .int .u8 0, .int .u8 0, .int .u8 0, .int .u8 0, .int .u8 0, .int .u8 0, .int .u8 0, .int .u8 0, .int .u8 0] : List Value)) _ R10.out Try.underlying27 rfl addr_size ?_)
      | ((with_reducible refine gateL 33 ?_); refine wpList_load_g (by rfl) 33 (.tmp 11) rfl y4.heap.size 0 rfl (([.bool false, .int .u8 1, .int .u8 2, .int .u8 3, .int .u8 4, .int .u8 0, .int .u8 0, .int .u8 0, .int .u8 0, .int .u8 0, .int .u8 0, .int .u8 0, .int .u8 0, .int .u8 0, .int .u8 0, .int .u8 0, .int .u8 0, .int .i64 6, .int .i64 80, .bool false] : List Value)) _ R11.out Try.underlying33 rfl vip_size ?_)
      | ((with_reducible refine gateL 33 ?_); refine wpList_load_g (by rfl) 33 (.tmp 12) rfl w6.heap.size 0 rfl (([.bool false, .int .u8 1, .int .u8 2, .int .u8 3, .int .u8 4, .int .u8 0, .int .u8 0, .int .u8 0, .int .u8 0, .int .u8 0, .int .u8 0, .int .u8 0, .int .u8 0, .int .u8 0, .int .u8 0, .int .u8 0, .int .u8 0, .int .i64 6, .int .i64 80, .bool false] : List Value)) _ R12.out Try.underlying33 rfl vip_size ?_)
      | ((with_reducible refine gateL 27 ?_); refine wpList_load_g (by rfl) 27 (.tmp 10) rfl w5.heap.size 0 rfl (([.bool false, .int .u8 1, .int .u8 2, .int .u8 3, .int .u8 4, .int .u8 0, .int .u8 0, .int .u8 0, .int .u8 0, .int .u8 0, .int .u8 0, .int .u8 0, .int .u8 0, .int .u8 0, .int .u8 0, .int .u8 0, .int .u8 0] : List Value)) _ (Q10.out _) Try.underlying27 rfl addr_size ?_))
  clear R1
  clear R4
  clear R10
  clear R11
  clear R12
  clear Q10
  obtain ⟨z2, hz2⟩ : ∃ W, W = y6.alloc (.cells ([.bool false, .int .u8 1, .int .u8 2, .int .u8 3, .int .u8 4, .int .u8 0, .int .u8 0, .int .u8 0, .int .u8 0, .int .u8 0, .int .u8 0, .int .u8 0, .int .u8 0, .int .u8 0, .int .u8 0, .int .u8 0, .int .u8 0, .int .i64 6, .int .i64 80, .bool false] : List Value).toArray 33) := ⟨_, rfl⟩
  have Hz2 : Hid (Blk z2 y6.heap.size 33 ([.bool false, .int .u8 1, .int .u8 2, .int .u8 3, .int .u8 4, .int .u8 0, .int .u8 0, .int .u8 0, .int .u8 0, .int .u8 0, .int .u8 0, .int .u8 0, .int .u8 0, .int .u8 0, .int .u8 0, .int .u8 0, .int .u8 0, .int .i64 6, .int .i64 80, .bool false] : List Value).toArray) := by rw [hz2]; exact Blk.new _ _ _ _ rfl
  have Hzb2 : Hid (Below y6.heap.size y6 z2) := by rw [hz2]; exact (Below.refl _ _).alloc (Nat.le_refl _) _
  rw [← hz2]
  clear hz2
  refine (vipA_no y6.heap.size _ ?_ z2 _ Hz2.out).mono ?_
  · rfl
  rintro e w7 ⟨rfl, hb⟩
  have Hb : Hid (Below y6.heap.size y6 w7) := Hzb2.out.trans (hb.mono Hzb2.out.size)
  clear hb Hz2 Hzb2
  have H1' := Lib.hid (Blk.below H1.out Hb.out H1.out.lt)
  clear H1
  have H1 := H1'
  clear H1'
  have H4' := Lib.hid (Blk.below H4.out Hb.out H4.out.lt)
  clear H4
  have H4 := H4'
  clear H4'
  have H10' := Lib.hid (Blk.below H10.out Hb.out H10.out.lt)
  clear H10
  have H10 := H10'
  clear H10'
  have H11' := Lib.hid (Blk.below H11.out Hb.out H11.out.lt)
  clear H11
  have H11 := H11'
  clear H11'
  have H12' := Lib.hid (Blk.below H12.out Hb.out H12.out.lt)
  clear H12
  have H12 := H12'
  clear H12'
  have Hbs' := Lib.hid ((Hbs.out.below Hb.out).more Hb.out.size)
  clear Hbs
  have Hbs := Hbs'
  clear Hbs'
  have Bw' : Hid (Below w.heap.size w w7) := Bw.out.trans (Hb.out.mono Bw.out.size)
  clear Bw
  have Bw := Bw'
  clear Bw'
  clear Hb
  obtain ⟨x7, hx7⟩ : ∃ W, W = w7.alloc (.cells (vipCs vip0).toArray 33) := ⟨_, rfl⟩
  obtain ⟨y7, hy7⟩ : ∃ W, W = x7.setCells w7.heap.size 0 (([.bool false, .int .u8 0, .int .u8 0, .int .u8 0, .int .u8 0, .int .u8 0, .int .u8 0, .int .u8 0, .int .u8 0, .int .u8 0, .int .u8 0, .int .u8 0, .int .u8 0, .int .u8 0, .int .u8 0, .int .u8 0, .int .u8 0, .int .i64 0, .int .i64 0, .bool false] : List Value)) := ⟨_, rfl⟩
  obtain ⟨hth7, hbx7, hbe7⟩ := boxed w7 x7 y7 33 (vipCs vip0) (([.bool false, .int .u8 0, .int .u8 0, .int .u8 0, .int .u8 0, .int .u8 0, .int .u8 0, .int .u8 0, .int .u8 0, .int .u8 0, .int .u8 0, .int .u8 0, .int .u8 0, .int .u8 0, .int .u8 0, .int .u8 0, .int .u8 0, .int .i64 0, .int .i64 0, .bool false] : List Value)) rfl hx7 hy7
  rw [vip0_litA] at hx7
  have HX7 := Lib.hid hx7
  have HY7 := Lib.hid hy7
  have Hth7 := Lib.hid hth7
  have Hbe7 := Lib.hid hbe7
  have H14n := Lib.hid hbx7
  clear hx7 hy7 hth7 hbx7 hbe7
  have R1 := Lib.hid (blk_range H1.out)
  have R4 := Lib.hid (blk_range H4.out)
  have R10 := Lib.hid (blk_range H10.out)
  have R11 := Lib.hid (blk_range H11.out)
  have R12 := Lib.hid (blk_range H12.out)
  go_upto_region 10 with (first
      | ((with_reducible refine gateL 29 ?_); refine wpList_load_g (by rfl) 29 (.tmp 1) rfl w.heap.size 0 rfl (confCs none 0 0 F) _ R1.out conf_under rfl (conf_szL HF.out) ?_)
      | ((with_reducible refine gateL 29 ?_); refine wpList_load_g (by rfl) 29 (.tmp 4) rfl w3.heap.size 0 rfl (confCs A3 0 c3 F) _ R4.out conf_under rfl (conf_szL HF.out) ?_)
      | ((with_reducible refine gateL 27 ?_); refine wpList_load_g (by rfl) 27 (.tmp 10) rfl w5.heap.size 0 rfl (([.bool false, .int .u8 1, .int .u8 2, .int .u8 3, .int .u8 4, .int .u8 0, .int .u8 0, .int .u8 0, .int .u8 0, .int .u8 0, .int .u8 0, .int .u8 0, .int .u8 0, .int .u8 0, .int .u8 0, .int .u8 0, .int .u8 0] : List Value)) _ R10.out Try.underlying27 rfl addr_size ?_)
      | ((with_reducible refine gateL 33 ?_); refine wpList_load_g (by rfl) 33 (.tmp 11) rfl y4.heap.size 0 rfl (([.bool false, .int .u8 1, .int .u8 2, .int .u8 3, .int .u8 4, .int .u8 0, .int .u8 0, .int .u8 0, .int .u8 0, .int .u8 0, .int .u8 0, .int .u8 0, .int .u8 0, .int .u8 0, .int .u8 0, .int .u8 0, .int .u8 0, .int .i64 6, .int .i64 80, .bool false] : List Value)) _ R11.out Try.underlying33 rfl vip_size ?_)
      | ((with_reducible refine gateL 33 ?_); refine wpList_load_g (by rfl) 33 (.tmp 12) rfl w6.heap.size 0 rfl (([.bool false, .int .u8 1, .int .u8 2, .int .u8 3, .int .u8 4, .int .u8 0, .int .u8 0, .int .u8 0, .int .u8 0, .int .u8 0, .int .u8 0, .int .u8 0, .int .u8 0, .int .u8 0, .int .u8 0, .int .u8 0, .int .u8 0, .int .i64 6, .int .i64 80, .bool false] : List Value)) _ R12.out Try.underlying33 rfl vip_size ?_)
      | (rw [← HX7.out]; (with_reducible refine gateS 33 ?_); refine wpList_store_mid rfl 33 (.tmp 14) (.tmp 59) rfl w7.heap.size 0 (([.bool false, .int .u8 0, .int .u8 0, .int .u8 0, .int .u8 0, .int .u8 0, .int .u8 0, .int .u8 0, .int .u8 0, .int .u8 0, .int .u8 0, .int .u8 0, .int .u8 0, .int .u8 0, .int .u8 0, .int .u8 0, .int .u8 0, .int .i64 0, .int .i64 0, .bool false] : List Value)).toArray rfl rfl Hth7.out vip_size (vip_one vip0) ?_))
  clear R1
  clear R4
  clear R10
  clear R11
  clear R12
  rw [← HY7.out]
  clear HX7 HY7 Hth7
  have H1' := Lib.hid (Blk.below H1.out Hbe7.out H1.out.lt)
  clear H1
  have H1 := H1'
  clear H1'
  have H4' := Lib.hid (Blk.below H4.out Hbe7.out H4.out.lt)
  clear H4
  have H4 := H4'
  clear H4'
  have H10' := Lib.hid (Blk.below H10.out Hbe7.out H10.out.lt)
  clear H10
  have H10 := H10'
  clear H10'
  have H11' := Lib.hid (Blk.below H11.out Hbe7.out H11.out.lt)
  clear H11
  have H11 := H11'
  clear H11'
  have H12' := Lib.hid (Blk.below H12.out Hbe7.out H12.out.lt)
  clear H12
  have H12 := H12'
  clear H12'
  have Hbs' := Lib.hid ((Hbs.out.below Hbe7.out).more Hbe7.out.size)
  clear Hbs
  have Hbs := Hbs'
  clear Hbs'
  have Bw' : Hid (Below w.heap.size w y7) := Bw.out.trans (Hbe7.out.mono Bw.out.size)
  clear Bw
  have Bw := Bw'
  clear Bw'
  have H14 := H14n
  clear H14n Hbe7
  clear H14
  have R1 := Lib.hid (blk_range H1.out)
  have R4 := Lib.hid (blk_range H4.out)
  have R10 := Lib.hid (blk_range H10.out)
  have R11 := Lib.hid (blk_range H11.out)
  have R12 := Lib.hid (blk_range H12.out)
  go_wp2_with (first
      | ((with_reducible refine gateL 29 ?_); refine wpList_load_g (by rfl) 29 (.tmp 1) rfl w.heap.size 0 rfl (confCs none 0 0 F) _ R1.out conf_under rfl (conf_szL HF.out) ?_)
      | ((with_reducible refine gateL 29 ?_); refine wpList_load_g (by rfl) 29 (.tmp 4) rfl w3.heap.size 0 rfl (confCs A3 0 c3 F) _ R4.out conf_under rfl (conf_szL HF.out) ?_)
      | ((with_reducible refine gateL 27 ?_); refine wpList_load_g (by rfl) 27 (.tmp 10) rfl w5.heap.size 0 rfl (([.bool false, .int .u8 1, .int .u8 2, .int .u8 3, .int .u8 4, .int .u8 0, .int .u8 0, .int .u8 0, .int .u8 0, .int .u8 0, .int .u8 0, .int .u8 0, .int .u8 0, .int .u8 0, .int .u8 0, .int .u8 0, .int .u8 0] : List Value)) _ R10.out Try.underlying27 rfl addr_size ?_)
      | ((with_reducible refine gateL 33 ?_); refine wpList_load_g (by rfl) 33 (.tmp 11) rfl y4.heap.size 0 rfl (([.bool false, .int .u8 1, .int .u8 2, .int .u8 3, .int .u8 4, .int .u8 0, .int .u8 0, .int .u8 0, .int .u8 0, .int .u8 0, .int .u8 0, .int .u8 0, .int .u8 0, .int .u8 0, .int .u8 0, .int .u8 0, .int .u8 0, .int .i64 6, .int .i64 80, .bool false] : List Value)) _ R11.out Try.underlying33 rfl vip_size ?_)
      | ((with_reducible refine gateL 33 ?_); refine wpList_load_g (by rfl) 33 (.tmp 12) rfl w6.heap.size 0 rfl (([.bool false, .int .u8 1, .int .u8 2, .int .u8 3, .int .u8 4, .int .u8 0, .int .u8 0, .int .u8 0, .int .u8 0, .int .u8 0, .int .u8 0, .int .u8 0, .int .u8 0, .int .u8 0, .int .u8 0, .int .u8 0, .int .u8 0, .int .i64 6, .int .i64 80, .bool false] : List Value)) _ R12.out Try.underlying33 rfl vip_size ?_))
  clear R1
  clear R4
  clear R10
  clear R11
  clear R12
  obtain ⟨z3, hz3⟩ : ∃ W, W = y7.alloc (.cells (#[.int .u8 4, .int .u8 1, .int .u8 2, .int .u8 3, .int .u8 4] : Array Value) 5) := ⟨_, rfl⟩
  have Hz3 : Hid (BS z3 z3.heap.size (some ⟨y7.heap.size, 0, none⟩) [4, 1, 2, 3, 4]) := by rw [hz3]; exact (BS.lit' y7 [4, 1, 2, 3, 4] _ rfl _ _ y7.heap.size rfl).more (by simp)
  have Hzb3 : Hid (Below y7.heap.size y7 z3) := by rw [hz3]; exact (Below.refl _ _).alloc (Nat.le_refl _) _
  rw [← hz3]
  clear hz3
  refine (rdNew_any _ _ _ [4, 1, 2, 3, 4] z3 rfl Hz3.out (by decide)).mono ?_
  rintro e u3 ⟨g3, rfl, hg1, hg2, hR, hb⟩
  have Hu3 : Hid (Below y7.heap.size y7 u3) := Hzb3.out.trans (hb.mono Hzb3.out.size)
  have HR3 := Lib.hid hR
  have Hg3 : Hid (y7.heap.size ≤ g3) := Nat.le_trans Hzb3.out.size hg1
  clear hR hb hg1 hg2 Hz3 Hzb3
  go_wp2_with fail
  refine (take_yes g3 _ u3 HR3.out y7 Hg3.out Hu3.out).mono ?_
  rintro e w8 ⟨rfl, hb⟩
  have Hb := Lib.hid hb
  clear hb Hu3 HR3 Hg3
  have H1' := Lib.hid (Blk.below H1.out Hb.out H1.out.lt)
  clear H1
  have H1 := H1'
  clear H1'
  have H4' := Lib.hid (Blk.below H4.out Hb.out H4.out.lt)
  clear H4
  have H4 := H4'
  clear H4'
  have H10' := Lib.hid (Blk.below H10.out Hb.out H10.out.lt)
  clear H10
  have H10 := H10'
  clear H10'
  have H11' := Lib.hid (Blk.below H11.out Hb.out H11.out.lt)
  clear H11
  have H11 := H11'
  clear H11'
  have H12' := Lib.hid (Blk.below H12.out Hb.out H12.out.lt)
  clear H12
  have H12 := H12'
  clear H12'
  have Hbs' := Lib.hid ((Hbs.out.below Hb.out).more Hb.out.size)
  clear Hbs
  have Hbs := Hbs'
  clear Hbs'
  have Bw' : Hid (Below w.heap.size w w8) := Bw.out.trans (Hb.out.mono Bw.out.size)
  clear Bw
  have Bw := Bw'
  clear Bw'
  clear Hb
  obtain ⟨x8, hx8⟩ : ∃ W, W = w8.alloc (.cells (addrCs addr0).toArray 27) := ⟨_, rfl⟩
  obtain ⟨y8, hy8⟩ : ∃ W, W = x8.setCells w8.heap.size 0 (([.bool false, .int .u8 1, .int .u8 2, .int .u8 3, .int .u8 4, .int .u8 0, .int .u8 0, .int .u8 0, .int .u8 0, .int .u8 0, .int .u8 0, .int .u8 0, .int .u8 0, .int .u8 0, .int .u8 0, .int .u8 0, .int .u8 0] : List Value)) := ⟨_, rfl⟩
  obtain ⟨hth8, hbx8, hbe8⟩ := boxed w8 x8 y8 27 (addrCs addr0) (([.bool false, .int .u8 1, .int .u8 2, .int .u8 3, .int .u8 4, .int .u8 0, .int .u8 0, .int .u8 0, .int .u8 0, .int .u8 0, .int .u8 0, .int .u8 0, .int .u8 0, .int .u8 0, .int .u8 0, .int .u8 0, .int .u8 0] : List Value)) rfl hx8 hy8
  rw [addr0_litA] at hx8
  have HX8 := Lib.hid hx8
  have HY8 := Lib.hid hy8
  have Hth8 := Lib.hid hth8
  have Hbe8 := Lib.hid hbe8
  have H16n := Lib.hid hbx8
  clear hx8 hy8 hth8 hbx8 hbe8
  have R1 := Lib.hid (blk_range H1.out)
  have R4 := Lib.hid (blk_range H4.out)
  have R10 := Lib.hid (blk_range H10.out)
  have R11 := Lib.hid (blk_range H11.out)
  have R12 := Lib.hid (blk_range H12.out)
  go_upto_region 11 with (first
      | ((with_reducible refine gateL 29 ?_); refine wpList_load_g (by rfl) 29 (.tmp 1) rfl w.heap.size 0 rfl (confCs none 0 0 F) _ R1.out conf_under rfl (conf_szL HF.out) ?_)
      | ((with_reducible refine gateL 29 ?_); refine wpList_load_g (by rfl) 29 (.tmp 4) rfl w3.heap.size 0 rfl (confCs A3 0 c3 F) _ R4.out conf_under rfl (conf_szL HF.out) ?_)
      | ((with_reducible refine gateL 27 ?_); refine wpList_load_g (by rfl) 27 (.tmp 10) rfl w5.heap.size 0 rfl (([.bool false, .int .u8 1, .int .u8 2, .int .u8 3, .int .u8 4, .int .u8 0, .int .u8 0, .int .u8 0, .int .u8 0, .int .u8 0, .int .u8 0, .int .u8 0, .int .u8 0, .int .u8 0, .int .u8 0, .int .u8 0, .int .u8 0] : List Value)) _ R10.out Try.underlying27 rfl addr_size ?_)
      | ((with_reducible refine gateL 33 ?_); refine wpList_load_g (by rfl) 33 (.tmp 11) rfl y4.heap.size 0 rfl (([.bool false, .int .u8 1, .int .u8 2, .int .u8 3, .int .u8 4, .int .u8 0, .int .u8 0, .int .u8 0, .int .u8 0, .int .u8 0, .int .u8 0, .int .u8 0, .int .u8 0, .int .u8 0, .int .u8 0, .int .u8 0, .int .u8 0, .int .i64 6, .int .i64 80, .bool false] : List Value)) _ R11.out Try.underlying33 rfl vip_size ?_)
      | ((with_reducible refine gateL 33 ?_); refine wpList_load_g (by rfl) 33 (.tmp 12) rfl w6.heap.size 0 rfl (([.bool false, .int .u8 1, .int .u8 2, .int .u8 3, .int .u8 4, .int .u8 0, .int .u8 0, .int .u8 0, .int .u8 0, .int .u8 0, .int .u8 0, .int .u8 0, .int .u8 0, .int .u8 0, .int .u8 0, .int .u8 0, .int .u8 0, .int .i64 6, .int .i64 80, .bool false] : List Value)) _ R12.out Try.underlying33 rfl vip_size ?_)
      | (rw [← HX8.out]; (with_reducible refine gateS 27 ?_); refine wpList_store_mid rfl 27 (.tmp 16) (.tmp 65) rfl w8.heap.size 0 (([.bool false, .int .u8 1, .int .u8 2, .int .u8 3, .int .u8 4, .int .u8 0, .int .u8 0, .int .u8 0, .int .u8 0, .int .u8 0, .int .u8 0, .int .u8 0, .int .u8 0, .int .u8 0, .int .u8 0, .int .u8 0, .int .u8 0] : List Value)).toArray rfl rfl Hth8.out addr_size (addr_one aA) ?_))
  clear R1
  clear R4
  clear R10
  clear R11
  clear R12
  rw [← HY8.out]
  clear HX8 HY8 Hth8
  have H1' := Lib.hid (Blk.below H1.out Hbe8.out H1.out.lt)
  clear H1
  have H1 := H1'
  clear H1'
  have H4' := Lib.hid (Blk.below H4.out Hbe8.out H4.out.lt)
  clear H4
  have H4 := H4'
  clear H4'
  have H10' := Lib.hid (Blk.below H10.out Hbe8.out H10.out.lt)
  clear H10
  have H10 := H10'
  clear H10'
  have H11' := Lib.hid (Blk.below H11.out Hbe8.out H11.out.lt)
  clear H11
  have H11 := H11'
  clear H11'
  have H12' := Lib.hid (Blk.below H12.out Hbe8.out H12.out.lt)
  clear H12
  have H12 := H12'
  clear H12'
  have Hbs' := Lib.hid ((Hbs.out.below Hbe8.out).more Hbe8.out.size)
  clear Hbs
  have Hbs := Hbs'
  clear Hbs'
  have Bw' : Hid (Below w.heap.size w y8) := Bw.out.trans (Hbe8.out.mono Bw.out.size)
  clear Bw
  have Bw := Bw'
  clear Bw'
  have H16 := H16n
  clear H16n Hbe8
  have R1 := Lib.hid (blk_range H1.out)
  have R4 := Lib.hid (blk_range H4.out)
  have R10 := Lib.hid (blk_range H10.out)
  have R11 := Lib.hid (blk_range H11.out)
  have R12 := Lib.hid (blk_range H12.out)
  have R16 := Lib.hid (blk_range H16.out)
  go_wp2_with (first
      | ((with_reducible refine gateL 29 ?_); refine wpList_load_g (by rfl) 29 (.tmp 1) rfl w.heap.size 0 rfl (confCs none 0 0 F) _ R1.out conf_under rfl (conf_szL HF.out) ?_)
      | ((with_reducible refine gateL 29 ?_); refine wpList_load_g (by rfl) 29 (.tmp 4) rfl w3.heap.size 0 rfl (confCs A3 0 c3 F) _ R4.out conf_under rfl (conf_szL HF.out) ?_)
      | ((with_reducible refine gateL 27 ?_); refine wpList_load_g (by rfl) 27 (.tmp 10) rfl w5.heap.size 0 rfl (([.bool false, .int .u8 1, .int .u8 2, .int .u8 3, .int .u8 4, .int .u8 0, .int .u8 0, .int .u8 0, .int .u8 0, .int .u8 0, .int .u8 0, .int .u8 0, .int .u8 0, .int .u8 0, .int .u8 0, .int .u8 0, .int .u8 0] : List Value)) _ R10.out Try.underlying27 rfl addr_size ?_)
      | ((with_reducible refine gateL 33 ?_); refine wpList_load_g (by rfl) 33 (.tmp 11) rfl y4.heap.size 0 rfl (([.bool false, .int .u8 1, .int .u8 2, .int .u8 3, .int .u8 4, .int .u8 0, .int .u8 0, .int .u8 0, .int .u8 0, .int .u8 0, .int .u8 0, .int .u8 0, .int .u8 0, .int .u8 0, .int .u8 0, .int .u8 0, .int .u8 0, .int .i64 6, .int .i64 80, .bool false] : List Value)) _ R11.out Try.underlying33 rfl vip_size ?_)
      | ((with_reducible refine gateL 33 ?_); refine wpList_load_g (by rfl) 33 (.tmp 12) rfl w6.heap.size 0 rfl (([.bool false, .int .u8 1, .int .u8 2, .int .u8 3, .int .u8 4, .int .u8 0, .int .u8 0, .int .u8 0, .int .u8 0, .int .u8 0, .int .u8 0, .int .u8 0, .int .u8 0, .int .u8 0, .int .u8 0, .int .u8 0, .int .u8 0, .int .i64 6, .int .i64 80, .bool false] : List Value)) _ R12.out Try.underlying33 rfl vip_size ?_)
      | ((with_reducible refine gateL 27 ?_); refine wpList_load_g (by rfl) 27 (.tmp 16) rfl w8.heap.size 0 rfl (([.bool false, .int .u8 1, .int .u8 2, .int .u8 3, .int .u8 4, .int .u8 0, .int .u8 0, .int .u8 0, .int .u8 0, .int .u8 0, .int .u8 0, .int .u8 0, .int .u8 0, .int .u8 0, .int .u8 0, .int .u8 0, .int .u8 0] : List Value)) _ R16.out Try.underlying27 rfl addr_size ?_))
  clear R1
  clear R4
  clear R10
  clear R11
  clear R12
  clear R16
  obtain ⟨z4, hz4⟩ : ∃ W, W = y8.alloc (.cells (#[.int .u8 5, .int .u8 1, .int .u8 2, .int .u8 3, .int .u8 4] : Array Value) 5) := ⟨_, rfl⟩
  have Hz4 : Hid (BS z4 z4.heap.size (some ⟨y8.heap.size, 0, none⟩) [5, 1, 2, 3, 4]) := by rw [hz4]; exact (BS.lit' y8 [5, 1, 2, 3, 4] _ rfl _ _ y8.heap.size rfl).more (by simp)
  have Hzb4 : Hid (Below y8.heap.size y8 z4) := by rw [hz4]; exact (Below.refl _ _).alloc (Nat.le_refl _) _
  rw [← hz4]
  clear hz4
  refine (rdNew_any _ _ _ [5, 1, 2, 3, 4] z4 rfl Hz4.out (by decide)).mono ?_
  rintro e u4 ⟨g4, rfl, hg1, hg2, hR, hb⟩
  have Hu4 : Hid (Below y8.heap.size y8 u4) := Hzb4.out.trans (hb.mono Hzb4.out.size)
  have HR4 := Lib.hid hR
  have Hg4 : Hid (y8.heap.size ≤ g4) := Nat.le_trans Hzb4.out.size hg1
  clear hR hb hg1 hg2 Hz4 Hzb4
  go_wp2_with fail
  refine (take_no g4 _ u4 HR4.out y8 Hg4.out Hu4.out).mono ?_
  rintro e w9 ⟨rfl, hb⟩
  have Hb := Lib.hid hb
  clear hb Hu4 HR4 Hg4
  have H1' := Lib.hid (Blk.below H1.out Hb.out H1.out.lt)
  clear H1
  have H1 := H1'
  clear H1'
  have H4' := Lib.hid (Blk.below H4.out Hb.out H4.out.lt)
  clear H4
  have H4 := H4'
  clear H4'
  have H10' := Lib.hid (Blk.below H10.out Hb.out H10.out.lt)
  clear H10
  have H10 := H10'
  clear H10'
  have H11' := Lib.hid (Blk.below H11.out Hb.out H11.out.lt)
  clear H11
  have H11 := H11'
  clear H11'
  have H12' := Lib.hid (Blk.below H12.out Hb.out H12.out.lt)
  clear H12
  have H12 := H12'
  clear H12'
  have H16' := Lib.hid (Blk.below H16.out Hb.out H16.out.lt)
  clear H16
  have H16 := H16'
  clear H16'
  have Hbs' := Lib.hid ((Hbs.out.below Hb.out).more Hb.out.size)
  clear Hbs
  have Hbs := Hbs'
  clear Hbs'
  have Bw' : Hid (Below w.heap.size w w9) := Bw.out.trans (Hb.out.mono Bw.out.size)
  clear Bw
  have Bw := Bw'
  clear Bw'
  clear Hb
  obtain ⟨x9, hx9⟩ : ∃ W, W = w9.alloc (.cells (addrCs addr0).toArray 27) := ⟨_, rfl⟩
  obtain ⟨y9, hy9⟩ : ∃ W, W = x9.setCells w9.heap.size 0 (([.bool false, .int .u8 0, .int .u8 0, .int .u8 0, .int .u8 0, .int .u8 0, .int .u8 0, .int .u8 0, .int .u8 0, .int .u8 0, .int .u8 0, .int .u8 0, .int .u8 0, .int .u8 0, .int .u8 0, .int .u8 0, .int .u8 0] : List Value)) := ⟨_, rfl⟩
  obtain ⟨hth9, hbx9, hbe9⟩ := boxed w9 x9 y9 27 (addrCs addr0) (([.bool false, .int .u8 0, .int .u8 0, .int .u8 0, .int .u8 0, .int .u8 0, .int .u8 0, .int .u8 0, .int .u8 0, .int .u8 0, .int .u8 0, .int .u8 0, .int .u8 0, .int .u8 0, .int .u8 0, .int .u8 0, .int .u8 0] : List Value)) rfl hx9 hy9
  rw [addr0_litA] at hx9
  have HX9 := Lib.hid hx9
  have HY9 := Lib.hid hy9
  have Hth9 := Lib.hid hth9
  have Hbe9 := Lib.hid hbe9
  have H18n := Lib.hid hbx9
  clear hx9 hy9 hth9 hbx9 hbe9
  have R1 := Lib.hid (blk_range H1.out)
  have R4 := Lib.hid (blk_range H4.out)
  have R10 := Lib.hid (blk_range H10.out)
  have R11 := Lib.hid (blk_range H11.out)
  have R12 := Lib.hid (blk_range H12.out)
  have R16 := Lib.hid (blk_range H16.out)
  go_upto_region 12 with (first
      | ((with_reducible refine gateL 29 ?_); refine wpList_load_g (by rfl) 29 (.tmp 1) rfl w.heap.size 0 rfl (confCs none 0 0 F) _ R1.out conf_under rfl (conf_szL HF.out) ?_)
      | ((with_reducible refine gateL 29 ?_); refine wpList_load_g (by rfl) 29 (.tmp 4) rfl w3.heap.size 0 rfl (confCs A3 0 c3 F) _ R4.out conf_under rfl (conf_szL HF.out) ?_)
      | ((with_reducible refine gateL 27 ?_); refine wpList_load_g (by rfl) 27 (.tmp 10) rfl w5.heap.size 0 rfl (([.bool false, .int .u8 1, .int .u8 2, .int .u8 3, .int .u8 4, .int .u8 0, .int .u8 0, .int .u8 0, .int .u8 0, .int .u8 0, .int .u8 0, .int .u8 0, .int .u8 0, .int .u8 0, .int .u8 0, .int .u8 0, .int .u8 0] : List Value)) _ R10.out Try.underlying27 rfl addr_size ?_)
      | ((with_reducible refine gateL 33 ?_); refine wpList_load_g (by rfl) 33 (.tmp 11) rfl y4.heap.size 0 rfl (([.bool false, .int .u8 1, .int .u8 2, .int .u8 3, .int .u8 4, .int .u8 0, .int .u8 0, .int .u8 0, .int .u8 0, .int .u8 0, .int .u8 0, .int .u8 0, .int .u8 0, .int .u8 0, .int .u8 0, .int .u8 0, .int .u8 0, .int .i64 6, .int .i64 80, .bool false] : List Value)) _ R11.out Try.underlying33 rfl vip_size ?_)
      | ((with_reducible refine gateL 33 ?_); refine wpList_load_g (by rfl) 33 (.tmp 12) rfl w6.heap.size 0 rfl (([.bool false, .int .u8 1, .int .u8 2, .int .u8 3, .int .u8 4, .int .u8 0, .int .u8 0, .int .u8 0, .int .u8 0, .int .u8 0, .int .u8 0, .int .u8 0, .int .u8 0, .int .u8 0, .int .u8 0, .int .u8 0, .int .u8 0, .int .i64 6, .int .i64 80, .bool false] : List Value)) _ R12.out Try.underlying33 rfl vip_size ?_)
      | ((with_reducible refine gateL 27 ?_); refine wpList_load_g (by rfl) 27 (.tmp 16) rfl w8.heap.size 0 rfl (([.bool false, .int .u8 1, .int .u8 2, .int .u8 3, .int .u8 4, .int .u8 0, .int .u8 0, .int .u8 0, .int .u8 0, .int .u8 0, .int .u8 0, .int .u8 0, .int .u8 0, .int .u8 0, .int .u8 0, .int .u8 0, .int .u8 0] : List Value)) _ R16.out Try.underlying27 rfl addr_size ?_)
      | (rw [← HX9.out]; (with_reducible refine gateS 27 ?_); refine wpList_store_mid rfl 27 (.tmp 18) (.tmp 71) rfl w9.heap.size 0 (([.bool false, .int .u8 0, .int .u8 0, .int .u8 0, .int .u8 0, .int .u8 0, .int .u8 0, .int .u8 0, .int .u8 0, .int .u8 0, .int .u8 0, .int .u8 0, .int .u8 0, .int .u8 0, .int .u8 0, .int .u8 0, .int .u8 0] : List Value)).toArray rfl rfl Hth9.out addr_size (addr_one addr0) ?_))
  clear R1
  clear R4
  clear R10
  clear R11
  clear R12
  clear R16
  rw [← HY9.out]
  clear HX9 HY9 Hth9
  have H1' := Lib.hid (Blk.below H1.out Hbe9.out H1.out.lt)
  clear H1
  have H1 := H1'
  clear H1'
  have H4' := Lib.hid (Blk.below H4.out Hbe9.out H4.out.lt)
  clear H4
  have H4 := H4'
  clear H4'
  have H10' := Lib.hid (Blk.below H10.out Hbe9.out H10.out.lt)
  clear H10
  have H10 := H10'
  clear H10'
  have H11' := Lib.hid (Blk.below H11.out Hbe9.out H11.out.lt)
  clear H11
  have H11 := H11'
  clear H11'
  have H12' := Lib.hid (Blk.below H12.out Hbe9.out H12.out.lt)
  clear H12
  have H12 := H12'
  clear H12'
  have H16' := Lib.hid (Blk.below H16.out Hbe9.out H16.out.lt)
  clear H16
  have H16 := H16'
  clear H16'
  have Hbs' := Lib.hid ((Hbs.out.below Hbe9.out).more Hbe9.out.size)
  clear Hbs
  have Hbs := Hbs'
  clear Hbs'
  have Bw' : Hid (Below w.heap.size w y9) := Bw.out.trans (Hbe9.out.mono Bw.out.size)
  clear Bw
  have Bw := Bw'
  clear Bw'
  have H18 := H18n
  clear H18n Hbe9
  clear H18
  simp only [List.append_eq, List.cons_append, List.nil_append]
  have hconv := run_convert_bs (P := Try.prog) 40 9 5 Try.underlying40 Try.underlying5 Try.underlying9 y9 _ A2 [0, 7, 9, 0, 0, 0, 0, 0, 2, 3] (Hbs.out.take 10) 10 c2 rfl
  have R1 := Lib.hid (blk_range H1.out)
  have R4 := Lib.hid (blk_range H4.out)
  have R10 := Lib.hid (blk_range H10.out)
  have R11 := Lib.hid (blk_range H11.out)
  have R12 := Lib.hid (blk_range H12.out)
  have R16 := Lib.hid (blk_range H16.out)
  go_wp2_with (first
      | ((with_reducible refine gateL 29 ?_); refine wpList_load_g (by rfl) 29 (.tmp 1) rfl w.heap.size 0 rfl (confCs none 0 0 F) _ R1.out conf_under rfl (conf_szL HF.out) ?_)
      | ((with_reducible refine gateL 29 ?_); refine wpList_load_g (by rfl) 29 (.tmp 4) rfl w3.heap.size 0 rfl (confCs A3 0 c3 F) _ R4.out conf_under rfl (conf_szL HF.out) ?_)
      | ((with_reducible refine gateL 27 ?_); refine wpList_load_g (by rfl) 27 (.tmp 10) rfl w5.heap.size 0 rfl (([.bool false, .int .u8 1, .int .u8 2, .int .u8 3, .int .u8 4, .int .u8 0, .int .u8 0, .int .u8 0, .int .u8 0, .int .u8 0, .int .u8 0, .int .u8 0, .int .u8 0, .int .u8 0, .int .u8 0, .int .u8 0, .int .u8 0] : List Value)) _ R10.out Try.underlying27 rfl addr_size ?_)
      | ((with_reducible refine gateL 33 ?_); refine wpList_load_g (by rfl) 33 (.tmp 11) rfl y4.heap.size 0 rfl (([.bool false, .int .u8 1, .int .u8 2, .int .u8 3, .int .u8 4, .int .u8 0, .int .u8 0, .int .u8 0, .int .u8 0, .int .u8 0, .int .u8 0, .int .u8 0, .int .u8 0, .int .u8 0, .int .u8 0, .int .u8 0, .int .u8 0, .int .i64 6, .int .i64 80, .bool false] : List Value)) _ R11.out Try.underlying33 rfl vip_size ?_)
      | ((with_reducible refine gateL 33 ?_); refine wpList_load_g (by rfl) 33 (.tmp 12) rfl w6.heap.size 0 rfl (([.bool false, .int .u8 1, .int .u8 2, .int .u8 3, .int .u8 4, .int .u8 0, .int .u8 0, .int .u8 0, .int .u8 0, .int .u8 0, .int .u8 0, .int .u8 0, .int .u8 0, .int .u8 0, .int .u8 0, .int .u8 0, .int .u8 0, .int .i64 6, .int .i64 80, .bool false] : List Value)) _ R12.out Try.underlying33 rfl vip_size ?_)
      | ((with_reducible refine gateL 27 ?_); refine wpList_load_g (by rfl) 27 (.tmp 16) rfl w8.heap.size 0 rfl (([.bool false, .int .u8 1, .int .u8 2, .int .u8 3, .int .u8 4, .int .u8 0, .int .u8 0, .int .u8 0, .int .u8 0, .int .u8 0, .int .u8 0, .int .u8 0, .int .u8 0, .int .u8 0, .int .u8 0, .int .u8 0, .int .u8 0] : List Value)) _ R16.out Try.underlying27 rfl addr_size ?_))
  clear R1
  clear R4
  clear R10
  clear R11
  clear R12
  clear R16
  clear hconv
  refine (sameA F HE.out A3 c3 y9).mono ?_
  rintro e wa ⟨rfl, hb⟩
  have Hb := Lib.hid hb
  clear hb
  have H1' := Lib.hid (Blk.below H1.out Hb.out H1.out.lt)
  clear H1
  have H1 := H1'
  clear H1'
  have H4' := Lib.hid (Blk.below H4.out Hb.out H4.out.lt)
  clear H4
  have H4 := H4'
  clear H4'
  have H10' := Lib.hid (Blk.below H10.out Hb.out H10.out.lt)
  clear H10
  have H10 := H10'
  clear H10'
  have H11' := Lib.hid (Blk.below H11.out Hb.out H11.out.lt)
  clear H11
  have H11 := H11'
  clear H11'
  have H12' := Lib.hid (Blk.below H12.out Hb.out H12.out.lt)
  clear H12
  have H12 := H12'
  clear H12'
  have H16' := Lib.hid (Blk.below H16.out Hb.out H16.out.lt)
  clear H16
  have H16 := H16'
  clear H16'
  have Hbs' := Lib.hid ((Hbs.out.below Hb.out).more Hb.out.size)
  clear Hbs
  have Hbs := Hbs'
  clear Hbs'
  have Bw' : Hid (Below w.heap.size w wa) := Bw.out.trans (Hb.out.mono Bw.out.size)
  clear Bw
  have Bw := Bw'
  clear Bw'
  clear Hb
  have R1 := Lib.hid (blk_range H1.out)
  have R4 := Lib.hid (blk_range H4.out)
  have R10 := Lib.hid (blk_range H10.out)
  have R11 := Lib.hid (blk_range H11.out)
  have R12 := Lib.hid (blk_range H12.out)
  have R16 := Lib.hid (blk_range H16.out)
  go_wp2_with (first
      | ((with_reducible refine gateL 29 ?_); refine wpList_load_g (by rfl) 29 (.tmp 1) rfl w.heap.size 0 rfl (confCs none 0 0 F) _ R1.out conf_under rfl (conf_szL HF.out) ?_)
      | ((with_reducible refine gateL 29 ?_); refine wpList_load_g (by rfl) 29 (.tmp 4) rfl w3.heap.size 0 rfl (confCs A3 0 c3 F) _ R4.out conf_under rfl (conf_szL HF.out) ?_)
      | ((with_reducible refine gateL 27 ?_); refine wpList_load_g (by rfl) 27 (.tmp 10) rfl w5.heap.size 0 rfl (([.bool false, .int .u8 1, .int .u8 2, .int .u8 3, .int .u8 4, .int .u8 0, .int .u8 0, .int .u8 0, .int .u8 0, .int .u8 0, .int .u8 0, .int .u8 0, .int .u8 0, .int .u8 0, .int .u8 0, .int .u8 0, .int .u8 0] : List Value)) _ R10.out Try.underlying27 rfl addr_size ?_)
      | ((with_reducible refine gateL 33 ?_); refine wpList_load_g (by rfl) 33 (.tmp 11) rfl y4.heap.size 0 rfl (([.bool false, .int .u8 1, .int .u8 2, .int .u8 3, .int .u8 4, .int .u8 0, .int .u8 0, .int .u8 0, .int .u8 0, .int .u8 0, .int .u8 0, .int .u8 0, .int .u8 0, .int .u8 0, .int .u8 0, .int .u8 0, .int .u8 0, .int .i64 6, .int .i64 80, .bool false] : List Value)) _ R11.out Try.underlying33 rfl vip_size ?_)
      | ((with_reducible refine gateL 33 ?_); refine wpList_load_g (by rfl) 33 (.tmp 12) rfl w6.heap.size 0 rfl (([.bool false, .int .u8 1, .int .u8 2, .int .u8 3, .int .u8 4, .int .u8 0, .int .u8 0, .int .u8 0, .int .u8 0, .int .u8 0, .int .u8 0, .int .u8 0, .int .u8 0, .int .u8 0, .int .u8 0, .int .u8 0, .int .u8 0, .int .i64 6, .int .i64 80, .bool false] : List Value)) _ R12.out Try.underlying33 rfl vip_size ?_)
      | ((with_reducible refine gateL 27 ?_); refine wpList_load_g (by rfl) 27 (.tmp 16) rfl w8.heap.size 0 rfl (([.bool false, .int .u8 1, .int .u8 2, .int .u8 3, .int .u8 4, .int .u8 0, .int .u8 0, .int .u8 0, .int .u8 0, .int .u8 0, .int .u8 0, .int .u8 0, .int .u8 0, .int .u8 0, .int .u8 0, .int .u8 0, .int .u8 0] : List Value)) _ R16.out Try.underlying27 rfl addr_size ?_))
  clear R1
  clear R4
  clear R10
  clear R11
  clear R12
  clear R16
  refine (rightA F HE.out wa).mono ?_
  rintro e wb ⟨rfl, hb⟩
  have Hb := Lib.hid hb
  clear hb
  have H1' := Lib.hid (Blk.below H1.out Hb.out H1.out.lt)
  clear H1
  have H1 := H1'
  clear H1'
  have H4' := Lib.hid (Blk.below H4.out Hb.out H4.out.lt)
  clear H4
  have H4 := H4'
  clear H4'
  have H10' := Lib.hid (Blk.below H10.out Hb.out H10.out.lt)
  clear H10
  have H10 := H10'
  clear H10'
  have H11' := Lib.hid (Blk.below H11.out Hb.out H11.out.lt)
  clear H11
  have H11 := H11'
  clear H11'
  have H12' := Lib.hid (Blk.below H12.out Hb.out H12.out.lt)
  clear H12
  have H12 := H12'
  clear H12'
  have H16' := Lib.hid (Blk.below H16.out Hb.out H16.out.lt)
  clear H16
  have H16 := H16'
  clear H16'
  have Hbs' := Lib.hid ((Hbs.out.below Hb.out).more Hb.out.size)
  clear Hbs
  have Hbs := Hbs'
  clear Hbs'
  have Bw' : Hid (Below w.heap.size w wb) := Bw.out.trans (Hb.out.mono Bw.out.size)
  clear Bw
  have Bw := Bw'
  clear Bw'
  clear Hb
  have EqV : Hid ((Op.equalIn 10000 33 (.agg ([.bool false, .int .u8 1, .int .u8 2, .int .u8 3, .int .u8 4, .int .u8 0, .int .u8 0, .int .u8 0, .int .u8 0, .int .u8 0, .int .u8 0, .int .u8 0, .int .u8 0, .int .u8 0, .int .u8 0, .int .u8 0, .int .u8 0, .int .i64 6, .int .i64 80, .bool false] : List Value).toArray) (.agg ([.bool false, .int .u8 1, .int .u8 2, .int .u8 3, .int .u8 4, .int .u8 0, .int .u8 0, .int .u8 0, .int .u8 0, .int .u8 0, .int .u8 0, .int .u8 0, .int .u8 0, .int .u8 0, .int .u8 0, .int .u8 0, .int .u8 0, .int .i64 6, .int .i64 80, .bool false] : List Value).toArray)).run Try.prog wb = .ok true wb) := eqVA wb
  have EqA : Hid ((Op.equalIn 10000 27 (.agg ([.bool false, .int .u8 1, .int .u8 2, .int .u8 3, .int .u8 4, .int .u8 0, .int .u8 0, .int .u8 0, .int .u8 0, .int .u8 0, .int .u8 0, .int .u8 0, .int .u8 0, .int .u8 0, .int .u8 0, .int .u8 0, .int .u8 0] : List Value).toArray) (.agg ([.bool false, .int .u8 1, .int .u8 2, .int .u8 3, .int .u8 4, .int .u8 0, .int .u8 0, .int .u8 0, .int .u8 0, .int .u8 0, .int .u8 0, .int .u8 0, .int .u8 0, .int .u8 0, .int .u8 0, .int .u8 0, .int .u8 0] : List Value).toArray)).run Try.prog wb = .ok true wb) := eqAA wb
  have R1 := Lib.hid (blk_range H1.out)
  have R4 := Lib.hid (blk_range H4.out)
  have R10 := Lib.hid (blk_range H10.out)
  have R11 := Lib.hid (blk_range H11.out)
  have R12 := Lib.hid (blk_range H12.out)
  have R16 := Lib.hid (blk_range H16.out)
  go_wp2_with (first
      | ((with_reducible refine gateL 29 ?_); refine wpList_load_g (by rfl) 29 (.tmp 1) rfl w.heap.size 0 rfl (confCs none 0 0 F) _ R1.out conf_under rfl (conf_szL HF.out) ?_)
      | ((with_reducible refine gateL 29 ?_); refine wpList_load_g (by rfl) 29 (.tmp 4) rfl w3.heap.size 0 rfl (confCs A3 0 c3 F) _ R4.out conf_under rfl (conf_szL HF.out) ?_)
      | ((with_reducible refine gateL 27 ?_); refine wpList_load_g (by rfl) 27 (.tmp 10) rfl w5.heap.size 0 rfl (([.bool false, .int .u8 1, .int .u8 2, .int .u8 3, .int .u8 4, .int .u8 0, .int .u8 0, .int .u8 0, .int .u8 0, .int .u8 0, .int .u8 0, .int .u8 0, .int .u8 0, .int .u8 0, .int .u8 0, .int .u8 0, .int .u8 0] : List Value)) _ R10.out Try.underlying27 rfl addr_size ?_)
      | ((with_reducible refine gateL 33 ?_); refine wpList_load_g (by rfl) 33 (.tmp 11) rfl y4.heap.size 0 rfl (([.bool false, .int .u8 1, .int .u8 2, .int .u8 3, .int .u8 4, .int .u8 0, .int .u8 0, .int .u8 0, .int .u8 0, .int .u8 0, .int .u8 0, .int .u8 0, .int .u8 0, .int .u8 0, .int .u8 0, .int .u8 0, .int .u8 0, .int .i64 6, .int .i64 80, .bool false] : List Value)) _ R11.out Try.underlying33 rfl vip_size ?_)
      | ((with_reducible refine gateL 33 ?_); refine wpList_load_g (by rfl) 33 (.tmp 12) rfl w6.heap.size 0 rfl (([.bool false, .int .u8 1, .int .u8 2, .int .u8 3, .int .u8 4, .int .u8 0, .int .u8 0, .int .u8 0, .int .u8 0, .int .u8 0, .int .u8 0, .int .u8 0, .int .u8 0, .int .u8 0, .int .u8 0, .int .u8 0, .int .u8 0, .int .i64 6, .int .i64 80, .bool false] : List Value)) _ R12.out Try.underlying33 rfl vip_size ?_)
      | ((with_reducible refine gateL 27 ?_); refine wpList_load_g (by rfl) 27 (.tmp 16) rfl w8.heap.size 0 rfl (([.bool false, .int .u8 1, .int .u8 2, .int .u8 3, .int .u8 4, .int .u8 0, .int .u8 0, .int .u8 0, .int .u8 0, .int .u8 0, .int .u8 0, .int .u8 0, .int .u8 0, .int .u8 0, .int .u8 0, .int .u8 0, .int .u8 0] : List Value)) _ R16.out Try.underlying27 rfl addr_size ?_)
      | ((with_reducible refine gateE 33 ?_); refine wpList_eqs_g (by rfl) 33 33 (.tmp 111) (.tmp 112) rfl ([.bool false, .int .u8 1, .int .u8 2, .int .u8 3, .int .u8 4, .int .u8 0, .int .u8 0, .int .u8 0, .int .u8 0, .int .u8 0, .int .u8 0, .int .u8 0, .int .u8 0, .int .u8 0, .int .u8 0, .int .u8 0, .int .u8 0, .int .i64 6, .int .i64 80, .bool false] : List Value).toArray ([.bool false, .int .u8 1, .int .u8 2, .int .u8 3, .int .u8 4, .int .u8 0, .int .u8 0, .int .u8 0, .int .u8 0, .int .u8 0, .int .u8 0, .int .u8 0, .int .u8 0, .int .u8 0, .int .u8 0, .int .u8 0, .int .u8 0, .int .i64 6, .int .i64 80, .bool false] : List Value).toArray rfl rfl vip_guard true EqV.out ?_)
      | ((with_reducible refine gateE 27 ?_); refine wpList_eqs_g (by rfl) 27 27 (.tmp 123) (.tmp 124) rfl ([.bool false, .int .u8 1, .int .u8 2, .int .u8 3, .int .u8 4, .int .u8 0, .int .u8 0, .int .u8 0, .int .u8 0, .int .u8 0, .int .u8 0, .int .u8 0, .int .u8 0, .int .u8 0, .int .u8 0, .int .u8 0, .int .u8 0] : List Value).toArray ([.bool false, .int .u8 1, .int .u8 2, .int .u8 3, .int .u8 4, .int .u8 0, .int .u8 0, .int .u8 0, .int .u8 0, .int .u8 0, .int .u8 0, .int .u8 0, .int .u8 0, .int .u8 0, .int .u8 0, .int .u8 0, .int .u8 0] : List Value).toArray rfl rfl addr_guard true EqA.out ?_))
  clear R1
  clear R4
  clear R10
  clear R11
  clear R12
  clear R16
  clear EqV EqA
  refine (putaA wb).mono ?_
  rintro e wc ⟨Ax, cx, rfl, hbx, hb⟩
  have hconv := run_convert_bs (P := Try.prog) 40 9 5 Try.underlying40 Try.underlying5 Try.underlying9 wc _ Ax [4, 1, 2, 3, 4] hbx 5 cx rfl
  have Hb := Lib.hid hb
  clear hb hbx
  have H1' := Lib.hid (Blk.below H1.out Hb.out H1.out.lt)
  clear H1
  have H1 := H1'
  clear H1'
  have H4' := Lib.hid (Blk.below H4.out Hb.out H4.out.lt)
  clear H4
  have H4 := H4'
  clear H4'
  have H10' := Lib.hid (Blk.below H10.out Hb.out H10.out.lt)
  clear H10
  have H10 := H10'
  clear H10'
  have H11' := Lib.hid (Blk.below H11.out Hb.out H11.out.lt)
  clear H11
  have H11 := H11'
  clear H11'
  have H12' := Lib.hid (Blk.below H12.out Hb.out H12.out.lt)
  clear H12
  have H12 := H12'
  clear H12'
  have H16' := Lib.hid (Blk.below H16.out Hb.out H16.out.lt)
  clear H16
  have H16 := H16'
  clear H16'
  have Hbs' := Lib.hid ((Hbs.out.below Hb.out).more Hb.out.size)
  clear Hbs
  have Hbs := Hbs'
  clear Hbs'
  have Bw' : Hid (Below w.heap.size w wc) := Bw.out.trans (Hb.out.mono Bw.out.size)
  clear Bw
  have Bw := Bw'
  clear Bw'
  clear Hb
  have R1 := Lib.hid (blk_range H1.out)
  have R4 := Lib.hid (blk_range H4.out)
  have R10 := Lib.hid (blk_range H10.out)
  have R11 := Lib.hid (blk_range H11.out)
  have R12 := Lib.hid (blk_range H12.out)
  have R16 := Lib.hid (blk_range H16.out)
  go_wp2_with (first
      | ((with_reducible refine gateL 29 ?_); refine wpList_load_g (by rfl) 29 (.tmp 1) rfl w.heap.size 0 rfl (confCs none 0 0 F) _ R1.out conf_under rfl (conf_szL HF.out) ?_)
      | ((with_reducible refine gateL 29 ?_); refine wpList_load_g (by rfl) 29 (.tmp 4) rfl w3.heap.size 0 rfl (confCs A3 0 c3 F) _ R4.out conf_under rfl (conf_szL HF.out) ?_)
      | ((with_reducible refine gateL 27 ?_); refine wpList_load_g (by rfl) 27 (.tmp 10) rfl w5.heap.size 0 rfl (([.bool false, .int .u8 1, .int .u8 2, .int .u8 3, .int .u8 4, .int .u8 0, .int .u8 0, .int .u8 0, .int .u8 0, .int .u8 0, .int .u8 0, .int .u8 0, .int .u8 0, .int .u8 0, .int .u8 0, .int .u8 0, .int .u8 0] : List Value)) _ R10.out Try.underlying27 rfl addr_size ?_)
      | ((with_reducible refine gateL 33 ?_); refine wpList_load_g (by rfl) 33 (.tmp 11) rfl y4.heap.size 0 rfl (([.bool false, .int .u8 1, .int .u8 2, .int .u8 3, .int .u8 4, .int .u8 0, .int .u8 0, .int .u8 0, .int .u8 0, .int .u8 0, .int .u8 0, .int .u8 0, .int .u8 0, .int .u8 0, .int .u8 0, .int .u8 0, .int .u8 0, .int .i64 6, .int .i64 80, .bool false] : List Value)) _ R11.out Try.underlying33 rfl vip_size ?_)
      | ((with_reducible refine gateL 33 ?_); refine wpList_load_g (by rfl) 33 (.tmp 12) rfl w6.heap.size 0 rfl (([.bool false, .int .u8 1, .int .u8 2, .int .u8 3, .int .u8 4, .int .u8 0, .int .u8 0, .int .u8 0, .int .u8 0, .int .u8 0, .int .u8 0, .int .u8 0, .int .u8 0, .int .u8 0, .int .u8 0, .int .u8 0, .int .u8 0, .int .i64 6, .int .i64 80, .bool false] : List Value)) _ R12.out Try.underlying33 rfl vip_size ?_)
      | ((with_reducible refine gateL 27 ?_); refine wpList_load_g (by rfl) 27 (.tmp 16) rfl w8.heap.size 0 rfl (([.bool false, .int .u8 1, .int .u8 2, .int .u8 3, .int .u8 4, .int .u8 0, .int .u8 0, .int .u8 0, .int .u8 0, .int .u8 0, .int .u8 0, .int .u8 0, .int .u8 0, .int .u8 0, .int .u8 0, .int .u8 0, .int .u8 0] : List Value)) _ R16.out Try.underlying27 rfl addr_size ?_))
  clear R1
  clear R4
  clear R10
  clear R11
  clear R12
  clear R16
  clear hconv
  refine (shortaA wc).mono ?_
  rintro e wd ⟨rfl, hb⟩
  have Hb := Lib.hid hb
  clear hb
  have H1' := Lib.hid (Blk.below H1.out Hb.out H1.out.lt)
  clear H1
  have H1 := H1'
  clear H1'
  have H4' := Lib.hid (Blk.below H4.out Hb.out H4.out.lt)
  clear H4
  have H4 := H4'
  clear H4'
  have H10' := Lib.hid (Blk.below H10.out Hb.out H10.out.lt)
  clear H10
  have H10 := H10'
  clear H10'
  have H11' := Lib.hid (Blk.below H11.out Hb.out H11.out.lt)
  clear H11
  have H11 := H11'
  clear H11'
  have H12' := Lib.hid (Blk.below H12.out Hb.out H12.out.lt)
  clear H12
  have H12 := H12'
  clear H12'
  have H16' := Lib.hid (Blk.below H16.out Hb.out H16.out.lt)
  clear H16
  have H16 := H16'
  clear H16'
  have Hbs' := Lib.hid ((Hbs.out.below Hb.out).more Hb.out.size)
  clear Hbs
  have Hbs := Hbs'
  clear Hbs'
  have Bw' : Hid (Below w.heap.size w wd) := Bw.out.trans (Hb.out.mono Bw.out.size)
  clear Bw
  have Bw := Bw'
  clear Bw'
  clear Hb
  go_wp2_with fail
  go_ret
  exact ⟨rfl, Bw.out⟩
end Go.Proofs.Ytmkeljcjhcaigaa
