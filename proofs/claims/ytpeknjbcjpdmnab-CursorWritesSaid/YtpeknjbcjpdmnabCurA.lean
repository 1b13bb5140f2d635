/- Statements of cursor: awake() answers true, and makes memory alone. -/
import Derived.Test.YtpeknjbcjpdmnabScan
import Derived.Test.YtpeknjbcjpdmnabLay
namespace Go.Proofs.Ytpeknjbcjpdmnab
open Go.RowKit
set_option linter.unusedVariables false

def planA : List Item := [(1, 2, true), (4, 3, false)]
def textA : List UInt8 := [1, 2, 2, 97, 98]
def textB : List UInt8 := [1, 2, 4, 97, 98]
def psA : List Piece := [(258, []), (0, [97, 98])]
theorem scanA : scanS textA planA = (psA, 0, 0) := by decide +kernel
theorem scanB : scanS textB planA = ([], 2, 4) := by decide +kernel
theorem layA : layS planA psA = some textA := by decide +kernel
theorem planA_is (w : World) (t : TypeId) (m : Nat × Nat) : IS (w.alloc (.cells #[.int .i64 1, .int .i64 2, .bool true, .int .i64 4, .int .i64 3, .bool false] t m)) (w.heap.size + 1) (some ⟨w.heap.size, 0, none⟩) planA := fun _ => by
  refine ⟨_, rfl, Nat.lt_succ_self _, fun j x hj => ?_⟩
  have hh : (w.alloc (.cells #[.int .i64 1, .int .i64 2, .bool true, .int .i64 4, .int .i64 3, .bool false] t m)).heap[w.heap.size]? = some (.cells #[.int .i64 1, .int .i64 2, .bool true, .int .i64 4, .int .i64 3, .bool false] t m) := heap_alloc_new w _
  match j, hj with
  | 0, hj =>
    simp [planA] at hj
    subst hj
    exact ⟨cell_of_row _ _ 0 _ t m hh, cell_of_row _ _ 1 _ t m hh, cell_of_row _ _ 2 _ t m hh⟩
  | 1, hj =>
    simp [planA] at hj
    subst hj
    exact ⟨cell_of_row _ _ 3 _ t m hh, cell_of_row _ _ 4 _ t m hh, cell_of_row _ _ 5 _ t m hh⟩
  | j + 2, hj => simp [planA] at hj

theorem scan_eq {r : List Piece × Nat × Nat} (A : Option Addr) (n c : Nat) (l : List UInt8) (P : Option Addr) (m d : Nat) (plan : List Item) (w : World) (hn : n = l.length) (hb : BS w w.heap.size A l) (hl : n ≤ 1000000000)
    (hm : m = plan.length) (hp : IS w w.heap.size P plan) (hmd : m ≤ d) (hml : m ≤ 1000000) (hpn : ∀ x ∈ plan, x.2.1 < 9223372036854775808) (h : scanS l plan = r) :
    Calls Try.prog 11 #[.slice A n c, .slice P m d] w (ScanIs w r) := by
  subst h
  exact scan_any A n c l P m d plan w hn hb hl hm hp hmd hml hpn

theorem lay_eq {r : Option (List UInt8)} (P : Option Addr) (m d : Nat) (plan : List Item) (L : Option Addr) (n c : Nat) (ps : List Piece) (w : World)
    (hm : m = plan.length) (hp : IS w w.heap.size P plan) (hmd : m ≤ d) (hml : m ≤ 1000000) (hpn : ∀ x ∈ plan, x.2.1 < 9223372036854775808)
    (hn : n = ps.length) (hl : PS w w.heap.size L ps) (hnc : n ≤ c) (hnl : n ≤ 9223372036854775807) (hok : ∀ p ∈ ps, pOk p) (h : layS plan ps = r) :
    Calls Try.prog 15 #[.slice P m d, .slice L n c] w (LayIs w r) := by
  subst h
  exact lay_any P m d plan L n c ps w hm hp hmd hml hpn hn hl hnc hnl hok
theorem psA_ok : Hid (∀ p ∈ psA, pOk p) := by
  intro p hp
  simp [psA] at hp
  rcases hp with rfl | rfl <;> simp [pOk]

theorem num_eq {r : St × Nat} (base g : Nat) (l : List UInt8) (s : St) (w : World) (n : Int) (big : Bool) (h : RdW w base g l s) (hs : okS l s) (hl : l.length ≤ 1000000000) (he : numS l s n big = r) :
    Calls Try.prog 20 #[.pointer (some ⟨g, 0, none⟩), .int .i64 n, .bool big] w (NumIs w base g l r) := by
  subst he
  exact rdNum_any base g l s w n big h hs hl
theorem wvar_eq {r : WSt} (base g : Nat) (A : Option Addr) (c most : Nat) (s : WSt) (w : World) (n : Nat) (h : Wtr w base g A c most s) (hn : n < 18446744073709551616) (hm : most < 9223372036854775808) (hl : s.1.length ≤ 1000000000000) (he : bytesS most s (vput n) = r) :
    Calls Try.prog 31 #[.pointer (some ⟨g, 0, none⟩), .int .u64 (n : Int)] w (WtrIs w base g A most r) := by
  subst he
  exact wrVar_any base g A c most s w n h hn hm hl
theorem wout_eq {o : List UInt8} (base g : Nat) (A : Option Addr) (c most : Nat) (s : WSt) (w : World) (h : Wtr w base g A c most s) (hl : s.1.length ≤ 1000000000000) (he : (if s.2 = 0 then s.1 else []) = o) :
    Calls Try.prog 35 #[.pointer (some ⟨g, 0, none⟩)] w fun x w' => ∃ A' c', x = .returned (.tuple #[.slice A' o.length c', .int .i64 (s.2 : Int)]) ∧ w'.ownsRow w.heap.size 5 1 (.slice A' o.length c') o.length (bcells o) ∧ Below w.heap.size w w' := by
  subst he
  exact wrOut_any base g A c most s w h hl
theorem Wtr.rd {w w' : World} {base g base' k : Nat} {A : Option Addr} {c most : Nat} {s : WSt} {l : List UInt8} {t : St} (h : Wtr w base g A c most s) (hR : RdW w base' k l t) (hg : w.grownBy w' (some k)) : Wtr w' base g A c most s := by
  obtain ⟨_, _, hr, _⟩ := hR
  exact ⟨Blk.grown h.1 hg (fun e => by injection e with e; exact Blk.ne h.1 hr (by decide) e), h.2.1.kept hg (own_blk_ne h.2.1 hr (by decide)), h.2.2⟩

set_option maxHeartbeats 8000000 in
set_option maxRecDepth 100000 in
theorem curAwake (w : World) : Calls Try.prog 10 #[] w fun e w' => e = .returned (.bool true) ∧ Below w.heap.size w w' := by
  have hpn : Hid (∀ x ∈ planA, x.2.1 < 9223372036854775808) := by
    intro x hx
    simp [planA] at hx
    rcases hx with rfl | rfl <;> simp
  go_enter Try.func10, Try.ntmps10
  go_wp2_with fail
  refine (scan_eq _ _ _ textA _ _ _ planA _ rfl ((BS.lit' (w.alloc _) textA _ rfl _ _ (w.heap.size + 1) (by simp)).more (by simp)) (by decide) rfl (((planA_is w _ _).below (((Below.refl _ _).alloc (by simp) _))).more (by simp)) (by decide) (by decide) hpn.out scanA).mono ?_
  rintro e w1 ⟨A1, c1, rfl, hP1, hb1⟩
  have HI1 : Hid (IS w1 w1.heap.size (some ⟨w.heap.size, 0, none⟩) planA) := (((planA_is w 68 (0, 0)).below (((Below.refl _ _).alloc (by simp) (.cells #[.int .u8 1, .int .u8 2, .int .u8 2, .int .u8 97, .int .u8 98] 5)).trans (hb1.mono (by simp)))).more (by have := hb1.size; simp at this; omega))
  have Hb1 : Hid (Below w.heap.size w w1) := (((Below.refl _ _).alloc (Nat.le_refl _) _).alloc (by simp) _).trans (hb1.mono (by simp; omega))
  obtain ⟨kh, rfl, _, _⟩ := hP1.head (by decide)
  have HP1 : Hid (PS w1 w1.heap.size (some ⟨kh, 0, none⟩) psA) := hP1.to_PS
  have HA1 : Hid (psA.length ≤ c1) := hP1.le
  clear hP1 hb1
  go_wp2_with fail
  obtain ⟨W1, hW1⟩ : ∃ W1, W1 = w1.alloc (.cells #[.int .i64 0, .int .i64 0] 28) := ⟨_, rfl⟩
  have HS1 : Hid (Blk W1 w1.heap.size 28 #[.int .i64 0, .int .i64 0]) := by rw [hW1]; exact Blk.new w1 _ _ _ rfl
  have HbW1 : Hid (Below w1.heap.size w1 W1) := by rw [hW1]; exact (Below.refl _ w1).alloc (Nat.le_refl _) _
  rw [← hW1]
  refine (scan_eq _ _ _ textB _ _ _ planA _ rfl ((BS.lit' W1 textB _ rfl _ _ (w1.heap.size + 1) (by rw [hW1]; simp)).more (by rw [hW1]; simp)) (by decide) rfl ((HI1.out.below (HbW1.out.alloc HbW1.out.size _)).more (by rw [hW1]; simp; omega)) (by decide) (by decide) hpn.out scanB).mono ?_
  rintro e w2 ⟨A2, c2, rfl, hP2, hb2⟩
  have Hb2 : Hid (Below w1.heap.size w1 w2) := (HbW1.out.alloc HbW1.out.size _).trans (hb2.mono (Nat.le_trans HbW1.out.size (by simp)))
  have HS2 : Hid (Blk w2 w1.heap.size 28 #[.int .i64 0, .int .i64 0]) := Blk.below (Blk.alloc HS1.out _) hb2 (Nat.lt_of_lt_of_le HS1.out.lt (by simp))
  clear hP2 hb2 hW1 HS1 HbW1
  go_wp2_with fail
  obtain ⟨W2, hW2⟩ : ∃ W2, W2 = w2.alloc (.cells #[.int .i64 2, .int .i64 4] 28) := ⟨_, rfl⟩
  have HT2 : Hid (Blk W2 w2.heap.size 28 #[.int .i64 2, .int .i64 4]) := by rw [hW2]; exact Blk.new w2 _ _ _ rfl
  have HbW2 : Hid (Below w2.heap.size w2 W2) := by rw [hW2]; exact (Below.refl _ w2).alloc (Nat.le_refl _) _
  have Hb12 : Hid (Below w1.heap.size w1 W2) := Hb2.out.trans (HbW2.out.mono Hb2.out.size)
  rw [← hW2]
  clear hW2
  refine (lay_eq _ _ _ planA (some ⟨kh, 0, none⟩) _ c1 psA W2 rfl ((HI1.out.below Hb12.out).more Hb12.out.size) (by decide) (by decide) hpn.out rfl ((HP1.out.below Hb12.out).more Hb12.out.size) HA1.out (by decide) psA_ok.out layA).mono ?_
  rintro e w3 ⟨A3, c3, rfl, hown3, hb3⟩
  have Hb3 : Hid (Below w1.heap.size w1 w3) := Hb12.out.trans (hb3.mono Hb12.out.size)
  have HS3 : Hid (Blk w3 w1.heap.size 28 #[.int .i64 0, .int .i64 0]) := Blk.below (Blk.below HS2.out HbW2.out HS2.out.lt) hb3 (Nat.lt_of_lt_of_le HS2.out.lt HbW2.out.size)
  have HT3 : Hid (Blk w3 w2.heap.size 28 #[.int .i64 2, .int .i64 4]) := Blk.below HT2.out hb3 HT2.out.lt
  clear hown3 hb3 HS2 HT2 HbW2 Hb12
  go_wp2_with fail
  have HB4 : Hid (BS (w3.alloc (.cells #[.int .u8 7] 5)) (w3.alloc (.cells #[.int .u8 7] 5)).heap.size (some ⟨w3.heap.size, 0, none⟩) [7]) := (BS.lit' w3 [7] _ rfl _ _ w3.heap.size rfl).more (by simp)
  refine (rdNew_any _ _ _ [7] _ rfl HB4.out (by decide)).mono ?_
  rintro e w4 ⟨g, rfl, hg1, hg2, hR, hb4⟩
  have hgw : w3.heap.size ≤ g := by simp at hg1; omega
  have Hgw := Lib.hid hgw
  have HR4 := Lib.hid hR
  have Hb4 : Hid (Below w3.heap.size w3 w4) := ((Below.refl _ w3).alloc (Nat.le_refl _) _).trans (hb4.mono (by simp))
  clear hR hb4 hg1 HB4
  go_wp2_with fail
  refine (newWriter_any 2 _ (by decide)).mono ?_
  rintro e w5 ⟨rfl, hW5, hb5⟩
  have HW5 := Lib.hid hW5
  have Hb5 := Lib.hid hb5
  clear hW5 hb5
  go_wp2_with fail
  have HR5 := Lib.hid (HR4.out.below Hb5.out)
  have Hb35 : Hid (Below w3.heap.size w3 w5) := Hb4.out.trans (Hb5.out.mono Hb4.out.size)
  have Hs45 : Hid (w3.heap.size ≤ w4.heap.size) := Hb4.out.size
  clear HR4 Hb4 Hb5
  refine (num_eq _ g [7] (0, 0, 0) _ 1 true HR5.out (by simp [okS]) (by decide) (show numS [7] (0, 0, 0) 1 true = ((1, 0, 0), 7) by decide +kernel)).mono ?_
  rintro e w6 ⟨rfl, hR6, hg6⟩
  have HR6 := Lib.hid hR6
  have HW6 := Lib.hid (HW5.out.rd HR5.out hg6)
  have Hb6 : Hid (Below w3.heap.size w3 w6) := Hb35.out.grown hg6 Hb35.out.size (fun k hk => by simp only [Option.some.injEq] at hk; have := Hgw.out; omega)
  clear hR6 hg6 HW5 HR5 Hb35
  go_wp2_with fail
  refine (num_eq _ g [7] (1, 0, 0) _ 1 true HR6.out (by simp [okS]) (by decide) (show numS [7] (1, 0, 0) 1 true = ((1, 1, 2), 0) by decide +kernel)).mono ?_
  rintro e w7 ⟨rfl, hR7, hg7⟩
  have HW7 := Lib.hid (HW6.out.rd HR6.out hg7)
  have Hb7 : Hid (Below w3.heap.size w3 w7) := Hb6.out.grown hg7 Hb6.out.size (fun k hk => by simp only [Option.some.injEq] at hk; have := Hgw.out; omega)
  obtain ⟨A7, c7, hr7, _⟩ := hR7
  have HR7 : Hid (Blk w7 g 78 (rdC A7 [7].length c7 1 1 2)) := hr7
  clear hr7 hg7 HW6 HR6 Hb6
  go_wp2_with fail
  refine (wvar_eq w4.heap.size w4.heap.size none 0 2 ([], 0) w7 300 HW7.out (by decide) (by decide) (by decide) (show bytesS 2 ([], 0) (vput 300) = ([172, 2], 0) by decide +kernel)).mono ?_
  rintro e w8 ⟨rfl, A8, c8, hW8, ho8, hn8⟩
  have HR8 := Lib.hid (ho8.blk HR7.out (Blk.ne HR7.out HW7.out.1 (by decide)) (by simp [Value.ownBlock]))
  have Hb8 : Hid (Below w3.heap.size w3 w8) := Hb7.out.trans (ho8.below Hs45.out (by simp [Value.ownBlock]) Hb7.out.size)
  have HW8 := Lib.hid hW8
  clear hW8 ho8 hn8 HR7 HW7 Hb7
  go_wp2_with fail
  refine (wout_eq w4.heap.size w4.heap.size A8 c8 2 ([172, 2], 0) w8 HW8.out (by decide) (o := [172, 2]) rfl).mono ?_
  rintro e w9 ⟨A9, c9, rfl, _, hb9⟩
  have HW9 := Lib.hid (HW8.out.below hb9)
  have HR9 := Lib.hid (Blk.below HR8.out hb9 HR8.out.lt)
  have Hb9 : Hid (Below w3.heap.size w3 w9) := Hb8.out.trans (hb9.mono Hb8.out.size)
  clear hb9 HR8 HW8 Hb8
  go_wp2_with fail
  refine (wvar_eq w4.heap.size w4.heap.size A8 c8 2 ([172, 2], 0) w9 1 HW9.out (by decide) (by decide) (by decide) (show bytesS 2 ([172, 2], 0) (vput 1) = ([172, 2], 4) by decide +kernel)).mono ?_
  rintro e w10 ⟨rfl, A10, c10, hW10, ho10, hn10⟩
  have Hne10 : Hid (some g ≠ (Value.slice A8 0 0).ownBlock) := by
    have := blk_ne_own HW9.out.2.1 HR9.out (by decide)
    show some g ≠ _
    cases A8 <;> exact this
  have HR10 := Lib.hid (ho10.blk HR9.out (Blk.ne HR9.out HW9.out.1 (by decide)) Hne10.out)
  have Hb10 : Hid (Below w3.heap.size w3 w10) := Hb9.out.trans (ho10.below Hs45.out (fun k hk => by
    have h1 : (Value.slice A8 [172, 2].length c8).ownBlock = some k := by rw [← hk]; cases A8 <;> rfl
    have := (HW9.out.2.1.lt k h1).1
    have := Hs45.out
    omega) Hb9.out.size)
  have HW10 := Lib.hid hW10
  clear hW10 ho10 hn10 HR9 HW9 Hb9 Hne10
  go_wp2_with fail
  refine (wout_eq w4.heap.size w4.heap.size A10 c10 2 ([172, 2], 4) w10 HW10.out (by decide) (o := []) rfl).mono ?_
  rintro e w11 ⟨A11, c11, rfl, _, hb11⟩
  have HR11 := Lib.hid (Blk.below HR10.out hb11 HR10.out.lt)
  have Hb11 : Hid (Below w3.heap.size w3 w11) := Hb10.out.trans (hb11.mono Hb10.out.size)
  clear hb11 HR10 HW10 Hb10
  have HS11 := Lib.hid (Blk.below HS3.out Hb11.out HS3.out.lt)
  have HT11 := Lib.hid (Blk.below HT3.out Hb11.out HT3.out.lt)
  have HQ11 : Hid (PS w11 w1.heap.size (some ⟨kh, 0, none⟩) psA) := (HP1.out.below Hb3.out).below (Hb11.out.mono Hb3.out.size)
  have HbE : Hid (Below w.heap.size w w11) := (Hb1.out.trans (Hb3.out.mono Hb1.out.size)).trans (Hb11.out.mono (Nat.le_trans Hb1.out.size Hb3.out.size))
  obtain ⟨ad, Ax, cx, e1, _, y0, _⟩ := HQ11.out.at_ (k := 0) (by decide)
  injection e1 with e1
  subst e1
  obtain ⟨ad, Ay, cy, e2, _, _, y1, _, hby⟩ := HQ11.out.at_ (k := 1) (by decide)
  injection e2 with e2
  subst e2
  have l0 : w11.cell? ⟨kh, 0, none⟩ = some (.int .u64 258) := y0
  have l1 : w11.cell? ⟨kh, 3, none⟩ = some (.slice Ay 2 cy) := y1
  clear y0 y1
  have hconv := run_convert_bs (P := Try.prog) 22 9 5 Try.underlying22 Try.underlying5 Try.underlying9 w11 _ Ay [97, 98] hby 2 cy rfl
  have s0 : w11.cell? ⟨w1.heap.size, 0, none⟩ = some (.int .i64 0) := HS11.out.cell 0
  have s1 : w11.cell? ⟨w1.heap.size, 1, none⟩ = some (.int .i64 0) := HS11.out.cell 1
  have t0 : w11.cell? ⟨w2.heap.size, 0, none⟩ = some (.int .i64 2) := HT11.out.cell 0
  have t1 : w11.cell? ⟨w2.heap.size, 1, none⟩ = some (.int .i64 4) := HT11.out.cell 1
  clear hby
  go_wp2_with fail
  refine (rdFault_any g A7 _ c7 1 1 2 w11 HR11.out).mono ?_
  rintro e w12 ⟨rfl, hb12⟩
  have hta : textA.length = 5 := rfl
  have HbF : Hid (Below w.heap.size w w12) := HbE.out.trans (hb12.mono HbE.out.size)
  clear hb12
  go_wp2
  go_ret
  exact ⟨rfl, HbF.out⟩
end Go.Proofs.Ytpeknjbcjpdmnab
