/- The walk of the statement CursorKeeps. -/
import Derived.Test.YtpeknjbcjpdmnabRScan
import Derived.Test.YtpeknjbcjpdmnabRefS4
import Derived.Test.YtpeknjbcjpdmnabSame
import Derived.Test.YtpeknjbcjpdmnabTurn
import Derived.Test.YtpeknjbcjpdmnabTrodP
import Derived.Deep.LoopGhost
namespace Go.Proofs.Ytpeknjbcjpdmnab
open Go.RowKit
set_option linter.unusedVariables false

theorem same_yesK (A : Option Addr) (n c : Nat) (l : List UInt8) (A' : Option Addr) (n' c' : Nat) (w : World) (B B' : Nat) (hn : n = l.length) (hn' : n' = l.length) (hb : BS w B A l) (hb' : BS w B' A' l) :
    Calls Try.prog 17 #[.slice A n c, .slice A' n' c'] w fun e w' => e = .returned (.bool true) ∧ w = w' := by
  have := same_any A n c l A' n' c' l w B B' hn hn' hb hb'
  rw [show (l == l) = true from beq_self_eq_true l] at this
  exact this
theorem sameP_yesK (A : Option Addr) (n c : Nat) (A' : Option Addr) (n' c' : Nat) (ls : List Piece) (w : World) (hn : n = ls.length) (hn' : n' = ls.length) (hb : PS w w.heap.size A ls) (hb' : PS w w.heap.size A' ls) (hl : n ≤ 1000000000) :
    Calls Try.prog 13 #[.slice A n c, .slice A' n' c'] w fun e w' => e = .returned (.bool true) ∧ Below w.heap.size w w' := by
  have := sameP_any A n c ls A' n' c' ls w hn hn' hb hb' hl
  rw [show (ls == ls) = true from beq_self_eq_true ls] at this
  exact this
theorem rscan_eqK {r : List Piece × Nat × Nat} (A : Option Addr) (n c : Nat) (l : List UInt8) (P : Option Addr) (m d : Nat) (plan : List Item) (w : World) (hn : n = l.length) (hb : BS w w.heap.size A l) (hl : n ≤ 1000000000) (hc : n ≤ c)
    (hm : m = plan.length) (hp : IS w w.heap.size P plan) (hmd : m ≤ d) (hml : m ≤ 1000000) (hpn : ∀ x ∈ plan, x.2.1 < 9223372036854775808) (h : scanS l plan = r) :
    Calls Try.prog 12 #[.slice A n c, .slice P m d] w (ScanIs w r) := by
  subst h
  exact rscan_any A n c l P m d plan w hn hb hl hc hm hp hmd hml hpn
theorem scanGo_lenK {l : List UInt8} : ∀ (plan : List Item) (s : St) (acc : List Piece), (scanGo l s acc plan).1.length ≤ acc.length + plan.length := by
  intro plan
  induction plan with
  | nil =>
    intro s acc
    unfold scanGo
    split <;> simp
  | cons x xs ih =>
    intro s acc
    unfold scanGo
    split
    · have := ih (readS l s x).1 (acc ++ [(readS l s x).2])
      simp at this ⊢
      omega
    · simp

theorem own_ne_row {w : World} {base : Nat} {e : TypeId} {size n : Nat} {v : Value} {xs : List Value} {row : Option Nat} (h : w.ownsRow base e size v n xs) (hr : ∀ k, row = some k → k < base) : v.ownBlock = none ∨ v.ownBlock ≠ row := by
  rcases hv : v.ownBlock with _ | k
  · exact .inl rfl
  · right
    intro h2
    have h3 := hr k h2.symm
    have h4 := (h.lt k hv).1
    omega
theorem own_ne_new {w : World} {base : Nat} {e : TypeId} {size n : Nat} {v : Value} {xs : List Value} {row : Option Nat} (h : w.ownsRow base e size v n xs) (hr : ∀ k, row = some k → w.heap.size ≤ k) : v.ownBlock = none ∨ v.ownBlock ≠ row := by
  rcases hv : v.ownBlock with _ | k
  · exact .inl rfl
  · right
    intro h2
    have h3 := hr k h2.symm
    have h4 := (h.lt k hv).2
    omega
theorem RdW.kept {w w' : World} {base g : Nat} {l : List UInt8} {s : St} {row : Option Nat} (h : RdW w base g l s) (hb : base ≤ g) (hg : w.grownBy w' row) (hr : ∀ k, row = some k → k < base) : RdW w' base g l s := by
  obtain ⟨A, c, h1, h2, h3, h4⟩ := h
  exact ⟨A, c, Blk.grown h1 hg (fun e => by have := hr g e.symm; omega), h2.kept hg (own_ne_row h2 hr), h3, h4⟩
theorem below_grown {w w' : World} {B : Nat} {row : Option Nat} (hg : w.grownBy w' row) (hB : B ≤ w.heap.size) (hr : ∀ k, row = some k → B ≤ k) : Below B w w' := (Below.refl B w).grown hg hB hr
theorem take_all (l : List UInt8) : takeS l (0, 0, 0) (l.length : Int) = ((l.length, 0, 0), l) := by
  have h : ¬ (l.length : Int) < 0 := by omega
  unfold takeS
  rw [if_neg h, cut_ok rfl (by simp)]
  simp
theorem flip_len {xs l : List UInt8} {j : Nat} {c : UInt8} (h : xs.length = l.length) : (xs.set j c).length = l.length := by rw [List.length_set]; exact h

/-- What holds in a loop that turns each byte of an own row. -/
def FlipAt (w0 wr : World) (base : Nat) (A : Option Addr) (c : Nat) (l xs : List UInt8) : Prop :=
  xs.length = l.length ∧ w0.grownBy wr (Value.slice A l.length c).ownBlock ∧ wr.ownsRow base 5 1 (.slice A l.length c) l.length (bcells xs)
theorem FlipAt.step {w0 wr : World} {base g c j : Nat} {l xs : List UInt8} (h : FlipAt w0 wr base (some ⟨g, 0, none⟩) c l xs) (hj : j < xs.length) (z : Int) (hz : z = bits .xor .u8 ((xs[j]).toNat : Int) 255) :
    ∃ xs', FlipAt w0 (wr.setCell ⟨g, j, none⟩ (.int .u8 z)) base (some ⟨g, 0, none⟩) c l xs' := by
  obtain ⟨h1, h2, h3⟩ := h
  have hd8 := (xs[j]).toNat_lt
  have hx : bits .xor .u8 ((xs[j]).toNat : Int) 255 = (((xs[j]).toNat ^^^ 255 : Nat) : Int) := xor_u8' _ 255 hd8 (by omega)
  have hst := (h3.stored j (.int .u8 (((xs[j]).toNat ^^^ 255 : Nat) : Int))).1
  refine ⟨xs.set j (UInt8.ofNat ((xs[j]).toNat ^^^ 255)), flip_len h1, grownTrans h2 (grownSet wr ⟨g, j, none⟩ _), ?_⟩
  rw [hz, hx, bcells_set, ← toNat_u8' (Nat.xor_lt_two_pow (n := 8) hd8 (by omega))]
  exact hst

set_option maxHeartbeats 4000000 in
set_option maxRecDepth 100000 in
theorem walk_cursorKeeps (w : World) (A : Option Addr) (n c : Nat) (l : List UInt8) (hn : n = l.length) (hnc : n ≤ c) (hnm : n ≤ maxLen) (hb : BS w w.heap.size A l)
    (P : Option Addr) (m d : Nat) (plan : List Item) (hm : m = plan.length) (hmd : m ≤ d) (hmm : m ≤ maxLen) (hp : IS w w.heap.size P plan) (hok : ∀ x ∈ plan, itemOk x) :
    Calls Try.prog 7 #[.slice A n c, .slice P m d] w fun e w' => e = .returned (.bool true) ∧ Below w.heap.size w w' := by
  subst hn hm
  unfold maxLen at hnm hmm
  obtain ⟨i0, hi0, hz0, hz1, hz2⟩ := info_parts u8_infoO
  have HB := Lib.hid hb
  have HP := Lib.hid hp
  have Hpn : Hid (∀ x ∈ plan, x.2.1 < 9223372036854775808) := fun x hx => (hok x hx).2
  clear hb hp hok
  by_cases h1 : 1000 < l.length
  · have h1I : (1000 : Int) < (l.length : Int) := by omega
    go_enter Try.func7, Try.ntmps7
    go_wp2_with fail
    refine (curAwake _).mono ?_
    rintro e w1 ⟨rfl, hb1⟩
    go_wp2_with fail
    refine (curAwake _).mono ?_
    rintro e w2 ⟨rfl, hb2⟩
    go_wp2
    go_ret
    exact ⟨rfl, bthen hb1 hb2⟩
  · have h1I : ¬ (1000 : Int) < (l.length : Int) := by omega
    by_cases h2 : 40 < plan.length
    · have h2I : (40 : Int) < (plan.length : Int) := by omega
      go_enter Try.func7, Try.ntmps7
      go_wp2_with fail
      refine (curAwake _).mono ?_
      rintro e w1 ⟨rfl, hb1⟩
      go_wp2_with fail
      refine (curAwake _).mono ?_
      rintro e w2 ⟨rfl, hb2⟩
      go_wp2
      go_ret
      exact ⟨rfl, bthen hb1 hb2⟩
    · have h2I : ¬ (40 : Int) < (plan.length : Int) := by omega
      rcases hs : scanS l plan with ⟨ps, a, e⟩
      have hpl : ps.length ≤ plan.length := by
        have := scanGo_lenK (l := l) plan (0, 0, 0) []
        rw [show scanGo l (0, 0, 0) [] plan = (ps, a, e) from hs] at this
        simpa using this
      have Hs := Lib.hid hs
      clear hs
      go_enter Try.func7, Try.ntmps7
      go_wp2_with fail
      refine (curAwake _).mono ?_
      rintro e w1 ⟨rfl, hb1⟩
      have Hb1 := Lib.hid hb1
      clear hb1
      go_wp2_with (at_builtin; refine wpList_append_bytes _ rfl _ _ 22 rfl w1.heap.size 5 i0 (.int .u8 0) 1 Try.underlying22 hi0 hz0 hz1 hz2 rfl (.slice (some ⟨w1.heap.size, 0, none⟩) 0 0) [] rfl (own_none _ _ _ (Nat.le_refl _) _ rfl) w.heap.size A _ c l rfl rfl (HB.out.below (Hb1.out.alloc Hb1.out.size _)) (by simp [maxLen]; omega) (by simp; omega) (by simp) ?_; intro A5 c5 w2 hown2 hg2 _)
      have hb2 : Below w1.heap.size w1 w2 := ((Below.refl _ _).alloc (Nat.le_refl _) _).grown hg2 (by simp) (by intro k hk; simp [Value.ownBlock] at hk; omega)
      have hown2' : w2.ownsRow w1.heap.size 5 1 (.slice A5 l.length c5) l.length (bcells l) := by simpa using hown2
      have Hown2 := Lib.hid hown2'
      have Hb2 : Hid (Below w.heap.size w w2) := Hb1.out.trans (hb2.mono Hb1.out.size)
      have Hsz2 : Hid (w1.heap.size ≤ w2.heap.size) := hb2.size
      clear hown2 hown2' hg2 hb2
      refine (scan_eq A5 _ c5 l P _ d plan w2 rfl (BS.of_own Hown2.out).1 (by omega) rfl ((HP.out.below Hb2.out).more Hb2.out.size) hmd (by omega) Hpn.out Hs.out).mono ?_
      rintro e2 w3 ⟨A1, c1, rfl, hP3, hb3⟩
      have HP3 := Lib.hid hP3
      have Hb3 := Lib.hid hb3
      clear hP3 hb3
      go_wp2_with fail
      obtain ⟨W3, hW3⟩ : ∃ W, W = w3.alloc (.cells #[.int .i64 (a : Int), .int .i64 (e : Int)] 28) := ⟨_, rfl⟩
      have hbW : Below w3.heap.size w3 W3 := by rw [hW3]; exact (Below.refl _ w3).alloc (Nat.le_refl _) _
      have HPW := Lib.hid (HP3.out.below hbW)
      have HbW : Hid (Below w2.heap.size w2 W3) := Hb3.out.trans (hbW.mono Hb3.out.size)
      rw [← hW3]
      clear hW3 hbW HP3 Hb3
      have HownW := Lib.hid (own_below Hown2.out HbW.out)
      refine (rdNew_any A5 _ c5 l W3 rfl (BS.of_own HownW.out).1 (by omega)).mono ?_
      rintro e3 w4 ⟨g, rfl, hg1, hg2, hR4, hb4⟩
      have Hown4 := Lib.hid (own_below HownW.out hb4)
      have HP4 := Lib.hid (HPW.out.below hb4)
      have Hb4 : Hid (Below w2.heap.size w2 w4) := HbW.out.trans (hb4.mono HbW.out.size)
      have Hbw4 : Hid (Below w.heap.size w w4) := Hb2.out.trans (Hb4.out.mono Hb2.out.size)
      have HR4 := Lib.hid hR4
      have Hsz3 : Hid (w2.heap.size ≤ W3.heap.size) := HbW.out.size
      have Hsz1 : Hid (w.heap.size ≤ w1.heap.size) := Hb1.out.size
      have Hfar : Hid (∀ k, (Value.slice A5 l.length c5).ownBlock = some k → w1.heap.size ≤ k ∧ k < w2.heap.size) := fun k hk => Hown2.out.lt k hk
      clear hR4 hb4
      go_wp2_with fail
      refine (same_yesK A5 _ c5 l A _ c w4 _ _ rfl rfl (BS.of_own Hown4.out).1 (HB.out.below Hbw4.out)).mono ?_
      rintro e4 w4' ⟨rfl, rfl⟩
      go_wp2_with fail
      go_loopw [9] (fun i wr => ∃ (j : Nat) (xs : List UInt8), j ≤ l.length ∧ i = .int .i64 (j : Int) ∧ Hid (FlipAt w4 wr w1.heap.size A5 c5 l xs)) (fun i _ => l.length - (intOf i).toNat)
      case atStart => exact ⟨0, l, by omega, rfl, rfl, grownOf (Below.refl _ _), Hown4.out⟩
      case round =>
        obtain ⟨j, xs, hj, rfl, hat⟩ := hrel
        by_cases hlt : j < l.length
        · have hltI : (j : Int) < (l.length : Int) := by omega
          have hj0 : (0 : Int) ≤ (j : Int) := by omega
          have hjx : j < xs.length := by have := hat.out.1; omega
          obtain ⟨g5, cap, hv3, hg2', hg3'⟩ := hat.out.2.2.form (by omega)
          have hA5 : A5 = some ⟨g5, 0, none⟩ := by injection hv3
          subst hA5
          clear hv3
          have hc := hat.out.2.2.cellAt j (by omega)
          have hc2 : (bcells xs)[j]? = some (.int .u8 ((xs[j]).toNat : Int)) := by
            rw [bcells, List.getElem?_map, List.getElem?_eq_getElem hjx]
            rfl
          rw [hc2] at hc
          have hf := hat.out.2.2.frozenAt j
          obtain ⟨xs', hxs⟩ := hat.out.step hjx _ rfl
          have Hxs := Lib.hid hxs
          clear hxs hc2 hat
          go_wp2
          go_roundw
          case rel => exact ⟨j + 1, xs', by omega, by go_num, Hxs.out⟩
          case measure => simp [intOf]; omega
        · have hltI : ¬ (j : Int) < (l.length : Int) := by omega
          rename World => w5
          obtain ⟨_, hg45, _⟩ := hat.out
          have hB5 : Below w1.heap.size w4 w5 := below_grown hg45 (Nat.le_trans Hsz2.out Hb4.out.size) (fun k hk => (Hfar.out k hk).1)
          have HR5 := Lib.hid (RdW.kept HR4.out hg1 hg45 (fun k hk => Nat.lt_of_lt_of_le (Hfar.out k hk).2 Hsz3.out))
          have HP5 := Lib.hid (HP4.out.keep (fun he ho => ho.kept hg45 (own_ne_row ho (fun k hk => (Hfar.out k hk).2))))
          have Hbw5 : Hid (Below w.heap.size w w5) := Hbw4.out.trans (hB5.mono Hsz1.out)
          have Hok : Hid (okS l (0, 0, 0)) := ⟨Nat.zero_le _, Nat.zero_le _, Nat.zero_le _⟩
          clear hat hg45 hB5 HR4 HP4 Hbw4 Hown4
          go_wp2_with fail
          refine (rdTake_any W3.heap.size g l (0, 0, 0) w5 (l.length : Int) HR5.out Hok.out (by omega) (by omega)).mono ?_
          rw [take_all]
          rintro e6 w6 ⟨A6, c6, rfl, hown6, hR6, hg6⟩
          have hwr : w5.heap.size ≤ w6.heap.size := hg6.size
          have HR6 := Lib.hid hR6
          have Hown6 := Lib.hid hown6
          have Hg6 := Lib.hid hg6
          have Hg5 : Hid (g < w5.heap.size) := by obtain ⟨_, _, hr, _⟩ := HR5.out; exact Blk.lt hr
          have Hbw6 : Hid (Below w.heap.size w w6) := Hbw5.out.grown hg6 Hbw5.out.size (fun k hk => by injection hk with hk; have := Hsz1.out; have := Hsz2.out; have := Hsz3.out; omega)
          have Hfar6 : Hid (∀ k, (Value.slice A6 l.length c6).ownBlock = some k → w5.heap.size ≤ k ∧ k < w6.heap.size) := fun k hk => hown6.lt k hk
          clear hR6 hown6 hg6
          go_wp2_with (at_builtin; refine wpList_append_bytes _ rfl _ _ 22 rfl w6.heap.size 5 i0 (.int .u8 0) 1 Try.underlying22 hi0 hz0 hz1 hz2 rfl (.slice (some ⟨w6.heap.size, 0, none⟩) 0 0) [] rfl (own_none _ _ _ (Nat.le_refl _) _ rfl) w6.heap.size A6 _ c6 l rfl rfl ((BS.of_own Hown6.out).1.alloc (Nat.le_refl _) _) (by simp [maxLen]; omega) (by simp; omega) (by simp) ?_; intro A7 c7 w7 hown7 hg7 _)
          have hb7 : Below w6.heap.size w6 w7 := ((Below.refl _ _).alloc (Nat.le_refl _) _).grown hg7 (by simp) (by intro k hk; simp [Value.ownBlock] at hk; omega)
          have hown7' : w7.ownsRow w6.heap.size 5 1 (.slice A7 l.length c7) l.length (bcells l) := by simpa using hown7
          have Hown7 := Lib.hid hown7'
          have Hb7 := Lib.hid hb7
          have Hbw7 : Hid (Below w.heap.size w w7) := Hbw6.out.trans (hb7.mono Hbw6.out.size)
          have Hown67 := Lib.hid (own_below Hown6.out hb7)
          clear hown7 hown7' hg7 hb7
          go_loopw [12] (fun i wr => ∃ (j : Nat) (xs : List UInt8), j ≤ l.length ∧ i = .int .i64 (j : Int) ∧ Hid (FlipAt w7 wr w5.heap.size A6 c6 l xs)) (fun i _ => l.length - (intOf i).toNat)
          case atStart => exact ⟨0, l, by omega, rfl, rfl, grownOf (Below.refl _ _), Hown67.out⟩
          case round =>
            obtain ⟨k, xs, hk, rfl, hat⟩ := hrel
            by_cases hlt : k < l.length
            · have hltI : (k : Int) < (l.length : Int) := by omega
              have hj0 : (0 : Int) ≤ (k : Int) := by omega
              have hjx : k < xs.length := by have := hat.out.1; omega
              obtain ⟨g5, cap, hv3, hg2', hg3'⟩ := hat.out.2.2.form (by omega)
              have hA6 : A6 = some ⟨g5, 0, none⟩ := by injection hv3
              subst hA6
              clear hv3
              have hc := hat.out.2.2.cellAt k (by omega)
              have hc2 : (bcells xs)[k]? = some (.int .u8 ((xs[k]).toNat : Int)) := by
                rw [bcells, List.getElem?_map, List.getElem?_eq_getElem hjx]
                rfl
              rw [hc2] at hc
              have hf := hat.out.2.2.frozenAt k
              obtain ⟨xs', hxs⟩ := hat.out.step hjx _ rfl
              have Hxs := Lib.hid hxs
              clear hxs hc2 hat
              go_wp2
              go_roundw
              case rel => exact ⟨k + 1, xs', by omega, by go_num, Hxs.out⟩
              case measure => simp [intOf]; omega
            · have hltI : ¬ (k : Int) < (l.length : Int) := by omega
              obtain ⟨_, hg8, _⟩ := hat.out
              have hB8 : Below w5.heap.size w7 wr := below_grown hg8 (Nat.le_trans hwr Hb7.out.size) (fun k hk => (Hfar6.out k hk).1)
              have hy := Hown7.out.kept hg8 (own_ne_row Hown7.out (fun k hk => (Hfar6.out k hk).2))
              have HY := Lib.hid (BS.of_own hy).1
              have HP8 := Lib.hid (HP5.out.keep (fun he ho => by
                obtain ⟨_, _, hr, _⟩ := HR5.out
                exact (own_below (ho.kept Hg6.out (own_blk_ne ho hr (by rcases he with rfl | rfl <;> decide))) Hb7.out).kept hg8 (own_ne_new ho (fun k hk => (Hfar6.out k hk).1))))
              have Hbw8 : Hid (Below w.heap.size w wr) := Hbw7.out.trans (hB8.mono Hbw5.out.size)
              clear hat hg8 hB8 hy HR5 HR6 Hg6 Hown6 Hown7 Hown67 Hb7 Hbw7 Hbw6 HP5
              go_wp2_with fail
              refine (rscan_eqK _ _ _ l _ _ _ plan _ rfl ((HB.out.below Hbw8.out).more Hbw8.out.size) (by omega) hnc rfl ((HP.out.below Hbw8.out).more Hbw8.out.size) hmd (by omega) Hpn.out Hs.out).mono ?_
              rintro e9 w9 ⟨A9, c9, rfl, hP9, hb9⟩
              have HP9 := Lib.hid hP9
              have HPa := Lib.hid (HP8.out.below hb9)
              have HY9 := Lib.hid ((HY.out.below hb9).more hb9.size)
              have Hbw9 : Hid (Below w.heap.size w w9) := Hbw8.out.trans (hb9.mono Hbw8.out.size)
              clear hP9 hb9 HP8 HY
              go_wp2_with fail
              obtain ⟨W9, hW9⟩ : ∃ W, W = w9.alloc (.cells #[.int .i64 (a : Int), .int .i64 (e : Int)] 28) := ⟨_, rfl⟩
              have hb10 : Below w9.heap.size w9 W9 := by rw [hW9]; exact (Below.refl _ w9).alloc (Nat.le_refl _) _
              rw [← hW9]
              have Hb10 : Hid (Below w.heap.size w W9) := Hbw9.out.trans (hb10.mono Hbw9.out.size)
              have HQ9 := Lib.hid (HP9.out.below hb10)
              have HQa := Lib.hid (HPa.out.below hb10)
              have HQY := Lib.hid (HY9.out.below hb10)
              clear hW9 hb10
              refine (same_yesK A7 _ c7 l A _ c W9 _ _ rfl rfl HQY.out (HB.out.below Hb10.out)).mono ?_
              rintro e10 w10' ⟨rfl, rfl⟩
              go_wp2_with fail
              refine (sameP_yesK A1 _ c1 A9 _ c9 ps _ rfl rfl HQa.out.to_PS HQ9.out.to_PS (by omega)).mono ?_
              rintro e11 w11 ⟨rfl, hb11⟩
              go_wp2
              go_ret
              exact ⟨rfl, Hb10.out.trans (hb11.mono Hb10.out.size)⟩
end Go.Proofs.Ytpeknjbcjpdmnab
