/- The walk of the statement CursorBack. -/
import Derived.Test.YtpeknjbcjpdmnabCurO
import Derived.Test.YtpeknjbcjpdmnabCurQ
import Derived.Test.YtpeknjbcjpdmnabRefS4
namespace Go.Proofs.Ytpeknjbcjpdmnab
open Go.RowKit
set_option linter.unusedVariables false

theorem fewP_ok {ls : List Piece} (h : fewP ls = true) (h64 : ∀ p ∈ ls, p.1 < 18446744073709551616) : (∀ p ∈ ls, pOk p) ∧ ls.length ≤ 40 ∧ ∀ p ∈ ls, p.2.length ≤ 300 := by
  rw [fewP, Bool.and_eq_true, List.all_eq_true] at h
  obtain ⟨h1, h2⟩ := h
  have h2' : ∀ p ∈ ls, p.2.length ≤ 300 := fun p hp => of_decide_eq_true (h2 p hp)
  exact ⟨fun p hp => ⟨h64 p hp, by have := h2' p hp; omega⟩, of_decide_eq_true h1, h2'⟩
theorem fewP_eq {b : Bool} (A : Option Addr) (n c : Nat) (ls : List Piece) (w : World) (hn : n = ls.length) (hb : PS w w.heap.size A ls) (hl : n ≤ maxLen) (h : fewP ls = b) :
    Calls Try.prog 14 #[.slice A n c] w fun e w' => e = .returned (.bool b) ∧ w = w' := by
  subst h
  exact fewP_any A n c ls w hn hb hl
theorem sameP_yes (A : Option Addr) (n c : Nat) (A' : Option Addr) (n' c' : Nat) (ls : List Piece) (w : World) (hn : n = ls.length) (hn' : n' = ls.length) (hb : PS w w.heap.size A ls) (hb' : PS w w.heap.size A' ls) (hl : n ≤ 1000000000) :
    Calls Try.prog 13 #[.slice A n c, .slice A' n' c'] w fun e w' => e = .returned (.bool true) ∧ Below w.heap.size w w' := by
  have := sameP_any A n c ls A' n' c' ls w hn hn' hb hb' hl
  rw [show (ls == ls) = true from beq_self_eq_true ls] at this
  exact this
theorem lay_le40 {plan : List Item} {ps : List Piece} {full : List UInt8} (h : layS plan ps = some full) (hok : ∀ p ∈ ps, pOk p) (hl : ps.length ≤ 40) : full.length ≤ 40000400 := by
  have := lay_full_le plan ps [] full h hok
  simp at this
  omega
theorem own_bytes_new (w : World) (x : UInt8) (z : Int) (hz : z = (x.toNat : Int)) (t : TypeId) : BS (w.alloc (.cells #[.int .u8 z] t)) (w.heap.size + 1) (some ⟨w.heap.size, 0, none⟩) [x] := BS.one' w x z hz t

set_option maxHeartbeats 8000000 in
set_option maxRecDepth 100000 in
theorem walk_cursorBack (w : World) (P : Option Addr) (m d : Nat) (plan : List Item) (hm : m = plan.length) (hmd : m ≤ d) (hmm : m ≤ maxLen) (hp : IS w w.heap.size P plan) (hok : ∀ x ∈ plan, itemOk x)
    (L : Option Addr) (n c : Nat) (ps : List Piece) (hn : n = ps.length) (hnc : n ≤ c) (hnm : n ≤ maxLen) (hl : PS w w.heap.size L ps) (hpo : ∀ x ∈ ps, x.1 < 18446744073709551616 ∧ x.2.length ≤ maxLen)
    (at_ : Int) (hat : (Lit.int .u16 at_).wf = true) (more : Int) (hmo : (Lit.int .u8 more).wf = true) :
    Calls Try.prog 5 #[.slice P m d, .slice L n c, .int .u16 at_, .int .u8 more] w fun e w' => e = .returned (.bool true) ∧ Below w.heap.size w w' := by
  subst hn hm
  have HP := Lib.hid hp
  have HL := Lib.hid hl
  have Hpn : Hid (∀ x ∈ plan, x.2.1 < 9223372036854775808) := fun x hx => (hok x hx).2
  have H64 : Hid (∀ p ∈ ps, p.1 < 18446744073709551616) := fun x hx => (hpo x hx).1
  have Hnm := Lib.hid hnm
  obtain ⟨at', rfl, hat'⟩ := u16_of_wf hat
  have hmore : ∃ x : UInt8, more = (x.toNat : Int) := by
    have := u8_of_wf hmo
    exact ⟨UInt8.ofNat more.toNat, by rw [UInt8.toNat_ofNat']; have : more.toNat % 256 = more.toNat := Nat.mod_eq_of_lt (by omega); rw [this]; omega⟩
  obtain ⟨mo, rfl⟩ := hmore
  unfold maxLen at hmm hnm
  clear hp hl hok hpo hat hmo
  by_cases h2 : 40 < plan.length
  · have h2I : (40 : Int) < (plan.length : Int) := by omega
    go_enter Try.func5, Try.ntmps5
    go_wp2_with fail
    refine (curAwake _).mono ?_
    rintro e w1 ⟨rfl, hb1⟩
    go_wp2_with fail
    refine (curAwake _).mono ?_
    rintro e w2 ⟨rfl, hb2⟩
    go_wp2
    go_ret
    exact ⟨rfl, bthen hb1 hb2⟩
  · have h2I : ¬ (40 : Int) < (plan.length : Int) := by omega
    rcases hfew : fewP ps with _ | _
    · have Hfew := Lib.hid hfew
      clear hfew
      go_enter Try.func5, Try.ntmps5
      go_wp2_with fail
      refine (curAwake _).mono ?_
      rintro e w1 ⟨rfl, hb1⟩
      go_wp2_with fail
      refine (fewP_eq _ _ _ ps w1 rfl ((HL.out.below hb1).more hb1.size) Hnm.out Hfew.out).mono ?_
      rintro e w1' ⟨rfl, rfl⟩
      go_wp2_with fail
      refine (curAwake _).mono ?_
      rintro e w2 ⟨rfl, hb2⟩
      go_wp2
      go_ret
      exact ⟨rfl, bthen hb1 hb2⟩
    · have Hfew := Lib.hid hfew
      obtain ⟨hpok, hp40, _⟩ := fewP_ok hfew H64.out
      have Hpok := Lib.hid hpok
      clear hfew hpok
      rcases hlay : layS plan ps with _ | full
      · have Hlay := Lib.hid hlay
        clear hlay
        go_enter Try.func5, Try.ntmps5
        go_wp2_with fail
        refine (curAwake _).mono ?_
        rintro e w1 ⟨rfl, hb1⟩
        have Hb1 := Lib.hid hb1
        clear hb1
        go_wp2_with fail
        refine (fewP_eq _ _ _ ps w1 rfl ((HL.out.below Hb1.out).more Hb1.out.size) Hnm.out Hfew.out).mono ?_
        rintro e w1' ⟨rfl, rfl⟩
        go_wp2_with fail
        refine (lay_eq P _ d plan L _ c ps w1 rfl ((HP.out.below Hb1.out).more Hb1.out.size) hmd (by omega) Hpn.out rfl ((HL.out.below Hb1.out).more Hb1.out.size) hnc hnm Hpok.out Hlay.out).mono ?_
        rintro e w3 ⟨A3, c3, rfl, hown3, hb3⟩
        have Hb3 := Lib.hid (Hb1.out.trans (hb3.mono Hb1.out.size))
        clear hown3 hb3
        go_wp2
        go_ret
        exact ⟨rfl, Hb3.out⟩
      · have Hlay := Lib.hid hlay
        have hfl := lay_le40 hlay Hpok.out hp40
        have hback := scan_back plan ps [] full [] [] hlay Hpok.out
        have hback2 := scan_back plan ps [] full [mo] [] hlay Hpok.out
        rw [List.append_nil, if_pos rfl] at hback
        rw [if_neg (by simp)] at hback2
        have Hback : Hid (scanS full plan = (ps, 0, 0)) := hback
        have Hback2 : Hid (scanS (full ++ [mo]) plan = ([], full.length, 3)) := hback2
        clear hlay hback hback2
        go_enter Try.func5, Try.ntmps5
        go_wp2_with fail
        refine (curAwake _).mono ?_
        rintro e w1 ⟨rfl, hb1⟩
        have Hb1 := Lib.hid hb1
        clear hb1
        go_wp2_with fail
        refine (fewP_eq _ _ _ ps w1 rfl ((HL.out.below Hb1.out).more Hb1.out.size) Hnm.out Hfew.out).mono ?_
        rintro e w1' ⟨rfl, rfl⟩
        go_wp2_with fail
        refine (lay_eq P _ d plan L _ c ps w1 rfl ((HP.out.below Hb1.out).more Hb1.out.size) hmd (by omega) Hpn.out rfl ((HL.out.below Hb1.out).more Hb1.out.size) hnc hnm Hpok.out Hlay.out).mono ?_
        rintro e w3 ⟨A3, c3, rfl, hown3, hb3⟩
        have Hb3 := Lib.hid (Hb1.out.trans (hb3.mono Hb1.out.size))
        have Hown3 := Lib.hid hown3
        clear hown3 hb3
        go_wp2_with fail
        refine (scan_eq A3 _ c3 full P _ d plan w3 rfl (BS.of_own Hown3.out).1 (by first | omega | (simp only [Option.getD_some]; omega)) rfl ((HP.out.below Hb3.out).more Hb3.out.size) hmd (by omega) Hpn.out Hback.out).mono ?_
        rintro e w4 ⟨A4, c4, rfl, hP4, hb4⟩
        have Hb4 := Lib.hid (Hb3.out.trans (hb4.mono Hb3.out.size))
        have Hown4 := Lib.hid (own_below Hown3.out hb4)
        have HP4 := Lib.hid hP4.to_PS
        clear hP4 hb4
        obtain ⟨i0, hi0, hz0, hz1, hz2⟩ := info_parts u8_infoO
        have Hsz4 : Hid (w.heap.size ≤ w4.heap.size) := Hb4.out.size
        have HS5 : Hid (Blk (w4.alloc (.cells #[.int .i64 0, .int .i64 0] 28)) w4.heap.size 28 #[.int .i64 0, .int .i64 0]) := Blk.new w4 _ _ _ rfl
        have Hb5 : Hid (Below w4.heap.size w4 (w4.alloc (.cells #[.int .i64 0, .int .i64 0] 28))) := (Below.refl _ w4).alloc (Nat.le_refl _) _
        go_wp2_with
          (first
            | (at_builtin
               refine wpList_append_bytes _ rfl (.tmp 49) (.tmp 50) 22 rfl (w4.heap.size + 1) 5 i0 (.int .u8 0) 1 Try.underlying22 hi0 hz0 hz1 hz2 rfl (.slice (some ⟨w4.heap.size + 1, 0, none⟩) 0 0) [] rfl ?_ ((w4.alloc (.cells #[.int .i64 0, .int .i64 0] 28)).alloc (.cells #[] 5)).heap.size A3 _ c3 full rfl rfl ?_ ?_ ?_ ?_ ?_
               · go_loud (exact own_none (w4.alloc (.cells #[.int .i64 0, .int .i64 0] 28)) _ _ (by simp) _ (by simp))
               · go_loud (exact (BS.of_own (own_below Hown4.out (Hb5.out.alloc Hb5.out.size (.cells #[] 5)))).1)
               · go_loud (simp; unfold maxLen; omega)
               · go_loud (simp; omega)
               · go_loud (simp)
               intro A5 c5 w5 hown5 hg5 _
               have Hg5 : Hid (Below (w4.heap.size + 1) (w4.alloc (.cells #[.int .i64 0, .int .i64 0] 28)) w5) := ((Below.refl _ _).alloc (by simp) _).grown hg5 (by simp) (fun k hk => by simp [Value.ownBlock] at hk; omega)
               have Hg5' : Hid (w4.heap.size + 1 ≤ w5.heap.size) := by have := Hg5.out.size; simp at this; exact this
               have HS6 := Lib.hid (Blk.below HS5.out Hg5.out (Nat.lt_succ_self _))
               have hown5' : w5.ownsRow (w4.heap.size + 1) 5 1 (.slice A5 full.length c5) full.length (bcells full) := by simpa using hown5
               have Hown5 := Lib.hid hown5'
               have Hb6 : Hid (Below w4.heap.size w4 w5) := Hb5.out.trans (Hg5.out.mono (Nat.le_succ _))
               clear hown5 hown5' hg5)
            | (at_builtin
               refine wpList_append_bytes _ rfl (.tmp 51) (.tmp 53) 22 rfl (w4.heap.size + 1) 5 i0 (.int .u8 0) 1 Try.underlying22 hi0 hz0 hz1 hz2 rfl (.slice A5 full.length c5) full rfl (own_below Hown5.out ((Below.refl _ w5).alloc (Nat.le_refl _) _)) _ (some ⟨w5.heap.size, 0, none⟩) _ 1 [mo] rfl rfl (BS.one' w5 mo _ rfl _) (by simp; unfold maxLen; omega) (by simp; omega) (Nat.le_trans Hg5'.out (by simp)) ?_
               intro A6 c6 w6 hown6 hg6 _
               have Hown6 := Lib.hid hown6
               have Hg6 : Hid (Below (w4.heap.size + 1) (w4.alloc (.cells #[.int .i64 0, .int .i64 0] 28)) w6) := (Hg5.out.trans ((Below.refl _ w5).alloc Hg5'.out _)).grown hg6 (Nat.le_trans Hg5'.out (by simp)) (fun k hk => (Hown5.out.lt k hk).1)
               clear hown6 hg6))
        have Hb46 : Hid (Below w4.heap.size w4 w6) := Hb5.out.trans (Hg6.out.mono (Nat.le_succ _))
        have HS7 := Lib.hid (Blk.below HS5.out Hg6.out (Nat.lt_succ_self _))
        have Hb6w : Hid (Below w.heap.size w w6) := Hb4.out.trans (Hb46.out.mono Hsz4.out)
        refine (scan_eq A6 _ c6 (full ++ [mo]) P _ d plan w6 (by simp) (BS.of_own Hown6.out).1 (by omega) rfl ((HP.out.below Hb6w.out).more Hb6w.out.size) hmd (by omega) Hpn.out Hback2.out).mono ?_
        rintro e w7 ⟨A7, c7, rfl, hP7, hb7⟩
        have Hb47 : Hid (Below w4.heap.size w4 w7) := Hb46.out.trans (hb7.mono Hb46.out.size)
        have HS8 := Lib.hid (Blk.below HS7.out hb7 HS7.out.lt)
        clear hP7 hb7 Hg6 Hg5 Hg5' HS6 HS7 Hown5 Hown6 Hb6 Hb46 Hb6w HS5 Hb5 hi0 hz0 hz1 hz2
        have s0 : ∀ o, (w7.alloc o).cell? ⟨w4.heap.size, 0, none⟩ = some (.int .i64 0) := fun o => Blk.cell (Blk.alloc HS8.out o) 0
        have s1 : ∀ o, (w7.alloc o).cell? ⟨w4.heap.size, 1, none⟩ = some (.int .i64 0) := fun o => Blk.cell (Blk.alloc HS8.out o) 1
        go_wp2_with fail
        obtain ⟨W7, hW7⟩ : ∃ W7, W7 = w7.alloc (.cells #[.int .i64 (full.length : Int), .int .i64 3] 28) := ⟨_, rfl⟩
        have HT7 : Hid (Blk W7 w7.heap.size 28 #[.int .i64 (full.length : Int), .int .i64 3]) := by rw [hW7]; exact Blk.new w7 _ _ _ rfl
        have HbW7 : Hid (Below w7.heap.size w7 W7) := by rw [hW7]; exact (Below.refl _ w7).alloc (Nat.le_refl _) _
        rw [← hW7]
        have Hb4W : Hid (Below w4.heap.size w4 W7) := Hb47.out.trans (HbW7.out.mono Hb47.out.size)
        have HbwW : Hid (Below w.heap.size w W7) := Hb4.out.trans (Hb4W.out.mono Hsz4.out)
        clear hW7 s0 s1 HS8
        refine (sameP_yes L _ c A4 _ c4 ps W7 rfl rfl ((HL.out.below HbwW.out).more HbwW.out.size) ((HP4.out.below Hb4W.out).more Hb4W.out.size) (by omega)).mono ?_
        rintro e w8 ⟨rfl, hb8⟩
        have HT8 := Lib.hid (Blk.below HT7.out hb8 HT7.out.lt)
        have t0 : w8.cell? ⟨w7.heap.size, 0, none⟩ = some (.int .i64 (full.length : Int)) := HT8.out.cell 0
        have t1 : w8.cell? ⟨w7.heap.size, 1, none⟩ = some (.int .i64 3) := HT8.out.cell 1
        have Hb48 : Hid (Below w4.heap.size w4 w8) := Hb4W.out.trans (hb8.mono Hb4W.out.size)
        have Hbw8 : Hid (Below w.heap.size w w8) := Hb4.out.trans (Hb48.out.mono Hsz4.out)
        clear hb8 HT7 HbW7 HT8
        by_cases hf0 : full.length = 0
        · have hf0I : ((full.length : Int) == 0) = true := beq_iff_eq.2 (by omega)
          clear hf0
          go_wp2
          go_ret
          exact ⟨rfl, Hbw8.out⟩
        · have hf0I : ((full.length : Int) == 0) = false := beq_eq_false_iff_ne.2 (by omega)
          have hc3 : full.length ≤ c3 := own_le Hown4.out
          have hkl : at' % full.length < full.length := Nat.mod_lt _ (by omega)
          have hk1 : (0 : Int) ≤ (at' : Int) % (full.length : Int) := by omega
          have hk2 : (at' : Int) % (full.length : Int) ≤ (c3 : Int) := by omega
          obtain ⟨a, hcut, ha⟩ := scan_cut plan ps [] full (at' % full.length) [] Hlay.out Hpok.out (Nat.zero_le _) hkl
          have Hcut : Hid (scanS (full.take (at' % full.length)) plan = ([], a, 2)) := hcut
          have haI : (a : Int) ≤ (at' : Int) % (full.length : Int) := by omega
          have HBk : Hid (BS w8 w8.heap.size A3 (full.take (at' % full.length))) := (((BS.of_own Hown4.out).1.below Hb48.out).more Hb48.out.size).take _
          have HLk : Hid (at' % full.length = (full.take (at' % full.length)).length) := by show _ = _; rw [List.length_take]; omega
          clear hcut ha
          go_wp2_with fail
          refine (scan_eq A3 _ c3 (full.take (at' % full.length)) P _ d plan w8 HLk.out HBk.out (by omega) rfl ((HP.out.below Hbw8.out).more Hbw8.out.size) hmd (by omega) Hpn.out Hcut.out).mono ?_
          rintro e w9 ⟨A9, c9, rfl, _, hb9⟩
          have Hbw9 : Hid (Below w.heap.size w w9) := Hbw8.out.trans (hb9.mono Hbw8.out.size)
          clear hb9
          go_wp2
          go_ret
          exact ⟨rfl, Hbw9.out.alloc Hbw9.out.size _⟩
end Go.Proofs.Ytpeknjbcjpdmnab
