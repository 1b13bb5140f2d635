/- The walk of the statement CursorReads. -/
import Derived.Test.YtpeknjbcjpdmnabCurRP
import Derived.Test.YtpeknjbcjpdmnabRefAskT
import Derived.Test.YtpeknjbcjpdmnabCurA
import Derived.Test.YtpeknjbcjpdmnabSame
import Derived.Deep.Cut
import Derived.Deep.CutRange
namespace Go.Proofs.Ytpeknjbcjpdmnab
open Go.RowKit
set_option linter.unusedVariables false

theorem same_yesR (A : Option Addr) (n c : Nat) (l : List UInt8) (A' : Option Addr) (n' c' : Nat) (w : World) (B B' : Nat) (hn : n = l.length) (hn' : n' = l.length) (hb : BS w B A l) (hb' : BS w B' A' l) :
    Calls Try.prog 17 #[.slice A n c, .slice A' n' c'] w fun e w' => e = .returned (.bool true) ∧ w = w' := by
  have := same_any A n c l A' n' c' l w B B' hn hn' hb hb'
  rw [show (l == l) = true from beq_self_eq_true l] at this
  exact this

/-- A store into a block of another type leaves a reader as it is. -/
theorem RdW.keptBlk {w w' : World} {base g k : Nat} {t : TypeId} {cs : Array Value} {l : List UInt8} {s : St} (h : RdW w base g l s) (hB : Blk w k t cs) (ht : t ≠ 5) (hk : k ≠ g) (hg : w.grownBy w' (some k)) : RdW w' base g l s := by
  obtain ⟨A, c, h1, h2, h3, h4⟩ := h
  exact ⟨A, c, Blk.grown h1 hg (fun e => by injection e with e; exact hk e.symm), h2.kept hg (own_blk_ne h2 hB ht), h3, h4⟩
theorem rdAt_st (base g : Nat) (l : List UInt8) (s : St) (w : World) (h : RdW w base g l s) :
    Calls Try.prog 25 #[.pointer (some ⟨g, 0, none⟩)] w fun e w' => e = .returned (.int .i64 (s.1 : Int)) ∧ w = w' := by
  obtain ⟨A, c, hr, _⟩ := h
  exact rdAt_any g A l.length c s.1 s.2.1 s.2.2 w hr
theorem rdFault_st (base g : Nat) (l : List UInt8) (s : St) (w : World) (h : RdW w base g l s) :
    Calls Try.prog 27 #[.pointer (some ⟨g, 0, none⟩)] w fun e w' => e = .returned (.agg #[.int .i64 (s.2.1 : Int), .int .i64 (s.2.2 : Int)]) ∧ Below w.heap.size w w' := by
  obtain ⟨A, c, hr, _⟩ := h
  exact rdFault_any g A l.length c s.1 s.2.1 s.2.2 w hr

/-- What holds at the head of the loop over what is asked. -/
def RdsAt (w wr : World) (base g b6 : Nat) (l : List UInt8) (A : Option Addr) (c : Nat) (s : St) : Prop :=
  okS l s ∧ RdW wr base g l s ∧ Blk wr b6 47 #[.slice A l.length c, .int .i64 (s.1 : Int), .int .i64 (s.2.1 : Int), .int .i64 (s.2.2 : Int)] ∧ Below w.heap.size w wr

set_option maxHeartbeats 4000000 in
set_option maxRecDepth 100000 in
theorem walk_cursorReads (w : World) (A : Option Addr) (n c : Nat) (l : List UInt8) (hn : n = l.length) (hnc : n ≤ c) (hnm : n ≤ maxLen) (hb : BS w w.heap.size A l)
    (P : Option Addr) (m d : Nat) (qs : List AskT) (hm : m = qs.length) (hmd : m ≤ d) (hmm : m ≤ maxLen) (hp : AS w w.heap.size P qs) (hok : ∀ x ∈ qs, askOk x) :
    Calls Try.prog 8 #[.slice A n c, .slice P m d] w fun e w' => e = .returned (.bool true) ∧ Below w.heap.size w w' := by
  subst hn hm
  unfold maxLen at hnm hmm
  have HB := Lib.hid hb
  have HP := Lib.hid hp
  have Hpn := Lib.hid hok
  clear hb hp hok
  by_cases h1 : 500 < l.length
  · have h1I : (500 : Int) < (l.length : Int) := by omega
    go_enter Try.func8, Try.ntmps8
    go_wp2_with fail
    refine (curAwake _).mono ?_
    rintro e w1 ⟨rfl, hb1⟩
    go_wp2_with fail
    refine (curAwake _).mono ?_
    rintro e w2 ⟨rfl, hb2⟩
    go_wp2
    go_ret
    exact ⟨rfl, bthen hb1 hb2⟩
  · have h1I : ¬ (500 : Int) < (l.length : Int) := by omega
    by_cases h2 : 60 < qs.length
    · have h2I : (60 : Int) < (qs.length : Int) := by omega
      go_enter Try.func8, Try.ntmps8
      go_wp2_with fail
      refine (curAwake _).mono ?_
      rintro e w1 ⟨rfl, hb1⟩
      go_wp2_with fail
      refine (curAwake _).mono ?_
      rintro e w2 ⟨rfl, hb2⟩
      go_wp2
      go_ret
      exact ⟨rfl, bthen hb1 hb2⟩
    · have h2I : ¬ (60 : Int) < (qs.length : Int) := by omega
      go_enter Try.func8, Try.ntmps8
      go_wp2_with fail
      refine (curAwake _).mono ?_
      rintro e w1 ⟨rfl, hb1⟩
      have Hb1 := Lib.hid hb1
      clear hb1
      go_wp2_with fail
      refine (rdNew_any A _ c l w1 rfl ((HB.out.below Hb1.out).more Hb1.out.size) (by omega)).mono ?_
      rintro e w2 ⟨g, rfl, hg1, hg2, hR2, hb2⟩
      have HR2 := Lib.hid hR2
      have hsz1 : w.heap.size ≤ w1.heap.size := Hb1.out.size
      have Hb2 : Hid (Below w.heap.size w w2) := Hb1.out.trans (hb2.mono hsz1)
      have hsz2 : w.heap.size ≤ w2.heap.size := Hb2.out.size
      clear hR2 hb2
      go_wp2_with fail
      obtain ⟨W, hW⟩ : ∃ W, W = w2.alloc (.cells #[.slice A l.length c, .int .i64 0, .int .i64 0, .int .i64 0] 47) := ⟨_, rfl⟩
      rw [← hW]
      obtain ⟨b6, hb6⟩ : ∃ b, b = w2.heap.size := ⟨_, rfl⟩
      rw [← hb6]
      have hrel0 : RdsAt w W w1.heap.size g b6 l A c (0, 0, 0) := by
        rw [hW, hb6]
        exact ⟨⟨Nat.zero_le _, Nat.zero_le _, Nat.zero_le _⟩, HR2.out.below ((Below.refl _ w2).alloc (Nat.le_refl _) _), Blk.new w2 _ _ _ rfl, Hb2.out.alloc hsz2 _⟩
      have Hrel0 := Lib.hid hrel0
      have hgb : g < b6 := by omega
      clear hW hrel0 HR2 Hb2 hb6 hg2 hsz2
      go_loopw [7] (fun i wr => ∃ (k : Nat) (s : St), k ≤ qs.length ∧ i = .int .i64 (k : Int) ∧ Hid (RdsAt w wr w1.heap.size g b6 l A c s)) (fun i _ => qs.length - (intOf i).toNat)
      case atStart => exact ⟨0, (0, 0, 0), by omega, rfl, Hrel0⟩
      case round =>
        obtain ⟨k, s, hk, rfl, hat⟩ := hrel
        by_cases hlt : k < qs.length
        · have hkI : (k : Int) < (qs.length : Int) := by omega
          have hk0 : (0 : Int) ≤ (k : Int) := by omega
          obtain ⟨Hok, hR, hX, hbr⟩ := hat.out
          obtain ⟨ad, hadE, hadb, y0, y1, y2, _⟩ := (HP.out.below hbr).whole hlt
          have haok := Hpn.out _ (List.getElem_mem hlt)
          rcases hx : qs[k] with ⟨kx, nx, bx, mx, px⟩
          rw [hx] at y0 y1 y2 haok
          simp only at y0 y1 y2
          have hnx : nx < 9223372036854775808 := haok.2.1.2
          have hS1 : ∀ w', Below w.heap.size w w' → w'.cell? (ad.add (k * 5)) = some (.int .i64 kx) ∧ w'.cell? ⟨(ad.add (k * 5)).block, (ad.add (k * 5)).off + 1, none⟩ = some (.int .i64 nx) ∧ w'.cell? ⟨(ad.add (k * 5)).block, (ad.add (k * 5)).off + 2, none⟩ = some (.bool bx) := fun w' h => by
            obtain ⟨ad', e', _, z0, z1, z2, _⟩ := (HP.out.below h).whole hlt
            rw [hadE] at e'
            obtain rfl : ad = ad' := by injection e'
            rw [hx] at z0 z1 z2
            exact ⟨z0, z1, z2⟩
          have HS1 := Lib.hid hS1
          subst hadE
          rcases hask : askS l s (kindN kx) nx bx with ⟨s2, q, p⟩
          have Hok2 : Hid (okS l s2) := by have := ok_askN Hok kx nx bx; rw [hask] at this; exact this
          have Hask := Lib.hid hask
          have HR := Lib.hid hR
          have HX := Lib.hid hX
          have Hbr := Lib.hid hbr
          have Hok := Lib.hid Hok
          have hszr : w.heap.size ≤ wr.heap.size := hbr.size
          clear hx haok hS1 hask hR hX hbr y1 y2
          go_upto_if 45 with fail
          go_cut [8, 9, 10] from 33 to 132 (fun kd nn x wx => ∃ (A' : Option Addr) (c' : Nat), kd = .int .i64 (kindN kx) ∧ nn = .int .u64 (q : Int) ∧ x = .slice A' p.length c' ∧ Hid (RdW wx w1.heap.size g l s2) ∧ Hid (wr.grownBy wx (some g)) ∧ Hid (wx.ownsRow wr.heap.size 5 1 (.slice A' p.length c') p.length (bcells p)))
          case first =>
            obtain ⟨_, y1, y2⟩ := HS1.out _ Hbr.out
            by_cases k1 : kx = 1
            · subst k1
              have hK : kindN 1 = 1 := by simp [kindN]
              have h := Hask.out
              rw [hK, askN_1] at h
              injection h with e1 h
              injection h with e2 e3
              subst e1 e2 e3
              have HK := Lib.hid hK
              clear hK Hask y0 y1 y2
              go_wp2_with fail
              go_region_held3 (fun w' => w'.cell? ⟨(ad.add (k * 5)).block, (ad.add (k * 5)).off + 1, none⟩ = some (.int .i64 nx) ∧ w'.cell? ⟨(ad.add (k * 5)).block, (ad.add (k * 5)).off + 2, none⟩ = some (.bool bx))
                (first | exact (HS1.out _ Hbr.out).2 | exact (HS1.out _ Hbr.out.drew).2 | exact (HS1.out _ Hbr3.out).2)
                (first
                  | (go_at_call 20
                     refine (rdNum_any w1.heap.size g l s wr.drew nx bx HR.out.drew Hok.out (by omega)).mono ?_
                     rintro e w3 ⟨rfl, hR3, hg3⟩
                     have HR3 := Lib.hid hR3
                     have Hg3 : Hid (wr.grownBy w3 (some g)) := grownTrans (grownDrew wr _) hg3
                     have Hbr3 : Hid (Below w.heap.size w w3) := Hbr.out.drew.grown hg3 hszr (fun k hk => by injection hk with hk; omega)
                     clear hR3 hg3))
              all_goals
                go_wp2
                go_meet
                case rel => exact ⟨none, 0, by rw [HK.out], rfl, rfl, HR3, Hg3, World.ownsRow_nil _ _ _ _⟩
            · have k1b : (kx == 1) = false := by simpa using k1
              by_cases k2 : kx = 2
              · subst k2
                have hK : kindN 2 = 2 := by simp [kindN]
                have h := Hask.out
                rw [hK, askN_2] at h
                injection h with e1 h
                injection h with e2 e3
                subst e1 e2 e3
                have HK := Lib.hid hK
                clear hK Hask y0 y1 y2
                go_wp2_with fail
                refine (rdVar_any w1.heap.size g l s wr HR.out Hok.out (by omega)).mono ?_
                rintro e w3 ⟨rfl, hR3, hg3⟩
                have HR3 := Lib.hid hR3
                have Hg3 := Lib.hid hg3
                clear hR3 hg3
                go_wp2
                go_meet
                case rel => exact ⟨none, 0, by rw [HK.out], rfl, rfl, HR3, Hg3, World.ownsRow_nil _ _ _ _⟩
              · have k2b : (kx == 2) = false := by simpa using k2
                by_cases k3 : kx = 3
                · subst k3
                  have hK : kindN 3 = 3 := by simp [kindN]
                  have h := Hask.out
                  rw [hK, askN_3] at h
                  injection h with e1 h
                  injection h with e2 e3
                  subst e1 e2 e3
                  have HK := Lib.hid hK
                  clear hK Hask y0 y2
                  go_wp2_with fail
                  refine (rdTake_any w1.heap.size g l s wr nx HR.out Hok.out (by omega) hnx).mono ?_
                  rintro e w3 ⟨A3, c3, rfl, hown3, hR3, hg3⟩
                  have HR3 := Lib.hid hR3
                  have Hg3 := Lib.hid hg3
                  have Hown3 := Lib.hid hown3
                  clear hR3 hg3 hown3
                  go_wp2
                  go_meet
                  case rel => exact ⟨A3, c3, by rw [HK.out], rfl, rfl, HR3, Hg3, Hown3⟩
                · have k3b : (kx == 3) = false := by simpa using k3
                  by_cases k4 : kx = 4
                  · subst k4
                    have hK : kindN 4 = 4 := by simp [kindN]
                    have h := Hask.out
                    rw [hK, askN_4] at h
                    injection h with e1 h
                    injection h with e2 e3
                    subst e1 e2 e3
                    have HK := Lib.hid hK
                    clear hK Hask y0 y2
                    go_wp2_with fail
                    refine (rdText_any w1.heap.size g l s wr nx HR.out Hok.out (by omega) hnx).mono ?_
                    rintro e w3 ⟨A3, c3, rfl, hown3, hR3, hg3⟩
                    have HR3 := Lib.hid hR3
                    have Hg3 := Lib.hid hg3
                    have Hown3 := Lib.hid hown3
                    clear hR3 hg3 hown3
                    go_wp2
                    go_meet
                    case rel => exact ⟨A3, c3, by rw [HK.out], rfl, rfl, HR3, Hg3, Hown3⟩
                  · have k4b : (kx == 4) = false := by simpa using k4
                    have hK : kindN kx = 5 := by simp [kindN, k1, k2, k3, k4]
                    have h := Hask.out
                    rw [hK, askN_5] at h
                    injection h with e1 h
                    injection h with e2 e3
                    subst e1 e2 e3
                    have HK := Lib.hid hK
                    clear hK Hask y0 y1 y2
                    go_wp2_with fail
                    refine (rdEnd_any w1.heap.size g l s wr HR.out Hok.out (by omega)).mono ?_
                    rintro e w3 ⟨rfl, hR3, hg3⟩
                    have HR3 := Lib.hid hR3
                    have Hg3 := Lib.hid hg3
                    clear hR3 hg3
                    go_wp2
                    go_meet
                    case rel => exact ⟨none, 0, by rw [HK.out], rfl, rfl, HR3, Hg3, World.ownsRow_nil _ _ _ _⟩
          case rest =>
            obtain ⟨A', c', rfl, rfl, rfl, HRc, Hgc, Hownc⟩ := hcut
            have hbc : Below w.heap.size w wc := Hbr.out.grown Hgc.out hszr (fun k hk => by injection hk with hk; omega)
            have hXc := Blk.grown HX.out Hgc.out (fun e => by injection e with e; omega)
            have hS2 : ∀ w', Below wc.heap.size wc w' → w'.cell? ⟨b6, 0, none⟩ = some (.slice A l.length c) ∧ w'.cell? ⟨b6, 1, none⟩ = some (.int .i64 (s.1 : Int)) ∧ w'.cell? ⟨b6, 2, none⟩ = some (.int .i64 (s.2.1 : Int)) ∧ w'.cell? ⟨b6, 3, none⟩ = some (.int .i64 (s.2.2 : Int)) ∧ w'.cell? ⟨(ad.add (k * 5)).block, (ad.add (k * 5)).off + 1, none⟩ = some (.int .i64 nx) ∧ w'.cell? ⟨(ad.add (k * 5)).block, (ad.add (k * 5)).off + 2, none⟩ = some (.bool bx) := fun w' h => by
              have hr := Blk.below hXc h hXc.lt
              have hp := (HS1.out w' (hbc.trans (h.mono hbc.size))).2
              exact ⟨hr.cell 0, hr.cell 1, hr.cell 2, hr.cell 3, hp.1, hp.2⟩
            have hBc : BS wc wc.heap.size A l := (HB.out.below hbc).more hbc.size
            have hBca : ∀ o, BS (wc.alloc o).drew (wc.alloc o).drew.heap.size A l := fun o => BS.drew (BS.more (hBc.below ((Below.refl wc.heap.size wc).alloc (Nat.le_refl _) o)) (Below.size ((Below.refl wc.heap.size wc).alloc (Nat.le_refl _) o).drew))
            have Hbc := Lib.hid hbc
            have HXc := Lib.hid hXc
            have HS2 := Lib.hid hS2
            have HBc := Lib.hid hBc
            have HBca := Lib.hid hBca
            have hszc : w.heap.size ≤ wc.heap.size := hbc.size
            clear hbc hXc hS2 hBc hBca HS1 HR HX Hbr y0 hat
            go_wp2_with fail
            go_region_held3 (fun w' => w'.cell? ⟨b6, 0, none⟩ = some (.slice A l.length c) ∧ w'.cell? ⟨b6, 1, none⟩ = some (.int .i64 (s.1 : Int)) ∧ w'.cell? ⟨b6, 2, none⟩ = some (.int .i64 (s.2.1 : Int)) ∧ w'.cell? ⟨b6, 3, none⟩ = some (.int .i64 (s.2.2 : Int)) ∧ w'.cell? ⟨(ad.add (k * 5)).block, (ad.add (k * 5)).off + 1, none⟩ = some (.int .i64 nx) ∧ w'.cell? ⟨(ad.add (k * 5)).block, (ad.add (k * 5)).off + 2, none⟩ = some (.bool bx))
              ((refine HS2.out _ ?_
                repeat (first | (with_reducible refine Below.setCell ?_ (by first | exact Nat.le_refl _ | exact HLe.out) _) | (with_reducible refine Below.alloc ?_ (by first | exact Nat.le_refl _ | exact HLe.out) _) | (with_reducible refine Below.drew ?_))
                first | exact Below.refl _ _ | exact Hb3.out))
              (first
                | (go_at_call 24
                   refine (ask_any A c l s (kindN kx) nx bx wc.drew (BS.drew HBc.out) hnc (by omega) Hok.out hnx).mono ?_
                   rw [Hask.out]
                   rintro e w3 ⟨A2, c2, rfl, hown2, hb2⟩
                   simp only [rdrV]
                   have HLe : Hid (wc.heap.size ≤ w3.heap.size) := hb2.size
                   have Hb3 : Hid (Below wc.heap.size wc w3) := ((Below.refl _ wc).drew).trans hb2
                   have H9 : ∀ o, Blk (w3.alloc (.cells o 47)) w3.heap.size 47 o := fun o => Blk.new _ _ _ _ rfl
                   have H9 := Lib.hid H9
                   have Hown2 := Lib.hid hown2
                   clear hown2 hb2)
                | (go_at_call 24
                   refine (ask_any A c l s (kindN kx) nx bx (wc.alloc (.cells #[.slice none 0 0, .int .i64 0, .int .i64 0, .int .i64 0] 47)).drew (HBca.out _) hnc (by omega) Hok.out hnx).mono ?_
                   rw [Hask.out]
                   rintro e w3 ⟨A2, c2, rfl, hown2, hb2⟩
                   simp only [rdrV]
                   have h9 := Blk.below (Blk.drew (Blk.new wc 47 #[.slice none 0 0, .int .i64 0, .int .i64 0, .int .i64 0] _ rfl)) hb2 (Blk.lt (Blk.drew (Blk.new wc 47 #[.slice none 0 0, .int .i64 0, .int .i64 0, .int .i64 0] _ rfl)))
                   have z0 : w3.cell? ⟨wc.heap.size, 0, none⟩ = some (.slice none 0 0) := h9.cell 0
                   have z1 : w3.cell? ⟨wc.heap.size, 1, none⟩ = some (.int .i64 0) := h9.cell 1
                   have z2 : w3.cell? ⟨wc.heap.size, 2, none⟩ = some (.int .i64 0) := h9.cell 2
                   have z3 : w3.cell? ⟨wc.heap.size, 3, none⟩ = some (.int .i64 0) := h9.cell 3
                   have zf : ∀ i, w3.frozen? ⟨wc.heap.size, i, none⟩ = false := fun i => h9.frozen i
                   have HLe : Hid (wc.heap.size ≤ w3.heap.size) := Nat.le_trans (Below.size ((Below.refl wc.heap.size wc).alloc (Nat.le_refl _) (.cells #[.slice none 0 0, .int .i64 0, .int .i64 0, .int .i64 0] 47)).drew) hb2.size
                   have Hb3 : Hid (Below wc.heap.size wc w3) := (((Below.refl wc.heap.size wc).alloc (Nat.le_refl _) (.cells #[.slice none 0 0, .int .i64 0, .int .i64 0, .int .i64 0] 47)).drew).trans (hb2.mono (Below.size ((Below.refl wc.heap.size wc).alloc (Nat.le_refl _) (.cells #[.slice none 0 0, .int .i64 0, .int .i64 0, .int .i64 0] 47)).drew))
                   have H9 := Lib.hid h9
                   have Hown2 := Lib.hid hown2
                   clear hown2 hb2 h9))
            all_goals
              first
                | (obtain ⟨W3, hW3⟩ : ∃ W3, W3 = w3.alloc (.cells #[.slice A l.length c, .int .i64 (s2.1 : Int), .int .i64 (s2.2.1 : Int), .int .i64 (s2.2.2 : Int)] 47) := ⟨_, rfl⟩
                   obtain ⟨b9, hb9⟩ : ∃ b, b = w3.heap.size := ⟨_, rfl⟩
                   rw [← hW3, ← hb9]
                   have h9 : Blk W3 b9 47 #[.slice A l.length c, .int .i64 (s2.1 : Int), .int .i64 (s2.2.1 : Int), .int .i64 (s2.2.2 : Int)] := by rw [hW3, hb9]; exact H9.out _
                   have hW : Below wc.heap.size wc W3 := by rw [hW3]; exact Hb3.out.alloc HLe.out _
                   have hown3 : W3.ownsRow wc.heap.size 5 1 (.slice A2 p.length c2) p.length (bcells p) := by rw [hW3]; exact own_below Hown2.out ((Below.refl _ w3).alloc (Nat.le_refl _) _)
                   have hg9 : b6 < b9 := by rw [hb9]; exact Nat.lt_of_lt_of_le HXc.out.lt HLe.out
                   clear hW3 hb9 H9 Hb3 HLe Hown2)
                | (obtain ⟨W3, hW3⟩ : ∃ W3, W3 = ((((w3.setCell ⟨wc.heap.size, 0, none⟩ (.slice A l.length c)).setCell ⟨wc.heap.size, 1, none⟩ (.int .i64 (s2.1 : Int))).setCell ⟨wc.heap.size, 2, none⟩ (.int .i64 (s2.2.1 : Int))).setCell ⟨wc.heap.size, 3, none⟩ (.int .i64 (s2.2.2 : Int))) := ⟨_, rfl⟩
                   obtain ⟨b9, hb9⟩ : ∃ b, b = wc.heap.size := ⟨_, rfl⟩
                   rw [← hW3, ← hb9]
                   have h9 : Blk W3 b9 47 #[.slice A l.length c, .int .i64 (s2.1 : Int), .int .i64 (s2.2.1 : Int), .int .i64 (s2.2.2 : Int)] := by rw [hW3, hb9]; exact Blk.store4 H9.out _ _ _ _
                   have hW : Below wc.heap.size wc W3 := by rw [hW3]; exact (((Hb3.out.setCell (Nat.le_refl _) _).setCell (Nat.le_refl _) _).setCell (Nat.le_refl _) _).setCell (Nat.le_refl _) _
                   have hown3 : W3.ownsRow wc.heap.size 5 1 (.slice A2 p.length c2) p.length (bcells p) := by
                     rw [hW3]
                     exact own_base' (Hown2.out.kept (grownTrans (grownTrans (grownTrans (grownSet _ ⟨wc.heap.size, 0, none⟩ _) (grownSet _ ⟨wc.heap.size, 1, none⟩ _)) (grownSet _ ⟨wc.heap.size, 2, none⟩ _)) (grownSet _ ⟨wc.heap.size, 3, none⟩ _)) (own_blk_ne Hown2.out H9.out (by decide))) (Below.size ((Below.refl wc.heap.size wc).alloc (Nat.le_refl _) (.cells #[.slice none 0 0, .int .i64 0, .int .i64 0, .int .i64 0] 47)).drew)
                   have hg9 : b6 < b9 := by rw [hb9]; exact HXc.out.lt
                   clear hW3 hb9 H9 Hb3 HLe Hown2 z0 z1 z2 z3 zf)
              have hX3 := Blk.below HXc.out hW HXc.out.lt
              have hR3 := HRc.out.below hW
              have hY3 := own_below Hownc.out hW
              have hbw3 := Hbc.out.trans (hW.mono hszc)
              have hX4 := Blk.store4 hX3 (.slice A l.length c) (.int .i64 (s2.1 : Int)) (.int .i64 (s2.2.1 : Int)) (.int .i64 (s2.2.2 : Int))
              have hgs : W3.grownBy _ (some b6) := grownTrans (grownTrans (grownTrans (grownSet W3 ⟨b6, 0, none⟩ (.slice A l.length c)) (grownSet _ ⟨b6, 1, none⟩ (.int .i64 (s2.1 : Int)))) (grownSet _ ⟨b6, 2, none⟩ (.int .i64 (s2.2.1 : Int)))) (grownSet _ ⟨b6, 3, none⟩ (.int .i64 (s2.2.2 : Int)))
              have hR4 := RdW.keptBlk hR3 hX3 (by decide) (by omega) hgs
              have hY4 := hY3.kept hgs (own_blk_ne hY3 hX3 (by decide))
              have hown4 := hown3.kept hgs (own_blk_ne hown3 hX3 (by decide))
              have hbw4 := (((hbw3.setCell (p := ⟨b6, 0, none⟩) (by simp; omega) (.slice A l.length c)).setCell (p := ⟨b6, 1, none⟩) (by simp; omega) (.int .i64 (s2.1 : Int))).setCell (p := ⟨b6, 2, none⟩) (by simp; omega) (.int .i64 (s2.2.1 : Int))).setCell (p := ⟨b6, 3, none⟩) (by simp; omega) (.int .i64 (s2.2.2 : Int))
              have n0 : W3.cell? ⟨b9, 0, none⟩ = some (.slice A l.length c) := h9.cell 0
              have n1 : W3.cell? ⟨b9, 1, none⟩ = some (.int .i64 (s2.1 : Int)) := h9.cell 1
              have n2 : W3.cell? ⟨b9, 2, none⟩ = some (.int .i64 (s2.2.1 : Int)) := h9.cell 2
              have n3 : W3.cell? ⟨b9, 3, none⟩ = some (.int .i64 (s2.2.2 : Int)) := h9.cell 3
              have r0 : W3.cell? ⟨b6, 0, none⟩ = some (.slice A l.length c) := hX3.cell 0
              have r1 : W3.cell? ⟨b6, 1, none⟩ = some (.int .i64 (s.1 : Int)) := hX3.cell 1
              have r2 : W3.cell? ⟨b6, 2, none⟩ = some (.int .i64 (s.2.1 : Int)) := hX3.cell 2
              have r3 : W3.cell? ⟨b6, 3, none⟩ = some (.int .i64 (s.2.2 : Int)) := hX3.cell 3
              have rf : ∀ i, W3.frozen? ⟨b6, i, none⟩ = false := fun i => hX3.frozen i
              have HX4 := Lib.hid hX4
              have HR4 := Lib.hid hR4
              have HY4 := Lib.hid hY4
              have Hown4 := Lib.hid hown4
              have Hbw4 := Lib.hid hbw4
              clear hX3 hR3 hY3 hbw3 hX4 hgs hR4 hY4 hown4 hbw4 h9 hW hown3 HXc HRc Hownc HS2 HBc HBca
              go_upto_region 25 with fail
              obtain ⟨W4, hW4e⟩ : ∃ W4, W4 = ((((W3.setCell ⟨b6, 0, none⟩ (.slice A l.length c)).setCell ⟨b6, 1, none⟩ (.int .i64 (s2.1 : Int))).setCell ⟨b6, 2, none⟩ (.int .i64 (s2.2.1 : Int))).setCell ⟨b6, 3, none⟩ (.int .i64 (s2.2.2 : Int))) := ⟨_, rfl⟩
              rw [← hW4e]
              have hX5 : Blk W4 b6 47 #[.slice A l.length c, .int .i64 (s2.1 : Int), .int .i64 (s2.2.1 : Int), .int .i64 (s2.2.2 : Int)] := by rw [hW4e]; exact HX4.out
              have hR5 : RdW W4 w1.heap.size g l s2 := by rw [hW4e]; exact HR4.out
              have hY5 : BS W4 W4.heap.size A' p := by rw [hW4e]; exact (BS.of_own HY4.out).1
              have hZ5 : BS W4 W4.heap.size A2 p := by rw [hW4e]; exact (BS.of_own Hown4.out).1
              have hbw5 : Below w.heap.size w W4 := by rw [hW4e]; exact Hbw4.out
              have hS5 : ∀ w', Below W4.heap.size W4 w' → w'.cell? ⟨b6, 0, none⟩ = some (.slice A l.length c) ∧ w'.cell? ⟨b6, 1, none⟩ = some (.int .i64 (s2.1 : Int)) ∧ w'.cell? ⟨b6, 2, none⟩ = some (.int .i64 (s2.2.1 : Int)) ∧ w'.cell? ⟨b6, 3, none⟩ = some (.int .i64 (s2.2.2 : Int)) := fun w' h => by
                have hr := Blk.below hX5 h hX5.lt
                exact ⟨hr.cell 0, hr.cell 1, hr.cell 2, hr.cell 3⟩
              have hrdAt := rdAt_st w1.heap.size g l s2 W4.drew hR5.drew
              have hrdLeft := rdLeft_st w1.heap.size g l s2 W4.drew hR5.drew Hok2.out (by omega)
              have HrdAt := Lib.hid hrdAt
              have HrdLeft := Lib.hid hrdLeft
              have HX5 := Lib.hid hX5
              have HR5 := Lib.hid hR5
              have HY5 := Lib.hid hY5
              have HZ5 := Lib.hid hZ5
              have Hbw5 := Lib.hid hbw5
              have HS5 := Lib.hid hS5
              have hs2le : s2.1 ≤ l.length := Hok2.out.1
              have hwrp : IntKind.i64.wrap ((l.length : Int) - (s2.1 : Int)) = (l.length : Int) - (s2.1 : Int) := IntWalk.i64_in _ (by omega)
              clear hX5 hR5 hY5 hZ5 hbw5 hS5 hrdAt hrdLeft hs2le hW4e HX4 HR4 HY4 Hown4 Hbw4 n0 n1 n2 n3 r0 r1 r2 r3 rf
              go_region_held3 (fun w' => w'.cell? ⟨b6, 0, none⟩ = some (.slice A l.length c) ∧ w'.cell? ⟨b6, 1, none⟩ = some (.int .i64 (s2.1 : Int)) ∧ w'.cell? ⟨b6, 2, none⟩ = some (.int .i64 (s2.2.1 : Int)) ∧ w'.cell? ⟨b6, 3, none⟩ = some (.int .i64 (s2.2.2 : Int)))
                ((refine HS5.out _ ?_
                  first | exact Below.refl _ _ | exact (Below.refl _ _).drew | exact Hb6.out | exact HbL.out))
                (first
                  | (go_at_call 17
                     refine (same_yesR A' _ c' p A2 _ c2 W4.drew _ _ rfl rfl HY5.out.drew HZ5.out.drew).mono ?_
                     rintro e w5 ⟨rfl, rfl⟩)
                  | (go_at_call 25
                     refine HrdAt.out.mono ?_
                     rintro e w5 ⟨rfl, rfl⟩)
                  | (go_at_call 26
                     refine HrdLeft.out.mono ?_
                     rintro e wl ⟨rfl, hwl⟩
                     have HbL : Hid (Below W4.heap.size W4 wl) := by obtain ⟨m5, hm5⟩ := hwl; rw [hm5]; exact (Below.refl _ W4).drew.trans (below_drewN m5)
                     have HRL : Hid (RdW wl w1.heap.size g l s2) := by obtain ⟨m5, hm5⟩ := hwl; rw [hm5]; exact HR5.out.drew.drewN m5
                     have HszL : Hid (W4.heap.size ≤ wl.heap.size) := HbL.out.size
                     clear hwl)
                  | (go_at_call 27
                     refine (rdFault_st w1.heap.size g l s2 wl HRL.out).mono ?_
                     rintro e w6 ⟨rfl, hb6⟩
                     have Hb6 : Hid (Below W4.heap.size W4 w6) := HbL.out.trans (hb6.mono HszL.out)
                     have HR6 := Lib.hid (HRL.out.below hb6)
                     clear hb6))
              have hend : RdsAt w w6 w1.heap.size g b6 l A c s2 := ⟨Hok2.out, HR6.out, Blk.below HX5.out Hb6.out HX5.out.lt, Hbw5.out.trans (Hb6.out.mono Hbw5.out.size)⟩
              have Hend := Lib.hid hend
              clear hend HR6 Hb6 HRL HbL HszL HX5 HR5 HY5 HZ5 Hbw5 HS5 HrdAt HrdLeft hwrp Hbc Hgc Hask
              go_wp2
              go_roundw
              case rel =>
                first
                  | exact ⟨k + 1, s2, by omega, by go_num, Hend⟩
                  | (repeat apply Exists.intro
                     exact ⟨⟨k + 1, s2, by omega, by go_num, Hend⟩, rfl⟩)
              case measure => simp [intOf]; omega
        · have hkI : ¬ (k : Int) < (qs.length : Int) := by omega
          have Hbr := Lib.hid hat.out.2.2.2
          go_wp2
          go_ret
          exact ⟨rfl, Hbr.out⟩
end Go.Proofs.Ytpeknjbcjpdmnab
