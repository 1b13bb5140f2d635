/- The walk of the statement CursorWrites. -/
import Derived.Test.YtpeknjbcjpdmnabWrsP
import Derived.Test.YtpeknjbcjpdmnabAsks
import Derived.Test.YtpeknjbcjpdmnabCurA
import Derived.Test.YtpeknjbcjpdmnabSame
import Derived.Deep.Cut
import Derived.Deep.CutRange
namespace Go.Proofs.Ytpeknjbcjpdmnab
open Go.RowKit
set_option linter.unusedVariables false

theorem same_yesW (A : Option Addr) (n c : Nat) (l : List UInt8) (A' : Option Addr) (n' c' : Nat) (w : World) (B B' : Nat) (hn : n = l.length) (hn' : n' = l.length) (hb : BS w B A l) (hb' : BS w B' A' l) :
    Calls Try.prog 17 #[.slice A n c, .slice A' n' c'] w fun e w' => e = .returned (.bool true) ∧ w = w' := by
  have := same_any A n c l A' n' c' l w B B' hn hn' hb hb'
  rw [show (l == l) = true from beq_self_eq_true l] at this
  exact this
theorem numW_fe1 {most : Nat} {l : List UInt8} {fe mx : Nat} {nx : Int} {bx : Bool} {fe1 : Nat} (h : fe1 = if fe = 0 ∧ (nx < 1 ∨ 8 < nx) then 1 else fe) : numW most (l, fe) mx nx bx = bytesS most (l, fe1) (putS (clampN nx) mx bx) := by
  subst h
  unfold numW
  simp only
  split <;> rfl
theorem bytesS_long {most : Nat} {l m : List UInt8} (h : most < l.length + m.length) : bytesS most (l, 0) m = (l, 4) := by
  unfold bytesS; rw [if_neg (by simp), if_pos h]
theorem bytesS_fits {most : Nat} {l m : List UInt8} (h : ¬ most < l.length + m.length) : bytesS most (l, 0) m = (l ++ m, 0) := by
  unfold bytesS; rw [if_neg (by simp), if_neg h]

set_option maxHeartbeats 4000000 in
set_option maxRecDepth 100000 in
theorem walk_cursorWrites (w : World) (mo : Int) (hmo : (Lit.int .i64 mo).wf = true)
    (P : Option Addr) (m d : Nat) (qs : List AskT) (hm : m = qs.length) (hmd : m ≤ d) (hmm : m ≤ maxLen) (hp : AS w w.heap.size P qs) (hok : ∀ x ∈ qs, askOk x) :
    Calls Try.prog 9 #[.int .i64 mo, .slice P m d] w fun e w' => e = .returned (.bool true) ∧ Below w.heap.size w w' := by
  subst hm
  have hmo2 := (i64_of_wf hmo).2
  unfold maxLen at hmm
  have HP := Lib.hid hp
  have Hpn := Lib.hid hok
  clear hp hok hmo
  by_cases h2 : 60 < qs.length
  · have h2I : (60 : Int) < (qs.length : Int) := by omega
    go_enter Try.func9, Try.ntmps9
    go_wp2_with fail
    refine (curAwake _).mono ?_
    rintro e w1 ⟨rfl, hb1⟩
    go_wp2_with fail
    refine (curAwake _).mono ?_
    rintro e w2 ⟨rfl, hb2⟩
    go_wp2
    go_ret
    exact ⟨rfl, bthen hb1 hb2⟩
  · have h2I : ¬ (60 : Int) < (qs.length : Int) := by omega
    go_enter Try.func9, Try.ntmps9
    go_wp2_with fail
    refine (curAwake _).mono ?_
    rintro e w1 ⟨rfl, hb1⟩
    have Hb1 := Lib.hid hb1
    clear hb1
    go_wp2_with fail
    refine (newWriter_any mo w1 hmo2).mono ?_
    rintro e w2 ⟨rfl, hW2, hb2⟩
    obtain ⟨g, hg⟩ : ∃ g, g = w1.heap.size := ⟨_, rfl⟩
    rw [← hg] at hW2 ⊢
    have hgw : w.heap.size ≤ g := by rw [hg]; exact Hb1.out.size
    obtain ⟨most, hmost⟩ : ∃ k : Nat, k = mo.toNat := ⟨_, rfl⟩
    rw [← hmost] at hW2
    have hmost2 : most < 9223372036854775808 := by omega
    have Hat0 : Hid (WrsAt w w2 g most none 0 [] ([], 0)) := ⟨⟨none, 0, hW2, fun k hk => by simp [Value.ownBlock] at hk⟩, World.ownsRow_nil _ _ _ _, Hb1.out.trans (hb2.mono Hb1.out.size)⟩
    have Hgw := Lib.hid hgw
    clear hW2 hb2 hg hgw Hb1
    go_upto_if 28 with fail
    go_cut [6] from 148 to 148 (fun b wx => b = .int .i64 (most : Int) ∧ wx = w2)
    case first =>
      by_cases h0 : mo < 0
      · have hz : most = 0 := by omega
        clear hmost
        subst hz
        go_wp2
        go_meet
        case rel => exact ⟨rfl, rfl⟩
      · have hz : mo = (most : Int) := by omega
        clear hmost hmo2
        subst hz
        go_wp2
        go_meet
        case rel => exact ⟨rfl, rfl⟩
    case rest =>
      obtain ⟨rfl, rfl⟩ := hcut
      have Hmost2 := Lib.hid hmost2
      clear hmost hmo2 hmost2
      go_wp2_with fail
      go_loopw [7, 8, 9] (fun v f i wr => ∃ (k : Nat) (l : List UInt8) (fe : Nat) (Ao : Option Addr) (co : Nat), k ≤ qs.length ∧ i = .int .i64 (k : Int) ∧ v = .slice Ao l.length co ∧ f = .int .i64 (fe : Int) ∧ l.length ≤ 400 * k ∧ Hid (WrsAt w wr g most Ao co l (l, fe))) (fun _ _ i _ => qs.length - (intOf i).toNat)
      case atStart => exact ⟨0, [], 0, none, 0, by omega, rfl, rfl, rfl, by simp, Hat0⟩
      case round =>
        obtain ⟨k, l, fe, Ao, co, hk, rfl, rfl, rfl, hlk, hat⟩ := hrel
        by_cases hlt : k < qs.length
        · have hkI : (k : Int) < (qs.length : Int) := by omega
          have hk0 : (0 : Int) ≤ (k : Int) := by omega
          have hbr : Below w.heap.size w wr := hat.out.2.2
          obtain ⟨ad, hadE, hadb, y0, y1, y2, y3, Xp, cp, y4, _, hBp⟩ := HP.out.whole hlt
          have haok := Hpn.out _ (List.getElem_mem hlt)
          rcases hx : qs[k] with ⟨kx, nx, bx, mx, px⟩
          rw [hx] at y0 y1 y2 y3 y4 haok hBp
          simp only at y0 y1 y2 y3 y4 hBp
          have hmx : mx < 18446744073709551616 := haok.2.2.1
          have hadk : (ad.add (k * 5)).block < w.heap.size := by rw [block_of_add]; exact hadb
          replace y0 := (hbr.cell (p := ad.add (k * 5)) hadk).trans y0
          replace y1 := (hbr.cell (p := ⟨(ad.add (k * 5)).block, (ad.add (k * 5)).off + 1, none⟩) hadk).trans y1
          replace y2 := (hbr.cell (p := ⟨(ad.add (k * 5)).block, (ad.add (k * 5)).off + 2, none⟩) hadk).trans y2
          replace y3 := (hbr.cell (p := ⟨(ad.add (k * 5)).block, (ad.add (k * 5)).off + 3, none⟩) hadk).trans y3
          replace y4 := (hbr.cell (p := ⟨(ad.add (k * 5)).block, (ad.add (k * 5)).off + 4, none⟩) hadk).trans y4
          subst hadE
          have HBp := Lib.hid hBp
          have Hbr := Lib.hid hbr
          have Hmx := Lib.hid hmx
          clear hx haok hBp hbr hmx
          by_cases hp3 : 300 < px.length
          · have hp3I : (300 : Int) < (px.length : Int) := by omega
            go_wp2
            go_ret
            exact ⟨rfl, Hbr.out.alloc Hbr.out.size _⟩
          · have hp3I : ¬ (300 : Int) < (px.length : Int) := by omega
            go_upto_if 45 with fail
            obtain ⟨W, hW⟩ : ∃ W, W = wr.alloc (.cells #[.int .i64 kx, .int .i64 nx, .bool bx, .int .u64 (mx : Int), .slice Xp px.length cp] 50) := ⟨_, rfl⟩
            rw [← hW]
            obtain ⟨b10, hb10⟩ : ∃ b, b = wr.heap.size := ⟨_, rfl⟩
            rw [← hb10]
            have hAt : WrsAt w W g most Ao co l (l, fe) := by rw [hW]; exact hat.out.below ((Below.refl _ wr).alloc (Nat.le_refl _) _)
            have hBox : Blk W b10 50 #[.int .i64 kx, .int .i64 nx, .bool bx, .int .u64 (mx : Int), .slice Xp px.length cp] := by rw [hW, hb10]; exact Blk.new wr _ _ _ rfl
            have HAt := Lib.hid hAt
            have HBox := Lib.hid hBox
            clear hAt hBox hat hW hb10 y0 y1 y2 y3 y4 Hbr
            go_cut [8, 11] from 29 to 148 (fun f x wx => ∃ (fe1 : Nat) (mm : List UInt8) (Am : Option Addr) (cm : Nat), f = .int .i64 (fe1 : Int) ∧ x = .slice Am mm.length cm ∧ mm.length ≤ 400 ∧ Hid (WrsAt w wx g most Ao co l (bytesS most (l, fe1) mm)) ∧ Hid (BS wx wx.heap.size Am mm))
            case first =>
              obtain ⟨⟨Aw, cw, hWt, hDj⟩, hOwn, hBel⟩ := HAt.out
              have HWt := Lib.hid hWt
              have HDj := Lib.hid hDj
              have HOwn := Lib.hid hOwn
              have HBel := Lib.hid hBel
              have hl : l.length ≤ 1000000000000 := by omega
              clear hWt hDj hOwn hBel
              have c0 : W.cell? ⟨b10, 0, none⟩ = some (.int .i64 kx) := HBox.out.cell 0
              have c1 : W.cell? ⟨b10, 1, none⟩ = some (.int .i64 nx) := HBox.out.cell 1
              have c2 : W.cell? ⟨b10, 2, none⟩ = some (.bool bx) := HBox.out.cell 2
              have c3 : W.cell? ⟨b10, 3, none⟩ = some (.int .u64 (mx : Int)) := HBox.out.cell 3
              have c4 : W.cell? ⟨b10, 4, none⟩ = some (.slice Xp px.length cp) := HBox.out.cell 4
              by_cases k1 : kx = 1
              · subst k1
                go_wp2_with fail
                refine (wrNum_any g g Aw cw most (l, fe) W mx nx bx HWt.out Hmx.out Hmost2.out hl).mono ?_
                intro e w3 h3
                obtain ⟨h3a, h3b⟩ := WrsAt.wrote Hgw.out HWt.out HDj.out HOwn.out HBel.out h3
                have HBox3 := Lib.hid (h3b b10 _ _ (by decide) (by decide) HBox.out)
                have H3 := Lib.hid h3a
                obtain ⟨rfl, _⟩ := h3
                clear h3a h3b c0 c1 c2 c3 c4
                have d0 : w3.cell? ⟨b10, 0, none⟩ = some (.int .i64 1) := HBox3.out.cell 0
                have d1 : w3.cell? ⟨b10, 1, none⟩ = some (.int .i64 nx) := HBox3.out.cell 1
                have d2 : w3.cell? ⟨b10, 2, none⟩ = some (.bool bx) := HBox3.out.cell 2
                have d3 : w3.cell? ⟨b10, 3, none⟩ = some (.int .u64 (mx : Int)) := HBox3.out.cell 3
                have d4 : w3.cell? ⟨b10, 4, none⟩ = some (.slice Xp px.length cp) := HBox3.out.cell 4
                go_wp2_with fail
                refine (refPut_x bx mx nx w3 Hmx.out).mono ?_
                rintro e w4 ⟨Am, cm, rfl, hownm, hb4⟩
                have HBox4 := Lib.hid (Blk.below HBox3.out hb4 HBox3.out.lt)
                have H4 := Lib.hid (H3.out.below hb4)
                have HBm := Lib.hid (BS.of_own hownm).1
                have hml : (putS (clampN nx) mx bx).length ≤ 400 := by rw [putS_length]; have := clampN_le nx; omega
                clear hownm hb4 d0 d1 d2 d3 d4 HBox3 H3
                have e0 : w4.cell? ⟨b10, 0, none⟩ = some (.int .i64 1) := HBox4.out.cell 0
                have e1 : w4.cell? ⟨b10, 1, none⟩ = some (.int .i64 nx) := HBox4.out.cell 1
                have e2 : w4.cell? ⟨b10, 2, none⟩ = some (.bool bx) := HBox4.out.cell 2
                have e3 : w4.cell? ⟨b10, 3, none⟩ = some (.int .u64 (mx : Int)) := HBox4.out.cell 3
                have e4 : w4.cell? ⟨b10, 4, none⟩ = some (.slice Xp px.length cp) := HBox4.out.cell 4
                by_cases hfe : fe = 0
                · have hfI : ((fe : Int) == 0) = true := by simp; omega
                  by_cases hn1 : nx < 1
                  · have hn1d : decide (nx < 1) = true := decide_eq_true hn1
                    have H5 : Hid (WrsAt w w4 g most Ao co l (bytesS most (l, 1) (putS (clampN nx) mx bx))) := by
                      rw [← numW_fe1 (fe := fe) (nx := nx) (by rw [if_pos ⟨hfe, .inl hn1⟩])]
                      exact H4
                    clear H4
                    go_wp2
                    go_meet
                    case rel => exact ⟨1, putS (clampN nx) mx bx, Am, cm, rfl, rfl, hml, H5, HBm⟩
                  · have hn1d : decide (nx < 1) = false := decide_eq_false hn1
                    by_cases hn8 : 8 < nx
                    · have hn8d : decide (8 < nx) = true := decide_eq_true hn8
                      have H5 : Hid (WrsAt w w4 g most Ao co l (bytesS most (l, 1) (putS (clampN nx) mx bx))) := by
                        rw [← numW_fe1 (fe := fe) (nx := nx) (by rw [if_pos ⟨hfe, .inr hn8⟩])]
                        exact H4
                      clear H4
                      go_wp2
                      go_meet
                      case rel => exact ⟨1, putS (clampN nx) mx bx, Am, cm, rfl, rfl, hml, H5, HBm⟩
                    · have hn8d : decide (8 < nx) = false := decide_eq_false hn8
                      have H5 : Hid (WrsAt w w4 g most Ao co l (bytesS most (l, fe) (putS (clampN nx) mx bx))) := by
                        rw [← numW_fe1 (fe := fe) (nx := nx) (by rw [if_neg (by omega)])]
                        exact H4
                      clear H4
                      go_wp2
                      go_meet
                      case rel => exact ⟨fe, putS (clampN nx) mx bx, Am, cm, by first | rfl | (rw [hfe]; rfl), rfl, hml, H5, HBm⟩
                · have hfI : ((fe : Int) == 0) = false := by simp; omega
                  have H5 : Hid (WrsAt w w4 g most Ao co l (bytesS most (l, fe) (putS (clampN nx) mx bx))) := by
                    rw [← numW_fe1 (fe := fe) (nx := nx) (by rw [if_neg (by omega)])]
                    exact H4
                  clear H4
                  go_wp2
                  go_meet
                  case rel => exact ⟨fe, putS (clampN nx) mx bx, Am, cm, by first | rfl | (rw [hfe]; rfl), rfl, hml, H5, HBm⟩
              · have k1b : (kx == 1) = false := by simpa using k1
                by_cases k2 : kx = 2
                · subst k2
                  go_wp2_with fail
                  refine (wrVar_any g g Aw cw most (l, fe) W mx HWt.out Hmx.out Hmost2.out hl).mono ?_
                  intro e w3 h3
                  obtain ⟨h3a, h3b⟩ := WrsAt.wrote Hgw.out HWt.out HDj.out HOwn.out HBel.out h3
                  have HBox3 := Lib.hid (h3b b10 _ _ (by decide) (by decide) HBox.out)
                  have H3 := Lib.hid h3a
                  obtain ⟨rfl, _⟩ := h3
                  clear h3a h3b c0 c1 c2 c3 c4
                  have d0 : w3.cell? ⟨b10, 0, none⟩ = some (.int .i64 2) := HBox3.out.cell 0
                  have d1 : w3.cell? ⟨b10, 1, none⟩ = some (.int .i64 nx) := HBox3.out.cell 1
                  have d2 : w3.cell? ⟨b10, 2, none⟩ = some (.bool bx) := HBox3.out.cell 2
                  have d3 : w3.cell? ⟨b10, 3, none⟩ = some (.int .u64 (mx : Int)) := HBox3.out.cell 3
                  have d4 : w3.cell? ⟨b10, 4, none⟩ = some (.slice Xp px.length cp) := HBox3.out.cell 4
                  go_wp2_with fail
                  refine (refPut2_ownW mx w3 Hmx.out).mono ?_
                  rintro e w4 ⟨Am, cm, rfl, hownm, hb4⟩
                  have H4 := Lib.hid (H3.out.below hb4)
                  have HBm := Lib.hid (BS.of_own hownm).1
                  have hml : (vput mx).length ≤ 400 := by have := vput_le Hmx.out; omega
                  clear hownm hb4 d0 d1 d2 d3 d4 HBox3 H3
                  go_wp2
                  go_meet
                  case rel => exact ⟨fe, vput mx, Am, cm, rfl, rfl, hml, H4, HBm⟩
                · have k2b : (kx == 2) = false := by simpa using k2
                  by_cases k4 : kx = 4
                  · subst k4
                    go_wp2_with fail
                    refine (wrText_any g g Aw cw most (l, fe) W Xp cp px HWt.out ((HBp.out.below HBel.out).more HBel.out.size) Hmost2.out hl (by omega)).mono ?_
                    intro e w3 h3
                    obtain ⟨h3a, h3b⟩ := WrsAt.wrote Hgw.out HWt.out HDj.out HOwn.out HBel.out h3
                    have HBox3 := Lib.hid (h3b b10 _ _ (by decide) (by decide) HBox.out)
                    have H3 := Lib.hid h3a
                    obtain ⟨rfl, _⟩ := h3
                    clear h3a h3b c0 c1 c2 c3 c4
                    have d0 : w3.cell? ⟨b10, 0, none⟩ = some (.int .i64 4) := HBox3.out.cell 0
                    have d1 : w3.cell? ⟨b10, 1, none⟩ = some (.int .i64 nx) := HBox3.out.cell 1
                    have d2 : w3.cell? ⟨b10, 2, none⟩ = some (.bool bx) := HBox3.out.cell 2
                    have d3 : w3.cell? ⟨b10, 3, none⟩ = some (.int .u64 (mx : Int)) := HBox3.out.cell 3
                    have d4 : w3.cell? ⟨b10, 4, none⟩ = some (.slice Xp px.length cp) := HBox3.out.cell 4
                    have hcv : IntKind.u64.wrap (px.length : Int) = (px.length : Int) := by simp [IntKind.wrap, IntKind.bits, IntKind.signed]; omega
                    have hvl := vput_le (n := px.length) (by omega)
                    obtain ⟨i0, hi0, hz0, hz1, hz2⟩ := info_parts u8_infoO
                    clear d0 d1 d2 d3
                    go_wp2_with fail
                    go_region_held3 (fun w' => w'.cell? ⟨b10, 4, none⟩ = some (.slice Xp px.length cp))
                      (first | exact HBox3.out.cell 4 | exact (Blk.drew HBox3.out).cell 4 | exact HBox4.out.cell 4 | exact HBox5.out.cell 4)
                      (first
                        | (go_at_call 32
                           refine (refPut2_ownW px.length w3.drew (by omega)).mono ?_
                           rintro e w4 ⟨Am, cm, rfl, hownm, hb4⟩
                           have HBox4 := Lib.hid (Blk.below (Blk.drew HBox3.out) hb4 HBox3.out.lt)
                           have H4 := Lib.hid ((H3.out.below ((Below.refl _ w3).drew)).below hb4)
                           have Hm4 := Lib.hid hownm
                           have Hsz4 : Hid (w3.heap.size ≤ w4.heap.size) := hb4.size
                           have Hb34 : Hid (Below w3.heap.size w3 w4) := ((Below.refl _ w3).drew).trans hb4
                           clear hownm hb4)
                        | ((refine step_append_bytes _ rfl _ _ 22 rfl w3.heap.size 5 i0 (.int .u8 0) 1 Try.underlying22 hi0 hz0 hz1 hz2 rfl (.slice Am (vput px.length).length cm) (vput px.length) (by simp [Act.eval]) Hm4.out w4.heap.size Xp _ cp px (by simp [Act.eval]) rfl ((HBp.out.below H4.out.2.2).more H4.out.2.2.size) (by unfold maxLen; omega) (by omega) Hsz4.out ?_)
                           intro A5 c5 w5 hown5 hg5 _
                           have hb35 : Below w3.heap.size w3 w5 := Hb34.out.trans ((Below.refl _ w4).grown hg5 Hsz4.out (fun k hk => (Hm4.out.lt k hk).1))
                           have HBm := Lib.hid (BS.of_own hown5).1
                           have HBox5 := Lib.hid (Blk.below HBox3.out hb35 HBox3.out.lt)
                           have H5 := Lib.hid (H3.out.below hb35)
                           clear hown5 hg5 hb35))
                    all_goals
                      go_wp2
                      go_meet
                      case rel => exact ⟨fe, vput px.length ++ px, A5, c5, rfl, by simp, by rw [List.length_append]; omega, H5, HBm⟩
                  · have k4b : (kx == 4) = false := by simpa using k4
                    go_wp2_with fail
                    refine (wrBytes_any g g Aw cw most (l, fe) Xp _ cp px W HWt.out rfl ((HBp.out.below HBel.out).more HBel.out.size) Hmost2.out hl (by omega)).mono ?_
                    intro e w3 h3
                    obtain ⟨h3a, h3b⟩ := WrsAt.wrote Hgw.out HWt.out HDj.out HOwn.out HBel.out h3
                    have HBox3 := Lib.hid (h3b b10 _ _ (by decide) (by decide) HBox.out)
                    have H3 := Lib.hid h3a
                    obtain ⟨rfl, _⟩ := h3
                    clear h3a h3b c0 c1 c2 c3 c4
                    have d0 : w3.cell? ⟨b10, 0, none⟩ = some (.int .i64 kx) := HBox3.out.cell 0
                    have d1 : w3.cell? ⟨b10, 1, none⟩ = some (.int .i64 nx) := HBox3.out.cell 1
                    have d2 : w3.cell? ⟨b10, 2, none⟩ = some (.bool bx) := HBox3.out.cell 2
                    have d3 : w3.cell? ⟨b10, 3, none⟩ = some (.int .u64 (mx : Int)) := HBox3.out.cell 3
                    have d4 : w3.cell? ⟨b10, 4, none⟩ = some (.slice Xp px.length cp) := HBox3.out.cell 4
                    have HBm : Hid (BS w3 w3.heap.size Xp px) := (HBp.out.below H3.out.2.2).more H3.out.2.2.size
                    have hml : px.length ≤ 400 := by omega
                    clear d0 d1 d2 d3
                    go_wp2
                    go_meet
                    case rel => exact ⟨fe, px, Xp, cp, rfl, rfl, hml, H3, HBm⟩
            case rest =>
              obtain ⟨fe1, mm, Am, cm, rfl, rfl, hml, HCut, HBm⟩ := hcut
              have hl : l.length ≤ 1000000000000 := by omega
              clear HBox HAt HBp Hmx hp3 hp3I
              by_cases hf1 : fe1 = 0
              · subst hf1
                have hl2 : (l.length : Int) ≤ 24000 := by omega
                have hmo3 : (most : Int) < 9223372036854775808 := by have := Hmost2.out; omega
                have hwrp : IntKind.i64.wrap ((most : Int) - (l.length : Int)) = (most : Int) - (l.length : Int) := IntWalk.i64_in _ (by omega)
                by_cases hlong : most < l.length + mm.length
                · have hbs := bytesS_long hlong
                  have hlD : decide ((most : Int) - (l.length : Int) < (mm.length : Int)) = true := decide_eq_true (by omega)
                  have HC : Hid (WrsAt w wc g most Ao co l (l, 4)) := by rw [← hbs]; exact HCut
                  obtain ⟨⟨Aw, cw, hWt, _⟩, _, _⟩ := HC.out
                  have HWt := Lib.hid hWt
                  clear HCut hbs hWt hlong
                  go_wp2_with fail
                  refine (wrsOut_bad HWt.out (by decide) hl).mono ?_
                  rintro e w5 ⟨A5, c5, rfl, hb5⟩
                  have H5 := Lib.hid (HC.out.below hb5)
                  clear hb5 HC HWt
                  go_wp2
                  go_roundw
                  case rel => exact ⟨k + 1, l, 4, Ao, co, by omega, by go_num, rfl, rfl, by omega, H5⟩
                  case measure => simp [intOf]; omega
                · have hbs := bytesS_fits hlong
                  have hlD : decide ((most : Int) - (l.length : Int) < (mm.length : Int)) = false := decide_eq_false (by omega)
                  have HC : Hid (WrsAt w wc g most Ao co l (l ++ mm, 0)) := by rw [← hbs]; exact HCut
                  have HOl := Lib.hid HC.out.2.1
                  obtain ⟨i0, hi0, hz0, hz1, hz2⟩ := info_parts u8_infoO
                  clear HCut hbs hlong
                  go_wp2_with
                    (first
                      | (at_builtin
                         refine wpList_append_bytes _ rfl (.tmp 117) (.tmp 118) 22 rfl wc.heap.size 5 i0 (.int .u8 0) 1 Try.underlying22 hi0 hz0 hz1 hz2 rfl (.slice (some ⟨wc.heap.size, 0, none⟩) 0 0) [] rfl (own_none _ _ _ (Nat.le_refl _) _ rfl) wc.heap.size Ao _ co l rfl rfl ((BS.of_own HOl.out).1.alloc (Nat.le_refl _) _) (by simp [maxLen]; omega) (by simp; omega) (by simp) ?_
                         intro A5 c5 w5 hown5 hg5 _
                         have hb5 : Below wc.heap.size wc w5 := ((Below.refl _ _).alloc (Nat.le_refl _) _).grown hg5 (by simp) (by intro k hk; simp [Value.ownBlock] at hk; omega)
                         have hown5' : w5.ownsRow wc.heap.size 5 1 (.slice A5 l.length c5) l.length (bcells l) := by simpa using hown5
                         have Hown5 := Lib.hid hown5'
                         have Hb5 := Lib.hid hb5
                         clear hown5 hown5' hg5 hb5)
                      | (at_builtin
                         refine wpList_append_bytes _ rfl (.tmp 119) (.tmp 120) 22 rfl wc.heap.size 5 i0 (.int .u8 0) 1 Try.underlying22 hi0 hz0 hz1 hz2 rfl (.slice A5 l.length c5) l rfl Hown5.out _ Am _ cm mm rfl rfl (HBm.out.below Hb5.out) (by unfold maxLen; omega) (by omega) Hb5.out.size ?_
                         intro A6 c6 w6 hown6 hg6 _
                         have hb6 : Below wc.heap.size wc w6 := Hb5.out.grown hg6 Hb5.out.size (fun k hk => (Hown5.out.lt k hk).1)
                         have Hown6 := Lib.hid hown6
                         have H6 := Lib.hid (HC.out.renew hb6 hown6)
                         clear hown6 hg6 hb6))
                  obtain ⟨⟨Aw, cw, hWt, _⟩, hOn, _⟩ := H6.out
                  have HWt := Lib.hid hWt
                  have HOn := Lib.hid (BS.of_own hOn).1
                  have hlm : (l ++ mm).length = l.length + mm.length := List.length_append
                  have Hlm := Lib.hid hlm
                  clear hWt hOn Hown5 Hown6 Hb5 HC HOl HBm hlm hi0 hz0 hz1 hz2
                  refine (wrsOut_ok HWt.out (by rw [Hlm.out]; omega)).mono ?_
                  rintro e w7 ⟨A7, c7, rfl, hown7, hb7⟩
                  have H7 := Lib.hid (H6.out.below hb7)
                  have HY := Lib.hid (BS.of_own hown7).1
                  have HZ := Lib.hid (HOn.out.below hb7)
                  clear hown7 hb7 H6 HWt HOn
                  rw [Hlm.out]
                  go_wp2_with fail
                  refine (same_yesW A7 _ c7 (l ++ mm) A6 _ c6 w7 _ _ Hlm.out.symm Hlm.out.symm HY.out HZ.out).mono ?_
                  rintro e w8 ⟨rfl, rfl⟩
                  go_wp2
                  go_roundw
                  case rel => exact ⟨k + 1, l ++ mm, 0, A6, c6, by omega, by go_num, by rw [Hlm.out], rfl, by rw [Hlm.out]; omega, H7⟩
                  case measure => simp [intOf]; omega
              · have hfI : ((fe1 : Int) == 0) = false := by simp; omega
                have hfI2 : ((fe1 : Int) != 0) = true := by simp; omega
                have hbs : bytesS most (l, fe1) mm = (l, fe1) := if_pos hf1
                have HC : Hid (WrsAt w wc g most Ao co l (l, fe1)) := by rw [← hbs]; exact HCut
                obtain ⟨⟨Aw, cw, hWt, _⟩, _, _⟩ := HC.out
                have HWt := Lib.hid hWt
                have Hf1 := Lib.hid hf1
                clear HCut hbs hWt hf1
                go_wp2_with fail
                refine (wrsOut_bad HWt.out Hf1.out hl).mono ?_
                rintro e w5 ⟨A5, c5, rfl, hb5⟩
                have H5 := Lib.hid (HC.out.below hb5)
                clear hb5 HC HWt
                go_wp2
                go_roundw
                case rel => exact ⟨k + 1, l, fe1, Ao, co, by omega, by go_num, rfl, rfl, by omega, H5⟩
                case measure => simp [intOf]; omega
        · have hkI : ¬ (k : Int) < (qs.length : Int) := by omega
          have Hbr := Lib.hid hat.out.2.2
          go_wp2
          go_ret
          exact ⟨rfl, Hbr.out⟩
end Go.Proofs.Ytpeknjbcjpdmnab
