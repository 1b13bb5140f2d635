/- The walk of wayleaveref04.Lay. -/
import Derived.Test.YtpeknjbcjpdmnabLay
import Derived.Test.YtpeknjbcjpdmnabRefPL
import Derived.Test.YtpeknjbcjpdmnabVarintE
namespace Go.Proofs.Ytpeknjbcjpdmnab
open Go.RowKit
set_option linter.unusedVariables false

def RLayIs (w : World) (r : Option (List UInt8)) (e : Ending) (w' : World) : Prop :=
  ∃ A c, e = .returned (.tuple #[.slice A (r.getD []).length c, .bool r.isSome]) ∧ w'.ownsRow w.heap.size 5 1 (.slice A (r.getD []).length c) (r.getD []).length (bcells (r.getD [])) ∧ Below w.heap.size w w'
theorem rlayIs_no {w w' : World} {r : Option (List UInt8)} (h : r = none) (hb : Below w.heap.size w w') : RLayIs w r (.returned (.tuple #[.slice none 0 0, .bool false])) w' := by
  subst h
  exact ⟨none, 0, rfl, World.ownsRow_nil _ _ _ _, hb⟩
theorem rlayIs_yes {w w' : World} {r : Option (List UInt8)} {out : List UInt8} {A : Option Addr} {n c : Nat} (h : r = some out) (hn : n = out.length) (ho : w'.ownsRow w.heap.size 5 1 (.slice A n c) out.length (bcells out)) (hb : Below w.heap.size w w') : RLayIs w r (.returned (.tuple #[.slice A n c, .bool true])) w' := by
  subst h hn
  exact ⟨A, c, rfl, ho, hb⟩
theorem refPut2_own (n : Nat) (w : World) (hn : n < 18446744073709551616) :
    Calls Try.prog 32 #[.int .u64 (n : Int)] w fun e w' => ∃ A c, e = .returned (.slice A (vput n).length c) ∧ w'.ownsRow w.heap.size 5 1 (.slice A (vput n).length c) (vput n).length (bcells (vput n)) ∧ Below w.heap.size w w' :=
  (refPut_any n w n rfl hn).mono fun e w' ⟨v, h1, h2, h3⟩ => by
    obtain ⟨A, c, rfl, _⟩ := own_slice h2
    exact ⟨A, c, h1, h2, h3⟩

set_option maxHeartbeats 2000000 in
set_option maxRecDepth 100000 in
theorem rlay_any (P : Option Addr) (m d : Nat) (plan : List Item) (L : Option Addr) (n c : Nat) (ps : List Piece) (w : World)
    (hm : m = plan.length) (hp : IS w w.heap.size P plan) (hmd : m ≤ d) (hml : m ≤ 1000000) (hpn : ∀ x ∈ plan, x.2.1 < 9223372036854775808)
    (hn : n = ps.length) (hl : PS w w.heap.size L ps) (hnc : n ≤ c) (hnl : n ≤ 9223372036854775807) (hok : ∀ p ∈ ps, pOk p) :
    Calls Try.prog 16 #[.slice P m d, .slice L n c] w (RLayIs w (layS plan ps)) := by
  subst hm hn
  have HP := Lib.hid hp
  have HL := Lib.hid hl
  have Hok := Lib.hid hok
  clear hp hpn hl hok
  obtain ⟨i0, hi0, hz0, hz1, hz2⟩ := info_parts u8_infoO
  by_cases hlen : plan.length = ps.length
  · have hlI : ((plan.length : Int) != (ps.length : Int)) = false := by simp; omega
    have Hlen := Lib.hid hlen
    clear hnl
    go_enter Try.func16, Try.ntmps16
    go_wp2
    clear hlen
    go_loopw [6, 7] (fun v i wr => ∃ (k : Nat) (out : List UInt8) (A : Option Addr) (c' : Nat), k ≤ plan.length ∧ i = .int .i64 (k : Int) ∧ v = .slice A out.length c' ∧ Hid (LayAt w wr plan ps k out A c')) (fun _ i _ => plan.length - (intOf i).toNat)
    case atStart => exact ⟨0, [], none, 0, by omega, rfl, rfl, ⟨World.ownsRow_nil _ _ _ _, Below.refl _ _, rfl, by simp⟩⟩
    case round =>
      obtain ⟨k, out, A, c', hk, rfl, rfl, hat⟩ := hrel
      obtain ⟨Hown, Hbr, HS, Hol⟩ := hat.out
      by_cases hlt : k < plan.length
      · have hlt2 : k < ps.length := by have := Hlen.out; omega
        have hkI : (k : Int) < (plan.length : Int) := by omega
        have hkI2 : (k : Int) < (ps.length : Int) := by omega
        have hk0 : (0 : Int) ≤ (k : Int) := by omega
        obtain ⟨ad, rfl, hadb, y0, y1, y2⟩ := (HP.out.below Hbr).whole hlt
        obtain ⟨ae, A1, c1, rfl, haeb, z0w, z1w, hc1, hbs0⟩ := HL.out.whole hlt2
        have z0 := (Hbr.cell (p := ae.add (k * 2)) (by rw [block_of_add]; exact haeb)).trans z0w
        have z1 := (Hbr.cell (p := ⟨(ae.add (k * 2)).block, (ae.add (k * 2)).off + 1, none⟩) (by simp only [block_of_add]; exact haeb)).trans z1w
        clear z0w z1w
        have hpo := Hok.out _ (List.getElem_mem hlt2)
        have hstep : layGo out (plan.drop k) (ps.drop k) = if mayB plan[k] && fitsB plan[k] ps[k] then layGo (out ++ pieceB plan[k] ps[k]) (plan.drop (k + 1)) (ps.drop (k + 1)) else none := by
          rw [List.drop_eq_getElem_cons hlt, List.drop_eq_getElem_cons hlt2]
          rfl
        rw [HS] at hstep
        rcases hx : plan[k] with ⟨kx, nx, bx⟩
        rcases hq : ps[k] with ⟨q, b⟩
        rw [hx] at y0 y1 y2 hstep
        rw [hq] at z0 z1 hc1 hbs0 hpo hstep
        simp only at y0 y1 y2 z0 z1 hc1 hbs0
        have hlw : ae.block < wr.heap.size := Nat.lt_of_lt_of_le haeb Hbr.size
        have z0' : ∀ o, (wr.alloc o).cell? (ae.add (k * 2)) = some (.int .u64 (q : Int)) := fun o => (World.cell?_alloc_lt wr o _ (by rw [block_of_add]; exact hlw)).trans z0
        have z1' : ∀ o, (wr.alloc o).cell? ⟨(ae.add (k * 2)).block, (ae.add (k * 2)).off + 1, none⟩ = some (.slice A1 b.length c1) := fun o => (World.cell?_alloc_lt wr o _ (by simp only [block_of_add]; exact hlw)).trans z1
        have Hstep := Lib.hid hstep
        have Hq64 := Lib.hid hpo.1
        have hbl : b.length ≤ 1000000 := hpo.2
        have Hown := Lib.hid Hown
        have Hbr := Lib.hid Hbr
        have Hbs0 := Lib.hid hbs0
        clear hx hq hstep HS hbs0 hpo
        rcases hmay : mayB (kx, nx, bx) with _ | _
        · have Hmay := Lib.hid hmay
          have HE : Hid (layS plan ps = none) := by show _ = _; rw [Hstep.out, Hmay.out]; rfl
          clear hmay
          go_wp2_with fail
          refine (refMay_any kx nx bx _ _ Hmay.out).mono ?_
          rintro e w1 ⟨rfl, hb1⟩
          have hb3 : Below w.heap.size w w1 := ((Hbr.out.alloc Hbr.out.size _).alloc (Nat.le_trans Hbr.out.size (by simp)) _).trans (hb1.mono (Nat.le_trans Hbr.out.size (by simp; omega)))
          go_wp2
          go_ret2
          exact rlayIs_no HE.out hb3
        · have Hmay := Lib.hid hmay
          clear hmay
          go_wp2_with fail
          refine (refMay_any kx nx bx _ _ Hmay.out).mono ?_
          rintro e w1 ⟨rfl, hb1⟩
          have HX := Lib.hid (Blk.below (Blk.alloc (Blk.new wr 68 #[.int .i64 kx, .int .i64 nx, .bool bx] _ rfl) (.cells #[.int .u64 (q : Int), .slice A1 b.length c1] 70)) hb1 (by simp; omega))
          have HQ := Lib.hid (Blk.below (Blk.new (wr.alloc (.cells #[.int .i64 kx, .int .i64 nx, .bool bx] 68)) 70 #[.int .u64 (q : Int), .slice A1 b.length c1] (wr.heap.size + 1) (by simp)) hb1 (by simp))
          have Hb1 := Lib.hid (((Hbr.out.alloc Hbr.out.size (.cells #[.int .i64 kx, .int .i64 nx, .bool bx] 68)).alloc (Nat.le_trans Hbr.out.size (by simp)) (.cells #[.int .u64 (q : Int), .slice A1 b.length c1] 70)).trans (hb1.mono (Nat.le_trans Hbr.out.size (by simp; omega))))
          have Hown1 := Lib.hid (own_below Hown.out ((((Below.refl wr.heap.size wr).alloc (Nat.le_refl _) (.cells #[.int .i64 kx, .int .i64 nx, .bool bx] 68)).alloc (by simp) (.cells #[.int .u64 (q : Int), .slice A1 b.length c1] 70)).trans (hb1.mono (by simp; omega))))
          have x0 : w1.cell? ⟨wr.heap.size, 0, none⟩ = some (.int .i64 kx) := HX.out.cell 0
          have x1 : w1.cell? ⟨wr.heap.size, 1, none⟩ = some (.int .i64 nx) := HX.out.cell 1
          have x2 : w1.cell? ⟨wr.heap.size, 2, none⟩ = some (.bool bx) := HX.out.cell 2
          have p0 : w1.cell? ⟨wr.heap.size + 1, 0, none⟩ = some (.int .u64 (q : Int)) := HQ.out.cell 0
          have p1 : w1.cell? ⟨wr.heap.size + 1, 1, none⟩ = some (.slice A1 b.length c1) := HQ.out.cell 1
          clear hb1 y0 y1 y2 z0 z1 z0' z1'
          have hol : out.length ≤ k * 1000010 := Hol
          have hkk : k ≤ 1000000 := by omega
          rcases may_kind Hmay.out with hk1 | hk2 | hk4 | hk3
          · subst hk1
            have hj8 : 1 ≤ nx ∧ nx ≤ 8 := by simpa [mayB] using Hmay.out
            obtain ⟨j, rfl⟩ : ∃ j : Nat, nx = (j : Int) := ⟨nx.toNat, by omega⟩
            have hj : j ≤ 8 := by omega
            have hml : (putS j q bx).length ≤ 10 := by rw [putS_length]; omega
            clear hj8
            by_cases hb0 : b.length = 0
            · have hb' : b = [] := List.eq_nil_of_length_eq_zero hb0
              subst hb'
              have hfe := fits_num_eq j q bx
              obtain ⟨E, hE⟩ : ∃ E, getS (putS j q bx) bx = E := ⟨_, rfl⟩
              rw [hE] at hfe
              have HEE := Lib.hid hE
              have hstep1 : layS plan ps = if decide (E = q) = true then layGo (out ++ putS j q bx) (plan.drop (k + 1)) (ps.drop (k + 1)) else none := by
                rw [Hstep.out, Hmay.out, ← hfe]
                have e1 : fitsB (1, (j : Int), bx) (q, []) = decide (beN (putS j q true) = q) := by unfold fitsB; rw [if_pos rfl]; simp
                have e2 : pieceB (1, (j : Int), bx) (q, []) = putS j q bx := by show putS (j : Int).toNat q bx ++ [] = _; rw [List.append_nil, Int.toNat_natCast]
                rw [e1, e2, Bool.true_and]
              have Hstep1 := Lib.hid hstep1
              clear hstep1 hfe hE hb0
              by_cases hEq : E = q
              · have hEI : ((E : Int) != (q : Int)) = false := by rw [hEq]; simp
                have HE : Hid (layS plan ps = layGo (out ++ putS j q bx) (plan.drop (k + 1)) (ps.drop (k + 1))) := by show _ = _; rw [Hstep1.out, if_pos (decide_eq_true hEq)]
                clear hEq
                go_wp2_with fail
                go_region_held3 (fun w' => w'.cell? ⟨wr.heap.size, 0, none⟩ = some (.int .i64 1) ∧ w'.cell? ⟨wr.heap.size, 1, none⟩ = some (.int .i64 (j : Int)) ∧ w'.cell? ⟨wr.heap.size, 2, none⟩ = some (.bool bx) ∧ w'.cell? ⟨wr.heap.size + 1, 0, none⟩ = some (.int .u64 (q : Int)) ∧ w'.cell? ⟨wr.heap.size + 1, 1, none⟩ = some (.slice A1 0 c1))
                  (first | exact ⟨HXp.out.cell 0, HXp.out.cell 1, HXp.out.cell 2, HQp.out.cell 0, HQp.out.cell 1⟩ | exact ⟨HX.out.cell 0, HX.out.cell 1, HX.out.cell 2, HQ.out.cell 0, HQ.out.cell 1⟩ | exact ⟨(Blk.drew HX.out).cell 0, (Blk.drew HX.out).cell 1, (Blk.drew HX.out).cell 2, (Blk.drew HQ.out).cell 0, (Blk.drew HQ.out).cell 1⟩)
                  (first
                    | (go_at_call 30
                       refine (refPut_own bx q j _ Hq64.out hj).mono ?_
                       rintro e wp ⟨Ap, cp, rfl, hownp, hbp⟩
                       have HXp := Lib.hid (Blk.below (Blk.drew HX.out) hbp HX.out.lt)
                       have HQp := Lib.hid (Blk.below (Blk.drew HQ.out) hbp HQ.out.lt)
                       have HBp := Lib.hid (BS.of_own hownp).1
                       have Hbp : Hid (Below w1.heap.size w1 wp) := (Below.refl _ w1).drew.trans hbp
                       clear hownp hbp)
                    | (go_at_call 44
                       refine (refGetS_any bx Ap _ cp (putS j q bx) _ rfl HBp.out (by rw [putS_length]; exact hj)).mono ?_
                       rw [show getS (putS j q bx) bx = E from HEE.out]
                       rintro e wq ⟨rfl, rfl⟩))
                have Hb1p : Hid (Below w.heap.size w wp) := Hb1.out.trans (Hbp.out.mono Hb1.out.size)
                have X0p : wp.cell? ⟨wr.heap.size, 0, none⟩ = some (.int .i64 1) := HXp.out.cell 0
                have X1p : wp.cell? ⟨wr.heap.size, 1, none⟩ = some (.int .i64 (j : Int)) := HXp.out.cell 1
                have X2p : wp.cell? ⟨wr.heap.size, 2, none⟩ = some (.bool bx) := HXp.out.cell 2
                have P0p : wp.cell? ⟨wr.heap.size + 1, 0, none⟩ = some (.int .u64 (q : Int)) := HQp.out.cell 0
                have Hownp := Lib.hid (own_below Hown1.out Hbp.out)
                go_wp2_with
                  (first
                    | (go_at_call 30
                       refine (refPut_own bx q j _ Hq64.out hj).mono ?_
                       rintro e w3 ⟨A3, c3, rfl, hown3, hb3⟩
                       have HB3 := Lib.hid (BS.of_own hown3).1
                       have HQ3 := Lib.hid (Blk.below HQp.out hb3 (Blk.lt HQp.out))
                       have HbW3 := Lib.hid (Hb1p.out.trans (hb3.mono Hb1p.out.size))
                       have Hown23 := Lib.hid (own_below Hownp.out hb3)
                       clear hown3 hb3)
                    | (at_builtin
                       refine wpList_append_bytes _ rfl (.tmp 67) (.tmp 74) 22 rfl w.heap.size 5 i0 (.int .u8 0) 1 Try.underlying22 hi0 hz0 hz1 hz2 rfl (.slice A out.length c') out rfl Hown23.out _ A3 _ c3 (putS j q bx) rfl rfl HB3.out (by unfold maxLen; omega) (by omega) HbW3.out.size ?_
                       intro A4 c4 w4 hown4 hg4 _
                       have Hend := Lib.hid (layAt_step (out2 := out ++ (putS j q bx)) hown4 (HbW3.out.grown hg4 HbW3.out.size (fun k hk => (Hown23.out.lt k hk).1)) HE.out (by rw [List.length_append]; omega))
                       clear hown4 hg4))
                go_roundw
                case rel => exact ⟨k + 1, out ++ (putS j q bx), A4, c4, by omega, by go_num, by simp, Hend⟩
                case measure => simp [intOf]; omega
              · have hEI : ((E : Int) != (q : Int)) = true := by simp; omega
                have HE : Hid (layS plan ps = none) := by show _ = _; rw [Hstep1.out, if_neg (by simpa using hEq)]
                clear hEq
                go_wp2_with fail
                go_region_held3 (fun w' => w'.cell? ⟨wr.heap.size, 0, none⟩ = some (.int .i64 1) ∧ w'.cell? ⟨wr.heap.size, 1, none⟩ = some (.int .i64 (j : Int)) ∧ w'.cell? ⟨wr.heap.size, 2, none⟩ = some (.bool bx) ∧ w'.cell? ⟨wr.heap.size + 1, 0, none⟩ = some (.int .u64 (q : Int)) ∧ w'.cell? ⟨wr.heap.size + 1, 1, none⟩ = some (.slice A1 0 c1))
                  (first | exact ⟨HXp.out.cell 0, HXp.out.cell 1, HXp.out.cell 2, HQp.out.cell 0, HQp.out.cell 1⟩ | exact ⟨HX.out.cell 0, HX.out.cell 1, HX.out.cell 2, HQ.out.cell 0, HQ.out.cell 1⟩ | exact ⟨(Blk.drew HX.out).cell 0, (Blk.drew HX.out).cell 1, (Blk.drew HX.out).cell 2, (Blk.drew HQ.out).cell 0, (Blk.drew HQ.out).cell 1⟩)
                  (first
                    | (go_at_call 30
                       refine (refPut_own bx q j _ Hq64.out hj).mono ?_
                       rintro e wp ⟨Ap, cp, rfl, hownp, hbp⟩
                       have HXp := Lib.hid (Blk.below (Blk.drew HX.out) hbp HX.out.lt)
                       have HQp := Lib.hid (Blk.below (Blk.drew HQ.out) hbp HQ.out.lt)
                       have HBp := Lib.hid (BS.of_own hownp).1
                       have Hbp : Hid (Below w1.heap.size w1 wp) := (Below.refl _ w1).drew.trans hbp
                       clear hownp hbp)
                    | (go_at_call 44
                       refine (refGetS_any bx Ap _ cp (putS j q bx) _ rfl HBp.out (by rw [putS_length]; exact hj)).mono ?_
                       rw [show getS (putS j q bx) bx = E from HEE.out]
                       rintro e wq ⟨rfl, rfl⟩))
                have Hb1p : Hid (Below w.heap.size w wp) := Hb1.out.trans (Hbp.out.mono Hb1.out.size)
                go_wp2
                go_ret2
                exact rlayIs_no HE.out Hb1p.out
            · have hbI : decide ((0 : Int) < (b.length : Int)) = true := decide_eq_true (by omega)
              have hbI2 : (0 : Int) < (b.length : Int) := by omega
              have e1 : fitsB (1, (j : Int), bx) (q, b) = false := by unfold fitsB; rw [if_pos rfl]; exact decide_eq_false (fun h => hb0 h.1)
              have HE : Hid (layS plan ps = none) := by show _ = _; rw [Hstep.out, Hmay.out, e1]; rfl
              have hn0' : 0 < b.length := by omega
              clear hb0 e1 hbI hbI2 HQ Hbs0 Hown1 Hstep
              obtain ⟨nb, hnb⟩ : ∃ nb, b.length = nb := ⟨_, rfl⟩
              rw [hnb] at p1 hn0' ⊢
              have hd1 : decide ((0 : Int) < (nb : Int)) = true := decide_eq_true (by omega)
              clear hnb
              go_wp2
              go_quiet (fail)
              go_wp2
              go_ret2
              exact rlayIs_no HE.out (Hb1.out.trans (below_drewN _))
          · subst hk2
            have hml : (vput q).length ≤ 10 := vput_le Hq64.out
            by_cases hb0 : b.length = 0
            · have hb' : b = [] := List.eq_nil_of_length_eq_zero hb0
              subst hb'
              have HE : Hid (layS plan ps = layGo (out ++ vput q) (plan.drop (k + 1)) (ps.drop (k + 1))) := by
                show _ = _
                rw [Hstep.out, Hmay.out]
                have e2 : pieceB (2, nx, bx) (q, []) = vput q := by show vput q ++ [] = _; rw [List.append_nil]
                rw [e2]; rfl
              clear hb0
              go_wp2
              go_quiet (fail)
              have HQd := fun n => Blk.drewN HQ.out n
              have HQdd := Lib.hid HQd
              have Hb1d := Lib.hid (fun n => Hb1.out.trans (below_drewN (B := w.heap.size) (w := w1) n))
              have Hown1d := Lib.hid (fun n => own_below Hown1.out (below_drewN (B := w1.heap.size) (w := w1) n))
              clear HQd
              go_wp2_with
                (first
                  | (go_at_call 32
                     refine (refPut2_own q _ Hq64.out).mono ?_
                     rintro e w3 ⟨A3, c3, rfl, hown3, hb3⟩
                     have HB3 := Lib.hid (BS.of_own hown3).1
                     have HQ3 := Lib.hid (Blk.below (HQdd.out _) hb3 (Blk.lt (HQdd.out _)))
                     have HbW3 := Lib.hid ((Hb1d.out _).trans (hb3.mono (Hb1d.out _).size))
                     have Hown23 := Lib.hid (own_below (Hown1d.out _) hb3)
                     clear hown3 hb3)
                  | (at_builtin
                     refine wpList_append_bytes _ rfl (.tmp 76) (.tmp 79) 22 rfl w.heap.size 5 i0 (.int .u8 0) 1 Try.underlying22 hi0 hz0 hz1 hz2 rfl (.slice A out.length c') out rfl Hown23.out _ A3 _ c3 (vput q) rfl rfl HB3.out (by unfold maxLen; omega) (by omega) HbW3.out.size ?_
                     intro A4 c4 w4 hown4 hg4 _
                     have Hend := Lib.hid (layAt_step (out2 := out ++ (vput q)) hown4 (HbW3.out.grown hg4 HbW3.out.size (fun k hk => (Hown23.out.lt k hk).1)) HE.out (by rw [List.length_append]; omega))
                     clear hown4 hg4))
              go_roundw
              case rel => exact ⟨k + 1, out ++ (vput q), A4, c4, by omega, by go_num, by simp, Hend⟩
              case measure => simp [intOf]; omega
            · have hbI : decide ((0 : Int) < (b.length : Int)) = true := decide_eq_true (by omega)
              have hbI2 : (0 : Int) < (b.length : Int) := by omega
              have e1 : fitsB (2, nx, bx) (q, b) = false := by unfold fitsB; rw [if_neg (by simp), if_pos rfl]; exact decide_eq_false hb0
              have HE : Hid (layS plan ps = none) := by show _ = _; rw [Hstep.out, Hmay.out, e1]; rfl
              have hn0' : 0 < b.length := by omega
              clear hb0 e1 hbI hbI2 HQ Hbs0 Hown1 Hstep
              obtain ⟨nb, hnb⟩ : ∃ nb, b.length = nb := ⟨_, rfl⟩
              rw [hnb] at p1 hn0' ⊢
              have hd1 : decide ((0 : Int) < (nb : Int)) = true := decide_eq_true (by omega)
              clear hnb
              go_wp2
              go_quiet (fail)
              go_wp2
              go_ret2
              exact rlayIs_no HE.out (Hb1.out.trans (below_drewN _))
          · subst hk4
            have hml : (vput b.length).length ≤ 10 := vput_le (by omega)
            have hwb : IntKind.u64.wrap (b.length : Int) = (b.length : Int) := wrap_u64_nat _ (by omega)
            by_cases hq0 : q = 0
            · subst hq0
              by_cases hle : (b.length : Int) ≤ nx
              · have hgt : ¬ nx < (b.length : Int) := by omega
                have HE : Hid (layS plan ps = layGo (out ++ (vput b.length ++ b)) (plan.drop (k + 1)) (ps.drop (k + 1))) := by
                  show _ = _
                  rw [Hstep.out, Hmay.out]
                  have e1 : fitsB (4, nx, bx) (0, b) = true := by unfold fitsB; rw [if_neg (by simp), if_neg (by simp), if_neg (by simp)]; exact decide_eq_true ⟨rfl, hle⟩
                  rw [e1]; rfl
                clear hle
                go_wp2_with
                  (first
                    | (go_at_call 32
                       refine (refPut2_own b.length _ (by omega)).mono ?_
                       rintro e w3 ⟨A3, c3, rfl, hown3, hb3⟩
                       have HB3 := Lib.hid (BS.of_own hown3).1
                       have HQ3 := Lib.hid (Blk.below HQ.out hb3 (Blk.lt HQ.out))
                       have HbW3 := Lib.hid (Hb1.out.trans (hb3.mono Hb1.out.size))
                       have Hown23 := Lib.hid (own_below Hown1.out hb3)
                       clear hown3 hb3)
                    | (at_builtin
                       refine wpList_append_bytes _ rfl (.tmp 108) (.tmp 113) 22 rfl w.heap.size 5 i0 (.int .u8 0) 1 Try.underlying22 hi0 hz0 hz1 hz2 rfl (.slice A out.length c') out rfl Hown23.out _ A3 _ c3 (vput b.length) rfl rfl HB3.out (by unfold maxLen; omega) (by omega) HbW3.out.size ?_
                       intro A4 c4 w4 hown4 hg4 _
                       have Hown4 : Hid (w4.ownsRow w.heap.size 5 1 (.slice A4 (out.length + (vput b.length).length) c4) (out ++ (vput b.length)).length (bcells (out ++ (vput b.length)))) := by show World.ownsRow _ _ _ _ _ _ _; rw [← List.length_append]; exact hown4
                       have HQ4 := Lib.hid (Blk.grown HQ3.out hg4 (blk_ne_own Hown23.out HQ3.out (by decide)))
                       have P1' : w4.cell? ⟨wr.heap.size + 1, 1, none⟩ = some (.slice A1 b.length c1) := HQ4.out.cell 1
                       have HbW4 := Lib.hid (HbW3.out.grown hg4 HbW3.out.size (fun k hk => (Hown23.out.lt k hk).1))
                       clear hown4 hg4 p0 p1)
                    | (at_builtin
                       refine wpList_append_bytes _ rfl (.tmp 115) (.tmp 117) 22 rfl w.heap.size 5 i0 (.int .u8 0) 1 Try.underlying22 hi0 hz0 hz1 hz2 rfl (.slice A4 (out.length + (vput b.length).length) c4) (out ++ (vput b.length)) rfl Hown4.out w.heap.size A1 _ c1 b rfl rfl (Hbs0.out.below HbW4.out) (by rw [List.length_append]; unfold maxLen; omega) (by rw [List.length_append]; omega) HbW4.out.size ?_
                       intro A5 c5 w5 hown5 hg5 _
                       have Hend := Lib.hid (layAt_step (out2 := (out ++ (vput b.length)) ++ b) hown5 (HbW4.out.grown hg5 HbW4.out.size (fun k hk => (Hown4.out.lt k hk).1)) (by rw [HE.out, List.append_assoc]) (by rw [List.length_append, List.length_append]; omega))
                       clear hown5 hg5))
                go_roundw
                case rel => exact ⟨k + 1, (out ++ (vput b.length)) ++ b, A5, c5, by omega, by go_num, by simp, Hend⟩
                case measure => simp [intOf]; omega
              · have e1 : fitsB (4, nx, bx) (0, b) = false := by unfold fitsB; rw [if_neg (by simp), if_neg (by simp), if_neg (by simp)]; exact decide_eq_false (fun h => hle h.2)
                have HE : Hid (layS plan ps = none) := by show _ = _; rw [Hstep.out, Hmay.out, e1]; rfl
                have hgt : nx < (b.length : Int) := by omega
                clear hle e1
                go_wp2
                go_ret2
                exact rlayIs_no HE.out Hb1.out
            · have hqI : ((q : Int) != 0) = true := by simp; omega
              have e1 : fitsB (4, nx, bx) (q, b) = false := by unfold fitsB; rw [if_neg (by simp), if_neg (by simp), if_neg (by simp)]; exact decide_eq_false (fun h => hq0 h.1)
              have HE : Hid (layS plan ps = none) := by show _ = _; rw [Hstep.out, Hmay.out, e1]; rfl
              clear hq0 e1
              go_wp2
              go_ret2
              exact rlayIs_no HE.out Hb1.out
          · subst hk3
            by_cases hq0 : q = 0
            · subst hq0
              by_cases hle : (b.length : Int) = nx
              · have hgt : ¬ nx < (b.length : Int) := by omega
                have hneI : ((b.length : Int) != nx) = false := by simp; omega
                have HE : Hid (layS plan ps = layGo (out ++ b) (plan.drop (k + 1)) (ps.drop (k + 1))) := by
                  show _ = _
                  rw [Hstep.out, Hmay.out]
                  have e1 : fitsB (3, nx, bx) (0, b) = true := by unfold fitsB; rw [if_neg (by simp), if_neg (by simp), if_pos rfl]; exact decide_eq_true ⟨rfl, hle⟩
                  rw [e1]; rfl
                clear hle
                go_wp2_with
                    (at_builtin
                     refine wpList_append_bytes _ rfl (.tmp 115) (.tmp 117) 22 rfl w.heap.size 5 i0 (.int .u8 0) 1 Try.underlying22 hi0 hz0 hz1 hz2 rfl (.slice A out.length c') out rfl Hown1.out w.heap.size A1 _ c1 b rfl rfl (Hbs0.out.below Hb1.out) (by unfold maxLen; omega) (by omega) Hb1.out.size ?_
                     intro A5 c5 w5 hown5 hg5 _
                     have Hend := Lib.hid (layAt_step (out2 := out ++ b) hown5 (Hb1.out.grown hg5 Hb1.out.size (fun k hk => (Hown1.out.lt k hk).1)) HE.out (by rw [List.length_append]; omega))
                     clear hown5 hg5)
                go_roundw
                case rel => exact ⟨k + 1, out ++ b, A5, c5, by omega, by go_num, by simp, Hend⟩
                case measure => simp [intOf]; omega
              · have e1 : fitsB (3, nx, bx) (0, b) = false := by unfold fitsB; rw [if_neg (by simp), if_neg (by simp), if_pos rfl]; exact decide_eq_false (fun h => hle h.2)
                have HE : Hid (layS plan ps = none) := by show _ = _; rw [Hstep.out, Hmay.out, e1]; rfl
                have hneI : ((b.length : Int) != nx) = true := by simp; omega
                clear hle e1
                go_wp2
                go_ret2
                exact rlayIs_no HE.out Hb1.out
            · have hqI : ((q : Int) != 0) = true := by simp; omega
              have e1 : fitsB (3, nx, bx) (q, b) = false := by unfold fitsB; rw [if_neg (by simp), if_neg (by simp), if_pos rfl]; exact decide_eq_false (fun h => hq0 h.1)
              have HE : Hid (layS plan ps = none) := by show _ = _; rw [Hstep.out, Hmay.out, e1]; rfl
              clear hq0 e1
              go_wp2
              go_ret2
              exact rlayIs_no HE.out Hb1.out
      · obtain rfl : k = plan.length := by omega
        have hkI : ¬ (plan.length : Int) < (ps.length : Int) := by have := Hlen.out; omega
        have HE : Hid (layS plan ps = some out) := by
          show _ = _
          rw [← HS, List.drop_length, Hlen.out, List.drop_length]
          rfl
        have Hown := Lib.hid Hown
        have Hbr := Lib.hid Hbr
        clear HS Hol
        go_wp2
        go_ret2
        exact rlayIs_yes HE.out rfl Hown.out Hbr.out
  · have hlI : ((plan.length : Int) != (ps.length : Int)) = true := by simp; omega
    have HE : Hid (layS plan ps = none) := layGo_len hlen
    clear hlen
    go_enter Try.func16, Try.ntmps16
    go_wp2
    go_ret2
    exact rlayIs_no HE.out (Below.refl _ _)
end Go.Proofs.Ytpeknjbcjpdmnab
