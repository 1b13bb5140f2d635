/- The walk of cursor.Lay. -/
import Derived.Test.YtpeknjbcjpdmnabFits
namespace Go.Proofs.Ytpeknjbcjpdmnab
open Go.RowKit
set_option linter.unusedVariables false

def headB (x : Item) (p : Piece) : List UInt8 := if x.1 = 1 then putS x.2.1.toNat p.1 x.2.2 else if x.1 = 2 then vput p.1 else if x.1 = 4 then vput p.2.length else []
def pieceB (x : Item) (p : Piece) : List UInt8 := headB x p ++ p.2
def layGo (out : List UInt8) : List Item → List Piece → Option (List UInt8)
  | x :: xs, p :: ps => if mayB x && fitsB x p then layGo (out ++ pieceB x p) xs ps else none
  | [], [] => some out
  | _, _ => none
def layS (plan : List Item) (ps : List Piece) : Option (List UInt8) := layGo [] plan ps

def pOk (p : Piece) : Prop := p.1 < 18446744073709551616 ∧ p.2.length ≤ 1000000
theorem headB_le {x : Item} {p : Piece} (h : pOk p) (hx : mayB x = true) : (headB x p).length ≤ 10 := by
  unfold headB
  split
  · rename_i h1
    rw [putS_length]
    have : 1 ≤ x.2.1 ∧ x.2.1 ≤ 8 := by simpa [mayB, h1] using hx
    omega
  · split
    · exact vput_le h.1
    · split
      · exact vput_le (by have := h.2; omega)
      · simp

def LayIs (w : World) (r : Option (List UInt8)) (e : Ending) (w' : World) : Prop :=
  ∃ A c, e = .returned (.tuple #[.slice A (r.getD []).length c, .int .i64 (if r.isSome then 0 else 1)]) ∧ w'.ownsRow w.heap.size 5 1 (.slice A (r.getD []).length c) (r.getD []).length (bcells (r.getD [])) ∧ Below w.heap.size w w'
theorem layIs_no {w w' : World} {r : Option (List UInt8)} (h : r = none) (hb : Below w.heap.size w w') : LayIs w r (.returned (.tuple #[.slice none 0 0, .int .i64 1])) w' := by
  subst h
  exact ⟨none, 0, rfl, World.ownsRow_nil _ _ _ _, hb⟩
theorem layIs_yes {w w' : World} {r : Option (List UInt8)} {out : List UInt8} {A : Option Addr} {n c : Nat} (h : r = some out) (hn : n = out.length) (ho : w'.ownsRow w.heap.size 5 1 (.slice A n c) out.length (bcells out)) (hb : Below w.heap.size w w') : LayIs w r (.returned (.tuple #[.slice A n c, .int .i64 0])) w' := by
  subst h hn
  exact ⟨A, c, rfl, ho, hb⟩
theorem layGo_len : ∀ {plan : List Item} {ps : List Piece} {out : List UInt8}, plan.length ≠ ps.length → layGo out plan ps = none
  | [], [], _, h => absurd rfl h
  | [], _ :: _, _, _ => rfl
  | _ :: _, [], _, _ => rfl
  | x :: xs, p :: ps, out, h => by
    unfold layGo
    split
    · exact layGo_len (by simpa using h)
    · rfl

/-- What holds at the head of Lay's loop. -/
def LayAt (w wr : World) (plan : List Item) (ps : List Piece) (k : Nat) (out : List UInt8) (A : Option Addr) (c : Nat) : Prop :=
  wr.ownsRow w.heap.size 5 1 (.slice A out.length c) out.length (bcells out) ∧ Below w.heap.size w wr ∧ layGo out (plan.drop k) (ps.drop k) = layS plan ps ∧ out.length ≤ k * 1000010

theorem may_kind {k n : Int} {big : Bool} (h : mayB (k, n, big) = true) : k = 1 ∨ k = 2 ∨ k = 4 ∨ k = 3 := by
  unfold mayB at h
  simp only at h
  by_cases h1 : k = 1
  · exact .inl h1
  · rw [if_neg h1] at h
    by_cases h3 : k = 3 ∨ k = 4
    · rcases h3 with h3 | h3 <;> simp [h3]
    · rw [if_neg h3] at h
      exact .inr (.inl (of_decide_eq_true h))
theorem blk_ne_own {w : World} {k base : Nat} {t e : TypeId} {size n : Nat} {v : Value} {xs : List Value} {cs : Array Value} (h : w.ownsRow base e size v n xs) (hb : Blk w k t cs) (ht : t ≠ e) : some k ≠ v.ownBlock := by
  rcases own_blk_ne h hb ht with h2 | h2
  · rw [h2]; simp
  · exact fun e => h2 e.symm
theorem layAt_step {w w5 : World} {plan : List Item} {ps : List Piece} {k : Nat} {out2 : List UInt8} {A : Option Addr} {c : Nat} (ho : w5.ownsRow w.heap.size 5 1 (.slice A out2.length c) out2.length (bcells out2)) (hb : Below w.heap.size w w5)
    (hE : layS plan ps = layGo out2 (plan.drop (k + 1)) (ps.drop (k + 1))) (hl : out2.length ≤ (k + 1) * 1000010) : LayAt w w5 plan ps (k + 1) out2 A c := ⟨ho, hb, hE.symm, hl⟩

set_option maxHeartbeats 4000000 in
set_option maxRecDepth 100000 in
theorem lay_any (P : Option Addr) (m d : Nat) (plan : List Item) (L : Option Addr) (n c : Nat) (ps : List Piece) (w : World)
    (hm : m = plan.length) (hp : IS w w.heap.size P plan) (hmd : m ≤ d) (hml : m ≤ 1000000) (hpn : ∀ x ∈ plan, x.2.1 < 9223372036854775808)
    (hn : n = ps.length) (hl : PS w w.heap.size L ps) (hnc : n ≤ c) (hnl : n ≤ 9223372036854775807) (hok : ∀ p ∈ ps, pOk p) :
    Calls Try.prog 15 #[.slice P m d, .slice L n c] w (LayIs w (layS plan ps)) := by
  subst hm hn
  have HP := Lib.hid hp
  have HL := Lib.hid hl
  have Hok := Lib.hid hok
  clear hp hpn hl hok
  obtain ⟨i0, hi0, hz0, hz1, hz2⟩ := info_parts u8_infoO
  by_cases hlen : plan.length = ps.length
  · have hlI : ((plan.length : Int) != (ps.length : Int)) = false := by simp; omega
    have Hlen := Lib.hid hlen
    clear hnl
    go_enter Try.func15, Try.ntmps15
    go_wp2
    clear hlen
    go_loopw [6, 17] (fun v i wr => ∃ (k : Nat) (out : List UInt8) (A : Option Addr) (c' : Nat), k ≤ plan.length ∧ i = .int .i64 (k : Int) ∧ v = .slice A out.length c' ∧ Hid (LayAt w wr plan ps k out A c')) (fun _ i _ => plan.length - (intOf i).toNat)
    case atStart => exact ⟨0, [], none, 0, by omega, rfl, rfl, ⟨World.ownsRow_nil _ _ _ _, Below.refl _ _, rfl, by simp⟩⟩
    case round =>
      obtain ⟨k, out, A, c', hk, rfl, rfl, hat⟩ := hrel
      obtain ⟨Hown, Hbr, HS, Hol⟩ := hat.out
      by_cases hlt : k < plan.length
      · have hlt2 : k < ps.length := by have := Hlen.out; omega
        have hkI : (k : Int) < (plan.length : Int) := by omega
        have hkI2 : (k : Int) < (ps.length : Int) := by omega
        have hk0 : (0 : Int) ≤ (k : Int) := by omega
        obtain ⟨ad, rfl, hadb, y0, y1, y2⟩ := (HP.out.below Hbr).whole hlt
        obtain ⟨ae, A1, c1, rfl, haeb, z0w, z1w, hc1, hbs0⟩ := HL.out.whole hlt2
        have z0 := (Hbr.cell (p := ae.add (k * 2)) (by rw [block_of_add]; exact haeb)).trans z0w
        have z1 := (Hbr.cell (p := ⟨(ae.add (k * 2)).block, (ae.add (k * 2)).off + 1, none⟩) (by simp only [block_of_add]; exact haeb)).trans z1w
        clear z0w z1w
        have hpo := Hok.out _ (List.getElem_mem hlt2)
        have hstep : layGo out (plan.drop k) (ps.drop k) = if mayB plan[k] && fitsB plan[k] ps[k] then layGo (out ++ pieceB plan[k] ps[k]) (plan.drop (k + 1)) (ps.drop (k + 1)) else none := by
          rw [List.drop_eq_getElem_cons hlt, List.drop_eq_getElem_cons hlt2]
          rfl
        rw [HS] at hstep
        rcases hx : plan[k] with ⟨kx, nx, bx⟩
        rcases hq : ps[k] with ⟨q, b⟩
        rw [hx] at y0 y1 y2 hstep
        rw [hq] at z0 z1 hc1 hbs0 hpo hstep
        simp only at y0 y1 y2 z0 z1 hc1 hbs0
        have hlw : ae.block < wr.heap.size := Nat.lt_of_lt_of_le haeb Hbr.size
        have z0' : ∀ o, (wr.alloc o).cell? (ae.add (k * 2)) = some (.int .u64 (q : Int)) := fun o => (World.cell?_alloc_lt wr o _ (by rw [block_of_add]; exact hlw)).trans z0
        have z1' : ∀ o, (wr.alloc o).cell? ⟨(ae.add (k * 2)).block, (ae.add (k * 2)).off + 1, none⟩ = some (.slice A1 b.length c1) := fun o => (World.cell?_alloc_lt wr o _ (by simp only [block_of_add]; exact hlw)).trans z1
        have Hstep := Lib.hid hstep
        have Hq64 := Lib.hid hpo.1
        have hbl : b.length ≤ 1000000 := hpo.2
        have Hown := Lib.hid Hown
        have Hbr := Lib.hid Hbr
        have Hbs0 := Lib.hid hbs0
        clear hx hq hstep HS hbs0 hpo
        rcases hmay : mayB (kx, nx, bx) with _ | _
        · have Hmay := Lib.hid hmay
          have HE : Hid (layS plan ps = none) := by show _ = _; rw [Hstep.out, Hmay.out]; rfl
          clear hmay
          go_wp2_with fail
          refine (may_any kx nx bx _ _ Hmay.out).mono ?_
          rintro e w1 ⟨rfl, hb1⟩
          have hb3 : Below w.heap.size w w1 := ((Hbr.out.alloc Hbr.out.size _).alloc (Nat.le_trans Hbr.out.size (by simp)) _).trans (hb1.mono (Nat.le_trans Hbr.out.size (by simp; omega)))
          go_wp2
          go_ret2
          exact layIs_no HE.out hb3
        · have Hmay := Lib.hid hmay
          clear hmay
          rcases hfit : fitsB (kx, nx, bx) (q, b) with _ | _
          · have Hfit := Lib.hid hfit
            have HE : Hid (layS plan ps = none) := by show _ = _; rw [Hstep.out, Hmay.out, Hfit.out]; rfl
            clear hfit
            go_wp2_with fail
            refine (may_any kx nx bx _ _ Hmay.out).mono ?_
            rintro e w1 ⟨rfl, hb1⟩
            have HX := Lib.hid (Blk.below (Blk.alloc (Blk.new wr 68 #[.int .i64 kx, .int .i64 nx, .bool bx] _ rfl) (.cells #[.int .u64 (q : Int), .slice A1 b.length c1] 70)) hb1 (by simp; omega))
            have HQ := Lib.hid (Blk.below (Blk.new (wr.alloc (.cells #[.int .i64 kx, .int .i64 nx, .bool bx] 68)) 70 #[.int .u64 (q : Int), .slice A1 b.length c1] (wr.heap.size + 1) (by simp)) hb1 (by simp))
            have Hb1 := Lib.hid (((Hbr.out.alloc Hbr.out.size (.cells #[.int .i64 kx, .int .i64 nx, .bool bx] 68)).alloc (Nat.le_trans Hbr.out.size (by simp)) (.cells #[.int .u64 (q : Int), .slice A1 b.length c1] 70)).trans (hb1.mono (Nat.le_trans Hbr.out.size (by simp; omega))))
            have Hown1 := Lib.hid (own_below Hown.out ((((Below.refl wr.heap.size wr).alloc (Nat.le_refl _) (.cells #[.int .i64 kx, .int .i64 nx, .bool bx] 68)).alloc (by simp) (.cells #[.int .u64 (q : Int), .slice A1 b.length c1] 70)).trans (hb1.mono (by simp; omega))))
            have x0 : w1.cell? ⟨wr.heap.size, 0, none⟩ = some (.int .i64 kx) := HX.out.cell 0
            have x1 : w1.cell? ⟨wr.heap.size, 1, none⟩ = some (.int .i64 nx) := HX.out.cell 1
            have x2 : w1.cell? ⟨wr.heap.size, 2, none⟩ = some (.bool bx) := HX.out.cell 2
            have p0 : w1.cell? ⟨wr.heap.size + 1, 0, none⟩ = some (.int .u64 (q : Int)) := HQ.out.cell 0
            have p1 : w1.cell? ⟨wr.heap.size + 1, 1, none⟩ = some (.slice A1 b.length c1) := HQ.out.cell 1
            clear hb1 y0 y1 y2 z0 z1 z0' z1'
            go_wp2_with fail
            refine (fits_any kx nx bx q b A1 c1 _ Hq64.out Hmay.out).mono ?_
            rw [Hfit.out]
            rintro e w2 ⟨rfl, hb2⟩
            have Hb2 := Lib.hid hb2
            clear hb2
            go_wp2
            go_ret2
            exact layIs_no HE.out (Hb1.out.trans (Hb2.out.mono Hb1.out.size))
          · have Hfit := Lib.hid hfit
            have HE : Hid (layS plan ps = layGo (out ++ pieceB (kx, nx, bx) (q, b)) (plan.drop (k + 1)) (ps.drop (k + 1))) := by show _ = _; rw [Hstep.out, Hmay.out, Hfit.out]; rfl
            clear hfit
            go_wp2_with fail
            refine (may_any kx nx bx _ _ Hmay.out).mono ?_
            rintro e w1 ⟨rfl, hb1⟩
            have HX := Lib.hid (Blk.below (Blk.alloc (Blk.new wr 68 #[.int .i64 kx, .int .i64 nx, .bool bx] _ rfl) (.cells #[.int .u64 (q : Int), .slice A1 b.length c1] 70)) hb1 (by simp; omega))
            have HQ := Lib.hid (Blk.below (Blk.new (wr.alloc (.cells #[.int .i64 kx, .int .i64 nx, .bool bx] 68)) 70 #[.int .u64 (q : Int), .slice A1 b.length c1] (wr.heap.size + 1) (by simp)) hb1 (by simp))
            have Hb1 := Lib.hid (((Hbr.out.alloc Hbr.out.size (.cells #[.int .i64 kx, .int .i64 nx, .bool bx] 68)).alloc (Nat.le_trans Hbr.out.size (by simp)) (.cells #[.int .u64 (q : Int), .slice A1 b.length c1] 70)).trans (hb1.mono (Nat.le_trans Hbr.out.size (by simp; omega))))
            have Hown1 := Lib.hid (own_below Hown.out ((((Below.refl wr.heap.size wr).alloc (Nat.le_refl _) (.cells #[.int .i64 kx, .int .i64 nx, .bool bx] 68)).alloc (by simp) (.cells #[.int .u64 (q : Int), .slice A1 b.length c1] 70)).trans (hb1.mono (by simp; omega))))
            have x0 : w1.cell? ⟨wr.heap.size, 0, none⟩ = some (.int .i64 kx) := HX.out.cell 0
            have x1 : w1.cell? ⟨wr.heap.size, 1, none⟩ = some (.int .i64 nx) := HX.out.cell 1
            have x2 : w1.cell? ⟨wr.heap.size, 2, none⟩ = some (.bool bx) := HX.out.cell 2
            have p0 : w1.cell? ⟨wr.heap.size + 1, 0, none⟩ = some (.int .u64 (q : Int)) := HQ.out.cell 0
            have p1 : w1.cell? ⟨wr.heap.size + 1, 1, none⟩ = some (.slice A1 b.length c1) := HQ.out.cell 1
            clear hb1 y0 y1 y2 z0 z1 z0' z1'
            go_wp2_with fail
            refine (fits_any kx nx bx q b A1 c1 _ Hq64.out Hmay.out).mono ?_
            rw [Hfit.out]
            rintro e w2 ⟨rfl, hb2⟩
            have Hb2 := Lib.hid hb2
            clear hb2
            have HX2 := Lib.hid (Blk.below HX.out Hb2.out HX.out.lt)
            have HQ2 := Lib.hid (Blk.below HQ.out Hb2.out HQ.out.lt)
            have HbW := Lib.hid (Hb1.out.trans (Hb2.out.mono Hb1.out.size))
            have Hown2 := Lib.hid (own_below Hown1.out Hb2.out)
            have X0 : w2.cell? ⟨wr.heap.size, 0, none⟩ = some (.int .i64 kx) := HX2.out.cell 0
            have X1 : w2.cell? ⟨wr.heap.size, 1, none⟩ = some (.int .i64 nx) := HX2.out.cell 1
            have X2 : w2.cell? ⟨wr.heap.size, 2, none⟩ = some (.bool bx) := HX2.out.cell 2
            have P0 : w2.cell? ⟨wr.heap.size + 1, 0, none⟩ = some (.int .u64 (q : Int)) := HQ2.out.cell 0
            have P1 : w2.cell? ⟨wr.heap.size + 1, 1, none⟩ = some (.slice A1 b.length c1) := HQ2.out.cell 1
            clear x0 x1 x2 p0 p1
            have hol : out.length ≤ k * 1000010 := Hol
            have hkk : k ≤ 1000000 := by omega
            rcases may_kind Hmay.out with hk1 | hk2 | hk4 | hk3
            -- GENKINDS
            · subst hk1
              have hj8 : 1 ≤ nx ∧ nx ≤ 8 := by simpa [mayB] using Hmay.out
              obtain ⟨j, rfl⟩ : ∃ j : Nat, nx = (j : Int) := ⟨nx.toNat, by omega⟩
              have hj : j ≤ 8 := by omega
              have hml : (putS j q bx).length ≤ 10 := by rw [putS_length]; omega
              rw [show pieceB (1, (j : Int), bx) (q, b) = putS j q bx ++ b from rfl] at HE
              clear hj8
              go_wp2_with
                (first
                  | (go_at_call 42
                     refine (octPut_own bx q j _ Hq64.out hj).mono ?_
                     rintro e w3 ⟨A3, c3, rfl, hown3, hb3⟩
                     have HB3 := Lib.hid (BS.of_own hown3).1
                     have HQ3 := Lib.hid (Blk.below HQ2.out hb3 HQ2.out.lt)
                     have HbW3 := Lib.hid (HbW.out.trans (hb3.mono HbW.out.size))
                     have Hown23 := Lib.hid (own_below Hown2.out hb3)
                     clear hown3 hb3)
                  | (at_builtin
                     refine wpList_append_bytes _ rfl (.tmp 39) (.tmp 46) 22 rfl w.heap.size 5 i0 (.int .u8 0) 1 Try.underlying22 hi0 hz0 hz1 hz2 rfl (.slice A out.length c') out rfl Hown23.out _ A3 _ c3 (putS j q bx) rfl rfl HB3.out (by unfold maxLen; omega) (by omega) HbW3.out.size ?_
                     intro A4 c4 w4 hown4 hg4 _
                     have Hown4 : Hid (w4.ownsRow w.heap.size 5 1 (.slice A4 (out.length + (putS j q bx).length) c4) (out ++ (putS j q bx)).length (bcells (out ++ (putS j q bx)))) := by show World.ownsRow _ _ _ _ _ _ _; rw [← List.length_append]; exact hown4
                     have HQ4 := Lib.hid (Blk.grown HQ3.out hg4 (blk_ne_own Hown23.out HQ3.out (by decide)))
                     have P1' : w4.cell? ⟨wr.heap.size + 1, 1, none⟩ = some (.slice A1 b.length c1) := HQ4.out.cell 1
                     have HbW4 := Lib.hid (HbW3.out.grown hg4 HbW3.out.size (fun k hk => (Hown23.out.lt k hk).1))
                     clear hown4 hg4 P0 P1)
                  | (at_builtin
                     refine wpList_append_bytes _ rfl (.tmp 64) (.tmp 66) 22 rfl w.heap.size 5 i0 (.int .u8 0) 1 Try.underlying22 hi0 hz0 hz1 hz2 rfl (.slice A4 (out.length + (putS j q bx).length) c4) (out ++ (putS j q bx)) rfl Hown4.out w.heap.size A1 _ c1 b rfl rfl (Hbs0.out.below HbW4.out) (by rw [List.length_append]; unfold maxLen; omega) (by rw [List.length_append]; omega) HbW4.out.size ?_
                     intro A5 c5 w5 hown5 hg5 _
                     have Hend := Lib.hid (layAt_step (out2 := (out ++ (putS j q bx)) ++ b) hown5 (HbW4.out.grown hg5 HbW4.out.size (fun k hk => (Hown4.out.lt k hk).1)) (by rw [HE.out, List.append_assoc]) (by rw [List.length_append, List.length_append]; omega))
                     clear hown5 hg5))
              go_roundw
              case rel => exact ⟨k + 1, (out ++ (putS j q bx)) ++ b, A5, c5, by omega, by go_num, by simp, Hend⟩
              case measure => simp [intOf]; omega
            · subst hk2
              have hml : (vput q).length ≤ 10 := vput_le Hq64.out
              rw [show pieceB (2, nx, bx) (q, b) = vput q ++ b from rfl] at HE
              go_wp2_with
                (first
                  | (go_at_call 43
                     refine (put_own q _ Hq64.out).mono ?_
                     rintro e w3 ⟨A3, c3, rfl, hown3, hb3⟩
                     have HB3 := Lib.hid (BS.of_own hown3).1
                     have HQ3 := Lib.hid (Blk.below HQ2.out hb3 HQ2.out.lt)
                     have HbW3 := Lib.hid (HbW.out.trans (hb3.mono HbW.out.size))
                     have Hown23 := Lib.hid (own_below Hown2.out hb3)
                     clear hown3 hb3)
                  | (at_builtin
                     refine wpList_append_bytes _ rfl (.tmp 50) (.tmp 53) 22 rfl w.heap.size 5 i0 (.int .u8 0) 1 Try.underlying22 hi0 hz0 hz1 hz2 rfl (.slice A out.length c') out rfl Hown23.out _ A3 _ c3 (vput q) rfl rfl HB3.out (by unfold maxLen; omega) (by omega) HbW3.out.size ?_
                     intro A4 c4 w4 hown4 hg4 _
                     have Hown4 : Hid (w4.ownsRow w.heap.size 5 1 (.slice A4 (out.length + (vput q).length) c4) (out ++ (vput q)).length (bcells (out ++ (vput q)))) := by show World.ownsRow _ _ _ _ _ _ _; rw [← List.length_append]; exact hown4
                     have HQ4 := Lib.hid (Blk.grown HQ3.out hg4 (blk_ne_own Hown23.out HQ3.out (by decide)))
                     have P1' : w4.cell? ⟨wr.heap.size + 1, 1, none⟩ = some (.slice A1 b.length c1) := HQ4.out.cell 1
                     have HbW4 := Lib.hid (HbW3.out.grown hg4 HbW3.out.size (fun k hk => (Hown23.out.lt k hk).1))
                     clear hown4 hg4 P0 P1)
                  | (at_builtin
                     refine wpList_append_bytes _ rfl (.tmp 64) (.tmp 66) 22 rfl w.heap.size 5 i0 (.int .u8 0) 1 Try.underlying22 hi0 hz0 hz1 hz2 rfl (.slice A4 (out.length + (vput q).length) c4) (out ++ (vput q)) rfl Hown4.out w.heap.size A1 _ c1 b rfl rfl (Hbs0.out.below HbW4.out) (by rw [List.length_append]; unfold maxLen; omega) (by rw [List.length_append]; omega) HbW4.out.size ?_
                     intro A5 c5 w5 hown5 hg5 _
                     have Hend := Lib.hid (layAt_step (out2 := (out ++ (vput q)) ++ b) hown5 (HbW4.out.grown hg5 HbW4.out.size (fun k hk => (Hown4.out.lt k hk).1)) (by rw [HE.out, List.append_assoc]) (by rw [List.length_append, List.length_append]; omega))
                     clear hown5 hg5))
              go_roundw
              case rel => exact ⟨k + 1, (out ++ (vput q)) ++ b, A5, c5, by omega, by go_num, by simp, Hend⟩
              case measure => simp [intOf]; omega
            · subst hk4
              have hml : (vput b.length).length ≤ 10 := vput_le (by omega)
              have hwb : IntKind.u64.wrap (b.length : Int) = (b.length : Int) := wrap_u64_nat _ (by omega)
              rw [show pieceB (4, nx, bx) (q, b) = vput b.length ++ b from rfl] at HE
              go_wp2_with
                (first
                  | (go_at_call 43
                     refine (put_own b.length _ (by omega)).mono ?_
                     rintro e w3 ⟨A3, c3, rfl, hown3, hb3⟩
                     have HB3 := Lib.hid (BS.of_own hown3).1
                     have HQ3 := Lib.hid (Blk.below HQ2.out hb3 HQ2.out.lt)
                     have HbW3 := Lib.hid (HbW.out.trans (hb3.mono HbW.out.size))
                     have Hown23 := Lib.hid (own_below Hown2.out hb3)
                     clear hown3 hb3)
                  | (at_builtin
                     refine wpList_append_bytes _ rfl (.tmp 57) (.tmp 62) 22 rfl w.heap.size 5 i0 (.int .u8 0) 1 Try.underlying22 hi0 hz0 hz1 hz2 rfl (.slice A out.length c') out rfl Hown23.out _ A3 _ c3 (vput b.length) rfl rfl HB3.out (by unfold maxLen; omega) (by omega) HbW3.out.size ?_
                     intro A4 c4 w4 hown4 hg4 _
                     have Hown4 : Hid (w4.ownsRow w.heap.size 5 1 (.slice A4 (out.length + (vput b.length).length) c4) (out ++ (vput b.length)).length (bcells (out ++ (vput b.length)))) := by show World.ownsRow _ _ _ _ _ _ _; rw [← List.length_append]; exact hown4
                     have HQ4 := Lib.hid (Blk.grown HQ3.out hg4 (blk_ne_own Hown23.out HQ3.out (by decide)))
                     have P1' : w4.cell? ⟨wr.heap.size + 1, 1, none⟩ = some (.slice A1 b.length c1) := HQ4.out.cell 1
                     have HbW4 := Lib.hid (HbW3.out.grown hg4 HbW3.out.size (fun k hk => (Hown23.out.lt k hk).1))
                     clear hown4 hg4 P0 P1)
                  | (at_builtin
                     refine wpList_append_bytes _ rfl (.tmp 64) (.tmp 66) 22 rfl w.heap.size 5 i0 (.int .u8 0) 1 Try.underlying22 hi0 hz0 hz1 hz2 rfl (.slice A4 (out.length + (vput b.length).length) c4) (out ++ (vput b.length)) rfl Hown4.out w.heap.size A1 _ c1 b rfl rfl (Hbs0.out.below HbW4.out) (by rw [List.length_append]; unfold maxLen; omega) (by rw [List.length_append]; omega) HbW4.out.size ?_
                     intro A5 c5 w5 hown5 hg5 _
                     have Hend := Lib.hid (layAt_step (out2 := (out ++ (vput b.length)) ++ b) hown5 (HbW4.out.grown hg5 HbW4.out.size (fun k hk => (Hown4.out.lt k hk).1)) (by rw [HE.out, List.append_assoc]) (by rw [List.length_append, List.length_append]; omega))
                     clear hown5 hg5))
              go_roundw
              case rel => exact ⟨k + 1, (out ++ (vput b.length)) ++ b, A5, c5, by omega, by go_num, by simp, Hend⟩
              case measure => simp [intOf]; omega
            · subst hk3
              rw [show pieceB (3, nx, bx) (q, b) = b from rfl] at HE
              go_wp2_with
                  (at_builtin
                   refine wpList_append_bytes _ rfl (.tmp 64) (.tmp 66) 22 rfl w.heap.size 5 i0 (.int .u8 0) 1 Try.underlying22 hi0 hz0 hz1 hz2 rfl (.slice A out.length c') out rfl Hown2.out w.heap.size A1 _ c1 b rfl rfl (Hbs0.out.below HbW.out) (by unfold maxLen; omega) (by omega) HbW.out.size ?_
                   intro A5 c5 w5 hown5 hg5 _
                   have Hend := Lib.hid (layAt_step (out2 := out ++ b) hown5 (HbW.out.grown hg5 HbW.out.size (fun k hk => (Hown2.out.lt k hk).1)) HE.out (by rw [List.length_append]; omega))
                   clear hown5 hg5)
              go_roundw
              case rel => exact ⟨k + 1, out ++ b, A5, c5, by omega, by go_num, by simp, Hend⟩
              case measure => simp [intOf]; omega
            -- ENDKINDS
      · obtain rfl : k = plan.length := by omega
        have hkI : ¬ (plan.length : Int) < (ps.length : Int) := by have := Hlen.out; omega
        have HE : Hid (layS plan ps = some out) := by
          show _ = _
          rw [← HS, List.drop_length, Hlen.out, List.drop_length]
          rfl
        have Hown := Lib.hid Hown
        have Hbr := Lib.hid Hbr
        clear HS Hol
        go_wp2
        go_ret2
        exact layIs_yes HE.out rfl Hown.out Hbr.out
  · have hlI : ((plan.length : Int) != (ps.length : Int)) = true := by simp; omega
    have HE : Hid (layS plan ps = none) := layGo_len hlen
    clear hlen
    go_enter Try.func15, Try.ntmps15
    go_wp2
    go_ret2
    exact layIs_no HE.out (Below.refl _ _)
end Go.Proofs.Ytpeknjbcjpdmnab
