/- The walk of Scan. -/
import Derived.Test.YtpeknjbcjpdmnabScanE
import Derived.Deep.RegionLaw
namespace Go.Proofs.Ytpeknjbcjpdmnab
open Go.RowKit
set_option linter.unusedVariables false

theorem piece_info : (Try.prog.info? 70).map (fun i => (i.zero, i.size, i.bytes)) = some (some (.agg #[.int .u64 0, .slice none 0 0]), 2, 32) := by kernel_rfl
theorem POwn.rd {w w' : World} {base base' g : Nat} {l : List UInt8} {s : St} {A : Option Addr} {c : Nat} {ps : List Piece} (h : POwn 70 5 w base A c ps) (hR : RdW w base' g l s) (hg : w.grownBy w' (some g)) : POwn 70 5 w' base A c ps :=
  h.keep fun he ho => by
    obtain ⟨_, _, hr, _⟩ := hR
    exact ho.kept hg (own_blk_ne ho hr (by rcases he with rfl | rfl <;> decide))
theorem ne_own {w : World} {k base : Nat} {t eT eB : TypeId} {cs : Array Value} {A : Option Addr} {c : Nat} {ps : List Piece} (hb : Blk w k t cs) (h : POwn eT eB w base A c ps) (ht : t ≠ eT) : some k ≠ (Value.slice A ps.length c).ownBlock := by
  obtain ⟨vs, h1, _⟩ := h
  rcases own_blk_ne h1 hb ht with h2 | h2
  · rw [h2]; simp
  · exact fun e => h2 e.symm
/-- What holds at the head of Scan's loop. -/
def ScanAt (w wr : World) (l : List UInt8) (plan : List Item) (base g k : Nat) (s : St) (acc : List Piece) (A' : Option Addr) (c' : Nat) : Prop :=
  okS l s ∧ s.2.2 = 0 ∧ RdW wr base g l s ∧ Blk wr w.heap.size 25 #[.slice A' acc.length c'] ∧ Blk wr (w.heap.size + 1) 28 #[.int .i64 0, .int .i64 0] ∧
    POwn 70 5 wr w.heap.size A' c' acc ∧ Below w.heap.size w wr ∧ scanGo l s acc (plan.drop k) = scanS l plan ∧ w.heap.size + 1 < g ∧ acc.length = k

theorem RdW.row {w w' : World} {base g base' : Nat} {l : List UInt8} {s : St} {A : Option Addr} {c n : Nat} {ps : List Piece} (h : RdW w base g l s) (hP : POwn 70 5 w base' A c ps) (hg : w.grownBy w' (Value.slice A ps.length c).ownBlock) : RdW w' base g l s := by
  obtain ⟨vs, h1, _⟩ := hP
  obtain ⟨A1, c1, hr, hown, hne, hc⟩ := h
  have e1 : some g ≠ (Value.slice A ps.length c).ownBlock := by
    rcases own_blk_ne h1 hr (by decide) with h2 | h2
    · rw [h2]; simp
    · exact fun e => h2 e.symm
  exact ⟨A1, c1, Blk.grown hr hg e1, hown.kept hg (own_types_ne hown h1 (by decide)), hne, hc⟩

theorem scanAt_step {w wr W w3 w4 : World} {l : List UInt8} {plan : List Item} {base g k : Nat} {s s2 : St} {acc : List Piece} {A' : Option Addr} {c' : Nat} {x : Item} {q : Nat} {b : List UInt8} {o : Obj} {A4 : Option Addr} {c4 n : Nat}
    (hat : ScanAt w wr l plan base g k s acc A' c') (hlt : k < plan.length) (hW : Below wr.heap.size wr W) (hx : plan[k] = x) (hrs : readS l s x = (s2, q, b)) (hz2 : s2.2.2 = 0)
    (hR3 : RdW w3 base g l s2) (hg3 : W.drew.grownBy w3 (some g)) (hg4 : (w3.alloc o).grownBy w4 (Value.slice A' acc.length c').ownBlock)
    (hP4 : POwn 70 5 w4 w.heap.size A4 c4 (acc ++ [(q, b)])) (hn : n = acc.length + 1) :
    ScanAt w (w4.setCell ⟨w.heap.size, 0, none⟩ (.slice A4 n c4)) l plan base g (k + 1) s2 (acc ++ [(q, b)]) A4 c4 := by
  obtain ⟨Hok, Hz, HRr, HOr, HFr, HPO, Hbr, HS, hg, hacc⟩ := hat
  have hWd : Below wr.heap.size wr W.drew := hW.drew
  have hP3 : POwn 70 5 w3 w.heap.size A' c' acc := (HPO.below hWd).rd (HRr.below hWd) hg3
  have hO3 := Blk.grown (Blk.below HOr hWd HOr.lt) hg3 (fun e => by injection e with e; omega)
  have hF3 := Blk.grown (Blk.below HFr hWd HFr.lt) hg3 (fun e => by injection e with e; omega)
  have ha : Below w3.heap.size w3 (w3.alloc o) := (Below.refl _ w3).alloc (Nat.le_refl _) o
  have hP3a := hP3.below ha
  have hO3a := Blk.alloc hO3 o
  have hF3a := Blk.alloc hF3 o
  have hO4 := Blk.grown hO3a hg4 (ne_own hO3a hP3a (by decide))
  have hF4 := Blk.grown hF3a hg4 (ne_own hF3a hP3a (by decide))
  have hR4 := (hR3.below ha).row (n := acc.length) hP3a hg4
  have hs5 := grownSet w4 ⟨w.heap.size, 0, none⟩ (.slice A4 n c4)
  have hsz3 : w.heap.size ≤ w3.heap.size := Nat.le_trans (Nat.le_trans Hbr.size hWd.size) hg3.size
  have hb3 : Below w.heap.size w w3 := (Hbr.trans (hWd.mono Hbr.size)).grown hg3 (Nat.le_trans Hbr.size hWd.size) (fun k hk => by simp only [Option.some.injEq] at hk; omega)
  have hb4 : Below w.heap.size w w4 := (hb3.alloc hsz3 o).grown hg4 (Nat.le_trans hsz3 ha.size) (fun k hk => hP3a.lt hk)
  refine ⟨?_, hz2, hR4.off hs5 hO4 (by decide) (by decide), ?_, Blk.far hF4 (p := ⟨w.heap.size, 0, none⟩) (by simp) _, ?_, hb4.setCell (Nat.le_refl _) _, ?_, hg, ?_⟩
  · have := ok_read Hok x
    rw [hrs] at this
    exact this
  · have := Blk.set_ hO4 0 (.slice A4 n c4)
    rw [List.length_append, ← show n = acc.length + [(q, b)].length from hn]
    exact this
  · exact hP4.keep fun he ho => ho.kept hs5 (own_blk_ne ho hO4 (by rcases he with rfl | rfl <;> decide))
  · rw [← HS, List.drop_eq_getElem_cons hlt, hx]
    conv => rhs; unfold scanGo
    rw [hrs, if_pos hz2]
  · rw [List.length_append, hacc]; rfl

set_option maxHeartbeats 4000000 in
set_option maxRecDepth 100000 in
theorem scan_any (A : Option Addr) (n c : Nat) (l : List UInt8) (P : Option Addr) (m d : Nat) (plan : List Item) (w : World) (hn : n = l.length) (hb : BS w w.heap.size A l) (hl : n ≤ 1000000000)
    (hm : m = plan.length) (hp : IS w w.heap.size P plan) (hmd : m ≤ d) (hml : m ≤ 1000000) (hpn : ∀ x ∈ plan, x.2.1 < 9223372036854775808) :
    Calls Try.prog 11 #[.slice A n c, .slice P m d] w (ScanIs w (scanS l plan)) := by
  subst hn hm
  obtain ⟨i0, hi0, hz0, hz1, hz2⟩ := info_parts piece_info
  have HB := Lib.hid hb
  have HP := Lib.hid hp
  have Hpn := Lib.hid hpn
  clear hb hp hpn
  have hmf : ∀ (fn : Fn) (first cap : Array Value) (w : World), (Instr.makeFunc fn first cap).run Try.prog w = .ok (.func fn first cap) w := fun _ _ _ _ => rfl
  go_enter_defers Try.func11, Try.ntmps11
  go_wp2_with fail
  refine (rdNew_any _ _ _ l _ rfl (((HB.out.alloc (Nat.le_refl _) _).alloc (by simp) _).more (by simp; omega)) hl).mono ?_
  rintro e w1 ⟨g, rfl, hg1, hg2, hR, hb1⟩
  have HR := Lib.hid hR
  have hO1 : Blk w1 w.heap.size 25 #[.slice none 0 0] := Blk.below (Blk.alloc (Blk.new w _ _ _ rfl) _) hb1 (by simp; omega)
  have hF1 : Blk w1 (w.heap.size + 1) 28 #[.int .i64 0, .int .i64 0] := Blk.below (Blk.new _ _ _ _ (by simp)) hb1 (by simp)
  have hb2 : Below w.heap.size w w1 := ((((Below.refl _ w).alloc (Nat.le_refl _) _).alloc (by simp) _)).trans (hb1.mono (by simp; omega))
  have hgl : w.heap.size + 1 < g := by simp at hg1; omega
  have HO1 := Lib.hid hO1
  have HF1 := Lib.hid hF1
  have Hb2 := Lib.hid hb2
  clear hR hO1 hF1 hb2 hb1
  go_wp2
  obtain ⟨base, hbase⟩ : ∃ base, base = ((w.alloc (.cells #[.slice none 0 0] 25)).alloc (.cells #[.int .i64 0, .int .i64 0] 28)).heap.size := ⟨_, rfl⟩
  rw [← hbase] at HR
  go_loopw [14] (fun i wr => ∃ (k : Nat) (s : St) (acc : List Piece) (A' : Option Addr) (c' : Nat), k ≤ plan.length ∧ i = .int .i64 (k : Int) ∧ Hid (ScanAt w wr l plan base g k s acc A' c')) (fun i _ => plan.length - (intOf i).toNat)
  case atStart => exact ⟨0, (0, 0, 0), [], none, 0, by omega, rfl, ⟨by simp [okS], rfl, HR.out, HO1.out, HF1.out, POwn.nil _ _ _ _, Hb2.out, rfl, hgl, rfl⟩⟩
  case round =>
    obtain ⟨k, s, acc, A', c', hk, rfl, hat⟩ := hrel
    have hat' := hat.out
    obtain ⟨Hok, Hz, HRr, HOr, HFr, HPO, Hbr, HS, _, hacc⟩ := hat'
    by_cases hlt : k < plan.length
    · have hkm : acc.length + 1 ≤ 1000000 := by omega
      have hkI : (k : Int) < (plan.length : Int) := by omega
      have hk0 : (0 : Int) ≤ (k : Int) := by omega
      obtain ⟨ad, rfl, hadb, y0, y1, y2⟩ := (HP.out.below Hbr).whole hlt
      rcases hx : plan[k] with ⟨kx, nx, bx⟩
      rw [hx] at y0 y1 y2
      simp only at y0 y1 y2
      have Hx := Lib.hid hx
      have Hok := Lib.hid Hok
      have Hz := Lib.hid Hz
      have HRr := Lib.hid HRr
      have HOr := Lib.hid HOr
      have HFr := Lib.hid HFr
      have HPO := Lib.hid HPO
      have Hbr := Lib.hid Hbr
      have HS := Lib.hid HS
      have Hacc := Lib.hid hacc
      clear hx hacc
      have Hnx : Hid (nx < 9223372036854775808) := by
        have := Hpn.out _ (List.getElem_mem hlt)
        rw [Hx.out] at this
        exact this
      go_wp2
      have hbA : Below wr.heap.size wr (wr.alloc (.cells #[.int .i64 kx, .int .i64 nx, .bool bx] 68)) := (Below.refl _ wr).alloc (Nat.le_refl _) _
      have hX : Blk (wr.alloc (.cells #[.int .i64 kx, .int .i64 nx, .bool bx] 68)) wr.heap.size 68 #[.int .i64 kx, .int .i64 nx, .bool bx] := Blk.new _ _ _ _ rfl
      obtain ⟨W, hW⟩ : ∃ W, W = wr.alloc (.cells #[.int .i64 kx, .int .i64 nx, .bool bx] 68) := ⟨_, rfl⟩
      rw [← hW] at hbA hX ⊢
      have HbA := Lib.hid hbA
      clear hW hbA
      have x0 : W.cell? ⟨wr.heap.size, 0, none⟩ = some (.int .i64 kx) := hX.cell 0
      have x1 : W.cell? ⟨wr.heap.size, 1, none⟩ = some (.int .i64 nx) := hX.cell 1
      have x2 : W.cell? ⟨wr.heap.size, 2, none⟩ = some (.bool bx) := hX.cell 2
      have hOW := Blk.below HOr.out HbA.out HOr.out.lt
      have o0 : W.cell? ⟨w.heap.size, 0, none⟩ = some (.slice A' acc.length c') := hOW.cell 0
      have HOW := Lib.hid hOW
      have HFW := Lib.hid (Blk.below HFr.out HbA.out HFr.out.lt)
      have HRW := Lib.hid ((HRr.out.below HbA.out).drew)
      have HPW := Lib.hid (HPO.out.below HbA.out)
      clear hX hOW y0 y1 y2
      rcases hrs : readS l s (kx, nx, bx) with ⟨s2, q, b⟩
      have Hrs := Lib.hid hrs
      clear hrs
      by_cases hz2 : s2.2.2 = 0
      · have Hz2 := Lib.hid hz2
        clear hz2
        first
          | go_loud (go_region_law (first
          | (go_simp
             go_at_call 37
             refine (read_any base g l s _ kx nx bx HRW.out Hok.out hl Hnx.out).mono ?_
             rw [Hrs.out]
             rintro e w3 ⟨hR3, hg3, hor⟩
             rcases hor with ⟨_, A1, c1, rfl, hown3⟩ | ⟨hbad, _⟩
             rotate_left
             · exact absurd Hz2.out hbad
             have HO3 := Lib.hid (Blk.grown (Blk.drew HOW.out) hg3 (fun e => by injection e with e; omega))
             have HF3 := Lib.hid (Blk.grown (Blk.drew HFW.out) hg3 (fun e => by injection e with e; omega))
             have HP3 := Lib.hid ((HPW.out.below (Below.refl _ W).drew).rd HRW.out hg3)
             have Hsz3 : Hid (w.heap.size ≤ w3.heap.size) := Nat.le_trans (Nat.le_trans Hbr.out.size HbA.out.size) hg3.size
             have Hown3 := Lib.hid (own_base' hown3 (Nat.le_trans Hbr.out.size HbA.out.size))
             have HR3 := Lib.hid hR3
             have Hg3 := Lib.hid hg3
             have o3 : w3.cell? ⟨w.heap.size, 0, none⟩ = some (.slice A' acc.length c') := HO3.out.cell 0
             have o3' : ∀ o, (w3.alloc o).cell? ⟨w.heap.size, 0, none⟩ = some (.slice A' acc.length c') := fun o => Blk.cell (Blk.alloc HO3.out o) 0
             clear hR3 hg3 hown3)
          | (go_loud (refine step_append_piece _ rfl (.tmp 18) (.tmp 22) 25 rfl w.heap.size 70 5 (by decide) i0 (.agg #[.int .u64 0, .slice none 0 0]) 32 Try.underlying25 hi0 hz0 hz1 hz2 rfl A' c' acc (q, b) A1 c1 (by simp [Act.eval]) ⟨w3.heap.size, 0, none⟩ (by simp [Act.eval]) ?_ ?_ ?_ ?_ ?_ ?_ ?_ ?_)
             · go_loud (exact cell_of_row _ _ 0 _ _ _ (heap_alloc_new w3 _))
             · go_loud (exact cell_of_row _ _ 1 _ _ _ (heap_alloc_new w3 _))
             · go_loud (exact HP3.out.below ((Below.refl _ w3).alloc (Nat.le_refl _) _))
             · go_loud (exact own_below Hown3.out ((Below.refl _ w3).alloc (Nat.le_refl _) _))
             · go_loud (unfold maxLen; omega)
             · go_loud (omega)
             · go_loud (refine Nat.le_trans Hsz3.out ?_; simp)
             intro A4 c4 w4 hP4 hg4 hb4
             go_loud (
               have HP4 := Lib.hid hP4
               have Hg4 := Lib.hid hg4
               have hA3 := Blk.alloc HO3.out (.cells #[.int .u64 (q : Int), .slice A1 b.length c1] 70)
               have hP3 := HP3.out.below ((Below.refl _ w3).alloc (Nat.le_refl _) (.cells #[.int .u64 (q : Int), .slice A1 b.length c1] 70))
               have hn3 := ne_own hA3 hP3 (by decide)
               have HO4 := Lib.hid (Blk.grown hA3 hg4 hn3)
               have o4 : w4.cell? ⟨w.heap.size, 0, none⟩ = some (.slice A' acc.length c') := HO4.out.cell 0
               have f4 := HO4.out.frozen 0
               clear hA3 hP3 hn3)
             clear hP4 hg4 hb4)))
          | fail
        all_goals
          have Hend := Lib.hid (scanAt_step hat.out hlt HbA.out Hx.out Hrs.out Hz2.out HR3.out Hg3.out Hg4.out HP4.out rfl)
          clear HO3 HF3 HP3 Hsz3 Hown3 HR3 Hg3 o3 o3' HP4 Hg4 HO4 o4 f4
          go_wp2
          go_roundw
          case rel => exact ⟨k + 1, s2, acc ++ [(q, b)], A4, c4, by omega, by go_num, Hend⟩
          case measure => simp [intOf]; omega
      · have Hz2 := Lib.hid hz2
        have HEnd : Hid (scanS l plan = ([], s2.2)) := by
          show _ = _
          rw [← HS.out, List.drop_eq_getElem_cons hlt, Hx.out]
          conv => lhs; unfold scanGo
          rw [Hrs.out, if_neg Hz2.out]
        clear hz2
        refine wp_region_any (by kernel_rfl) ?_
        change wpAny _ _ _ _ _ _ _ (World.drew _)
        -- GENBAD
        refine wpAny_ready (rs := [0, 1, 2]) (by kernel_rfl) (by simp) ?_
        refine AllReady.cons rfl (fun K hK => ?_) (AllReady.cons rfl (fun K hK => ?_) (AllReady.cons rfl (fun K hK => ?_) AllReady.nil))
        · go_simp
          refine hK _ _ ?_
          clear hK K
          refine wpAny_ready (rs := [1, 2]) (by kernel_rfl) (by simp) ?_
          refine AllReady.cons rfl (fun K hK => ?_) (AllReady.cons rfl (fun K hK => ?_) AllReady.nil)
          · go_simp
            refine hK _ _ ?_
            clear hK K
            refine wpAny_ready (rs := [2]) (by kernel_rfl) (by simp) ?_
            refine AllReady.cons rfl (fun K hK => ?_) AllReady.nil
            · go_simp
              refine hK _ _ ?_
              clear hK K
              refine wpAny_ready (rs := [3]) (by kernel_rfl) (by simp) ?_
              refine AllReady.cons rfl (fun K hK => ?_) AllReady.nil
              · go_simp
                go_at_call 37
                refine (read_any base g l s _ kx nx bx HRW.out Hok.out hl Hnx.out).mono ?_
                rw [Hrs.out]
                rintro e w3 ⟨hR3, hg3, hor⟩
                rcases hor with ⟨h0, _⟩ | ⟨_, hx⟩
                · exact absurd h0 Hz2.out
                unfold spotPanic spotV at hx
                subst hx
                have HO3 := Blk.grown (Blk.drew HOW.out) hg3 (fun e => by injection e with e; omega)
                have HF3 := Blk.grown (Blk.drew HFW.out) hg3 (fun e => by injection e with e; omega)
                have Hb3 : Below w.heap.size w w3 := (Hbr.out.trans (HbA.out.drew.mono Hbr.out.size)).grown hg3 (Nat.le_trans Hbr.out.size HbA.out.size) (fun k hk => by simp only [Option.some.injEq] at hk; omega)
                clear hR3 hg3 hK
                dsimp only
                go_wp2
                exact scan_bad rfl rfl HO3 HF3 Hb3 HEnd.out
          · go_simp
            refine hK _ _ ?_
            clear hK K
            refine wpAny_ready (rs := [1]) (by kernel_rfl) (by simp) ?_
            refine AllReady.cons rfl (fun K hK => ?_) AllReady.nil
            · go_simp
              refine hK _ _ ?_
              clear hK K
              refine wpAny_ready (rs := [3]) (by kernel_rfl) (by simp) ?_
              refine AllReady.cons rfl (fun K hK => ?_) AllReady.nil
              · go_simp
                go_at_call 37
                refine (read_any base g l s _ kx nx bx HRW.out Hok.out hl Hnx.out).mono ?_
                rw [Hrs.out]
                rintro e w3 ⟨hR3, hg3, hor⟩
                rcases hor with ⟨h0, _⟩ | ⟨_, hx⟩
                · exact absurd h0 Hz2.out
                unfold spotPanic spotV at hx
                subst hx
                have HO3 := Blk.grown (Blk.drew HOW.out) hg3 (fun e => by injection e with e; omega)
                have HF3 := Blk.grown (Blk.drew HFW.out) hg3 (fun e => by injection e with e; omega)
                have Hb3 : Below w.heap.size w w3 := (Hbr.out.trans (HbA.out.drew.mono Hbr.out.size)).grown hg3 (Nat.le_trans Hbr.out.size HbA.out.size) (fun k hk => by simp only [Option.some.injEq] at hk; omega)
                clear hR3 hg3 hK
                dsimp only
                go_wp2
                exact scan_bad rfl rfl HO3 HF3 Hb3 HEnd.out
        · go_simp
          refine hK _ _ ?_
          clear hK K
          refine wpAny_ready (rs := [0, 2]) (by kernel_rfl) (by simp) ?_
          refine AllReady.cons rfl (fun K hK => ?_) (AllReady.cons rfl (fun K hK => ?_) AllReady.nil)
          · go_simp
            refine hK _ _ ?_
            clear hK K
            refine wpAny_ready (rs := [2]) (by kernel_rfl) (by simp) ?_
            refine AllReady.cons rfl (fun K hK => ?_) AllReady.nil
            · go_simp
              refine hK _ _ ?_
              clear hK K
              refine wpAny_ready (rs := [3]) (by kernel_rfl) (by simp) ?_
              refine AllReady.cons rfl (fun K hK => ?_) AllReady.nil
              · go_simp
                go_at_call 37
                refine (read_any base g l s _ kx nx bx HRW.out Hok.out hl Hnx.out).mono ?_
                rw [Hrs.out]
                rintro e w3 ⟨hR3, hg3, hor⟩
                rcases hor with ⟨h0, _⟩ | ⟨_, hx⟩
                · exact absurd h0 Hz2.out
                unfold spotPanic spotV at hx
                subst hx
                have HO3 := Blk.grown (Blk.drew HOW.out) hg3 (fun e => by injection e with e; omega)
                have HF3 := Blk.grown (Blk.drew HFW.out) hg3 (fun e => by injection e with e; omega)
                have Hb3 : Below w.heap.size w w3 := (Hbr.out.trans (HbA.out.drew.mono Hbr.out.size)).grown hg3 (Nat.le_trans Hbr.out.size HbA.out.size) (fun k hk => by simp only [Option.some.injEq] at hk; omega)
                clear hR3 hg3 hK
                dsimp only
                go_wp2
                exact scan_bad rfl rfl HO3 HF3 Hb3 HEnd.out
          · go_simp
            refine hK _ _ ?_
            clear hK K
            refine wpAny_ready (rs := [0, 3]) (by kernel_rfl) (by simp) ?_
            refine AllReady.cons rfl (fun K hK => ?_) (AllReady.cons rfl (fun K hK => ?_) AllReady.nil)
            · go_simp
              refine hK _ _ ?_
              clear hK K
              refine wpAny_ready (rs := [3]) (by kernel_rfl) (by simp) ?_
              refine AllReady.cons rfl (fun K hK => ?_) AllReady.nil
              · go_simp
                go_at_call 37
                refine (read_any base g l s _ kx nx bx HRW.out Hok.out hl Hnx.out).mono ?_
                rw [Hrs.out]
                rintro e w3 ⟨hR3, hg3, hor⟩
                rcases hor with ⟨h0, _⟩ | ⟨_, hx⟩
                · exact absurd h0 Hz2.out
                unfold spotPanic spotV at hx
                subst hx
                have HO3 := Blk.grown (Blk.drew HOW.out) hg3 (fun e => by injection e with e; omega)
                have HF3 := Blk.grown (Blk.drew HFW.out) hg3 (fun e => by injection e with e; omega)
                have Hb3 : Below w.heap.size w w3 := (Hbr.out.trans (HbA.out.drew.mono Hbr.out.size)).grown hg3 (Nat.le_trans Hbr.out.size HbA.out.size) (fun k hk => by simp only [Option.some.injEq] at hk; omega)
                clear hR3 hg3 hK
                dsimp only
                go_wp2
                exact scan_bad rfl rfl HO3 HF3 Hb3 HEnd.out
            · go_simp
              go_at_call 37
              refine (read_any base g l s _ kx nx bx HRW.out Hok.out hl Hnx.out).mono ?_
              rw [Hrs.out]
              rintro e w3 ⟨hR3, hg3, hor⟩
              rcases hor with ⟨h0, _⟩ | ⟨_, hx⟩
              · exact absurd h0 Hz2.out
              unfold spotPanic spotV at hx
              subst hx
              have HO3 := Blk.grown (Blk.drew HOW.out) hg3 (fun e => by injection e with e; omega)
              have HF3 := Blk.grown (Blk.drew HFW.out) hg3 (fun e => by injection e with e; omega)
              have Hb3 : Below w.heap.size w w3 := (Hbr.out.trans (HbA.out.drew.mono Hbr.out.size)).grown hg3 (Nat.le_trans Hbr.out.size HbA.out.size) (fun k hk => by simp only [Option.some.injEq] at hk; omega)
              clear hR3 hg3 hK
              dsimp only
              go_wp2
              exact scan_bad rfl rfl HO3 HF3 Hb3 HEnd.out
        · go_simp
          refine hK _ _ ?_
          clear hK K
          refine wpAny_ready (rs := [0, 1]) (by kernel_rfl) (by simp) ?_
          refine AllReady.cons rfl (fun K hK => ?_) (AllReady.cons rfl (fun K hK => ?_) AllReady.nil)
          · go_simp
            refine hK _ _ ?_
            clear hK K
            refine wpAny_ready (rs := [1]) (by kernel_rfl) (by simp) ?_
            refine AllReady.cons rfl (fun K hK => ?_) AllReady.nil
            · go_simp
              refine hK _ _ ?_
              clear hK K
              refine wpAny_ready (rs := [3]) (by kernel_rfl) (by simp) ?_
              refine AllReady.cons rfl (fun K hK => ?_) AllReady.nil
              · go_simp
                go_at_call 37
                refine (read_any base g l s _ kx nx bx HRW.out Hok.out hl Hnx.out).mono ?_
                rw [Hrs.out]
                rintro e w3 ⟨hR3, hg3, hor⟩
                rcases hor with ⟨h0, _⟩ | ⟨_, hx⟩
                · exact absurd h0 Hz2.out
                unfold spotPanic spotV at hx
                subst hx
                have HO3 := Blk.grown (Blk.drew HOW.out) hg3 (fun e => by injection e with e; omega)
                have HF3 := Blk.grown (Blk.drew HFW.out) hg3 (fun e => by injection e with e; omega)
                have Hb3 : Below w.heap.size w w3 := (Hbr.out.trans (HbA.out.drew.mono Hbr.out.size)).grown hg3 (Nat.le_trans Hbr.out.size HbA.out.size) (fun k hk => by simp only [Option.some.injEq] at hk; omega)
                clear hR3 hg3 hK
                dsimp only
                go_wp2
                exact scan_bad rfl rfl HO3 HF3 Hb3 HEnd.out
          · go_simp
            refine hK _ _ ?_
            clear hK K
            refine wpAny_ready (rs := [0, 3]) (by kernel_rfl) (by simp) ?_
            refine AllReady.cons rfl (fun K hK => ?_) (AllReady.cons rfl (fun K hK => ?_) AllReady.nil)
            · go_simp
              refine hK _ _ ?_
              clear hK K
              refine wpAny_ready (rs := [3]) (by kernel_rfl) (by simp) ?_
              refine AllReady.cons rfl (fun K hK => ?_) AllReady.nil
              · go_simp
                go_at_call 37
                refine (read_any base g l s _ kx nx bx HRW.out Hok.out hl Hnx.out).mono ?_
                rw [Hrs.out]
                rintro e w3 ⟨hR3, hg3, hor⟩
                rcases hor with ⟨h0, _⟩ | ⟨_, hx⟩
                · exact absurd h0 Hz2.out
                unfold spotPanic spotV at hx
                subst hx
                have HO3 := Blk.grown (Blk.drew HOW.out) hg3 (fun e => by injection e with e; omega)
                have HF3 := Blk.grown (Blk.drew HFW.out) hg3 (fun e => by injection e with e; omega)
                have Hb3 : Below w.heap.size w w3 := (Hbr.out.trans (HbA.out.drew.mono Hbr.out.size)).grown hg3 (Nat.le_trans Hbr.out.size HbA.out.size) (fun k hk => by simp only [Option.some.injEq] at hk; omega)
                clear hR3 hg3 hK
                dsimp only
                go_wp2
                exact scan_bad rfl rfl HO3 HF3 Hb3 HEnd.out
            · go_simp
              go_at_call 37
              refine (read_any base g l s _ kx nx bx HRW.out Hok.out hl Hnx.out).mono ?_
              rw [Hrs.out]
              rintro e w3 ⟨hR3, hg3, hor⟩
              rcases hor with ⟨h0, _⟩ | ⟨_, hx⟩
              · exact absurd h0 Hz2.out
              unfold spotPanic spotV at hx
              subst hx
              have HO3 := Blk.grown (Blk.drew HOW.out) hg3 (fun e => by injection e with e; omega)
              have HF3 := Blk.grown (Blk.drew HFW.out) hg3 (fun e => by injection e with e; omega)
              have Hb3 : Below w.heap.size w w3 := (Hbr.out.trans (HbA.out.drew.mono Hbr.out.size)).grown hg3 (Nat.le_trans Hbr.out.size HbA.out.size) (fun k hk => by simp only [Option.some.injEq] at hk; omega)
              clear hR3 hg3 hK
              dsimp only
              go_wp2
              exact scan_bad rfl rfl HO3 HF3 Hb3 HEnd.out
        -- ENDBAD
    · obtain rfl : k = plan.length := by omega
      have hkI : ¬ (plan.length : Int) < (plan.length : Int) := by omega
      have hS2 : scanGo l s acc [] = scanS l plan := by rw [← HS, List.drop_length]
      rcases hes : endS l s with ⟨a2, f2, e2⟩
      have Hes := Lib.hid hes
      have Hok := Lib.hid Hok
      have HRr := Lib.hid HRr
      have HOr := Lib.hid HOr
      have HFr := Lib.hid HFr
      have HPO := Lib.hid HPO
      have Hbr := Lib.hid Hbr
      have Hacc := Lib.hid hacc
      have HS2 := Lib.hid hS2
      clear hes hacc HS hS2
      by_cases hz2 : e2 = 0
      · subst hz2
        have HE : Hid (scanS l plan = (acc, 0, 0)) := by
          show _ = _
          rw [← HS2.out]
          unfold scanGo
          rw [Hes.out, if_pos rfl]
        go_wp2_with fail
        refine (rdEnd_any base g l s wr HRr.out Hok.out hl).mono ?_
        rw [Hes.out]
        rintro e w3 ⟨rfl, hR3, hg3⟩
        go_wp2_with fail
        refine (check_ok base g l _ _ hR3 rfl).mono ?_
        rintro e w5 ⟨rfl, rfl⟩
        have hO3 := Blk.grown HOr.out hg3 (fun e => by injection e with e; omega)
        have hF3 := Blk.grown HFr.out hg3 (fun e => by injection e with e; omega)
        have hP3 := HPO.out.rd HRr.out hg3
        have hb3 : Below w.heap.size w w3 := Hbr.out.grown hg3 Hbr.out.size (fun k hk => by simp only [Option.some.injEq] at hk; omega)
        have o0 : w3.cell? ⟨w.heap.size, 0, none⟩ = some (.slice A' acc.length c') := hO3.cell 0
        have c0 : w3.cell? ⟨w.heap.size + 1, 0, none⟩ = some (.int .i64 0) := hF3.cell 0
        have c1 : w3.cell? ⟨w.heap.size + 1, 1, none⟩ = some (.int .i64 0) := hF3.cell 1
        have f0 := hO3.frozen 0
        have g0 := fun i => hF3.frozen i
        have HO3 := Lib.hid hO3
        have HF3 := Lib.hid hF3
        have HP3 := Lib.hid hP3
        have Hb3 := Lib.hid hb3
        clear hR3 hg3 hO3 hF3 hP3 hb3
        go_wp2
        rw [HE.out]
        have k1 := grownSet w3 ⟨w.heap.size, 0, none⟩ (.slice A' acc.length c')
        have k2 := grownTrans (grownSet (w3.setCell ⟨w.heap.size, 0, none⟩ (.slice A' acc.length c')) ⟨w.heap.size + 1, 0, none⟩ (.int .i64 0)) (grownSet _ ⟨w.heap.size + 1, 1, none⟩ (.int .i64 0))
        have hO4 := Blk.set_ HO3.out 0 (.slice A' acc.length c')
        have hF4 := Blk.far HF3.out (p := ⟨w.heap.size, 0, none⟩) (by simp) (.slice A' acc.length c')
        have hP4 := HP3.out.keep fun he ho => ho.kept k1 (own_blk_ne ho HO3.out (by rcases he with rfl | rfl <;> decide))
        have hP5 := hP4.keep fun he ho => ho.kept k2 (own_blk_ne ho hF4 (by rcases he with rfl | rfl <;> decide))
        have hF5 := Blk.set_ (Blk.set_ hF4 0 (.int .i64 0)) 1 (.int .i64 0)
        have hO5 := Blk.far (Blk.far hO4 (p := ⟨w.heap.size + 1, 0, none⟩) (by simp) (.int .i64 0)) (p := ⟨w.heap.size + 1, 1, none⟩) (by simp) (.int .i64 0)
        exact scan_good (r := (acc, 0, 0)) rfl rfl hO5 hF5 (((Hb3.out.setCell (Nat.le_refl _) _).setCell (Nat.le_succ _) _).setCell (Nat.le_succ _) _) rfl rfl rfl hP5
      · have HE : Hid (scanS l plan = ([], f2, e2)) := by
          show _ = _
          rw [← HS2.out]
          unfold scanGo
          rw [Hes.out, if_neg hz2]
        have Hz3 : Hid (e2 ≠ 0) := hz2
        clear hz2
        go_wp2_with fail
        refine (rdEnd_any base g l s wr HRr.out Hok.out hl).mono ?_
        rw [Hes.out]
        rintro e w3 ⟨rfl, hR3, hg3⟩
        go_wp2_with fail
        refine (check_bad base g l _ _ hR3 Hz3.out).mono ?_
        rintro e w5 ⟨hx, rfl⟩
        unfold spotPanic spotV at hx
        subst hx
        have hO3 := Blk.grown HOr.out hg3 (fun e => by injection e with e; omega)
        have hF3 := Blk.grown HFr.out hg3 (fun e => by injection e with e; omega)
        have hb3 : Below w.heap.size w w3 := Hbr.out.grown hg3 Hbr.out.size (fun k hk => by simp only [Option.some.injEq] at hk; omega)
        dsimp only
        go_wp2
        exact scan_bad (s2 := (a2, f2, e2)) rfl rfl hO3 hF3 hb3 HE.out
end Go.Proofs.Ytpeknjbcjpdmnab
