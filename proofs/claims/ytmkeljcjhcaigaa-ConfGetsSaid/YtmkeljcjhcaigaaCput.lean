/- conf.Put (printed by gen_cput.py). -/
import Derived.Test.YtmkeljcjhcaigaaConfV
import Derived.Test.YtmkeljcjhcaigaaConfR
import Derived.Test.YtmkeljcjhcaigaaKE
import Derived.Deep.LoopGhost
namespace Go.Proofs.Ytmkeljcjhcaigaa
open Go.RowKit
set_option linter.unusedVariables false
set_option linter.unusedSimpArgs false

/-- What holds while the bytes of a config are laid: its box, the row of the call's own. -/
def PSt (w wr : World) (g : Nat) (cfg : Array Value) (A : Option Addr) (c : Nat) (m : List UInt8) : Prop :=
  Blk wr g 29 cfg ∧ wr.ownsRow w.heap.size 5 1 (.slice A m.length c) m.length (bcells m) ∧ Below w.heap.size w wr
section
variable {w wr w' : World} {g : Nat} {cfg : Array Value} {A A' : Option Addr} {c c' : Nat} {m m' : List UInt8}
theorem PSt.below (h : PSt w wr g cfg A c m) (hb : Below wr.heap.size wr w') : PSt w w' g cfg A c m :=
  ⟨Blk.below h.1 hb h.1.lt, own_below h.2.1 hb, h.2.2.trans (hb.mono h.2.2.size)⟩
theorem PSt.alloc (h : PSt w wr g cfg A c m) (o : Obj) : PSt w (wr.alloc o) g cfg A c m := h.below ((Below.refl _ _).alloc (Nat.le_refl _) o)
theorem PSt.ne (h : PSt w wr g cfg A c m) : some g ≠ (Value.slice A m.length c).ownBlock := by
  rcases own_blk_ne h.2.1 h.1 (by decide) with h1 | h1
  · rw [h1]; simp
  · exact fun e => h1 e.symm
theorem PSt.ne0 (h : PSt w wr g cfg A c m) : (Value.slice A 0 0).ownBlock ≠ some g := by
  rw [← own_flatN A m.length c]; exact fun e => h.ne e.symm
/-- A block that is new since the row was laid is not its own. -/
theorem PSt.neNew (h : PSt w wr g cfg A c m) : (Value.slice A 0 0).ownBlock ≠ some wr.heap.size := by
  rw [← own_flatN A m.length c]
  intro e
  have := (h.2.1.lt _ e).2
  omega
theorem PSt.grow (h : PSt w wr g cfg A c m) (hg : wr.grownBy w' (Value.slice A m.length c).ownBlock) (hown : w'.ownsRow w.heap.size 5 1 (.slice A' m'.length c') m'.length (bcells m')) : PSt w w' g cfg A' c' m' :=
  ⟨Blk.grown h.1 hg h.ne, hown, h.2.2.grown hg h.2.2.size (fun k hk => (h.2.1.lt k hk).1)⟩
theorem PSt.grow0 (h : PSt w wr g cfg A c m) (hg : wr.grownBy w' (Value.slice A 0 0).ownBlock) (hown : w'.ownsRow w.heap.size 5 1 (.slice A' m'.length c') m'.length (bcells m')) : PSt w w' g cfg A' c' m' :=
  h.grow (by rw [own_flatN]; exact hg) hown
end
/-- The cells of a new row of numbers. -/
theorem NS.lit (w : World) (ns : List Nat) (cs : Array Value) (h : cs = (ns.map fun n : Nat => Value.int .i64 (n : Int)).toArray) (t : TypeId) : NS (w.alloc (.cells cs t)) ⟨w.heap.size, 0, none⟩ ns := fun j n hj => by
  subst h
  rw [show (⟨w.heap.size, 0, none⟩ : Addr).add j = ⟨w.heap.size, j, none⟩ by unfold Addr.add; split <;> simp_all, cell_of_row _ _ j _ t (0, 0) (heap_alloc_new w _)]
  simp [hj]
theorem conf_size : (Try.prog.info? 29).map (·.size) = some 54 := by kernel_rfl
theorem vipB_le {v : VipP} (h : addrOk v.1) : (vipBytes v).length ≤ 21 := by
  have hl : v.1.2.length = 16 := h
  unfold vipBytes putAddrS
  split <;> simp <;> omega
theorem vipsB_le : ∀ (vs : List VipP), (∀ v ∈ vs, addrOk v.1) → (vs.flatMap vipBytes).length ≤ 21 * vs.length
  | [], _ => by simp
  | v :: vs, h => by
    have h1 := vipB_le (h v (by simp))
    have h2 := vipsB_le vs (fun u hu => h u (by simp [hu]))
    rw [List.flatMap_cons, List.length_append, List.length_cons]
    omega
theorem flat_take (vs : List VipP) (k : Nat) (v : VipP) (h : vs[k]? = some v) : (vs.take (k + 1)).flatMap vipBytes = (vs.take k).flatMap vipBytes ++ vipBytes v := by
  rw [List.take_add_one, h]
  simp

set_option maxHeartbeats 4000000 in
set_option maxRecDepth 100000 in
theorem put_cany (A : Option Addr) (n c : Nat) (f : ConfP) (hf : ConfShape f) (w : World) (hn : n = f.vips.length) (hnc : n ≤ c) (hb : VS w w.heap.size A f.vips) (hl : n ≤ 1000000) :
    Calls Try.prog 20 #[confV A n c f] w fun e w' => Below w.heap.size w w' ∧
      (rightB f = false → e = .returned (.tuple #[.slice none 0 0, .int .i64 1])) ∧
      (rightB f = true → ∃ A' c', e = .returned (.tuple #[.slice A' (confPutS f).length c', .int .i64 0]) ∧ w'.ownsRow w.heap.size 5 1 (.slice A' (confPutS f).length c') (confPutS f).length (bcells (confPutS f))) := by
  subst hn
  unfold confV
  obtain ⟨i0, hi0, hz0, hz1, hz2⟩ := info_parts u8_infoO
  obtain ⟨W, hW⟩ : ∃ W, W = w.alloc (.cells (confCs A f.vips.length c f).toArray 29) := ⟨_, rfl⟩
  have hX : Blk W w.heap.size 29 (confCs A f.vips.length c f).toArray := by rw [hW]; exact Blk.new w _ _ _ rfl
  have hB : Below w.heap.size w W := by rw [hW]; exact (Below.refl _ _).alloc (Nat.le_refl _) _
  have hright := right_any A _ c f hf W rfl hnc ((hb.below hB).more hB.size) hl
  unfold confV at hright
  have Hright := Lib.hid hright
  have HRc := Lib.hid (blk_range hX)
  have HW := Lib.hid hW
  have HX := Lib.hid hX
  have HB := Lib.hid hB
  have HV := Lib.hid hb
  have Hcsz : Hid ((Try.prog.info? 29).map (·.size) = some (confCs A f.vips.length c f).length) := by show _ = _; rw [conf_len hf]; exact conf_size
  clear hW hX hB hb hright
  rcases hr : rightB f with _ | _
  · rw [hr] at Hright
    clear hr
    go_enter Try.func20, Try.ntmps20
    go_upto_region 1 with fail
    rw [← HW.out]
    go_wp2_with (first
      | ((with_reducible refine gateL 29 ?_); refine wpList_load_g (by rfl) 29 (.tmp 1) rfl w.heap.size 0 rfl (confCs A f.vips.length c f) _ HRc.out Try.underlying29 rfl Hcsz.out ?_))
    refine Hright.out.mono ?_
    rintro e w2 ⟨rfl, hb2⟩
    go_wp2
    go_ret2
    exact ⟨HB.out.trans (hb2.mono HB.out.size), fun _ => rfl, fun h => by cases h⟩
  · rw [hr] at Hright
    have hrc := rightB_iff.1 hr
    have Hrc := Lib.hid hrc
    have hv64 := (vipsB_all hrc.vips).1
    have hvR : Hid (∀ v ∈ f.vips, vipR v = true) := (vipsB_all hrc.vips).2
    have Hr := Lib.hid hr
    clear hr hrc
    go_enter Try.func20, Try.ntmps20
    go_upto_region 1 with fail
    rw [← HW.out]
    go_wp2_with (first
      | ((with_reducible refine gateL 29 ?_); refine wpList_load_g (by rfl) 29 (.tmp 1) rfl w.heap.size 0 rfl (confCs A f.vips.length c f) _ HRc.out Try.underlying29 rfl Hcsz.out ?_))
    refine Hright.out.mono ?_
    rintro e w2 ⟨rfl, hb2⟩
    have h0 : PSt w w2 w.heap.size (confCs A f.vips.length c f).toArray none 0 [] := ⟨Blk.below HX.out hb2 HX.out.lt, World.ownsRow_nil _ _ _ _, HB.out.trans (hb2.mono HB.out.size)⟩
    have c0 := cf_c0 h0.1
    have H0 := Lib.hid h0
    clear h0 hb2 Hright HRc HX HB HW
    go_wp2_with fail
    obtain ⟨W3, hW3⟩ : ∃ W3, W3 = w2.alloc (.cells #[.int .i64 (f.vips.length : Int)] 3) := ⟨_, rfl⟩
    rw [← hW3]
    have h3 : PSt w W3 w.heap.size (confCs A f.vips.length c f).toArray none 0 [] := by rw [hW3]; exact H0.out.alloc _
    have hns : NS W3 ⟨w2.heap.size, 0, none⟩ [f.vips.length] := by rw [hW3]; exact NS.lit w2 _ _ rfl _
    have hlt : w2.heap.size < W3.heap.size := by rw [hW3]; simp
    refine (numbers_own w.heap.size none 0 [] ⟨w2.heap.size, 0, none⟩ 1 1 [f.vips.length] W3 rfl h3.2.1 hns hlt (by simp [Value.ownBlock]) (by intro n hn; simp at hn; omega) (by simp) (by simp) h3.2.2.size).mono ?_
    rintro e w4 ⟨A4, c4, rfl, hown4, _, hg4⟩
    have h4 := h3.grow0 hg4 hown4
    obtain ⟨m0, hm0⟩ : ∃ m0, m0 = ([] : List UInt8) ++ vputs [f.vips.length] := ⟨_, rfl⟩
    rw [← hm0] at h4 ⊢
    have hm0l : m0.length ≤ 10 := by
      rw [hm0]
      have := vputs_le (ns := [f.vips.length]) (by intro n hn; simp at hn; omega)
      simpa using this
    have Hm0 : Hid (m0 = vput f.vips.length) := by show _ = _; rw [hm0]; simp [vputs]
    have H4 := Lib.hid h4
    have c4' := cf_c0 h4.1
    clear h3 hns hlt hown4 hg4 h4 hW3 H0 c0 hm0
    go_wp2_with fail
    clear c4'
    go_loopw [4, 19] (fun v i wr => ∃ (k : Nat) (A' : Option Addr) (c' : Nat), k ≤ f.vips.length ∧ i = .int .i64 (k : Int) ∧ v = .slice A' (m0 ++ (f.vips.take k).flatMap vipBytes).length c' ∧ Hid (PSt w wr w.heap.size (confCs A f.vips.length c f).toArray A' c' (m0 ++ (f.vips.take k).flatMap vipBytes))) (fun _ i _ => f.vips.length - (intOf i).toNat)
    case atStart => exact ⟨0, A4, c4, by omega, rfl, by simp, by have := H4; simpa using this⟩
    case round =>
      obtain ⟨k, A', c', hk, rfl, rfl, hat⟩ := hrel
      by_cases hlt : k < f.vips.length
      · have hltI : (k : Int) < (f.vips.length : Int) := by omega
        have hk0 : (0 : Int) ≤ (k : Int) := by omega
        obtain ⟨b, o, hA, hbB, hc⟩ := (HV.out.below hat.out.2.2) (by omega)
        subst hA
        obtain ⟨x, hx⟩ : ∃ x, x = f.vips[k] := ⟨_, rfl⟩
        have hx? : f.vips[k]? = some x := by rw [List.getElem?_eq_getElem hlt, hx]
        have hrg := hc k x hx?
        have hxo : addrOk x.1 := hf.vips x (by rw [hx]; exact List.getElem_mem hlt)
        have hxr : vipR x = true := hvR.out x (by rw [hx]; exact List.getElem_mem hlt)
        obtain ⟨m, hm⟩ : ∃ m, m = m0 ++ (f.vips.take k).flatMap vipBytes := ⟨_, rfl⟩
        have hm2 : m0 ++ (f.vips.take (k + 1)).flatMap vipBytes = m ++ vipBytes x := by rw [flat_take _ _ _ hx?, ← List.append_assoc, ← hm]
        have hml : m.length ≤ 1400 := by
          have := vipsB_le (f.vips.take k) (fun v hv => hf.vips v (List.mem_of_mem_take hv))
          rw [hm, List.length_append]
          rw [List.length_take] at this
          omega
        rw [← hm] at hat ⊢
        have Hm2 := Lib.hid hm2
        have Hrg := Lib.hid hrg
        have Hsz := Lib.hid (vip_sz hxo)
        have Hasz := Lib.hid (addr_sz hxo)
        have Hxr := Lib.hid hxr
        clear hc hrg hx hx? hm hm2 hxr
        have hszr : w.heap.size ≤ wr.heap.size := hat.out.2.2.size
        obtain ⟨W0, hW0⟩ : ∃ W0, W0 = wr.alloc (.cells (vipCs vip0).toArray 33) := ⟨_, rfl⟩
        have hX0 : Blk W0 wr.heap.size 33 (vipCs vip0).toArray := by rw [hW0]; exact Blk.new _ _ _ _ rfl
        have Hth : Hid (W0.there wr.heap.size 0 (vipCs x).toArray.size) := hX0.there (by rw [vip0_lit, List.size_toArray, vipCs_length hxo]; decide)
        have HW0 := Lib.hid hW0
        have HX0 := Lib.hid hX0
        clear hW0 hX0
        rw [vip0_lit] at HW0
        go_upto_region 7 with (first
          | ((with_reducible refine gateL 33 ?_); refine wpList_load_g (by rfl) 33 (.tmp 21) rfl b (o + k * 20) rfl (vipCs x) _ Hrg.out Try.underlying33 rfl Hsz.out ?_)
          | (rw [← HW0.out]
             (with_reducible refine gateS 33 ?_)
             refine wpList_store_mid rfl 33 (.tmp 6) (.tmp 22) rfl wr.heap.size 0 (vipCs x).toArray rfl rfl Hth.out Hsz.out (vip_one x) ?_))
        obtain ⟨W1, hW1⟩ : ∃ W1, W1 = W0.setCells wr.heap.size 0 (vipCs x) := ⟨_, rfl⟩
        have hX1 : Blk W1 wr.heap.size 33 (vipCs x).toArray := by
          rw [hW1]
          have := Blk.setCells (vipCs x) 0 HX0.out
          rw [setL_whole (by rw [vipCs_length hxo]; rfl)] at this
          exact this
        have hbW : Below wr.heap.size wr W1 := by rw [hW1, HW0.out]; exact below_setCells (Nat.le_refl _) _ _ ((Below.refl _ _).alloc (Nat.le_refl _) _)
        have h1 := hat.out.below hbW
        rw [← hW1]
        have c17 : W1.cell? ⟨wr.heap.size, 17, none⟩ = some (.int .i64 x.2.1) := vip_blk_at hxo hX1 0
        have c18 : W1.cell? ⟨wr.heap.size, 18, none⟩ = some (.int .i64 x.2.2.1) := vip_blk_at hxo hX1 1
        have c19 : W1.cell? ⟨wr.heap.size, 19, none⟩ = some (.bool x.2.2.2) := vip_blk_at hxo hX1 2
        have hput := putAddr_any x.1 hxo W1
        unfold addrV at hput
        have Hput := Lib.hid hput
        have H1 := Lib.hid h1
        have HX1 := Lib.hid hX1
        have HR1 := Lib.hid (vip_blk_range hX1)
        clear hW1 hX1 hbW h1 hput Hth HX0 HW0 Hrg hat
        rcases htun : x.2.2.2 with _ | _
        all_goals
          rw [htun] at c19
          have Htun := Lib.hid htun
          clear htun
          go_wp2_with (first
            | ((with_reducible refine gateL 27 ?_); refine wpList_load_g (by rfl) 27 (.tmp 26) rfl wr.heap.size 0 rfl (addrCs x.1) _ HR1.out Try.underlying27 rfl Hasz.out ?_))
          refine Hput.out.mono ?_
          rintro e w5 ⟨A2, c2, rfl, hown2, hb2⟩
          have h2 := H1.out.below hb2
          have hX2 := Blk.below HX1.out hb2 HX1.out.lt
          have hsz2 := h2.2.2.size
          have hml2 : m.length + (putAddrS x.1).length ≤ 1440 := by
            have hl16 : x.1.2.length = 16 := hxo
            unfold putAddrS
            split <;> simp <;> omega
          have Hown := Lib.hid h2.2.1
          have HB2 := Lib.hid (BS.of_own hown2).1
          have H2 := Lib.hid h2
          have HX2 := Lib.hid hX2
          clear hown2 hb2 h2 hX2 c17 c18 c19 Hput H1 HX1 HR1
          go_upto_region 11 with (at_builtin; refine wpList_append_bytes _ rfl _ _ 40 rfl w.heap.size 5 i0 (.int .u8 0) 1 Try.underlying40 hi0 hz0 hz1 hz2 rfl (.slice A' m.length c') m rfl Hown.out _ A2 _ c2 (putAddrS x.1) rfl rfl HB2.out (by unfold maxLen; omega) (by omega) hsz2 ?_; intro A6 c6 w6 hown6 hg6 hob6)
          have h3 := H2.out.grow hg6 hown6
          have hX3 := Blk.grown HX2.out hg6 (by
            rcases own_blk_ne H2.out.2.1 HX2.out (by decide) with h | h
            · rw [h]; simp
            · exact fun e => h e.symm)
          have c17 : w6.cell? ⟨wr.heap.size, 17, none⟩ = some (.int .i64 x.2.1) := vip_blk_at hxo hX3 0
          have c18 : w6.cell? ⟨wr.heap.size, 18, none⟩ = some (.int .i64 x.2.2.1) := vip_blk_at hxo hX3 1
          have H3 := Lib.hid h3
          have hsz3 := h3.2.2.size
          clear h3 hX3 hown6 hg6 hob6 H2 HX2 Hown HB2
          obtain ⟨m1, hm1⟩ : ∃ m1, m1 = m ++ putAddrS x.1 := ⟨_, rfl⟩
          have hm1l : m1.length ≤ 1440 := by rw [hm1, List.length_append]; exact hml2
          rw [← hm1] at H3
          rw [← List.length_append, ← hm1]
          have hp0 : 0 ≤ x.2.1 ∧ x.2.1 ≤ 17 := by
            have := Hxr.out
            simp only [vipR, Bool.and_eq_true, Bool.or_eq_true, beq_iff_eq] at this
            omega
          have hq0 : 1 ≤ x.2.2.1 ∧ x.2.2.1 ≤ 65535 := by
            have := Hxr.out
            simp only [vipR, Bool.and_eq_true, inB_iff] at this
            exact this.2
          have hu1 : x.2.1 % 256 = ((UInt8.ofNat x.2.1.toNat).toNat : Int) := by rw [UInt8.toNat_ofNat']; omega
          have hu2 : x.2.2.1 / 256 % 256 = ((UInt8.ofNat (x.2.2.1.toNat / 256)).toNat : Int) := by rw [UInt8.toNat_ofNat']; omega
          have hu3 : x.2.2.1 % 256 = ((UInt8.ofNat x.2.2.1.toNat).toNat : Int) := by rw [UInt8.toNat_ofNat']; omega
          obtain ⟨L4, hL4⟩ : ∃ L4, L4 = [UInt8.ofNat x.2.1.toNat, UInt8.ofNat (x.2.2.1.toNat / 256), UInt8.ofNat x.2.2.1.toNat, if x.2.2.2 then 1 else 0] := ⟨_, rfl⟩
          have hL4l : L4.length = 4 := by rw [hL4]; rfl
          have Hcs : Hid (#[.int .u8 (x.2.1 % 256), .int .u8 (x.2.2.1 / 256 % 256), .int .u8 (x.2.2.1 % 256), .int .u8 (if x.2.2.2 then 1 else 0)] = (bcells L4).toArray) := by
            show _ = _
            rw [hu1, hu2, hu3, hL4, Htun.out]
            rfl
          rw [Htun.out] at Hcs
          simp only [reduceIte, Bool.false_eq_true] at Hcs
          have HM : Hid (m ++ vipBytes x = m1 ++ L4) := by show _ = _; rw [hm1, hL4, List.append_assoc]; rfl
          have HL4l := Lib.hid hL4l
          clear hu1 hu2 hu3 hL4 hm1 hL4l hp0 hq0
          go_wp2_with (at_builtin; refine wpList_append_bytes _ rfl _ _ 40 rfl w.heap.size 5 i0 (.int .u8 0) 1 Try.underlying40 hi0 hz0 hz1 hz2 rfl (.slice A6 m1.length c6) m1 rfl (own_below H3.out.2.1 ((Below.refl _ _).alloc (Nat.le_refl _) _)) _ (some ⟨w6.heap.size, 0, none⟩) 4 4 L4 rfl HL4l.out.symm (BS.lit w6 L4 _ Hcs.out _ _) (by rw [HL4l.out]; unfold maxLen; omega) (by rw [HL4l.out]; omega) (by rw [show (w6.alloc _).heap.size = w6.heap.size + 1 by simp]; omega) ?_; intro A7 c7 w7 hown7 hg7 hob7)
          have h7 := (H3.out.alloc _).grow hg7 hown7
          rw [← HM.out, ← Hm2.out] at h7
          have H7 := Lib.hid h7
          have Hlen : Hid ((m0 ++ (f.vips.take (k + 1)).flatMap vipBytes).length = m1.length + L4.length) := by show _ = _; rw [Hm2.out, HM.out, List.length_append]
          clear h7 hown7 hg7 hob7 H3 c17 c18
          go_roundw
          case rel => exact ⟨k + 1, A7, c7, by omega, by go_num, by rw [Hlen.out], H7⟩
          case measure => simp [intOf]; omega
      · have hltI : ¬ (k : Int) < (f.vips.length : Int) := by omega
        have hkn : f.vips.take k = f.vips := List.take_of_length_le (by omega)
        rw [hkn] at hat ⊢
        obtain ⟨m, hm⟩ : ∃ m, m = m0 ++ f.vips.flatMap vipBytes := ⟨_, rfl⟩
        have hml : m.length ≤ 1400 := by
          have := vipsB_le f.vips hf.vips
          rw [hm, List.length_append]
          omega
        rw [← hm] at hat ⊢
        have Hm : Hid (m = vput f.vips.length ++ f.vips.flatMap vipBytes) := by show _ = _; rw [hm, Hm0.out]
        clear hm hkn
        obtain ⟨x4, hx4⟩ : ∃ x4, x4 = f.four.2.take 4 := ⟨_, rfl⟩
        have hx4l : x4.length = 4 := by have : f.four.2.length = 16 := hf.four; rw [hx4]; simp [this]
        have h6l : f.six.2.length = 16 := hf.six
        have hmac6 : f.mac.length = 6 := hf.mac
        obtain ⟨is, his⟩ : ∃ is, is = (f.idle.drop 1).map Int.toNat := ⟨_, rfl⟩
        have hisl : is.length = 5 := by rw [his]; simp [hf.idle]
        obtain ⟨n1, hn1⟩ : ∃ n1, n1 = f.size.toNat := ⟨_, rfl⟩
        obtain ⟨n2, hn2⟩ : ∃ n2, n2 = f.room.toNat := ⟨_, rfl⟩
        obtain ⟨n3, hn3⟩ : ∃ n3, n3 = f.rise.toNat := ⟨_, rfl⟩
        obtain ⟨n4, hn4⟩ : ∃ n4, n4 = f.fall.toNat := ⟨_, rfl⟩
        obtain ⟨n5, hn5⟩ : ∃ n5, n5 = f.most.toNat := ⟨_, rfl⟩
        obtain ⟨n6, hn6⟩ : ∃ n6, n6 = f.keep.toNat := ⟨_, rfl⟩
        obtain ⟨n7, hn7⟩ : ∃ n7, n7 = f.batch.toNat := ⟨_, rfl⟩
        have hr := Hrc.out
        have hr1 := hr.size; have hr2 := hr.room; have hr3 := hr.rise; have hr4 := hr.fall; have hr5 := hr.most; have hr6 := hr.keep; have hr7 := hr.batch
        have hb1 : n1 ≤ 1048577 := by omega
        have hb2 : n2 ≤ 1048577 := by omega
        have hb3 : n3 ≤ 1048577 := by omega
        have hb4 : n4 ≤ 1048577 := by omega
        have hb5 : n5 ≤ 1048577 := by omega
        have hb6 : n6 ≤ 1048577 := by omega
        have hb7 : n7 ≤ 1048577 := by omega
        have his64 : Hid (∀ n ∈ is, n < 9223372036854775808) := fun n hn => by
          rw [his, List.mem_map] at hn
          obtain ⟨z, hz, rfl⟩ := hn
          have := (idleB_all hr.idle).2 z (List.mem_of_mem_drop hz)
          omega
        have HI : Hid (∀ w', Blk w' w.heap.size 29 (confCs A f.vips.length c f).toArray → NS w' ⟨w.heap.size, 4, none⟩ is) := fun w' h j n hj => by
          rw [show (⟨w.heap.size, 4, none⟩ : Addr).add j = ⟨w.heap.size, 3 + (1 + j), none⟩ by unfold Addr.add; split <;> simp_all <;> omega]
          have hj5 : j < 5 := by rw [← hisl]; exact (List.getElem?_eq_some_iff.1 hj).1
          rw [cf_idle h hf (by omega)]
          rw [his, List.getElem?_map, List.getElem?_drop] at hj
          rcases hz : f.idle[1 + j]? with _ | z
          · rw [hz] at hj; cases hj
          · rw [hz] at hj
            simp only [Option.map_some, Option.some.injEq] at hj ⊢
            have := (idleB_all hr.idle).2 z (List.mem_of_getElem? hz)
            rw [← hj, iv, Int.toNat_of_nonneg this.1]
        have HC : Hid (∀ w', Blk w' w.heap.size 29 (confCs A f.vips.length c f).toArray → w'.cell? ⟨w.heap.size, 1, none⟩ = some (.int .i64 (n1 : Int)) ∧ w'.cell? ⟨w.heap.size, 2, none⟩ = some (.int .i64 (n2 : Int)) ∧ w'.cell? ⟨w.heap.size, 9, none⟩ = some (.int .i64 (n3 : Int)) ∧ w'.cell? ⟨w.heap.size, 10, none⟩ = some (.int .i64 (n4 : Int)) ∧ w'.cell? ⟨w.heap.size, 51, none⟩ = some (.int .i64 (n5 : Int)) ∧ w'.cell? ⟨w.heap.size, 52, none⟩ = some (.int .i64 (n6 : Int)) ∧ w'.cell? ⟨w.heap.size, 53, none⟩ = some (.int .i64 (n7 : Int))) := fun w' h => by
          have e1 : ((n1 : Nat) : Int) = f.size := by omega
          have e2 : ((n2 : Nat) : Int) = f.room := by omega
          have e3 : ((n3 : Nat) : Int) = f.rise := by omega
          have e4 : ((n4 : Nat) : Int) = f.fall := by omega
          have e5 : ((n5 : Nat) : Int) = f.most := by omega
          have e6 : ((n6 : Nat) : Int) = f.keep := by omega
          have e7 : ((n7 : Nat) : Int) = f.batch := by omega
          rw [e1, e2, e3, e4, e5, e6, e7]
          exact ⟨cf_size h, cf_room h, cf_rise h hf, cf_fall h hf, cf_most h hf, cf_keep h hf, cf_batch h hf⟩
        have HBs : Hid (∀ w', Blk w' w.heap.size 29 (confCs A f.vips.length c f).toArray → BS w' w'.heap.size (some ⟨w.heap.size, 11, none⟩) f.mac ∧ BS w' w'.heap.size (some ⟨w.heap.size, 18, none⟩) x4 ∧ BS w' w'.heap.size (some ⟨w.heap.size, 35, none⟩) f.six.2) := fun w' h => by
          have hadd : ∀ (o j : Nat), (⟨w.heap.size, o, none⟩ : Addr).add j = ⟨w.heap.size, o + j, none⟩ := fun o j => by unfold Addr.add; split <;> simp_all
          refine ⟨fun hp => ⟨_, rfl, h.lt, fun j u hj => ?_⟩, ?_, fun hp => ⟨_, rfl, h.lt, fun j u hj => ?_⟩⟩
          · rw [hadd]
            have := cf_macs h hf j (u8v u) (by rw [bcells, List.getElem?_map, hj]; rfl)
            exact this
          · rw [hx4]
            refine BS.take (fun hp => ⟨_, rfl, h.lt, fun j u hj => ?_⟩) 4
            rw [hadd]
            have := cf_four h hf (1 + j) (u8v u) (by rw [addrCs, show 1 + j = j + 1 by omega, List.getElem?_cons_succ, bcells, List.getElem?_map, hj]; rfl)
            rw [show 18 + j = 17 + (1 + j) by omega]
            exact this
          · rw [hadd]
            have := cf_six h hf (1 + j) (u8v u) (by rw [addrCs, show 1 + j = j + 1 by omega, List.getElem?_cons_succ, bcells, List.getElem?_map, hj]; rfl)
            rw [show 35 + j = 34 + (1 + j) by omega]
            exact this
        have HCN : Hid (confNums f = [n1, n2] ++ (is ++ [n3, n4])) := by show _ = _; unfold confNums; rw [hn1, hn2, hn3, hn4, his]; rfl
        have HCL : Hid (confLast f = [n5, n6, n7]) := by show _ = _; unfold confLast; rw [hn5, hn6, hn7]
        have Hx4 := Lib.hid hx4
        have Hr4 := Lib.hid hx4l
        have Hr6 := Lib.hid h6l
        have Hrm := Lib.hid hmac6
        have Hisl := Lib.hid hisl
        clear hr hr1 hr2 hr3 hr4 hr5 hr6 hr7 hn1 hn2 hn3 hn4 hn5 hn6 hn7 his hx4 hx4l h6l hmac6 hisl
        have hlen : m.length ≤ 1400 := hml
        obtain ⟨d1, d2, d3, d4, d5, d6, d7⟩ := HC.out _ hat.out.1
        go_wp2_with fail
        obtain ⟨W20, hW20⟩ : ∃ W, W = wr.alloc (.cells #[.int .i64 (n1 : Int), .int .i64 (n2 : Int)] 3) := ⟨_, rfl⟩
        rw [← hW20]
        have h1 : PSt w W20 w.heap.size (confCs A f.vips.length c f).toArray A' c' m := by rw [hW20]; exact hat.out.alloc _
        have hns : NS W20 ⟨wr.heap.size, 0, none⟩ [n1, n2] := by rw [hW20]; exact NS.lit wr _ _ rfl _
        have hlt : wr.heap.size < W20.heap.size := by rw [hW20]; simp
        refine (numbers_own w.heap.size A' c' m ⟨wr.heap.size, 0, none⟩ 2 2 [n1, n2] W20 rfl h1.2.1 hns hlt hat.out.neNew (by intro n hn; simp only [List.mem_cons, List.mem_nil_iff, or_false] at hn; omega) (by omega) (by simp) h1.2.2.size).mono ?_
        rintro e w20 ⟨A20, c20, rfl, hown, _, hg⟩
        have h2 := h1.grow0 hg hown
        obtain ⟨m20, hm20⟩ : ∃ m', m' = m ++ vputs [n1, n2] := ⟨_, rfl⟩
        rw [← hm20] at h2 ⊢
        have hlen20 : m20.length ≤ m.length + 30 := by
          rw [hm20, List.length_append]
          have := vputs_le (ns := [n1, n2]) (by intro n hn; simp only [List.mem_cons, List.mem_nil_iff, or_false] at hn; omega)
          simp only [List.length_cons, List.length_nil] at this
          omega
        have Hm20 := Lib.hid hm20
        have Hs20 := Lib.hid h2
        clear h1 hns hlt hown hg h2 hW20 d1 d2 d3 d4 d5 d6 d7 hat hm20
        go_wp2_with fail
        refine (numbers_own w.heap.size A20 c20 m20 ⟨w.heap.size, 4, none⟩ 5 5 is w20 Hisl.out.symm Hs20.out.2.1 (HI.out _ Hs20.out.1) Hs20.out.1.lt Hs20.out.ne0 his64.out (by omega) (by rw [Hisl.out]; decide) Hs20.out.2.2.size).mono ?_
        rintro e w21 ⟨A21, c21, rfl, hown, _, hg⟩
        have h2 := Hs20.out.grow0 hg hown
        obtain ⟨m21, hm21⟩ : ∃ m', m' = m20 ++ vputs is := ⟨_, rfl⟩
        rw [← hm21] at h2 ⊢
        have hlen21 : m21.length ≤ m20.length + 50 := by
          rw [hm21, List.length_append]
          have := vputs_le (ns := is) (fun n hn => by have := his64.out n hn; omega)
          rw [Hisl.out] at this
          omega
        have Hm21 := Lib.hid hm21
        have Hs21 := Lib.hid h2
        clear hown hg h2 Hs20 hm21
        obtain ⟨d1, d2, d3, d4, d5, d6, d7⟩ := HC.out _ Hs21.out.1
        go_wp2_with fail
        obtain ⟨W22, hW22⟩ : ∃ W, W = w21.alloc (.cells #[.int .i64 (n3 : Int), .int .i64 (n4 : Int)] 3) := ⟨_, rfl⟩
        rw [← hW22]
        have h1 : PSt w W22 w.heap.size (confCs A f.vips.length c f).toArray A21 c21 m21 := by rw [hW22]; exact Hs21.out.alloc _
        have hns : NS W22 ⟨w21.heap.size, 0, none⟩ [n3, n4] := by rw [hW22]; exact NS.lit w21 _ _ rfl _
        have hlt : w21.heap.size < W22.heap.size := by rw [hW22]; simp
        refine (numbers_own w.heap.size A21 c21 m21 ⟨w21.heap.size, 0, none⟩ 2 2 [n3, n4] W22 rfl h1.2.1 hns hlt Hs21.out.neNew (by intro n hn; simp only [List.mem_cons, List.mem_nil_iff, or_false] at hn; omega) (by omega) (by simp) h1.2.2.size).mono ?_
        rintro e w22 ⟨A22, c22, rfl, hown, _, hg⟩
        have h2 := h1.grow0 hg hown
        obtain ⟨m22, hm22⟩ : ∃ m', m' = m21 ++ vputs [n3, n4] := ⟨_, rfl⟩
        rw [← hm22] at h2 ⊢
        have hlen22 : m22.length ≤ m21.length + 30 := by
          rw [hm22, List.length_append]
          have := vputs_le (ns := [n3, n4]) (by intro n hn; simp only [List.mem_cons, List.mem_nil_iff, or_false] at hn; omega)
          simp only [List.length_cons, List.length_nil] at this
          omega
        have Hm22 := Lib.hid hm22
        have Hs22 := Lib.hid h2
        clear h1 hns hlt hown hg h2 hW22 d1 d2 d3 d4 d5 d6 d7 Hs21 hm22
        go_upto_region 17 with ((with_reducible refine gateB .append ?_); refine wpList_append_bytes _ rfl _ _ 40 rfl w.heap.size 5 i0 (.int .u8 0) 1 Try.underlying40 hi0 hz0 hz1 hz2 rfl (.slice A22 m22.length c22) m22 rfl Hs22.out.2.1 _ (some ⟨w.heap.size, 11, none⟩) 6 6 (f.mac) rfl Hrm.out.symm (HBs.out _ Hs22.out.1).1 (by rw [Hrm.out]; unfold maxLen; omega) (by rw [Hrm.out]; omega) Hs22.out.2.2.size ?_; intro A23 c23 w23 hown hg hob)
        have h2 := Hs22.out.grow hg hown
        obtain ⟨m23, hm23⟩ : ∃ m', m' = m22 ++ f.mac := ⟨_, rfl⟩
        rw [← hm23] at h2
        rw [← List.length_append, ← hm23]
        have hlen23 : m23.length ≤ m22.length + 16 := by rw [hm23, List.length_append, Hrm.out]; omega
        have Hm23 := Lib.hid hm23
        have Hs23 := Lib.hid h2
        clear hown hg hob h2 Hs22 hm23
        go_upto_region 18 with ((with_reducible refine gateB .append ?_); refine wpList_append_bytes _ rfl _ _ 40 rfl w.heap.size 5 i0 (.int .u8 0) 1 Try.underlying40 hi0 hz0 hz1 hz2 rfl (.slice A23 m23.length c23) m23 rfl Hs23.out.2.1 _ (some ⟨w.heap.size, 18, none⟩) 4 16 (x4) rfl Hr4.out.symm (HBs.out _ Hs23.out.1).2.1 (by rw [Hr4.out]; unfold maxLen; omega) (by rw [Hr4.out]; omega) Hs23.out.2.2.size ?_; intro A24 c24 w24 hown hg hob)
        have h2 := Hs23.out.grow hg hown
        obtain ⟨m24, hm24⟩ : ∃ m', m' = m23 ++ x4 := ⟨_, rfl⟩
        rw [← hm24] at h2
        rw [← List.length_append, ← hm24]
        have hlen24 : m24.length ≤ m23.length + 16 := by rw [hm24, List.length_append, Hr4.out]; omega
        have Hm24 := Lib.hid hm24
        have Hs24 := Lib.hid h2
        clear hown hg hob h2 Hs23 hm24
        go_upto_region 19 with ((with_reducible refine gateB .append ?_); refine wpList_append_bytes _ rfl _ _ 40 rfl w.heap.size 5 i0 (.int .u8 0) 1 Try.underlying40 hi0 hz0 hz1 hz2 rfl (.slice A24 m24.length c24) m24 rfl Hs24.out.2.1 _ (some ⟨w.heap.size, 35, none⟩) 16 16 (f.six.2) rfl Hr6.out.symm (HBs.out _ Hs24.out.1).2.2 (by rw [Hr6.out]; unfold maxLen; omega) (by rw [Hr6.out]; omega) Hs24.out.2.2.size ?_; intro A25 c25 w25 hown hg hob)
        have h2 := Hs24.out.grow hg hown
        obtain ⟨m25, hm25⟩ : ∃ m', m' = m24 ++ f.six.2 := ⟨_, rfl⟩
        rw [← hm25] at h2
        rw [← List.length_append, ← hm25]
        have hlen25 : m25.length ≤ m24.length + 16 := by rw [hm25, List.length_append, Hr6.out]; omega
        have Hm25 := Lib.hid hm25
        have Hs25 := Lib.hid h2
        clear hown hg hob h2 Hs24 hm25
        obtain ⟨d1, d2, d3, d4, d5, d6, d7⟩ := HC.out _ Hs25.out.1
        go_wp2_with fail
        obtain ⟨W26, hW26⟩ : ∃ W, W = w25.alloc (.cells #[.int .i64 (n5 : Int), .int .i64 (n6 : Int), .int .i64 (n7 : Int)] 3) := ⟨_, rfl⟩
        rw [← hW26]
        have h1 : PSt w W26 w.heap.size (confCs A f.vips.length c f).toArray A25 c25 m25 := by rw [hW26]; exact Hs25.out.alloc _
        have hns : NS W26 ⟨w25.heap.size, 0, none⟩ [n5, n6, n7] := by rw [hW26]; exact NS.lit w25 _ _ rfl _
        have hlt : w25.heap.size < W26.heap.size := by rw [hW26]; simp
        refine (numbers_own w.heap.size A25 c25 m25 ⟨w25.heap.size, 0, none⟩ 3 3 [n5, n6, n7] W26 rfl h1.2.1 hns hlt Hs25.out.neNew (by intro n hn; simp only [List.mem_cons, List.mem_nil_iff, or_false] at hn; omega) (by omega) (by simp) h1.2.2.size).mono ?_
        rintro e w26 ⟨A26, c26, rfl, hown, _, hg⟩
        have h2 := h1.grow0 hg hown
        obtain ⟨m26, hm26⟩ : ∃ m', m' = m25 ++ vputs [n5, n6, n7] := ⟨_, rfl⟩
        rw [← hm26] at h2 ⊢
        have hlen26 : m26.length ≤ m25.length + 30 := by
          rw [hm26, List.length_append]
          have := vputs_le (ns := [n5, n6, n7]) (by intro n hn; simp only [List.mem_cons, List.mem_nil_iff, or_false] at hn; omega)
          simp only [List.length_cons, List.length_nil] at this
          omega
        have Hm26 := Lib.hid hm26
        have Hs26 := Lib.hid h2
        clear h1 hns hlt hown hg h2 hW26 d1 d2 d3 d4 d5 d6 d7 Hs25 hm26
        have HF : Hid (m26 = confPutS f) := by
          show _ = _
          rw [Hm26.out, Hm25.out, Hm24.out, Hm23.out, Hm22.out, Hm21.out, Hm20.out, Hm.out]
          unfold confPutS
          rw [HCN.out, HCL.out, Hx4.out]
          simp only [vputs_append, List.append_assoc]
        go_wp2
        go_ret2
        refine ⟨Hs26.out.2.2, (fun h => by cases h), fun _ => ⟨A26, c26, ?_, ?_⟩⟩
        · rw [← HF.out]; rfl
        · rw [← HF.out]; exact Hs26.out.2.1
end Go.Proofs.Ytmkeljcjhcaigaa
