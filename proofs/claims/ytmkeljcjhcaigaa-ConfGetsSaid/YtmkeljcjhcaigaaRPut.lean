/- The document's Put, of a right config (printed by gen_rput.py). -/
import Derived.Test.YtmkeljcjhcaigaaRRi
namespace Go.Proofs.Ytmkeljcjhcaigaa
open Go.RowKit
set_option linter.unusedVariables false
set_option linter.unusedSimpArgs false

theorem rputN_own (n : Nat) (w : World) (hn : n < 18446744073709551616) :
    Calls Try.prog 44 #[.int .u64 (n : Int)] w fun e w' => ∃ A c, e = .returned (.slice A (vput n).length c) ∧ w'.ownsRow w.heap.size 5 1 (.slice A (vput n).length c) (vput n).length (bcells (vput n)) ∧ Below w.heap.size w w' :=
  (refPut_any n w n rfl hn).mono fun e w' ⟨v, h1, h2, h3⟩ => by
    obtain ⟨A, c, rfl, _⟩ := own_slice h2
    exact ⟨A, c, h1, h2, h3⟩
theorem vput_le10 {n : Nat} (h : n < 18446744073709551616) : (vput n).length ≤ 10 := by
  have := vputs_le (ns := [n]) (by simpa using h)
  simpa [vputs] using this
theorem cfb_mac {w : World} {g : Nat} {t : TypeId} {A : Option Addr} {n c : Nat} {f : ConfP} (hb : Blk w g t (confCs A n c f).toArray) (h : ConfShape f) {j : Nat} {u : UInt8} (hj : f.mac[j]? = some u) : w.cell? ⟨g, 11 + j, none⟩ = some (.int .u8 (u.toNat : Int)) :=
  cf_macs hb h j (u8v u) (by rw [bcells, List.getElem?_map, hj]; rfl)
theorem cfb_four {w : World} {g : Nat} {t : TypeId} {A : Option Addr} {n c : Nat} {f : ConfP} (hb : Blk w g t (confCs A n c f).toArray) (h : ConfShape f) {j : Nat} {u : UInt8} (hj : f.four.2[j]? = some u) : w.cell? ⟨g, 18 + j, none⟩ = some (.int .u8 (u.toNat : Int)) := by
  have := cf_four hb h (1 + j) (u8v u) (by rw [addrCs, show 1 + j = j + 1 by omega, List.getElem?_cons_succ, bcells, List.getElem?_map, hj]; rfl)
  rw [show 18 + j = 17 + (1 + j) by omega]
  exact this
theorem cfb_six {w : World} {g : Nat} {t : TypeId} {A : Option Addr} {n c : Nat} {f : ConfP} (hb : Blk w g t (confCs A n c f).toArray) (h : ConfShape f) {j : Nat} {u : UInt8} (hj : f.six.2[j]? = some u) : w.cell? ⟨g, 35 + j, none⟩ = some (.int .u8 (u.toNat : Int)) := by
  have := cf_six hb h (1 + j) (u8v u) (by rw [addrCs, show 1 + j = j + 1 by omega, List.getElem?_cons_succ, bcells, List.getElem?_map, hj]; rfl)
  rw [show 35 + j = 34 + (1 + j) by omega]
  exact this
/-- What the document's Put of a right config answers. -/
def RPutIs (w : World) (m : List UInt8) (e : Ending) (w' : World) : Prop :=
  ∃ A' c', e = .returned (.slice A' m.length c') ∧ w'.ownsRow w.heap.size 5 1 (.slice A' m.length c') m.length (bcells m) ∧ Below w.heap.size w w'
theorem take_snoc8 (xs : List UInt8) (k : Nat) (x : UInt8) (h : xs[k]? = some x) : xs.take (k + 1) = xs.take k ++ [x] := by
  rw [List.take_add_one, h]; rfl

set_option maxHeartbeats 2000000 in
set_option maxRecDepth 100000 in
theorem rputC_any (A : Option Addr) (c : Nat) (f : ConfP) (hf : ConfShape f) (w : World) (hnc : f.vips.length ≤ c) (hb : VS w w.heap.size A f.vips) (hr : rightB f = true) :
    Calls Try.prog 21 #[.agg (confCs A f.vips.length c f).toArray] w (RPutIs w (confPutS f)) := by
  obtain ⟨i0, hi0, hz0, hz1, hz2⟩ := info_parts u8_infoO
  have hrc := rightB_iff.1 hr
  have Hrc := Lib.hid hrc
  have hv64 := (vipsB_all hrc.vips).1
  have hvR : Hid (∀ v ∈ f.vips, vipR v = true) := (vipsB_all hrc.vips).2
  obtain ⟨W, hW⟩ : ∃ W, W = w.alloc (.cells (confCs A f.vips.length c f).toArray 29) := ⟨_, rfl⟩
  have hX : Blk W w.heap.size 29 (confCs A f.vips.length c f).toArray := by rw [hW]; exact Blk.new w _ _ _ rfl
  have hB : Below w.heap.size w W := by rw [hW]; exact (Below.refl _ _).alloc (Nat.le_refl _) _
  have a0 := cf_c0 hX
  have h0 : PSt w W w.heap.size (confCs A f.vips.length c f).toArray none 0 [] := ⟨hX, World.ownsRow_nil _ _ _ _, hB⟩
  have H0 := Lib.hid h0
  have HV := Lib.hid hb
  have HW := Lib.hid hW
  clear hW hX hB hb hrc h0 hr
  go_enter Try.func21, Try.ntmps21
  go_upto_region 1 with fail
  rw [← HW.out]
  clear HW
  go_wp2_with fail
  refine (rputN_own f.vips.length W (by omega)).mono ?_
  rintro e w2 ⟨A2, c2, rfl, hown2, hb2⟩
  have h2 := H0.out.below hb2
  have hsz2 := h2.2.2.size
  have hl10 := vput_le10 (n := f.vips.length) (by omega)
  have HB2 := Lib.hid (BS.of_own hown2).1
  have H2 := Lib.hid h2
  clear hown2 hb2 h2 H0 a0
  go_upto_region 3 with (at_builtin; refine wpList_append_bytes _ rfl _ _ 40 rfl w.heap.size 5 i0 (.int .u8 0) 1 Try.underlying40 hi0 hz0 hz1 hz2 rfl (.slice none 0 0) [] rfl H2.out.2.1 _ A2 _ c2 (vput f.vips.length) rfl rfl HB2.out (by simp [maxLen]; omega) (by simp; omega) hsz2 ?_; intro A3 c3 w3 hown3 hg3 _)
  have h3 := H2.out.grow hg3 hown3
  simp only [List.nil_append] at h3
  obtain ⟨m0, hm0⟩ : ∃ m0, m0 = vput f.vips.length := ⟨_, rfl⟩
  rw [← hm0] at h3 hl10 ⊢
  have a0 := cf_c0 h3.1
  have H3 := Lib.hid h3
  have Hm0 := Lib.hid hm0
  clear h3 hown3 hg3 H2 HB2 hsz2 hm0
  go_wp2_with fail
  clear a0
  go_loopw [3, 4] (fun v i wr => ∃ (k : Nat) (A' : Option Addr) (c' : Nat), k ≤ f.vips.length ∧ i = .int .i64 (k : Int) ∧ v = .slice A' (m0 ++ (f.vips.take k).flatMap vipBytes).length c' ∧ Hid (PSt w wr w.heap.size (confCs A f.vips.length c f).toArray A' c' (m0 ++ (f.vips.take k).flatMap vipBytes))) (fun _ i _ => f.vips.length - (intOf i).toNat)
  case atStart => exact ⟨0, A3, c3, by omega, rfl, by simp, by have := H3; simpa using this⟩
  case round =>
    obtain ⟨k, A', c', hk, rfl, rfl, hat⟩ := hrel
    rename World => wr
    have a0 := cf_c0 hat.out.1
    by_cases hlt : k < f.vips.length
    · have hltI : (k : Int) < (f.vips.length : Int) := by omega
      have hk0 : (0 : Int) ≤ (k : Int) := by omega
      obtain ⟨b, oo, hA, hbB, hc⟩ := (HV.out.below hat.out.2.2) (by omega)
      subst hA
      obtain ⟨x, hx⟩ : ∃ x, x = f.vips[k] := ⟨_, rfl⟩
      have hx? : f.vips[k]? = some x := by rw [List.getElem?_eq_getElem hlt, hx]
      have hrg := hc k x hx?
      have hxo : addrOk x.1 := hf.vips x (by rw [hx]; exact List.getElem_mem hlt)
      have hxr : vipR x = true := hvR.out x (by rw [hx]; exact List.getElem_mem hlt)
      obtain ⟨m, hm⟩ : ∃ m, m = m0 ++ (f.vips.take k).flatMap vipBytes := ⟨_, rfl⟩
      have hm2 : m0 ++ (f.vips.take (k + 1)).flatMap vipBytes = m ++ vipBytes x := by rw [flat_take _ _ _ hx?, ← List.append_assoc, ← hm]
      have hml : m.length ≤ 1400 := by
        have := vipsB_le (f.vips.take k) (fun v hv => hf.vips v (List.mem_of_mem_take hv))
        rw [hm, List.length_append]
        rw [List.length_take] at this
        omega
      rw [← hm] at hat ⊢
      have Hm2 := Lib.hid hm2
      have Hrg := Lib.hid hrg
      have Hxo := Lib.hid hxo
      have Hasz := Lib.hid (addr_sz hxo)
      have Hxr := Lib.hid hxr
      clear hc hrg hx hx? hm hm2 hxr hxo
      have hszr : w.heap.size ≤ wr.heap.size := hat.out.2.2.size
      have Bw : Hid (Below w.heap.size w wr) := hat.out.2.2
      obtain ⟨x1, hx1⟩ : ∃ W, W = wr.alloc (.cells (vipCs vip0).toArray 33) := ⟨_, rfl⟩
      obtain ⟨y1, hy1⟩ : ∃ W, W = x1.setCells wr.heap.size 0 (vipCs x) := ⟨_, rfl⟩
      obtain ⟨hth1, hbx1, hbe1⟩ := boxed wr x1 y1 33 (vipCs vip0) (vipCs x) (by rw [vipCs_length Hxo.out, vipCs_length (v := vip0) addr0_ok]) hx1 hy1
      rw [vip0_litA] at hx1
      have HX1 := Lib.hid hx1
      have HY1 := Lib.hid hy1
      have Hth1 := Lib.hid hth1
      have Hbe1 := Lib.hid hbe1
      have H5n := Lib.hid hbx1
      clear hx1 hy1 hth1 hbx1 hbe1
      go_upto_region 7 with (first
        | (rw [← HX1.out]; (with_reducible refine gateS 33 ?_); refine wpList_store_mid rfl 33 (.tmp 5) (.tmp 31) rfl wr.heap.size 0 (vipCs x).toArray rfl rfl Hth1.out (vip_szA Hxo.out) (vip_one x) ?_)
        | ((with_reducible refine gateL 33 ?_); refine wpList_load_g (by rfl) 33 (.tmp 30) rfl b (oo + k * 20) rfl (vipCs x) _ Hrg.out Try.underlying33 rfl (vip_szL Hxo.out) ?_))
      rw [← HY1.out]
      clear HX1 HY1 Hth1
      have hat' := Lib.hid (hat.out.below Hbe1.out)
      clear hat
      have hat := hat'
      clear hat'
      have Bw' : Hid (Below w.heap.size w y1) := Bw.out.trans (Hbe1.out.mono Bw.out.size)
      clear Bw
      have Bw := Bw'
      clear Bw'
      have H5 := H5n
      clear H5n Hbe1
      have R5a := Lib.hid (vip_blk_range H5.out)
      clear Hrg a0 hszr Bw
      rcases htun : x.2.2.2 with _ | _
      all_goals
        have Htun := Lib.hid htun
        clear htun
        go_wp2_with (first
          | ((with_reducible refine gateL 27 ?_); refine wpList_load_g (by rfl) 27 (.tmp 33) rfl wr.heap.size 0 rfl (addrCs x.1) _ R5a.out Try.underlying27 rfl Hasz.out ?_))
        refine (refPutAddr_any x.1 Hxo.out y1).mono ?_
        rintro e w5 ⟨A5, c5, rfl, hown5, hb5⟩
        have h5 := hat.out.below hb5
        have hX5 := Blk.below H5.out hb5 H5.out.lt
        have hsz5 := h5.2.2.size
        have hml2 : m.length + (putAddrS x.1).length ≤ 1440 := by
          have hl16 : x.1.2.length = 16 := Hxo.out
          unfold putAddrS
          split <;> simp <;> omega
        have Hown := Lib.hid h5.2.1
        have HB5 := Lib.hid (BS.of_own hown5).1
        have H5s := Lib.hid h5
        have HX5 := Lib.hid hX5
        clear hown5 hb5 h5 hX5 R5a hat H5
        go_upto_region 8 with (at_builtin; refine wpList_append_bytes _ rfl (.tmp 32) (.tmp 35) 40 rfl w.heap.size 5 i0 (.int .u8 0) 1 Try.underlying40 hi0 hz0 hz1 hz2 rfl (.slice A' m.length c') m rfl Hown.out _ A5 _ c5 (putAddrS x.1) rfl rfl HB5.out (by unfold maxLen; omega) (by omega) hsz5 ?_; intro A6 c6 w6 hown6 hg6 hob6)
        have h6 := H5s.out.grow hg6 hown6
        have hX6 := Blk.grown HX5.out hg6 (by
          rcases own_blk_ne H5s.out.2.1 HX5.out (by decide) with h | h
          · rw [h]; simp
          · exact fun e => h e.symm)
        have c17 := vip_c17 Hxo.out hX6
        have c18 := vip_c18 Hxo.out hX6
        have c19 := hX6.cell 19
        have H6 := Lib.hid h6
        have HX6 := Lib.hid hX6
        have hsz6 := h6.2.2.size
        obtain ⟨m1, hm1⟩ : ∃ m1, m1 = m ++ putAddrS x.1 := ⟨_, rfl⟩
        have hm1l : m1.length ≤ 1440 := by rw [hm1, List.length_append]; exact hml2
        rw [← hm1] at H6
        rw [← List.length_append, ← hm1]
        have hp0 : 0 ≤ x.2.1 ∧ x.2.1 ≤ 17 := by
          have := Hxr.out
          simp only [vipR, Bool.and_eq_true, Bool.or_eq_true, beq_iff_eq] at this
          omega
        have hq0 : 1 ≤ x.2.2.1 ∧ x.2.2.1 ≤ 65535 := by
          have := Hxr.out
          simp only [vipR, Bool.and_eq_true, inB_iff] at this
          exact this.2
        obtain ⟨hp1, hp2⟩ := hp0
        obtain ⟨hq1, hq2⟩ := hq0
        have hu1 : x.2.1 = ((UInt8.ofNat x.2.1.toNat).toNat : Int) := by rw [UInt8.toNat_ofNat']; omega
        have hu2 : x.2.2.1 / 256 = ((UInt8.ofNat (x.2.2.1.toNat / 256)).toNat : Int) := by rw [UInt8.toNat_ofNat']; omega
        have hu3 : x.2.2.1 % 256 = ((UInt8.ofNat x.2.2.1.toNat).toNat : Int) := by rw [UInt8.toNat_ofNat']; omega
        obtain ⟨L3, hL3⟩ : ∃ L3, L3 = [UInt8.ofNat x.2.1.toNat, UInt8.ofNat (x.2.2.1.toNat / 256), UInt8.ofNat x.2.2.1.toNat] := ⟨_, rfl⟩
        have HL3l : Hid (L3.length = 3) := by rw [hL3]; rfl
        have Hcs : Hid ((#[.int .u8 x.2.1, .int .u8 (x.2.2.1 / 256), .int .u8 (x.2.2.1 % 256)] : Array Value) = (bcells L3).toArray) := by
          show _ = _
          rw [hL3]
          simp only [bcells, List.map_cons, List.map_nil, u8v]
          rw [← hu1, ← hu2, ← hu3]
        obtain ⟨tb, htb⟩ : ∃ tb : UInt8, tb = (if x.2.2.2 then 1 else 0) := ⟨_, rfl⟩
        have HM : Hid (m ++ vipBytes x = m1 ++ (L3 ++ [tb])) := by show _ = _; rw [hm1, hL3, htb, List.append_assoc]; rfl
        rw [Htun.out] at htb
        simp only [reduceIte, Bool.false_eq_true] at htb
        have Htb := Lib.hid htb
        clear htb c19
        clear hu1 hu2 hu3 hL3 hm1 h6 hX6 hown6 hg6 hob6 H5s HX5 Hown HB5 hml2 hsz5
        go_upto_region 9 with (at_builtin; refine wpList_append_bytes _ rfl (.tmp 37) (.tmp 49) 40 rfl w.heap.size 5 i0 (.int .u8 0) 1 Try.underlying40 hi0 hz0 hz1 hz2 rfl (.slice A6 m1.length c6) m1 rfl (own_below H6.out.2.1 ((Below.refl _ _).alloc (Nat.le_refl _) _)) _ (some ⟨w6.heap.size, 0, none⟩) 3 3 L3 rfl HL3l.out.symm (BS.lit w6 L3 _ Hcs.out _ _) (by rw [HL3l.out]; unfold maxLen; omega) (by rw [HL3l.out]; omega) (by rw [show (w6.alloc _).heap.size = w6.heap.size + 1 by simp]; omega) ?_; intro A7 c7 w7 hown7 hg7 hob7)
        have h7 := (H6.out.alloc _).grow hg7 hown7
        have hX7 := Blk.grown (Blk.alloc HX6.out _) hg7 (by
          rcases own_blk_ne H6.out.2.1 HX6.out (by decide) with h | h
          · rw [h]; simp
          · exact fun e => h e.symm)
        have c19 : w7.cell? ⟨wr.heap.size, 19, none⟩ = some (.bool x.2.2.2) := by rw [hX7.cell 19]; exact vip_at Hxo.out 2
        rw [Htun.out] at c19
        obtain ⟨m2, hm2⟩ : ∃ m2, m2 = m1 ++ L3 := ⟨_, rfl⟩
        have hm2l : m2.length ≤ 1450 := by have := HL3l.out; rw [hm2, List.length_append]; omega
        rw [← hm2] at h7
        rw [← List.length_append, ← hm2]
        have HM2 : Hid (m ++ vipBytes x = m2 ++ [tb]) := by show _ = _; rw [HM.out, hm2, List.append_assoc]
        have H7 := Lib.hid h7
        have hsz7 := h7.2.2.size
        clear hm2 h7 hX7 hown7 hg7 hob7 H6 HX6 HM Hcs c17 c18 hsz6
        go_wp2_with (first
          | (at_builtin; refine wpList_append_bytes _ rfl (.tmp 53) (.tmp 54) 40 rfl w.heap.size 5 i0 (.int .u8 0) 1 Try.underlying40 hi0 hz0 hz1 hz2 rfl (.slice A7 m2.length c7) m2 rfl (own_below H7.out.2.1 ((Below.refl _ _).alloc (Nat.le_refl _) _)) _ (some ⟨w7.heap.size, 0, none⟩) 1 1 [tb] rfl rfl (BS.one' w7 tb _ (by rw [Htb.out]; rfl) _) (by simp; unfold maxLen; omega) (by simp; omega) (by rw [show (w7.alloc _).heap.size = w7.heap.size + 1 by simp]; omega) ?_; intro A8 c8 w8 hown8 hg8 hob8)
          | (at_builtin; refine wpList_append_bytes _ rfl (.tmp 56) (.tmp 57) 40 rfl w.heap.size 5 i0 (.int .u8 0) 1 Try.underlying40 hi0 hz0 hz1 hz2 rfl (.slice A7 m2.length c7) m2 rfl (own_below H7.out.2.1 ((Below.refl _ _).alloc (Nat.le_refl _) _)) _ (some ⟨w7.heap.size, 0, none⟩) 1 1 [tb] rfl rfl (BS.one' w7 tb _ (by rw [Htb.out]; rfl) _) (by simp; unfold maxLen; omega) (by simp; omega) (by rw [show (w7.alloc _).heap.size = w7.heap.size + 1 by simp]; omega) ?_; intro A8 c8 w8 hown8 hg8 hob8))
        have h8 := (H7.out.alloc _).grow hg8 hown8
        rw [← HM2.out, ← Hm2.out] at h8
        have H8 := Lib.hid h8
        have Hlen : Hid ((m0 ++ (f.vips.take (k + 1)).flatMap vipBytes).length = m2.length + 1) := by show _ = _; rw [Hm2.out, HM2.out, List.length_append]; rfl
        clear h8 hown8 hg8 hob8 H7 c19 hp1 hp2 hq1 hq2
        go_roundw
        case rel => exact ⟨k + 1, A8, c8, by omega, by go_num, by rw [Hlen.out], H8⟩
        case measure => simp [intOf]; omega
    · have hltI : ¬ (k : Int) < (f.vips.length : Int) := by omega
      have hkn : f.vips.take k = f.vips := List.take_of_length_le (by omega)
      rw [hkn] at hat ⊢
      obtain ⟨m1, hm1⟩ : ∃ m1, m1 = m0 ++ f.vips.flatMap vipBytes := ⟨_, rfl⟩
      have hm1l : m1.length ≤ 1400 := by
        have := vipsB_le f.vips hf.vips
        rw [hm1, List.length_append]
        omega
      rw [← hm1] at hat ⊢
      have Hm1 : Hid (m1 = vput f.vips.length ++ f.vips.flatMap vipBytes) := by show _ = _; rw [hm1, Hm0.out]
      clear hm1 hkn hl10 Hm0
      obtain ⟨ns, hns⟩ : ∃ ns, ns = confNums f := ⟨_, rfl⟩
      obtain ⟨ks, hks⟩ : ∃ ks, ks = confLast f := ⟨_, rfl⟩
      have Hn64 : Hid (∀ n ∈ ns, n < 9223372036854775808) := fun n hn => by have := confNums_le hf Hrc.out n (by rw [← hns]; exact hn); omega
      have Hk64 : Hid (∀ n ∈ ks, n < 9223372036854775808) := fun n hn => by have := confLast_le Hrc.out n (by rw [← hks]; exact hn); omega
      have Hnl : Hid (ns.length = 9) := by show _ = _; rw [hns]; simp [confNums, hf.idle]
      have Hkl : Hid (ks.length = 3) := by show _ = _; rw [hks]; rfl
      obtain ⟨i0', i1, i2, i3, i4, i5, hidl⟩ : ∃ a b c d e g, f.idle = [a, b, c, d, e, g] := by
        have := hf.idle
        match h : f.idle, this with
        | [a, b, c, d, e, g], _ => exact ⟨a, b, c, d, e, g, rfl⟩
      have hX := hat.out.1
      have hix := (idleB_all Hrc.out.idle).2
      rw [hidl] at hix
      have d1 := cf_size hX; have d2 := cf_room hX
      have d4 : wr.cell? ⟨w.heap.size, 4, none⟩ = some (.int .i64 i1) := by have := cf_idle hX hf (k := 1) (by decide); rw [hidl] at this; exact this
      have d5 : wr.cell? ⟨w.heap.size, 5, none⟩ = some (.int .i64 i2) := by have := cf_idle hX hf (k := 2) (by decide); rw [hidl] at this; exact this
      have d6 : wr.cell? ⟨w.heap.size, 6, none⟩ = some (.int .i64 i3) := by have := cf_idle hX hf (k := 3) (by decide); rw [hidl] at this; exact this
      have d7 : wr.cell? ⟨w.heap.size, 7, none⟩ = some (.int .i64 i4) := by have := cf_idle hX hf (k := 4) (by decide); rw [hidl] at this; exact this
      have d8 : wr.cell? ⟨w.heap.size, 8, none⟩ = some (.int .i64 i5) := by have := cf_idle hX hf (k := 5) (by decide); rw [hidl] at this; exact this
      have d9 := cf_rise hX hf; have d10 := cf_fall hX hf
      have hr1 := Hrc.out.size; have hr2 := Hrc.out.room; have hr3 := Hrc.out.rise; have hr4 := Hrc.out.fall
      have hj1 := hix i1 (by simp); have hj2 := hix i2 (by simp); have hj3 := hix i3 (by simp); have hj4 := hix i4 (by simp); have hj5 := hix i5 (by simp)
      have Hcells : Hid ((#[.int .i64 f.size, .int .i64 f.room, .int .i64 i1, .int .i64 i2, .int .i64 i3, .int .i64 i4, .int .i64 i5, .int .i64 f.rise, .int .i64 f.fall] : Array Value) = (ns.map fun n : Nat => Value.int .i64 (n : Int)).toArray) := by
        show _ = _
        rw [hns]
        unfold confNums
        rw [hidl]
        simp only [List.drop_succ_cons, List.drop_zero, List.map_cons, List.map_nil, List.cons_append, List.nil_append]
        rw [Int.toNat_of_nonneg (show 0 ≤ f.size by omega), Int.toNat_of_nonneg (show 0 ≤ f.room by omega), Int.toNat_of_nonneg hj1.1, Int.toNat_of_nonneg hj2.1, Int.toNat_of_nonneg hj3.1, Int.toNat_of_nonneg hj4.1, Int.toNat_of_nonneg hj5.1, Int.toNat_of_nonneg (show 0 ≤ f.rise by omega), Int.toNat_of_nonneg (show 0 ≤ f.fall by omega)]
      have Hns := Lib.hid hns
      have Hks := Lib.hid hks
      clear hns hks hidl hix hr1 hr2 hr3 hr4 hj1 hj2 hj3 hj4 hj5 hX
      go_upto_region 14 with fail
      obtain ⟨w9, hw9⟩ : ∃ W, W = wr.alloc (.cells #[.int .i64 f.size, .int .i64 f.room, .int .i64 i1, .int .i64 i2, .int .i64 i3, .int .i64 i4, .int .i64 i5, .int .i64 f.rise, .int .i64 f.fall] 3) := ⟨_, rfl⟩
      rw [← hw9]
      have Hp9 : Hid (PSt w w9 w.heap.size (confCs A f.vips.length c f).toArray A' c' m1) := by rw [hw9]; exact hat.out.alloc _
      have Hb9 : Hid (Blk w9 wr.heap.size 3 (ns.map fun n : Nat => Value.int .i64 (n : Int)).toArray) := by rw [hw9, Hcells.out]; exact Blk.new _ _ _ _ rfl
      obtain ⟨gn, hgn⟩ : ∃ g, g = wr.heap.size := ⟨_, rfl⟩
      rw [← hgn] at Hb9 ⊢
      clear hw9 hgn d1 d2 d4 d5 d6 d7 d8 d9 d10 hat Hcells a0
      skip
      go_loopw [3, 7] (fun v i wr => ∃ (k : Nat) (A' : Option Addr) (c' : Nat), k ≤ 9 ∧ i = .int .i64 (k : Int) ∧ v = .slice A' (m1 ++ vputs (ns.take k)).length c' ∧ Hid (PSt w wr w.heap.size (confCs A f.vips.length c f).toArray A' c' (m1 ++ vputs (ns.take k))) ∧ Hid (Blk wr gn 3 (ns.map fun n : Nat => Value.int .i64 (n : Int)).toArray)) (fun _ i _ => 9 - (intOf i).toNat)
      case atStart => exact ⟨0, A', c', by omega, rfl, by simp [vputs], by have := Hp9; simpa [vputs] using this, Hb9⟩
      case round =>
        obtain ⟨k, A', c', hk, rfl, rfl, hat, hbn⟩ := hrel
        rename World => wr
        by_cases hlt : k < 9
        · have hltI : (k : Int) < 9 := by omega
          have hk0 : (0 : Int) ≤ (k : Int) := by omega
          obtain ⟨q, hq⟩ : ∃ q, ns[k]? = some q := ⟨_, List.getElem?_eq_getElem (by have := Hnl.out; omega)⟩
          have hq64 := Hn64.out q (List.mem_of_getElem? hq)
          have d0 : wr.cell? ⟨gn, k, none⟩ = some (.int .i64 (q : Int)) := by rw [hbn.out.cell k, List.getElem?_toArray, List.getElem?_map, hq]; rfl
          obtain ⟨m, hm⟩ : ∃ m, m = m1 ++ vputs (ns.take k) := ⟨_, rfl⟩
          have hm2 : m1 ++ vputs (ns.take (k + 1)) = m ++ vput q := by
            rw [List.take_add_one, hq, vputs_append, ← List.append_assoc, ← hm]
            simp [vputs]
          have hml : m.length ≤ 1490 := by
            have := vputs_le (ns := ns.take k) (fun n hn => by have := Hn64.out n (List.mem_of_mem_take hn); omega)
            rw [hm, List.length_append]
            rw [List.length_take] at this
            omega
          rw [← hm] at hat ⊢
          have Hm2 := Lib.hid hm2
          clear hm hm2 hq
          go_wp2_with fail
          refine (rputN_own q wr (by omega)).mono ?_
          rintro e w5 ⟨A5, c5, rfl, hown5, hb5⟩
          have h5 := hat.out.below hb5
          have hB5 := Blk.below hbn.out hb5 hbn.out.lt
          have hsz5 := h5.2.2.size
          have hq10 := vput_le10 (n := q) (by omega)
          have Hown := Lib.hid h5.2.1
          have HB5 := Lib.hid (BS.of_own hown5).1
          have H5s := Lib.hid h5
          have HB5b := Lib.hid hB5
          clear hown5 hb5 h5 hB5 hat hbn d0
          go_wp2_with (at_builtin; refine wpList_append_bytes _ rfl (.tmp 89) (.tmp 95) 40 rfl w.heap.size 5 i0 (.int .u8 0) 1 Try.underlying40 hi0 hz0 hz1 hz2 rfl (.slice A' m.length c') m rfl Hown.out _ A5 _ c5 (vput q) rfl rfl HB5.out (by unfold maxLen; omega) (by omega) hsz5 ?_; intro A6 c6 w6 hown6 hg6 hob6)
          have h6 := H5s.out.grow hg6 hown6
          have hB6 := Blk.grown HB5b.out hg6 (by
            rcases own_blk_ne H5s.out.2.1 HB5b.out (by decide) with h | h
            · rw [h]; simp
            · exact fun e => h e.symm)
          rw [← Hm2.out] at h6
          have H6 := Lib.hid h6
          have HB6 := Lib.hid hB6
          have Hlen : Hid ((m1 ++ vputs (ns.take (k + 1))).length = m.length + (vput q).length) := by show _ = _; rw [Hm2.out, List.length_append]
          clear h6 hB6 hown6 hg6 hob6 H5s HB5b Hown HB5
          go_roundw
          case rel => exact ⟨k + 1, A6, c6, by omega, by go_num, by rw [Hlen.out], H6, HB6⟩
          case measure => simp [intOf]; omega
        · have hltI : ¬ (k : Int) < 9 := by omega
          have hkn : ns.take k = ns := List.take_of_length_le (by have := Hnl.out; omega)
          rw [hkn] at hat ⊢
          obtain ⟨m2, hm2⟩ : ∃ m', m' = m1 ++ vputs ns := ⟨_, rfl⟩
          have hm2l : m2.length ≤ 1490 := by
            rw [hm2, List.length_append]
            have := vputs_le (ns := ns) (fun n hn => by have := Hn64.out n hn; omega); have := Hnl.out; omega
          rw [← hm2] at hat ⊢
          have Hm2 := Lib.hid hm2
          clear hm2 hkn hbn
          go_wp2_with fail
          go_loopw [3, 8] (fun v i wr => ∃ (k : Nat) (A' : Option Addr) (c' : Nat), k ≤ 6 ∧ i = .int .i64 (k : Int) ∧ v = .slice A' (m2 ++ f.mac.take k).length c' ∧ Hid (PSt w wr w.heap.size (confCs A f.vips.length c f).toArray A' c' (m2 ++ f.mac.take k))) (fun _ i _ => 6 - (intOf i).toNat)
          case atStart => exact ⟨0, A', c', by omega, rfl, by simp, by have := hat; simpa using this⟩
          case round =>
            clear hat
            obtain ⟨k, A', c', hk, rfl, rfl, hat⟩ := hrel
            rename World => wr
            by_cases hlt : k < 6
            · have hltI : (k : Int) < 6 := by omega
              have hk0 : (0 : Int) ≤ (k : Int) := by omega
              obtain ⟨x, hx⟩ : ∃ x, f.mac[k]? = some x := ⟨_, List.getElem?_eq_getElem (by have := hf.mac; have : f.four.2.length = 16 := hf.four; have : f.six.2.length = 16 := hf.six; omega)⟩
              have d0 := cfb_mac hat.out.1 hf hx
              obtain ⟨m, hm⟩ : ∃ m, m = m2 ++ f.mac.take k := ⟨_, rfl⟩
              have hm2 : m2 ++ f.mac.take (k + 1) = m ++ [x] := by rw [take_snoc8 _ _ _ hx, ← List.append_assoc, ← hm]
              have hml : m.length ≤ 1500 := by
                rw [hm, List.length_append, List.length_take]
                omega
              rw [← hm] at hat ⊢
              have hszr := hat.out.2.2.size
              have Hm2 := Lib.hid hm2
              clear hm hm2 hx
              go_wp2_with (at_builtin; refine wpList_append_bytes _ rfl (.tmp 101) (.tmp 106) 40 rfl w.heap.size 5 i0 (.int .u8 0) 1 Try.underlying40 hi0 hz0 hz1 hz2 rfl (.slice A' m.length c') m rfl (own_below hat.out.2.1 ((Below.refl _ _).alloc (Nat.le_refl _) _)) _ (some ⟨wr.heap.size, 0, none⟩) 1 1 [x] rfl rfl (BS.one' wr x _ rfl _) (by simp; unfold maxLen; omega) (by simp; omega) (by rw [show (wr.alloc _).heap.size = wr.heap.size + 1 by simp]; omega) ?_; intro A6 c6 w6 hown6 hg6 hob6)
              have h6 := (hat.out.alloc _).grow hg6 hown6
              rw [← Hm2.out] at h6
              have H6 := Lib.hid h6
              have Hlen : Hid ((m2 ++ f.mac.take (k + 1)).length = m.length + 1) := by show _ = _; rw [Hm2.out, List.length_append]; rfl
              clear h6 hown6 hg6 hob6 hat d0
              go_roundw
              case rel => exact ⟨k + 1, A6, c6, by omega, by go_num, by rw [Hlen.out], H6⟩
              case measure => simp [intOf]; omega
            · have hltI : ¬ (k : Int) < 6 := by omega
              obtain rfl : k = 6 := by omega
              obtain ⟨m3, hm3⟩ : ∃ m', m' = m2 ++ f.mac.take 6 := ⟨_, rfl⟩
              have hm3l : m3.length ≤ 1500 := by
                rw [hm3, List.length_append]
                rw [List.length_take]; omega
              rw [← hm3] at hat ⊢
              have Hm3 := Lib.hid hm3
              clear hm3
              go_wp2_with fail
              go_loopw [3, 9] (fun v i wr => ∃ (k : Nat) (A' : Option Addr) (c' : Nat), k ≤ 4 ∧ i = .int .i64 (k : Int) ∧ v = .slice A' (m3 ++ f.four.2.take k).length c' ∧ Hid (PSt w wr w.heap.size (confCs A f.vips.length c f).toArray A' c' (m3 ++ f.four.2.take k))) (fun _ i _ => 4 - (intOf i).toNat)
              case atStart => exact ⟨0, A', c', by omega, rfl, by simp, by have := hat; simpa using this⟩
              case round =>
                clear hat
                obtain ⟨k, A', c', hk, rfl, rfl, hat⟩ := hrel
                rename World => wr
                by_cases hlt : k < 4
                · have hltI : (k : Int) < 4 := by omega
                  have hk0 : (0 : Int) ≤ (k : Int) := by omega
                  obtain ⟨x, hx⟩ : ∃ x, f.four.2[k]? = some x := ⟨_, List.getElem?_eq_getElem (by have := hf.mac; have : f.four.2.length = 16 := hf.four; have : f.six.2.length = 16 := hf.six; omega)⟩
                  have d0 := cfb_four hat.out.1 hf hx
                  obtain ⟨m, hm⟩ : ∃ m, m = m3 ++ f.four.2.take k := ⟨_, rfl⟩
                  have hm2 : m3 ++ f.four.2.take (k + 1) = m ++ [x] := by rw [take_snoc8 _ _ _ hx, ← List.append_assoc, ← hm]
                  have hml : m.length ≤ 1510 := by
                    rw [hm, List.length_append, List.length_take]
                    omega
                  rw [← hm] at hat ⊢
                  have hszr := hat.out.2.2.size
                  have Hm2 := Lib.hid hm2
                  clear hm hm2 hx
                  go_wp2_with (at_builtin; refine wpList_append_bytes _ rfl (.tmp 112) (.tmp 118) 40 rfl w.heap.size 5 i0 (.int .u8 0) 1 Try.underlying40 hi0 hz0 hz1 hz2 rfl (.slice A' m.length c') m rfl (own_below hat.out.2.1 ((Below.refl _ _).alloc (Nat.le_refl _) _)) _ (some ⟨wr.heap.size, 0, none⟩) 1 1 [x] rfl rfl (BS.one' wr x _ rfl _) (by simp; unfold maxLen; omega) (by simp; omega) (by rw [show (wr.alloc _).heap.size = wr.heap.size + 1 by simp]; omega) ?_; intro A6 c6 w6 hown6 hg6 hob6)
                  have h6 := (hat.out.alloc _).grow hg6 hown6
                  rw [← Hm2.out] at h6
                  have H6 := Lib.hid h6
                  have Hlen : Hid ((m3 ++ f.four.2.take (k + 1)).length = m.length + 1) := by show _ = _; rw [Hm2.out, List.length_append]; rfl
                  clear h6 hown6 hg6 hob6 hat d0
                  go_roundw
                  case rel => exact ⟨k + 1, A6, c6, by omega, by go_num, by rw [Hlen.out], H6⟩
                  case measure => simp [intOf]; omega
                · have hltI : ¬ (k : Int) < 4 := by omega
                  obtain rfl : k = 4 := by omega
                  obtain ⟨m4, hm4⟩ : ∃ m', m' = m3 ++ f.four.2.take 4 := ⟨_, rfl⟩
                  have hm4l : m4.length ≤ 1510 := by
                    rw [hm4, List.length_append]
                    rw [List.length_take]; omega
                  rw [← hm4] at hat ⊢
                  have Hm4 := Lib.hid hm4
                  clear hm4
                  go_wp2_with fail
                  go_loopw [3, 10] (fun v i wr => ∃ (k : Nat) (A' : Option Addr) (c' : Nat), k ≤ 16 ∧ i = .int .i64 (k : Int) ∧ v = .slice A' (m4 ++ f.six.2.take k).length c' ∧ Hid (PSt w wr w.heap.size (confCs A f.vips.length c f).toArray A' c' (m4 ++ f.six.2.take k))) (fun _ i _ => 16 - (intOf i).toNat)
                  case atStart => exact ⟨0, A', c', by omega, rfl, by simp, by have := hat; simpa using this⟩
                  case round =>
                    clear hat
                    obtain ⟨k, A', c', hk, rfl, rfl, hat⟩ := hrel
                    rename World => wr
                    by_cases hlt : k < 16
                    · have hltI : (k : Int) < 16 := by omega
                      have hk0 : (0 : Int) ≤ (k : Int) := by omega
                      obtain ⟨x, hx⟩ : ∃ x, f.six.2[k]? = some x := ⟨_, List.getElem?_eq_getElem (by have := hf.mac; have : f.four.2.length = 16 := hf.four; have : f.six.2.length = 16 := hf.six; omega)⟩
                      have d0 := cfb_six hat.out.1 hf hx
                      obtain ⟨m, hm⟩ : ∃ m, m = m4 ++ f.six.2.take k := ⟨_, rfl⟩
                      have hm2 : m4 ++ f.six.2.take (k + 1) = m ++ [x] := by rw [take_snoc8 _ _ _ hx, ← List.append_assoc, ← hm]
                      have hml : m.length ≤ 1530 := by
                        rw [hm, List.length_append, List.length_take]
                        omega
                      rw [← hm] at hat ⊢
                      have hszr := hat.out.2.2.size
                      have Hm2 := Lib.hid hm2
                      clear hm hm2 hx
                      go_wp2_with (at_builtin; refine wpList_append_bytes _ rfl (.tmp 124) (.tmp 130) 40 rfl w.heap.size 5 i0 (.int .u8 0) 1 Try.underlying40 hi0 hz0 hz1 hz2 rfl (.slice A' m.length c') m rfl (own_below hat.out.2.1 ((Below.refl _ _).alloc (Nat.le_refl _) _)) _ (some ⟨wr.heap.size, 0, none⟩) 1 1 [x] rfl rfl (BS.one' wr x _ rfl _) (by simp; unfold maxLen; omega) (by simp; omega) (by rw [show (wr.alloc _).heap.size = wr.heap.size + 1 by simp]; omega) ?_; intro A6 c6 w6 hown6 hg6 hob6)
                      have h6 := (hat.out.alloc _).grow hg6 hown6
                      rw [← Hm2.out] at h6
                      have H6 := Lib.hid h6
                      have Hlen : Hid ((m4 ++ f.six.2.take (k + 1)).length = m.length + 1) := by show _ = _; rw [Hm2.out, List.length_append]; rfl
                      clear h6 hown6 hg6 hob6 hat d0
                      go_roundw
                      case rel => exact ⟨k + 1, A6, c6, by omega, by go_num, by rw [Hlen.out], H6⟩
                      case measure => simp [intOf]; omega
                    · have hltI : ¬ (k : Int) < 16 := by omega
                      obtain rfl : k = 16 := by omega
                      obtain ⟨m5, hm5⟩ : ∃ m', m' = m4 ++ f.six.2.take 16 := ⟨_, rfl⟩
                      have hm5l : m5.length ≤ 1530 := by
                        rw [hm5, List.length_append]
                        rw [List.length_take]; omega
                      rw [← hm5] at hat ⊢
                      have Hm5 := Lib.hid hm5
                      clear hm5
                      skip
                      have hX := hat.out.1
                      have d1 := cf_most hX hf; have d2 := cf_keep hX hf; have d3 := cf_batch hX hf
                      have hr5 := Hrc.out.most; have hr6 := Hrc.out.keep; have hr7 := Hrc.out.batch
                      have Hcells : Hid ((#[.int .i64 f.most, .int .i64 f.keep, .int .i64 f.batch] : Array Value) = (ks.map fun n : Nat => Value.int .i64 (n : Int)).toArray) := by
                        show _ = _
                        rw [Hks.out]
                        unfold confLast
                        simp only [List.map_cons, List.map_nil]
                        rw [Int.toNat_of_nonneg (show 0 ≤ f.most by omega), Int.toNat_of_nonneg (show 0 ≤ f.keep by omega), Int.toNat_of_nonneg (show 0 ≤ f.batch by omega)]
                      clear hr5 hr6 hr7 hX
                      go_upto_region 31 with fail
                      obtain ⟨wA, hwA⟩ : ∃ W, W = wr.alloc (.cells #[.int .i64 f.most, .int .i64 f.keep, .int .i64 f.batch] 3) := ⟨_, rfl⟩
                      rw [← hwA]
                      have HpA : Hid (PSt w wA w.heap.size (confCs A f.vips.length c f).toArray A' c' m5) := by rw [hwA]; exact hat.out.alloc _
                      have HbA : Hid (Blk wA wr.heap.size 3 (ks.map fun n : Nat => Value.int .i64 (n : Int)).toArray) := by rw [hwA, Hcells.out]; exact Blk.new _ _ _ _ rfl
                      obtain ⟨gk, hgk⟩ : ∃ g, g = wr.heap.size := ⟨_, rfl⟩
                      rw [← hgk] at HbA ⊢
                      clear hwA hgk d1 d2 d3 hat Hcells
                      go_loopw [3, 12] (fun v i wr => ∃ (k : Nat) (A' : Option Addr) (c' : Nat), k ≤ 3 ∧ i = .int .i64 (k : Int) ∧ v = .slice A' (m5 ++ vputs (ks.take k)).length c' ∧ Hid (PSt w wr w.heap.size (confCs A f.vips.length c f).toArray A' c' (m5 ++ vputs (ks.take k))) ∧ Hid (Blk wr gk 3 (ks.map fun n : Nat => Value.int .i64 (n : Int)).toArray)) (fun _ i _ => 3 - (intOf i).toNat)
                      case atStart => exact ⟨0, A', c', by omega, rfl, by simp [vputs], by have := HpA; simpa [vputs] using this, HbA⟩
                      case round =>
                        obtain ⟨k, A', c', hk, rfl, rfl, hat, hbn⟩ := hrel
                        rename World => wr
                        by_cases hlt : k < 3
                        · have hltI : (k : Int) < 3 := by omega
                          have hk0 : (0 : Int) ≤ (k : Int) := by omega
                          obtain ⟨q, hq⟩ : ∃ q, ks[k]? = some q := ⟨_, List.getElem?_eq_getElem (by have := Hkl.out; omega)⟩
                          have hq64 := Hk64.out q (List.mem_of_getElem? hq)
                          have d0 : wr.cell? ⟨gk, k, none⟩ = some (.int .i64 (q : Int)) := by rw [hbn.out.cell k, List.getElem?_toArray, List.getElem?_map, hq]; rfl
                          obtain ⟨m, hm⟩ : ∃ m, m = m5 ++ vputs (ks.take k) := ⟨_, rfl⟩
                          have hm2 : m5 ++ vputs (ks.take (k + 1)) = m ++ vput q := by
                            rw [List.take_add_one, hq, vputs_append, ← List.append_assoc, ← hm]
                            simp [vputs]
                          have hml : m.length ≤ 1560 := by
                            have := vputs_le (ns := ks.take k) (fun n hn => by have := Hk64.out n (List.mem_of_mem_take hn); omega)
                            rw [hm, List.length_append]
                            rw [List.length_take] at this
                            omega
                          rw [← hm] at hat ⊢
                          have Hm2 := Lib.hid hm2
                          clear hm hm2 hq
                          go_wp2_with fail
                          refine (rputN_own q wr (by omega)).mono ?_
                          rintro e w5 ⟨A5, c5, rfl, hown5, hb5⟩
                          have h5 := hat.out.below hb5
                          have hB5 := Blk.below hbn.out hb5 hbn.out.lt
                          have hsz5 := h5.2.2.size
                          have hq10 := vput_le10 (n := q) (by omega)
                          have Hown := Lib.hid h5.2.1
                          have HB5 := Lib.hid (BS.of_own hown5).1
                          have H5s := Lib.hid h5
                          have HB5b := Lib.hid hB5
                          clear hown5 hb5 h5 hB5 hat hbn d0
                          go_wp2_with (at_builtin; refine wpList_append_bytes _ rfl (.tmp 145) (.tmp 151) 40 rfl w.heap.size 5 i0 (.int .u8 0) 1 Try.underlying40 hi0 hz0 hz1 hz2 rfl (.slice A' m.length c') m rfl Hown.out _ A5 _ c5 (vput q) rfl rfl HB5.out (by unfold maxLen; omega) (by omega) hsz5 ?_; intro A6 c6 w6 hown6 hg6 hob6)
                          have h6 := H5s.out.grow hg6 hown6
                          have hB6 := Blk.grown HB5b.out hg6 (by
                            rcases own_blk_ne H5s.out.2.1 HB5b.out (by decide) with h | h
                            · rw [h]; simp
                            · exact fun e => h e.symm)
                          rw [← Hm2.out] at h6
                          have H6 := Lib.hid h6
                          have HB6 := Lib.hid hB6
                          have Hlen : Hid ((m5 ++ vputs (ks.take (k + 1))).length = m.length + (vput q).length) := by show _ = _; rw [Hm2.out, List.length_append]
                          clear h6 hB6 hown6 hg6 hob6 H5s HB5b Hown HB5
                          go_roundw
                          case rel => exact ⟨k + 1, A6, c6, by omega, by go_num, by rw [Hlen.out], H6, HB6⟩
                          case measure => simp [intOf]; omega
                        · have hltI : ¬ (k : Int) < 3 := by omega
                          have hkn : ks.take k = ks := List.take_of_length_le (by have := Hkl.out; omega)
                          rw [hkn] at hat ⊢
                          have He : Hid (m5 ++ vputs ks = confPutS f) := by
                            show _ = _
                            have h16 : f.six.2.take 16 = f.six.2 := List.take_of_length_le (by have : f.six.2.length = 16 := hf.six; omega)
                            have h6 : f.mac.take 6 = f.mac := List.take_of_length_le (by have := hf.mac; omega)
                            rw [Hm5.out, Hm4.out, Hm3.out, Hm2.out, Hm1.out, Hns.out, Hks.out, h16, h6]
                            unfold confPutS
                            simp only [List.append_assoc]
                          rw [He.out] at hat ⊢
                          clear hkn hbn
                          go_wp2
                          go_ret
                          exact ⟨A', c', rfl, hat.out.2.1, hat.out.2.2⟩
end Go.Proofs.Ytmkeljcjhcaigaa
