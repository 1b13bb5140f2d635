/- The statements of layer 28: awake answers yes (printed by gen_eaw.py). -/
import Derived.Test.YtgohhojoahlfiaaEwC
import Derived.Lib.SlBytesConst
namespace Go.Proofs.Ytgohhojoahlfiaa
open Go.RowKit
set_option linter.unusedVariables false
set_option linter.unusedSimpArgs false

theorem out_under : Try.prog.underlying 36 = some (.struct (Try.prog.fieldsOf 36)) := by kernel_rfl
theorem ev_szA {A A' : Option Addr} {n c n' c' : Nat} {e : EvP} (h : EvShape e) : (Try.prog.info? 39).map (·.size) = some (evCs A n c A' n' c' e).toArray.size := by rw [List.size_toArray]; exact ev_sz h
theorem back_szA {b : BackP} (h : BackShape b) : (Try.prog.info? 29).map (·.size) = some (backCs b).toArray.size := by rw [List.size_toArray]; exact back_sz h
def lE : List UInt8 := [4, 0, 0, 0, 0, 0, 0, 0, 0, 0, 0]
def evO : EvP := { ev0 with act := { act0 with kind := 4 }, len := 9, sum := 3808858755 }
theorem evO_shape : EvShape evO := ⟨⟨back0_shape, by decide⟩, by decide⟩
theorem evO_is : evOf { act0 with kind := 4 } { out0 with out := [49, 50, 51, 52, 53, 54, 55, 56, 57] } = evO := by
  unfold evOf
  simp only [of19E]
  rfl
theorem putA_yes (E : EvP) (hE : E = evA) (w : World) : Calls Try.prog 20 #[.agg (evCs none 0 0 none 0 0 E).toArray] w fun e w' => ∃ A' c', e = .returned (.tuple #[.slice A' 11 c', .int .i64 0]) ∧ w'.ownsRow w.heap.size 5 1 (.slice A' 11 c') 11 (bcells [4, 0, 0, 0, 0, 0, 0, 0, 0, 0, 0]) ∧ Below w.heap.size w w' := by
  subst hE
  exact eputE_yes none 0 none 0 evA evA_shape evA_right w (BS.nil _ _ _) [4, 0, 0, 0, 0, 0, 0, 0, 0, 0, 0] evA_bytes
theorem putA_no (w : World) : Calls Try.prog 20 #[.agg (#[.int .i64 0, .slice none 0 0, .int .i64 0, .string ⟨#[]⟩, .bool false, .int .u8 0, .int .u8 0, .int .u8 0, .int .u8 0, .int .u8 0, .int .u8 0, .int .u8 0, .int .u8 0, .int .u8 0, .int .u8 0, .int .u8 0, .int .u8 0, .int .u8 0, .int .u8 0, .int .u8 0, .int .u8 0, .int .i64 0, .int .u8 0, .int .u8 0, .int .u8 0, .int .u8 0, .int .u8 0, .int .u8 0, .float .f64 0, .bool false, .string ⟨#[]⟩, .float .f64 0, .string ⟨#[]⟩, .bool false, .int .i64 0, .int .i64 0, .bool false, .int .i64 0, .string ⟨#[]⟩, .slice none 0 0, .int .i64 0, .int .u32 0] : Array Value)] w fun e w' => e = .returned (.tuple #[.slice none 0 0, .int .i64 1]) ∧ Below w.heap.size w w' :=
  eputE_no none 0 none 0 ev0 ev0_shape ev0_right w (BS.nil _ _ _)
theorem getA_yes (E : EvP) (hE : E = evA) (A : Option Addr) (c : Nat) (w : World) (hb : BS w w.heap.size A [4, 0, 0, 0, 0, 0, 0, 0, 0, 0, 0]) : Calls Try.prog 22 #[.slice A 11 c] w fun e w' => ∃ A c, e = .returned (.tuple #[.agg (evCs A 0 c none 0 0 E).toArray, .int .i64 0]) ∧ Below w.heap.size w w' := by
  subst hE
  refine (egetE_yes A 11 c [4, 0, 0, 0, 0, 0, 0, 0, 0, 0, 0] w rfl hb (by decide) evA evA_get).mono ?_
  rintro e w' ⟨A', c', h1, _, h3⟩
  exact ⟨A', c', h1, h3⟩
theorem getA_no (E : EvP) (hE : E = ev0) (w : World) : Calls Try.prog 22 #[.slice none 0 0] w fun e w' => e = .returned (.tuple #[.agg (evCs none 0 0 none 0 0 E).toArray, .int .i64 3]) ∧ Below w.heap.size w w' :=
  egetE_no none 0 0 [] w rfl (BS.nil _ _ _) (by decide) nil_get E hE
theorem sameA (E : EvP) (hE : E = evA) (A : Option Addr) (c : Nat) (w : World) : Calls Try.prog 16 #[.agg (evCs none 0 0 none 0 0 E).toArray, .agg (evCs A 0 c none 0 0 E).toArray] w fun e w' => e = .returned (.bool true) ∧ Below w.heap.size w w' := by
  subst hE
  exact esameE none 0 none 0 evA A c none 0 evA evA_shape evA_shape w (BS.nil _ _ _) (BS.nil _ _ _) (BS.nil _ _ _) (BS.nil _ _ _) true (sameEv_self _)
theorem rightA (E : EvP) (hE : E = evA) (w : World) : Calls Try.prog 12 #[.agg (evCs none 0 0 none 0 0 E).toArray] w fun e w' => e = .returned (.bool true) ∧ Below w.heap.size w w' := by
  subst hE
  exact erightE none 0 none 0 evA evA_shape w (BS.nil _ _ _) true evA_right
theorem plainA (E : EvP) (hE : E = evA) (w : World) : Calls Try.prog 14 #[.agg (actCs none 0 0 E.act).toArray] w fun e w' => e = .returned (.bool true) ∧ Below w.heap.size w w' := by
  subst hE
  exact eplainE none 0 evA.act evA_shape.act w (BS.nil _ _ _) true evA_plain
theorem plainA_no (w : World) : Calls Try.prog 14 #[.agg (#[.int .i64 5, .slice none 0 0, .int .i64 0, .string ⟨#[]⟩, .bool false, .int .u8 0, .int .u8 0, .int .u8 0, .int .u8 0, .int .u8 0, .int .u8 0, .int .u8 0, .int .u8 0, .int .u8 0, .int .u8 0, .int .u8 0, .int .u8 0, .int .u8 0, .int .u8 0, .int .u8 0, .int .u8 0, .int .i64 0, .int .u8 0, .int .u8 0, .int .u8 0, .int .u8 0, .int .u8 0, .int .u8 0, .float .f64 0, .bool false, .string ⟨#[]⟩, .float .f64 0, .string ⟨#[]⟩, .bool false] : Array Value)] w fun e w' => e = .returned (.bool false) ∧ Below w.heap.size w w' :=
  eplainE none 0 { act0 with kind := 5 } ⟨back0_shape, by decide⟩ w (BS.nil _ _ _) false act5_plain
theorem ofA (E : EvP) (hE : E = evO) (g : Nat) (w : World) (hb : BS w w.heap.size (some ⟨g, 0, none⟩) [49, 50, 51, 52, 53, 54, 55, 56, 57]) : Calls Try.prog 18 #[.agg (#[.int .i64 4, .slice none 0 0, .int .i64 0, .string ⟨#[]⟩, .bool false, .int .u8 0, .int .u8 0, .int .u8 0, .int .u8 0, .int .u8 0, .int .u8 0, .int .u8 0, .int .u8 0, .int .u8 0, .int .u8 0, .int .u8 0, .int .u8 0, .int .u8 0, .int .u8 0, .int .u8 0, .int .u8 0, .int .i64 0, .int .u8 0, .int .u8 0, .int .u8 0, .int .u8 0, .int .u8 0, .int .u8 0, .float .f64 0, .bool false, .string ⟨#[]⟩, .float .f64 0, .string ⟨#[]⟩, .bool false] : Array Value), .agg (#[.int .i64 0, .int .i64 0, .bool false, .int .i64 0, .string ⟨#[]⟩, .slice (some ⟨g, 0, none⟩) 9 9] : Array Value)] w fun e w' => ∃ A c, e = .returned (.agg (evCs A 0 c none 0 0 E).toArray) ∧ Below w.heap.size w w' := by
  subst hE
  refine (eof_any none 0 0 (some ⟨g, 0, none⟩) 9 9 { act0 with kind := 4 } { out0 with out := [49, 50, 51, 52, 53, 54, 55, 56, 57] } ⟨back0_shape, by decide⟩ w rfl rfl (BS.nil _ _ _) hb (by decide) (by decide)).mono ?_
  rintro e w' ⟨A', c', h1, _, h3⟩
  rw [evO_is] at h1
  exact ⟨A', c', h1, h3⟩
theorem backA_len : (backBytes backA).length = 36 := by decide +kernel
theorem pbA (B : List UInt8) (hB : B = backBytes backA) (w : World) : Calls Try.prog 24 #[.agg (#[.string ⟨#[97]⟩, .bool false, .int .u8 0, .int .u8 0, .int .u8 0, .int .u8 0, .int .u8 0, .int .u8 0, .int .u8 0, .int .u8 0, .int .u8 0, .int .u8 0, .int .u8 0, .int .u8 0, .int .u8 0, .int .u8 0, .int .u8 0, .int .u8 0, .int .i64 0, .int .u8 0, .int .u8 0, .int .u8 0, .int .u8 0, .int .u8 0, .int .u8 0, .float .f64 0, .bool false] : Array Value)] w fun e w' => ∃ A' c', e = .returned (.tuple #[.slice A' 36 c', .int .i64 0]) ∧ BS w' w'.heap.size A' B ∧ Below w.heap.size w w' := by
  subst hB
  refine (putBackend_any backA backA_shape w).mono ?_
  rintro e w' ⟨h1, _, h3⟩
  obtain ⟨A', c', h4, h5⟩ := h3 backA_told
  have h6 := (BS.of_own h5).1
  rw [backA_len] at h4
  exact ⟨A', c', h4, h6, h1⟩
theorem take_eaw (base g : Nat) (l : List UInt8) (r : BackP × Bool) (w : World) (hr : takeBackS l (0, 0, 0) = r) (h : RdW w base g l (0, 0, 0)) (hl : l.length ≤ 1000000000) (W : World) (hg : W.heap.size ≤ g) (hb : Below W.heap.size W w) :
    Calls Try.prog 27 #[.pointer (some ⟨g, 0, none⟩)] w fun e w' => e = .returned (.tuple #[.agg (backCs r.1).toArray, .bool r.2]) ∧ Below W.heap.size W w' := by
  subst hr
  refine (takeB_any base g l (0, 0, 0) w h ⟨Nat.zero_le _, Nat.zero_le _, Nat.zero_le _⟩ hl).mono ?_
  rintro e w' ⟨h1, _, _, h3⟩
  exact ⟨h1, hb.trans (h3.below hg (fun k hk => by cases hk) hb.size)⟩
theorem backA_take2 (B : List UInt8) (hB : B = backBytes backA) (K : BackP) (hK : K = backA) : takeBackS B (0, 0, 0) = (K, true) := by rw [hB, hK]; exact backA_take
theorem nil_take2 : ∃ K, takeBackS [] (0, 0, 0) = (K, false) ∧ BackShape K := by
  refine ⟨back0, ?_, back0_shape⟩
  have h := nil_take
  unfold takeBackS at h ⊢
  split
  · rename_i hc; rw [if_pos hc] at h; cases h
  · rfl
set_option maxHeartbeats 1000000 in
set_option maxRecDepth 100000 in
theorem awake28 (w : World) : Calls Try.prog 10 #[] w fun e w' => e = .returned (.bool true) ∧ Below w.heap.size w w' := by
  go_enter Try.func10, Try.ntmps10
  obtain ⟨x1, hx1⟩ : ∃ W, W = w.alloc (.cells (evCs none 0 0 none 0 0 ev0).toArray 39) := ⟨_, rfl⟩
  obtain ⟨y1, hy1⟩ : ∃ W, W = x1.setCells w.heap.size 0 (evCs none 0 0 none 0 0 evA) := ⟨_, rfl⟩
  obtain ⟨hth1, hbx1, hbe1⟩ := boxed w x1 y1 39 (evCs none 0 0 none 0 0 ev0) (evCs none 0 0 none 0 0 evA) (by rw [ev_len evA_shape, ev_len ev0_shape]) hx1 hy1
  rw [ev0_lit] at hx1
  have HX1 := Lib.hid hx1
  have HY1 := Lib.hid hy1
  have Hth1 := Lib.hid hth1
  have Hbe1 := Lib.hid hbe1
  have H1n := Lib.hid hbx1
  clear hx1 hy1 hth1 hbx1 hbe1
  go_upto_region 2 with (first
    | (rw [← HX1.out]; (with_reducible refine gateS 39 ?_); refine wpList_store_mid rfl 39 (.tmp 1) (.tmp 18) rfl w.heap.size 0 (evCs none 0 0 none 0 0 evA).toArray rfl rfl Hth1.out (ev_szA evA_shape) (ev_one _ _ _ _ _ _ _) ?_))
  rw [← HY1.out]
  clear HX1 HY1 Hth1
  have Bw := Hbe1
  have H1 := H1n
  clear H1n Hbe1
  obtain ⟨E, hE⟩ : ∃ F, F = evA := ⟨_, rfl⟩
  obtain ⟨EZ, hEZ⟩ : ∃ F, F = ev0 := ⟨_, rfl⟩
  obtain ⟨EO, hEO⟩ : ∃ F, F = evO := ⟨_, rfl⟩
  obtain ⟨BK, hBK⟩ : ∃ F, F = backA := ⟨_, rfl⟩
  obtain ⟨LB, hLB⟩ : ∃ F, F = backBytes backA := ⟨_, rfl⟩
  have HS : Hid (EvShape E) := by rw [hE]; exact evA_shape
  have HSZ : Hid (EvShape EZ) := by rw [hEZ]; exact ev0_shape
  have HSO : Hid (EvShape EO) := by rw [hEO]; exact evO_shape
  have HSB : Hid (BackShape BK) := by rw [hBK]; exact backA_shape
  have Hlen : Hid (EO.len = 9 ∧ EO.sum = 3808858755) := by rw [hEO]; exact ⟨rfl, rfl⟩
  have Hnm : Hid (BK.name = [97]) := by rw [hBK]; exact rfl
  have HLl : Hid (LB.length = 36) := by rw [hLB]; exact backA_len
  rw [← hE] at H1
  have HE := Lib.hid hE
  have HEZ := Lib.hid hEZ
  have HEO := Lib.hid hEO
  have HBK := Lib.hid hBK
  have HLB := Lib.hid hLB
  clear hE hEZ hEO hBK hLB
  have R1 := Lib.hid (blk_range H1.out)
  go_wp2_with (first
    | ((with_reducible refine gateL 39 ?_); refine wpList_load_g (by rfl) 39 (.tmp 1) rfl w.heap.size 0 rfl (evCs none 0 0 none 0 0 E) _ R1.out ev_under rfl (ev_sz HS.out) ?_))
  clear R1
  refine (putA_yes E HE.out y1).mono ?_
  rintro e w2 ⟨A2, c2, rfl, hown, hb2⟩
  have Hb2 := Lib.hid hb2
  clear hb2
  have Hbs := Lib.hid (BS.of_own hown).1
  have hcap : 11 ≤ c2 := own_le hown
  clear hown
  have H1' := Lib.hid (Blk.below H1.out Hb2.out H1.out.lt)
  clear H1
  have H1 := H1'
  clear H1'
  have Bw' : Hid (Below w.heap.size w w2) := Bw.out.trans (Hb2.out.mono Bw.out.size)
  clear Bw
  have Bw := Bw'
  clear Bw'
  clear Hb2
  go_wp2_with fail
  refine (getA_yes E HE.out A2 c2 w2 Hbs.out).mono ?_
  rintro e w3 ⟨A3, c3, rfl, hb3⟩
  have Hb3 := Lib.hid hb3
  clear hb3
  have H1' := Lib.hid (Blk.below H1.out Hb3.out H1.out.lt)
  clear H1
  have H1 := H1'
  clear H1'
  have Hbs' := Lib.hid ((Hbs.out.below Hb3.out).more Hb3.out.size)
  clear Hbs
  have Hbs := Hbs'
  clear Hbs'
  have Bw' : Hid (Below w.heap.size w w3) := Bw.out.trans (Hb3.out.mono Bw.out.size)
  clear Bw
  have Bw := Bw'
  clear Bw'
  clear Hb3
  obtain ⟨x4, hx4⟩ : ∃ W, W = w3.alloc (.cells (evCs none 0 0 none 0 0 ev0).toArray 39) := ⟨_, rfl⟩
  obtain ⟨y4, hy4⟩ : ∃ W, W = x4.setCells w3.heap.size 0 (evCs A3 0 c3 none 0 0 E) := ⟨_, rfl⟩
  obtain ⟨hth4, hbx4, hbe4⟩ := boxed w3 x4 y4 39 (evCs none 0 0 none 0 0 ev0) (evCs A3 0 c3 none 0 0 E) (by rw [ev_len HS.out, ev_len ev0_shape]) hx4 hy4
  rw [ev0_lit] at hx4
  have HX4 := Lib.hid hx4
  have HY4 := Lib.hid hy4
  have Hth4 := Lib.hid hth4
  have Hbe4 := Lib.hid hbe4
  have H4n := Lib.hid hbx4
  clear hx4 hy4 hth4 hbx4 hbe4
  have R1 := Lib.hid (blk_range H1.out)
  go_upto_region 4 with (first
    | ((with_reducible refine gateL 39 ?_); refine wpList_load_g (by rfl) 39 (.tmp 1) rfl w.heap.size 0 rfl (evCs none 0 0 none 0 0 E) _ R1.out ev_under rfl (ev_sz HS.out) ?_)
    | (rw [← HX4.out]; (with_reducible refine gateS 39 ?_); refine wpList_store_mid rfl 39 (.tmp 4) (.tmp 27) rfl w3.heap.size 0 (evCs A3 0 c3 none 0 0 E).toArray rfl rfl Hth4.out (ev_szA HS.out) (ev_one _ _ _ _ _ _ _) ?_))
  clear R1
  rw [← HY4.out]
  clear HX4 HY4 Hth4
  have H1' := Lib.hid (Blk.below H1.out Hbe4.out H1.out.lt)
  clear H1
  have H1 := H1'
  clear H1'
  have Hbs' := Lib.hid ((Hbs.out.below Hbe4.out).more Hbe4.out.size)
  clear Hbs
  have Hbs := Hbs'
  clear Hbs'
  have Bw' : Hid (Below w.heap.size w y4) := Bw.out.trans (Hbe4.out.mono Bw.out.size)
  clear Bw
  have Bw := Bw'
  clear Bw'
  have H4 := H4n
  clear H4n Hbe4
  have R1 := Lib.hid (blk_range H1.out)
  have R4 := Lib.hid (blk_range H4.out)
  go_wp2_with (first
    | ((with_reducible refine gateL 39 ?_); refine wpList_load_g (by rfl) 39 (.tmp 1) rfl w.heap.size 0 rfl (evCs none 0 0 none 0 0 E) _ R1.out ev_under rfl (ev_sz HS.out) ?_)
    | ((with_reducible refine gateL 39 ?_); refine wpList_load_g (by rfl) 39 (.tmp 4) rfl w3.heap.size 0 rfl (evCs A3 0 c3 none 0 0 E) _ R4.out ev_under rfl (ev_sz HS.out) ?_))
  clear R1
  clear R4
  refine (putA_no y4).mono ?_
  rintro e w4 ⟨rfl, hb5⟩
  have Hb5 := Lib.hid hb5
  clear hb5
  have H1' := Lib.hid (Blk.below H1.out Hb5.out H1.out.lt)
  clear H1
  have H1 := H1'
  clear H1'
  have H4' := Lib.hid (Blk.below H4.out Hb5.out H4.out.lt)
  clear H4
  have H4 := H4'
  clear H4'
  have Hbs' := Lib.hid ((Hbs.out.below Hb5.out).more Hb5.out.size)
  clear Hbs
  have Hbs := Hbs'
  clear Hbs'
  have Bw' : Hid (Below w.heap.size w w4) := Bw.out.trans (Hb5.out.mono Bw.out.size)
  clear Bw
  have Bw := Bw'
  clear Bw'
  clear Hb5
  go_wp2_with fail
  refine (getA_no EZ HEZ.out w4).mono ?_
  rintro e w5 ⟨rfl, hb6⟩
  have Hb6 := Lib.hid hb6
  clear hb6
  have H1' := Lib.hid (Blk.below H1.out Hb6.out H1.out.lt)
  clear H1
  have H1 := H1'
  clear H1'
  have H4' := Lib.hid (Blk.below H4.out Hb6.out H4.out.lt)
  clear H4
  have H4 := H4'
  clear H4'
  have Hbs' := Lib.hid ((Hbs.out.below Hb6.out).more Hb6.out.size)
  clear Hbs
  have Hbs := Hbs'
  clear Hbs'
  have Bw' : Hid (Below w.heap.size w w5) := Bw.out.trans (Hb6.out.mono Bw.out.size)
  clear Bw
  have Bw := Bw'
  clear Bw'
  clear Hb6
  obtain ⟨x7, hx7⟩ : ∃ W, W = w5.alloc (.cells (evCs none 0 0 none 0 0 ev0).toArray 39) := ⟨_, rfl⟩
  obtain ⟨y7, hy7⟩ : ∃ W, W = x7.setCells w5.heap.size 0 (evCs none 0 0 none 0 0 EZ) := ⟨_, rfl⟩
  obtain ⟨hth7, hbx7, hbe7⟩ := boxed w5 x7 y7 39 (evCs none 0 0 none 0 0 ev0) (evCs none 0 0 none 0 0 EZ) (by rw [ev_len HSZ.out, ev_len ev0_shape]) hx7 hy7
  rw [ev0_lit] at hx7
  have HX7 := Lib.hid hx7
  have HY7 := Lib.hid hy7
  have Hth7 := Lib.hid hth7
  have Hbe7 := Lib.hid hbe7
  have H8n := Lib.hid hbx7
  clear hx7 hy7 hth7 hbx7 hbe7
  have R1 := Lib.hid (blk_range H1.out)
  have R4 := Lib.hid (blk_range H4.out)
  go_upto_region 6 with (first
    | ((with_reducible refine gateL 39 ?_); refine wpList_load_g (by rfl) 39 (.tmp 1) rfl w.heap.size 0 rfl (evCs none 0 0 none 0 0 E) _ R1.out ev_under rfl (ev_sz HS.out) ?_)
    | ((with_reducible refine gateL 39 ?_); refine wpList_load_g (by rfl) 39 (.tmp 4) rfl w3.heap.size 0 rfl (evCs A3 0 c3 none 0 0 E) _ R4.out ev_under rfl (ev_sz HS.out) ?_)
    | (rw [← HX7.out]; (with_reducible refine gateS 39 ?_); refine wpList_store_mid rfl 39 (.tmp 8) (.tmp 36) rfl w5.heap.size 0 (evCs none 0 0 none 0 0 EZ).toArray rfl rfl Hth7.out (ev_szA HSZ.out) (ev_one _ _ _ _ _ _ _) ?_))
  clear R1
  clear R4
  rw [← HY7.out]
  clear HX7 HY7 Hth7
  have H1' := Lib.hid (Blk.below H1.out Hbe7.out H1.out.lt)
  clear H1
  have H1 := H1'
  clear H1'
  have H4' := Lib.hid (Blk.below H4.out Hbe7.out H4.out.lt)
  clear H4
  have H4 := H4'
  clear H4'
  have Hbs' := Lib.hid ((Hbs.out.below Hbe7.out).more Hbe7.out.size)
  clear Hbs
  have Hbs := Hbs'
  clear Hbs'
  have Bw' : Hid (Below w.heap.size w y7) := Bw.out.trans (Hbe7.out.mono Bw.out.size)
  clear Bw
  have Bw := Bw'
  clear Bw'
  have H8 := H8n
  clear H8n Hbe7
  clear H8
  obtain ⟨z1, hz1⟩ : ∃ W, W = y7.alloc (.cells (#[.int .u8 49, .int .u8 50, .int .u8 51, .int .u8 52, .int .u8 53, .int .u8 54, .int .u8 55, .int .u8 56, .int .u8 57] : Array Value) 5 (9, 10)) := ⟨_, rfl⟩
  have Hz1 : Hid (BS z1 z1.heap.size (some ⟨y7.heap.size, 0, none⟩) [49, 50, 51, 52, 53, 54, 55, 56, 57]) := by rw [hz1]; exact (BS.lit' y7 [49, 50, 51, 52, 53, 54, 55, 56, 57] _ rfl _ _ y7.heap.size rfl).more (by simp)
  have Hzb1 : Hid (Below y7.heap.size y7 z1) := by rw [hz1]; exact (Below.refl _ _).alloc (Nat.le_refl _) _
  obtain ⟨gz, hgz⟩ : ∃ g, g = y7.heap.size := ⟨_, rfl⟩
  have kc := fun (w : World) (C : Array Value) (n c : Nat) => Lib.run_convert_bytes_const (P := Try.prog) w 22 5 C n c Try.underlying22 Try.underlying5
  go_wp2_with fail
  clear kc
  rw [← hz1]
  rw [← hgz] at Hz1 ⊢
  clear hz1 hgz
  have H1' := Lib.hid (Blk.below H1.out Hzb1.out H1.out.lt)
  clear H1
  have H1 := H1'
  clear H1'
  have H4' := Lib.hid (Blk.below H4.out Hzb1.out H4.out.lt)
  clear H4
  have H4 := H4'
  clear H4'
  have Hbs' := Lib.hid ((Hbs.out.below Hzb1.out).more Hzb1.out.size)
  clear Hbs
  have Hbs := Hbs'
  clear Hbs'
  have Bw' : Hid (Below w.heap.size w z1) := Bw.out.trans (Hzb1.out.mono Bw.out.size)
  clear Bw
  have Bw := Bw'
  clear Bw'
  clear Hzb1
  refine (ofA EO HEO.out gz z1 Hz1.out).mono ?_
  rintro e w6 ⟨A6, c6, rfl, hb8⟩
  have Hb8 := Lib.hid hb8
  clear hb8
  have H1' := Lib.hid (Blk.below H1.out Hb8.out H1.out.lt)
  clear H1
  have H1 := H1'
  clear H1'
  have H4' := Lib.hid (Blk.below H4.out Hb8.out H4.out.lt)
  clear H4
  have H4 := H4'
  clear H4'
  have Hbs' := Lib.hid ((Hbs.out.below Hb8.out).more Hb8.out.size)
  clear Hbs
  have Hbs := Hbs'
  clear Hbs'
  have Bw' : Hid (Below w.heap.size w w6) := Bw.out.trans (Hb8.out.mono Bw.out.size)
  clear Bw
  have Bw := Bw'
  clear Bw'
  clear Hb8
  clear Hz1
  obtain ⟨x9, hx9⟩ : ∃ W, W = w6.alloc (.cells (evCs none 0 0 none 0 0 ev0).toArray 39) := ⟨_, rfl⟩
  obtain ⟨y9, hy9⟩ : ∃ W, W = x9.setCells w6.heap.size 0 (evCs A6 0 c6 none 0 0 EO) := ⟨_, rfl⟩
  obtain ⟨hth9, hbx9, hbe9⟩ := boxed w6 x9 y9 39 (evCs none 0 0 none 0 0 ev0) (evCs A6 0 c6 none 0 0 EO) (by rw [ev_len HSO.out, ev_len ev0_shape]) hx9 hy9
  rw [ev0_lit] at hx9
  have HX9 := Lib.hid hx9
  have HY9 := Lib.hid hy9
  have Hth9 := Lib.hid hth9
  have Hbe9 := Lib.hid hbe9
  have H10n := Lib.hid hbx9
  clear hx9 hy9 hth9 hbx9 hbe9
  have R1 := Lib.hid (blk_range H1.out)
  have R4 := Lib.hid (blk_range H4.out)
  go_upto_region 7 with (first
    | ((with_reducible refine gateL 39 ?_); refine wpList_load_g (by rfl) 39 (.tmp 1) rfl w.heap.size 0 rfl (evCs none 0 0 none 0 0 E) _ R1.out ev_under rfl (ev_sz HS.out) ?_)
    | ((with_reducible refine gateL 39 ?_); refine wpList_load_g (by rfl) 39 (.tmp 4) rfl w3.heap.size 0 rfl (evCs A3 0 c3 none 0 0 E) _ R4.out ev_under rfl (ev_sz HS.out) ?_)
    | (rw [← HX9.out]; (with_reducible refine gateS 39 ?_); refine wpList_store_mid rfl 39 (.tmp 10) (.tmp 42) rfl w6.heap.size 0 (evCs A6 0 c6 none 0 0 EO).toArray rfl rfl Hth9.out (ev_szA HSO.out) (ev_one _ _ _ _ _ _ _) ?_))
  clear R1
  clear R4
  rw [← HY9.out]
  clear HX9 HY9 Hth9
  have H1' := Lib.hid (Blk.below H1.out Hbe9.out H1.out.lt)
  clear H1
  have H1 := H1'
  clear H1'
  have H4' := Lib.hid (Blk.below H4.out Hbe9.out H4.out.lt)
  clear H4
  have H4 := H4'
  clear H4'
  have Hbs' := Lib.hid ((Hbs.out.below Hbe9.out).more Hbe9.out.size)
  clear Hbs
  have Hbs := Hbs'
  clear Hbs'
  have Bw' : Hid (Below w.heap.size w y9) := Bw.out.trans (Hbe9.out.mono Bw.out.size)
  clear Bw
  have Bw := Bw'
  clear Bw'
  have H10 := H10n
  clear H10n Hbe9
  have R1 := Lib.hid (blk_range H1.out)
  have R4 := Lib.hid (blk_range H4.out)
  have R10 := Lib.hid (blk_range H10.out)
  go_wp2_with (first
    | ((with_reducible refine gateL 39 ?_); refine wpList_load_g (by rfl) 39 (.tmp 1) rfl w.heap.size 0 rfl (evCs none 0 0 none 0 0 E) _ R1.out ev_under rfl (ev_sz HS.out) ?_)
    | ((with_reducible refine gateL 39 ?_); refine wpList_load_g (by rfl) 39 (.tmp 4) rfl w3.heap.size 0 rfl (evCs A3 0 c3 none 0 0 E) _ R4.out ev_under rfl (ev_sz HS.out) ?_)
    | ((with_reducible refine gateL 39 ?_); refine wpList_load_g (by rfl) 39 (.tmp 10) rfl w6.heap.size 0 rfl (evCs A6 0 c6 none 0 0 EO) _ R10.out ev_under rfl (ev_sz HSO.out) ?_))
  clear R1
  clear R4
  clear R10
  refine (pbA LB HLB.out y9).mono ?_
  rintro e w7 ⟨A7, c7, rfl, hbs7, hb10⟩
  have Hb10 := Lib.hid hb10
  clear hb10
  have HbL := Lib.hid hbs7
  clear hbs7
  have H1' := Lib.hid (Blk.below H1.out Hb10.out H1.out.lt)
  clear H1
  have H1 := H1'
  clear H1'
  have H4' := Lib.hid (Blk.below H4.out Hb10.out H4.out.lt)
  clear H4
  have H4 := H4'
  clear H4'
  have H10' := Lib.hid (Blk.below H10.out Hb10.out H10.out.lt)
  clear H10
  have H10 := H10'
  clear H10'
  have Hbs' := Lib.hid ((Hbs.out.below Hb10.out).more Hb10.out.size)
  clear Hbs
  have Hbs := Hbs'
  clear Hbs'
  have Bw' : Hid (Below w.heap.size w w7) := Bw.out.trans (Hb10.out.mono Bw.out.size)
  clear Bw
  have Bw := Bw'
  clear Bw'
  clear Hb10
  go_wp2_with fail
  refine (rdNew_any A7 36 c7 LB w7 HLl.out.symm HbL.out (by decide)).mono ?_
  rintro e u3 ⟨g3, rfl, hg1, hg2, hR, hb⟩
  have Hu3 := Lib.hid hb
  have HR3 := Lib.hid hR
  have Hg3 := Lib.hid hg1
  clear hR hb hg1 hg2
  go_wp2_with fail
  refine (take_eaw _ g3 LB _ u3 (backA_take2 LB HLB.out BK HBK.out) HR3.out (by rw [HLl.out]; decide) w7 Hg3.out Hu3.out).mono ?_
  rintro e w8 ⟨rfl, hb⟩
  have Hb := Lib.hid hb
  clear hb Hu3 HR3 Hg3
  have H1' := Lib.hid (Blk.below H1.out Hb.out H1.out.lt)
  clear H1
  have H1 := H1'
  clear H1'
  have H4' := Lib.hid (Blk.below H4.out Hb.out H4.out.lt)
  clear H4
  have H4 := H4'
  clear H4'
  have H10' := Lib.hid (Blk.below H10.out Hb.out H10.out.lt)
  clear H10
  have H10 := H10'
  clear H10'
  have Hbs' := Lib.hid ((Hbs.out.below Hb.out).more Hb.out.size)
  clear Hbs
  have Hbs := Hbs'
  clear Hbs'
  have Bw' : Hid (Below w.heap.size w w8) := Bw.out.trans (Hb.out.mono Bw.out.size)
  clear Bw
  have Bw := Bw'
  clear Bw'
  clear Hb
  clear HbL
  obtain ⟨x11, hx11⟩ : ∃ W, W = w8.alloc (.cells (backCs back0).toArray 29) := ⟨_, rfl⟩
  obtain ⟨y11, hy11⟩ : ∃ W, W = x11.setCells w8.heap.size 0 (backCs BK) := ⟨_, rfl⟩
  obtain ⟨hth11, hbx11, hbe11⟩ := boxed w8 x11 y11 29 (backCs back0) (backCs BK) (by rw [back_len HSB.out, back_len back0_shape]) hx11 hy11
  rw [back0_lit] at hx11
  have HX11 := Lib.hid hx11
  have HY11 := Lib.hid hy11
  have Hth11 := Lib.hid hth11
  have Hbe11 := Lib.hid hbe11
  have H13n := Lib.hid hbx11
  clear hx11 hy11 hth11 hbx11 hbe11
  have R1 := Lib.hid (blk_range H1.out)
  have R4 := Lib.hid (blk_range H4.out)
  have R10 := Lib.hid (blk_range H10.out)
  go_upto_region 9 with (first
    | ((with_reducible refine gateL 39 ?_); refine wpList_load_g (by rfl) 39 (.tmp 1) rfl w.heap.size 0 rfl (evCs none 0 0 none 0 0 E) _ R1.out ev_under rfl (ev_sz HS.out) ?_)
    | ((with_reducible refine gateL 39 ?_); refine wpList_load_g (by rfl) 39 (.tmp 4) rfl w3.heap.size 0 rfl (evCs A3 0 c3 none 0 0 E) _ R4.out ev_under rfl (ev_sz HS.out) ?_)
    | ((with_reducible refine gateL 39 ?_); refine wpList_load_g (by rfl) 39 (.tmp 10) rfl w6.heap.size 0 rfl (evCs A6 0 c6 none 0 0 EO) _ R10.out ev_under rfl (ev_sz HSO.out) ?_)
    | (rw [← HX11.out]; (with_reducible refine gateS 29 ?_); refine wpList_store_mid rfl 29 (.tmp 13) (.tmp 52) rfl w8.heap.size 0 (backCs BK).toArray rfl rfl Hth11.out (back_szA HSB.out) (back_one _) ?_))
  clear R1
  clear R4
  clear R10
  rw [← HY11.out]
  clear HX11 HY11 Hth11
  have H1' := Lib.hid (Blk.below H1.out Hbe11.out H1.out.lt)
  clear H1
  have H1 := H1'
  clear H1'
  have H4' := Lib.hid (Blk.below H4.out Hbe11.out H4.out.lt)
  clear H4
  have H4 := H4'
  clear H4'
  have H10' := Lib.hid (Blk.below H10.out Hbe11.out H10.out.lt)
  clear H10
  have H10 := H10'
  clear H10'
  have Hbs' := Lib.hid ((Hbs.out.below Hbe11.out).more Hbe11.out.size)
  clear Hbs
  have Hbs := Hbs'
  clear Hbs'
  have Bw' : Hid (Below w.heap.size w y11) := Bw.out.trans (Hbe11.out.mono Bw.out.size)
  clear Bw
  have Bw := Bw'
  clear Bw'
  have H13 := H13n
  clear H13n Hbe11
  obtain ⟨K0, hK0, hK1⟩ := nil_take2
  have HK0 := Lib.hid hK0
  have HK1 := Lib.hid hK1
  clear hK0 hK1
  go_wp2_with fail
  refine (rdNew_any none 0 0 [] y11 rfl (BS.nil _ _ _) (by decide)).mono ?_
  rintro e u4 ⟨g4, rfl, hg1, hg2, hR, hb⟩
  have Hu4 := Lib.hid hb
  have HR4 := Lib.hid hR
  have Hg4 := Lib.hid hg1
  clear hR hb hg1 hg2
  go_wp2_with fail
  refine (take_eaw _ g4 [] _ u4 HK0.out HR4.out (by decide) y11 Hg4.out Hu4.out).mono ?_
  rintro e w9 ⟨rfl, hb⟩
  have Hb := Lib.hid hb
  clear hb Hu4 HR4 Hg4
  have H1' := Lib.hid (Blk.below H1.out Hb.out H1.out.lt)
  clear H1
  have H1 := H1'
  clear H1'
  have H4' := Lib.hid (Blk.below H4.out Hb.out H4.out.lt)
  clear H4
  have H4 := H4'
  clear H4'
  have H10' := Lib.hid (Blk.below H10.out Hb.out H10.out.lt)
  clear H10
  have H10 := H10'
  clear H10'
  have H13' := Lib.hid (Blk.below H13.out Hb.out H13.out.lt)
  clear H13
  have H13 := H13'
  clear H13'
  have Hbs' := Lib.hid ((Hbs.out.below Hb.out).more Hb.out.size)
  clear Hbs
  have Hbs := Hbs'
  clear Hbs'
  have Bw' : Hid (Below w.heap.size w w9) := Bw.out.trans (Hb.out.mono Bw.out.size)
  clear Bw
  have Bw := Bw'
  clear Bw'
  clear Hb
  obtain ⟨x12, hx12⟩ : ∃ W, W = w9.alloc (.cells (backCs back0).toArray 29) := ⟨_, rfl⟩
  obtain ⟨y12, hy12⟩ : ∃ W, W = x12.setCells w9.heap.size 0 (backCs K0) := ⟨_, rfl⟩
  obtain ⟨hth12, hbx12, hbe12⟩ := boxed w9 x12 y12 29 (backCs back0) (backCs K0) (by rw [back_len HK1.out, back_len back0_shape]) hx12 hy12
  rw [back0_lit] at hx12
  have HX12 := Lib.hid hx12
  have HY12 := Lib.hid hy12
  have Hth12 := Lib.hid hth12
  have Hbe12 := Lib.hid hbe12
  have H15n := Lib.hid hbx12
  clear hx12 hy12 hth12 hbx12 hbe12
  have R1 := Lib.hid (blk_range H1.out)
  have R4 := Lib.hid (blk_range H4.out)
  have R10 := Lib.hid (blk_range H10.out)
  have R13 := Lib.hid (blk_range H13.out)
  go_upto_region 10 with (first
    | ((with_reducible refine gateL 39 ?_); refine wpList_load_g (by rfl) 39 (.tmp 1) rfl w.heap.size 0 rfl (evCs none 0 0 none 0 0 E) _ R1.out ev_under rfl (ev_sz HS.out) ?_)
    | ((with_reducible refine gateL 39 ?_); refine wpList_load_g (by rfl) 39 (.tmp 4) rfl w3.heap.size 0 rfl (evCs A3 0 c3 none 0 0 E) _ R4.out ev_under rfl (ev_sz HS.out) ?_)
    | ((with_reducible refine gateL 39 ?_); refine wpList_load_g (by rfl) 39 (.tmp 10) rfl w6.heap.size 0 rfl (evCs A6 0 c6 none 0 0 EO) _ R10.out ev_under rfl (ev_sz HSO.out) ?_)
    | ((with_reducible refine gateL 29 ?_); refine wpList_load_g (by rfl) 29 (.tmp 13) rfl w8.heap.size 0 rfl (backCs BK) _ R13.out back_under rfl (back_sz HSB.out) ?_)
    | (rw [← HX12.out]; (with_reducible refine gateS 29 ?_); refine wpList_store_mid rfl 29 (.tmp 15) (.tmp 57) rfl w9.heap.size 0 (backCs K0).toArray rfl rfl Hth12.out (back_szA HK1.out) (back_one _) ?_))
  clear R1
  clear R4
  clear R10
  clear R13
  rw [← HY12.out]
  clear HX12 HY12 Hth12
  have H1' := Lib.hid (Blk.below H1.out Hbe12.out H1.out.lt)
  clear H1
  have H1 := H1'
  clear H1'
  have H4' := Lib.hid (Blk.below H4.out Hbe12.out H4.out.lt)
  clear H4
  have H4 := H4'
  clear H4'
  have H10' := Lib.hid (Blk.below H10.out Hbe12.out H10.out.lt)
  clear H10
  have H10 := H10'
  clear H10'
  have H13' := Lib.hid (Blk.below H13.out Hbe12.out H13.out.lt)
  clear H13
  have H13 := H13'
  clear H13'
  have Hbs' := Lib.hid ((Hbs.out.below Hbe12.out).more Hbe12.out.size)
  clear Hbs
  have Hbs := Hbs'
  clear Hbs'
  have Bw' : Hid (Below w.heap.size w y12) := Bw.out.trans (Hbe12.out.mono Bw.out.size)
  clear Bw
  have Bw := Bw'
  clear Bw'
  have H15 := H15n
  clear H15n Hbe12
  clear H15
  simp only [List.append_eq, List.cons_append, List.nil_append]
  have hconv := run_convert_bs (P := Try.prog) 22 9 5 Try.underlying22 Try.underlying5 Try.underlying9 y12 _ A2 [4, 0, 0, 0, 0, 0, 0, 0, 0, 0, 0] Hbs.out 11 c2 rfl
  have R1 := Lib.hid (blk_range H1.out)
  have R4 := Lib.hid (blk_range H4.out)
  go_wp2_with (first
    | ((with_reducible refine gateL 39 ?_); refine wpList_load_g (by rfl) 39 (.tmp 1) rfl w.heap.size 0 rfl (evCs none 0 0 none 0 0 E) _ R1.out ev_under rfl (ev_sz HS.out) ?_)
    | ((with_reducible refine gateL 39 ?_); refine wpList_load_g (by rfl) 39 (.tmp 4) rfl w3.heap.size 0 rfl (evCs A3 0 c3 none 0 0 E) _ R4.out ev_under rfl (ev_sz HS.out) ?_))
  clear R1
  clear R4
  clear hconv
  refine (sameA E HE.out A3 c3 y12).mono ?_
  rintro e wa ⟨rfl, hb13⟩
  have Hb13 := Lib.hid hb13
  clear hb13
  have H1' := Lib.hid (Blk.below H1.out Hb13.out H1.out.lt)
  clear H1
  have H1 := H1'
  clear H1'
  have H4' := Lib.hid (Blk.below H4.out Hb13.out H4.out.lt)
  clear H4
  have H4 := H4'
  clear H4'
  have H10' := Lib.hid (Blk.below H10.out Hb13.out H10.out.lt)
  clear H10
  have H10 := H10'
  clear H10'
  have H13' := Lib.hid (Blk.below H13.out Hb13.out H13.out.lt)
  clear H13
  have H13 := H13'
  clear H13'
  have Hbs' := Lib.hid ((Hbs.out.below Hb13.out).more Hb13.out.size)
  clear Hbs
  have Hbs := Hbs'
  clear Hbs'
  have Bw' : Hid (Below w.heap.size w wa) := Bw.out.trans (Hb13.out.mono Bw.out.size)
  clear Bw
  have Bw := Bw'
  clear Bw'
  clear Hb13
  have d40 : wa.cell? ⟨w6.heap.size, 40, none⟩ = some (.int .i64 9) := by have := ce_34 H10.out HSO.out 6; rw [Hlen.out.1, Hlen.out.2] at this; exact this
  have d41 : wa.cell? ⟨w6.heap.size, 41, none⟩ = some (.int .u32 3808858755) := by have := ce_34 H10.out HSO.out 7; rw [Hlen.out.1, Hlen.out.2] at this; exact this
  have d13 : wa.cell? ⟨w8.heap.size, 0, none⟩ = some (.string ⟨#[97]⟩) := by have := H13.out.cell 0; rw [this]; unfold backCs; rw [Hnm.out]; rfl
  have RA : Hid (wa.rangeAt w.heap.size 0 (actCs none 0 0 E.act)) := ev_act_range H1.out
  have R1 := Lib.hid (blk_range H1.out)
  have R4 := Lib.hid (blk_range H4.out)
  go_wp2_with (first
    | ((with_reducible refine gateL 39 ?_); refine wpList_load_g (by rfl) 39 (.tmp 1) rfl w.heap.size 0 rfl (evCs none 0 0 none 0 0 E) _ R1.out ev_under rfl (ev_sz HS.out) ?_)
    | ((with_reducible refine gateL 39 ?_); refine wpList_load_g (by rfl) 39 (.tmp 4) rfl w3.heap.size 0 rfl (evCs A3 0 c3 none 0 0 E) _ R4.out ev_under rfl (ev_sz HS.out) ?_)
    | ((with_reducible refine gateL 33 ?_); refine wpList_load_g (by rfl) 33 (.tmp 110) rfl w.heap.size 0 rfl (actCs none 0 0 E.act) _ RA.out Try.underlying33 rfl (act_sz HS.out.act) ?_))
  clear R1
  clear R4
  clear RA d40 d41 d13
  refine (plainA E HE.out wa).mono ?_
  rintro e wb ⟨rfl, hb14⟩
  have Hb14 := Lib.hid hb14
  clear hb14
  have H1' := Lib.hid (Blk.below H1.out Hb14.out H1.out.lt)
  clear H1
  have H1 := H1'
  clear H1'
  have H4' := Lib.hid (Blk.below H4.out Hb14.out H4.out.lt)
  clear H4
  have H4 := H4'
  clear H4'
  have H10' := Lib.hid (Blk.below H10.out Hb14.out H10.out.lt)
  clear H10
  have H10 := H10'
  clear H10'
  have H13' := Lib.hid (Blk.below H13.out Hb14.out H13.out.lt)
  clear H13
  have H13 := H13'
  clear H13'
  have Hbs' := Lib.hid ((Hbs.out.below Hb14.out).more Hb14.out.size)
  clear Hbs
  have Hbs := Hbs'
  clear Hbs'
  have Bw' : Hid (Below w.heap.size w wb) := Bw.out.trans (Hb14.out.mono Bw.out.size)
  clear Bw
  have Bw := Bw'
  clear Bw'
  clear Hb14
  have R1 := Lib.hid (blk_range H1.out)
  have R4 := Lib.hid (blk_range H4.out)
  go_wp2_with (first
    | ((with_reducible refine gateL 39 ?_); refine wpList_load_g (by rfl) 39 (.tmp 1) rfl w.heap.size 0 rfl (evCs none 0 0 none 0 0 E) _ R1.out ev_under rfl (ev_sz HS.out) ?_)
    | ((with_reducible refine gateL 39 ?_); refine wpList_load_g (by rfl) 39 (.tmp 4) rfl w3.heap.size 0 rfl (evCs A3 0 c3 none 0 0 E) _ R4.out ev_under rfl (ev_sz HS.out) ?_))
  clear R1
  clear R4
  refine (rightA E HE.out wb).mono ?_
  rintro e wc ⟨rfl, hb15⟩
  have Hb15 := Lib.hid hb15
  clear hb15
  have H1' := Lib.hid (Blk.below H1.out Hb15.out H1.out.lt)
  clear H1
  have H1 := H1'
  clear H1'
  have H4' := Lib.hid (Blk.below H4.out Hb15.out H4.out.lt)
  clear H4
  have H4 := H4'
  clear H4'
  have H10' := Lib.hid (Blk.below H10.out Hb15.out H10.out.lt)
  clear H10
  have H10 := H10'
  clear H10'
  have H13' := Lib.hid (Blk.below H13.out Hb15.out H13.out.lt)
  clear H13
  have H13 := H13'
  clear H13'
  have Hbs' := Lib.hid ((Hbs.out.below Hb15.out).more Hb15.out.size)
  clear Hbs
  have Hbs := Hbs'
  clear Hbs'
  have Bw' : Hid (Below w.heap.size w wc) := Bw.out.trans (Hb15.out.mono Bw.out.size)
  clear Bw
  have Bw := Bw'
  clear Bw'
  clear Hb15
  go_wp2_with fail
  refine (plainA_no wc).mono ?_
  rintro e wd ⟨rfl, hb16⟩
  have Hb16 := Lib.hid hb16
  clear hb16
  have H1' := Lib.hid (Blk.below H1.out Hb16.out H1.out.lt)
  clear H1
  have H1 := H1'
  clear H1'
  have H4' := Lib.hid (Blk.below H4.out Hb16.out H4.out.lt)
  clear H4
  have H4 := H4'
  clear H4'
  have H10' := Lib.hid (Blk.below H10.out Hb16.out H10.out.lt)
  clear H10
  have H10 := H10'
  clear H10'
  have H13' := Lib.hid (Blk.below H13.out Hb16.out H13.out.lt)
  clear H13
  have H13 := H13'
  clear H13'
  have Hbs' := Lib.hid ((Hbs.out.below Hb16.out).more Hb16.out.size)
  clear Hbs
  have Hbs := Hbs'
  clear Hbs'
  have Bw' : Hid (Below w.heap.size w wd) := Bw.out.trans (Hb16.out.mono Bw.out.size)
  clear Bw
  have Bw := Bw'
  clear Bw'
  clear Hb16
  go_wp2_with fail
  go_ret
  exact ⟨rfl, Bw.out⟩
end Go.Proofs.Ytgohhojoahlfiaa
