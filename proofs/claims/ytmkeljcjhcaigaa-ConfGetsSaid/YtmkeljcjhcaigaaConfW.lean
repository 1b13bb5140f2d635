/- The document's GetAddr (printed by gen_getaddr.py). -/
import Derived.Test.YtmkeljcjhcaigaaConfZ
import Derived.Deep.LoopGhost
import Derived.Test.YtmkeljcjhcaigaaTurn
namespace Go.Proofs.Ytmkeljcjhcaigaa
open Go.RowKit
set_option linter.unusedVariables false
set_option linter.unusedSimpArgs false

/-- The address whose bytes stand ahead, and how many they are. -/
def getAddrS : List UInt8 → AddrP × Nat
  | [] => (addr0, 0)
  | c :: r => if c = 6 then (if 16 ≤ r.length then ((true, r.take 16), 17) else (addr0, 0)) else if c = 4 then (if 4 ≤ r.length then ((false, pad (r.take 4) 16), 5) else (addr0, 0)) else (addr0, 0)
theorem addrCs_set (b : Bool) (l : List UInt8) (k : Nat) (c : UInt8) : (addrCs (b, l)).toArray.setIfInBounds (1 + k) (.int .u8 (c.toNat : Int)) = (addrCs (b, l.set k c)).toArray := by
  rw [List.setIfInBounds_toArray, addrCs, show 1 + k = k + 1 by omega, List.set_cons_succ, addrCs, bcells_set]
theorem pad_set {x : List UInt8} {k : Nat} (hk : k < x.length) (h16 : k < 16) : (pad (x.take k) 16).set k x[k] = pad (x.take (k + 1)) 16 := by
  have h1 : (x.take k).length = k := by simp; omega
  have h2 : (x.take (k + 1)).length = k + 1 := by simp; omega
  unfold pad
  rw [h1, h2, List.set_append_right _ _ (by omega), h1, Nat.sub_self, show 16 - k = (16 - (k + 1)) + 1 by omega, List.replicate_succ, List.set_cons_zero, List.take_add_one, List.getElem?_eq_getElem hk, List.append_assoc]
  rfl
theorem results_row_tmp' {P : Program} {fn : Func} {p u : Tmp} {ty : TypeId} (h : fn.results = #[.cell p ty, .tmp u]) (tmps : Array Value) (w : World) (g : Nat) (t : TypeId) (cs : Array Value) (d : TypeDesc)
    (hp : tmps.getD p undef = .pointer (some ⟨g, 0, none⟩)) (hg : Blk w g t cs)
    (hu : P.underlying ty = some d) (hd : (match d with | .struct _ | .array _ _ => true | _ => false) = true) (hi : (P.info? ty).map (·.size) = some cs.size) :
    (results fn tmps).run P w = .ok (.tuple #[.agg cs, tmps.getD u undef]) w := results_row_tmp h tmps w g t cs (0, 0) d hp hg hu hd hi

/-- What holds in the loop that copies an address's bytes. -/
def GAt (W wr : World) (b2 b4 : Nat) (x : List UInt8) (k : Nat) : Prop :=
  Blk wr b4 27 (addrCs (false, pad (x.take k) 16)).toArray ∧ Blk wr b2 27 (addrCs addr0).toArray ∧ Below b2 W wr

set_option maxHeartbeats 2000000 in
set_option maxRecDepth 100000 in
theorem refGetAddr_any (A : Option Addr) (n c : Nat) (l : List UInt8) (w : World) (hn : n = l.length) (hb : BS w w.heap.size A l) (hl : n ≤ 1000000000) :
    Calls Try.prog 29 #[.slice A n c] w fun e w' => e = .returned (.tuple #[.agg (addrCs (getAddrS l).1).toArray, .int .i64 ((getAddrS l).2 : Int)]) ∧ Below w.heap.size w w' := by
  subst hn
  obtain ⟨W, hW⟩ : ∃ W, W = (w.alloc (.cells (addrCs addr0).toArray 27)).alloc (.cells (addrCs addr0).toArray 27) := ⟨_, rfl⟩
  have hX2 : Blk W w.heap.size 27 (addrCs addr0).toArray := by rw [hW]; exact Blk.alloc (Blk.new w _ _ _ rfl) _
  have hX4 : Blk W (w.heap.size + 1) 27 (addrCs addr0).toArray := by rw [hW]; exact Blk.new _ _ _ _ (by simp)
  have hB : Below w.heap.size w W := by rw [hW]; exact ((Below.refl _ _).alloc (Nat.le_refl _) _).alloc (by simp) _
  obtain ⟨W2, hW2⟩ : ∃ W2, W2 = W.setCells (w.heap.size + 1) 0 (addrCs addr0) := ⟨_, rfl⟩
  have hY4 : Blk W2 (w.heap.size + 1) 27 (addrCs addr0).toArray := by
    rw [hW2]
    have := Blk.setCells (addrCs addr0) 0 hX4
    rw [setL_whole rfl] at this
    exact this
  have hY2 : Blk W2 w.heap.size 27 (addrCs addr0).toArray := by rw [hW2]; exact Blk.setCellsFar (by omega) _ 0 hX2
  have hB2 : Below w.heap.size w W2 := by rw [hW2]; exact below_setCells (by omega) _ _ hB
  have HBS := Lib.hid (hb.below hB2)
  have Hth4 : Hid (W.there (w.heap.size + 1) 0 17) := hX4.there (by rw [addr0_lit]; decide)
  have Hth2 : Hid (W2.there w.heap.size 0 17) := hY2.there (by rw [addr0_lit]; decide)
  have HR4 := Lib.hid (blk_range hY4)
  have HW := Lib.hid hW
  have HW2 := Lib.hid hW2
  have HY2 := Lib.hid hY2
  have HY4 := Lib.hid hY4
  have HB2 := Lib.hid hB2
  rw [addr0_lit] at HW
  clear hW hX2 hX4 hB hW2 hY4 hY2 hB2 hb
  rcases l with _ | ⟨c0, r⟩
  · have Hr : Hid (getAddrS [] = (addr0, 0)) := rfl
    go_enter Try.func29, Try.ntmps29
    go_upto_region 1 with fail
    go_upto_region 2 with (first
      | (rw [← HW.out]
         (with_reducible refine gateS 27 ?_)
         refine wpList_store_mid rfl 27 (.tmp 4) (.tmp 7) rfl (w.heap.size + 1) 0 (addrCs addr0).toArray rfl rfl Hth4.out addr_size (addr_one addr0) ?_))
    rw [← HW2.out]
    go_wp2_with (first
      | ((with_reducible refine gateL 27 ?_); refine wpList_load_g (by rfl) 27 (.tmp 4) rfl (w.heap.size + 1) 0 rfl (addrCs addr0) _ HR4.out Try.underlying27 rfl addr_size ?_)
      | ((with_reducible refine gateS 27 ?_); refine wpList_store_mid rfl 27 (.tmp 2) (.tmp 23) rfl w.heap.size 0 (addrCs addr0).toArray rfl rfl Hth2.out addr_size (addr_one addr0) ?_))
    have hX9 := Blk.setCells (addrCs addr0) 0 HY2.out
    rw [setL_whole rfl] at hX9
    refine bodyPost_ret (v := .tuple #[.agg (addrCs addr0).toArray, .int .i64 0]) (results_row_tmp' (P := Try.prog) (p := 2) (u := 3) rfl _ _ w.heap.size _ _ _ rfl hX9 addr_under rfl addr_size) rfl ⟨by rw [Hr.out]; rfl, below_setCells (Nat.le_refl _) _ _ HB2.out⟩
  · obtain ⟨ad, rfl, hadb, hcell⟩ := HBS.out (by simp)
    have hc0 : W2.cell? (ad.add 0) = some (.int .u8 (c0.toNat : Int)) := hcell 0 c0 rfl
    have hc0' : W2.cell? ad = some (.int .u8 (c0.toNat : Int)) := by have := hc0; rwa [show ad.add 0 = ad from rfl] at this
    obtain ⟨nl, hnl⟩ : ∃ nl, nl = (c0 :: r).length := ⟨_, rfl⟩
    have hnlr : nl = r.length + 1 := by rw [hnl]; rfl
    rw [← hnl]
    have h0I : ¬ (nl : Int) = 0 := by omega
    have h0p : (0 : Int) < (nl : Int) := by omega
    have Hnl := Lib.hid hnl
    clear hnl
    rw [← Hnl.out] at hl
    by_cases h6 : c0 = 6
    · subst h6
      have e6 : ((6 : UInt8).toNat : Int) = 6 := rfl
      rw [e6] at hc0 hc0'
      by_cases hlen : 16 ≤ r.length
      · have Hr : Hid (getAddrS (6 :: r) = ((true, r.take 16), 17)) := by show _ = _; simp only [getAddrS]; rw [if_pos (by decide), if_pos hlen]
        have hlI : ¬ (nl : Int) < 17 := by omega
        have hlI2 : ¬ (nl : Int) < 1 + 16 := by omega
        go_enter Try.func29, Try.ntmps29
        go_upto_region 1 with fail
        go_upto_region 2 with (first
          | (rw [← HW.out]
             (with_reducible refine gateS 27 ?_)
             refine wpList_store_mid rfl 27 (.tmp 4) (.tmp 7) rfl (w.heap.size + 1) 0 (addrCs addr0).toArray rfl rfl Hth4.out addr_size (addr_one addr0) ?_))
        rw [← HW2.out]
        go_wp2_with fail
        go_loopw [6] (fun i wr => ∃ k : Nat, k ≤ 16 ∧ i = .int .i64 (k : Int) ∧ Hid (GAt W2 wr w.heap.size (w.heap.size + 1) r k)) (fun i _ => 16 - (intOf i).toNat)
        case atStart => exact ⟨0, by omega, rfl, HY4.out, HY2.out, Below.refl _ _⟩
        case round =>
          obtain ⟨k, hk, rfl, hat⟩ := hrel
          by_cases hlt : k < 16
          · have hltI : (k : Int) < 16 := by omega
            have hk0 : (0 : Int) ≤ (k : Int) := by omega
            have hk16 : (k : Int) < 16 := by omega
            have hkl : k < r.length := by omega
            have hwk : IntKind.i64.wrap (1 + (k : Int)) = 1 + (k : Int) := IntWalk.i64_in _ (by omega)
            have hk1 : 1 + (k : Int) < (nl : Int) := by omega
            have hk10 : (0 : Int) ≤ 1 + (k : Int) := by omega
            have hkt : (1 + (k : Int)).toNat = 1 + k := by omega
            obtain ⟨h4, h2, hbw⟩ := hat.out
            obtain ⟨y, hy⟩ : ∃ y, y = r[k] := ⟨_, rfl⟩
            have hck : wr.cell? (ad.add (1 + k)) = some (.int .u8 (y.toNat : Int)) := by
              rw [hbw.cell (by rw [block_of_add]; exact hadb)]
              exact hcell (1 + k) y (by rw [show 1 + k = k + 1 by omega, List.getElem?_cons_succ, List.getElem?_eq_getElem hkl, hy])
            have hzc : (wr.cell? ⟨w.heap.size + 1, 1 + k, none⟩).isSome = true := (Blk.there (o := 0) (n := 17) h4 (by rw [List.size_toArray, addrCs_length (show addrOk (false, pad (r.take k) 16) from pad_len (by simp; omega))]; decide) (1 + k) (by omega) |>.1 |> (by simpa using ·))
            obtain ⟨z, hz⟩ := Option.isSome_iff_exists.1 hzc
            have hzf : wr.frozen? ⟨w.heap.size + 1, 1 + k, none⟩ = false := h4.frozen _
            have h5 := Blk.set_ h4 (1 + k) (.int .u8 (y.toNat : Int))
            rw [addrCs_set, hy, pad_set hkl (by omega), ← hy] at h5
            have Hat2 : Hid (GAt W2 (wr.setCell ⟨w.heap.size + 1, 1 + k, none⟩ (.int .u8 (y.toNat : Int))) w.heap.size (w.heap.size + 1) r (k + 1)) :=
              ⟨h5, Blk.far h2 (by simp) _, hbw.setCell (by simp) _⟩
            clear h4 h2 hbw hat h5 hy hzc hcell hc0 hc0'
            go_wp2
            go_roundw
            case rel => exact ⟨k + 1, by omega, by go_num, Hat2⟩
            case measure => simp [intOf]; omega
          · have hltI : ¬ (k : Int) < 16 := by omega
            have hkN : k = 16 := by omega
            subst hkN
            obtain ⟨h4, h2, hbw⟩ := hat.out
            have c0 := addr_c0 h4
            have f0 : wr.frozen? ⟨w.heap.size + 1, 0, none⟩ = false := h4.frozen 0
            have h5 := Blk.set_ h4 0 (.bool true)
            have h6 : Blk (wr.setCell ⟨w.heap.size + 1, 0, none⟩ (.bool true)) (w.heap.size + 1) 27 (addrCs (true, r.take 16)).toArray := by
              rw [pad_full (by simp; omega)] at h5; exact h5
            have h7 := Blk.far h2 (p := ⟨w.heap.size + 1, 0, none⟩) (by simp) (.bool true)
            have hao : addrOk (true, r.take 16) := by show (r.take 16).length = 16; simp; omega
            have Hasz := Lib.hid (addr_sz hao)
            have HRg := Lib.hid (blk_range h6)
            have Hth : Hid ((wr.setCell ⟨w.heap.size + 1, 0, none⟩ (.bool true)).there w.heap.size 0 (addrCs (true, r.take 16)).toArray.size) := h7.there (by rw [addr0_lit, List.size_toArray, addrCs_length hao]; decide)
            have H7 := Lib.hid h7
            have HBw : Hid (Below w.heap.size w (wr.setCell ⟨w.heap.size + 1, 0, none⟩ (.bool true))) := HB2.out.trans ((hbw.setCell (by simp) _).mono (Nat.le_refl _))
            clear h4 h2 hbw hat h5 h6 h7 hcell hc0 hc0'
            go_wp2_with (first
              | ((with_reducible refine gateL 27 ?_); refine wpList_load_g (by rfl) 27 (.tmp 4) rfl (w.heap.size + 1) 0 rfl (addrCs (true, r.take 16)) _ HRg.out Try.underlying27 rfl Hasz.out ?_)
              | ((with_reducible refine gateS 27 ?_); refine wpList_store_mid rfl 27 (.tmp 2) (.tmp 50) rfl w.heap.size 0 (addrCs (true, r.take 16)).toArray rfl rfl Hth.out Hasz.out (addr_one _) ?_))
            have hX9 := Blk.setCells (addrCs (true, r.take 16)) 0 H7.out
            rw [setL_whole (by rw [addrCs_length hao]; rfl)] at hX9
            refine bodyPost_ret (v := .tuple #[.agg (addrCs (true, r.take 16)).toArray, .int .i64 17]) (results_row_tmp' (P := Try.prog) (p := 2) (u := 3) rfl _ _ w.heap.size _ _ _ rfl hX9 addr_under rfl Hasz.out) rfl ⟨by rw [Hr.out]; rfl, below_setCells (Nat.le_refl _) _ _ HBw.out⟩
      · have Hr : Hid (getAddrS (6 :: r) = (addr0, 0)) := by show _ = _; simp only [getAddrS]; rw [if_pos (by decide), if_neg hlen]
        have hlI : (nl : Int) < 17 := by omega
        have hlI2 : (nl : Int) < 1 + 16 := by omega
        go_enter Try.func29, Try.ntmps29
        go_upto_region 1 with fail
        go_upto_region 2 with (first
          | (rw [← HW.out]
             (with_reducible refine gateS 27 ?_)
             refine wpList_store_mid rfl 27 (.tmp 4) (.tmp 7) rfl (w.heap.size + 1) 0 (addrCs addr0).toArray rfl rfl Hth4.out addr_size (addr_one addr0) ?_))
        rw [← HW2.out]
        go_wp2_with (first
          | ((with_reducible refine gateL 27 ?_); refine wpList_load_g (by rfl) 27 (.tmp 4) rfl (w.heap.size + 1) 0 rfl (addrCs addr0) _ HR4.out Try.underlying27 rfl addr_size ?_)
          | ((with_reducible refine gateS 27 ?_); refine wpList_store_mid rfl 27 (.tmp 2) (.tmp 33) rfl w.heap.size 0 (addrCs addr0).toArray rfl rfl Hth2.out addr_size (addr_one addr0) ?_))
        have hX9 := Blk.setCells (addrCs addr0) 0 HY2.out
        rw [setL_whole rfl] at hX9
        refine bodyPost_ret (v := .tuple #[.agg (addrCs addr0).toArray, .int .i64 0]) (results_row_tmp' (P := Try.prog) (p := 2) (u := 3) rfl _ _ w.heap.size _ _ _ rfl hX9 addr_under rfl addr_size) rfl ⟨by rw [Hr.out]; rfl, below_setCells (Nat.le_refl _) _ _ HB2.out⟩
    · by_cases h4 : c0 = 4
      · subst h4
        have e4 : ((4 : UInt8).toNat : Int) = 4 := rfl
        rw [e4] at hc0 hc0'
        by_cases hlen : 4 ≤ r.length
        · have Hr : Hid (getAddrS (4 :: r) = ((false, pad (r.take 4) 16), 5)) := by show _ = _; simp only [getAddrS]; rw [if_neg (by decide), if_pos (by decide), if_pos hlen]
          have hlI : ¬ (nl : Int) < 5 := by omega
          have hlI2 : ¬ (nl : Int) < 1 + 4 := by omega
          go_enter Try.func29, Try.ntmps29
          go_upto_region 1 with fail
          go_upto_region 2 with (first
            | (rw [← HW.out]
               (with_reducible refine gateS 27 ?_)
               refine wpList_store_mid rfl 27 (.tmp 4) (.tmp 7) rfl (w.heap.size + 1) 0 (addrCs addr0).toArray rfl rfl Hth4.out addr_size (addr_one addr0) ?_))
          rw [← HW2.out]
          go_wp2_with fail
          go_loopw [6] (fun i wr => ∃ k : Nat, k ≤ 4 ∧ i = .int .i64 (k : Int) ∧ Hid (GAt W2 wr w.heap.size (w.heap.size + 1) r k)) (fun i _ => 4 - (intOf i).toNat)
          case atStart => exact ⟨0, by omega, rfl, HY4.out, HY2.out, Below.refl _ _⟩
          case round =>
            obtain ⟨k, hk, rfl, hat⟩ := hrel
            by_cases hlt : k < 4
            · have hltI : (k : Int) < 4 := by omega
              have hk0 : (0 : Int) ≤ (k : Int) := by omega
              have hk16 : (k : Int) < 16 := by omega
              have hkl : k < r.length := by omega
              have hwk : IntKind.i64.wrap (1 + (k : Int)) = 1 + (k : Int) := IntWalk.i64_in _ (by omega)
              have hk1 : 1 + (k : Int) < (nl : Int) := by omega
              have hk10 : (0 : Int) ≤ 1 + (k : Int) := by omega
              have hkt : (1 + (k : Int)).toNat = 1 + k := by omega
              obtain ⟨h4, h2, hbw⟩ := hat.out
              obtain ⟨y, hy⟩ : ∃ y, y = r[k] := ⟨_, rfl⟩
              have hck : wr.cell? (ad.add (1 + k)) = some (.int .u8 (y.toNat : Int)) := by
                rw [hbw.cell (by rw [block_of_add]; exact hadb)]
                exact hcell (1 + k) y (by rw [show 1 + k = k + 1 by omega, List.getElem?_cons_succ, List.getElem?_eq_getElem hkl, hy])
              have hzc : (wr.cell? ⟨w.heap.size + 1, 1 + k, none⟩).isSome = true := (Blk.there (o := 0) (n := 17) h4 (by rw [List.size_toArray, addrCs_length (show addrOk (false, pad (r.take k) 16) from pad_len (by simp; omega))]; decide) (1 + k) (by omega) |>.1 |> (by simpa using ·))
              obtain ⟨z, hz⟩ := Option.isSome_iff_exists.1 hzc
              have hzf : wr.frozen? ⟨w.heap.size + 1, 1 + k, none⟩ = false := h4.frozen _
              have h5 := Blk.set_ h4 (1 + k) (.int .u8 (y.toNat : Int))
              rw [addrCs_set, hy, pad_set hkl (by omega), ← hy] at h5
              have Hat2 : Hid (GAt W2 (wr.setCell ⟨w.heap.size + 1, 1 + k, none⟩ (.int .u8 (y.toNat : Int))) w.heap.size (w.heap.size + 1) r (k + 1)) :=
                ⟨h5, Blk.far h2 (by simp) _, hbw.setCell (by simp) _⟩
              clear h4 h2 hbw hat h5 hy hzc hcell hc0 hc0'
              go_wp2
              go_roundw
              case rel => exact ⟨k + 1, by omega, by go_num, Hat2⟩
              case measure => simp [intOf]; omega
            · have hltI : ¬ (k : Int) < 4 := by omega
              have hkN : k = 4 := by omega
              subst hkN
              obtain ⟨h4, h2, hbw⟩ := hat.out
              have c0 := addr_c0 h4
              have f0 : wr.frozen? ⟨w.heap.size + 1, 0, none⟩ = false := h4.frozen 0
              have h5 := Blk.set_ h4 0 (.bool false)
              have h6 : Blk (wr.setCell ⟨w.heap.size + 1, 0, none⟩ (.bool false)) (w.heap.size + 1) 27 (addrCs (false, pad (r.take 4) 16)).toArray := by
                exact h5
              have h7 := Blk.far h2 (p := ⟨w.heap.size + 1, 0, none⟩) (by simp) (.bool false)
              have hao : addrOk (false, pad (r.take 4) 16) := pad_len (by simp; omega)
              have Hasz := Lib.hid (addr_sz hao)
              have HRg := Lib.hid (blk_range h6)
              have Hth : Hid ((wr.setCell ⟨w.heap.size + 1, 0, none⟩ (.bool false)).there w.heap.size 0 (addrCs (false, pad (r.take 4) 16)).toArray.size) := h7.there (by rw [addr0_lit, List.size_toArray, addrCs_length hao]; decide)
              have H7 := Lib.hid h7
              have HBw : Hid (Below w.heap.size w (wr.setCell ⟨w.heap.size + 1, 0, none⟩ (.bool false))) := HB2.out.trans ((hbw.setCell (by simp) _).mono (Nat.le_refl _))
              clear h4 h2 hbw hat h5 h6 h7 hcell hc0 hc0'
              go_wp2_with (first
                | ((with_reducible refine gateL 27 ?_); refine wpList_load_g (by rfl) 27 (.tmp 4) rfl (w.heap.size + 1) 0 rfl (addrCs (false, pad (r.take 4) 16)) _ HRg.out Try.underlying27 rfl Hasz.out ?_)
                | ((with_reducible refine gateS 27 ?_); refine wpList_store_mid rfl 27 (.tmp 2) (.tmp 50) rfl w.heap.size 0 (addrCs (false, pad (r.take 4) 16)).toArray rfl rfl Hth.out Hasz.out (addr_one _) ?_))
              have hX9 := Blk.setCells (addrCs (false, pad (r.take 4) 16)) 0 H7.out
              rw [setL_whole (by rw [addrCs_length hao]; rfl)] at hX9
              refine bodyPost_ret (v := .tuple #[.agg (addrCs (false, pad (r.take 4) 16)).toArray, .int .i64 5]) (results_row_tmp' (P := Try.prog) (p := 2) (u := 3) rfl _ _ w.heap.size _ _ _ rfl hX9 addr_under rfl Hasz.out) rfl ⟨by rw [Hr.out]; rfl, below_setCells (Nat.le_refl _) _ _ HBw.out⟩
        · have Hr : Hid (getAddrS (4 :: r) = (addr0, 0)) := by show _ = _; simp only [getAddrS]; rw [if_neg (by decide), if_pos (by decide), if_neg hlen]
          have hlI : (nl : Int) < 5 := by omega
          have hlI2 : (nl : Int) < 1 + 4 := by omega
          go_enter Try.func29, Try.ntmps29
          go_upto_region 1 with fail
          go_upto_region 2 with (first
            | (rw [← HW.out]
               (with_reducible refine gateS 27 ?_)
               refine wpList_store_mid rfl 27 (.tmp 4) (.tmp 7) rfl (w.heap.size + 1) 0 (addrCs addr0).toArray rfl rfl Hth4.out addr_size (addr_one addr0) ?_))
          rw [← HW2.out]
          go_wp2_with (first
            | ((with_reducible refine gateL 27 ?_); refine wpList_load_g (by rfl) 27 (.tmp 4) rfl (w.heap.size + 1) 0 rfl (addrCs addr0) _ HR4.out Try.underlying27 rfl addr_size ?_)
            | ((with_reducible refine gateS 27 ?_); refine wpList_store_mid rfl 27 (.tmp 2) (.tmp 33) rfl w.heap.size 0 (addrCs addr0).toArray rfl rfl Hth2.out addr_size (addr_one addr0) ?_))
          have hX9 := Blk.setCells (addrCs addr0) 0 HY2.out
          rw [setL_whole rfl] at hX9
          refine bodyPost_ret (v := .tuple #[.agg (addrCs addr0).toArray, .int .i64 0]) (results_row_tmp' (P := Try.prog) (p := 2) (u := 3) rfl _ _ w.heap.size _ _ _ rfl hX9 addr_under rfl addr_size) rfl ⟨by rw [Hr.out]; rfl, below_setCells (Nat.le_refl _) _ _ HB2.out⟩
      · have h6I : ¬ (c0.toNat : Int) = 6 := fun e => h6 (UInt8.toNat_inj.1 (by show c0.toNat = 6; omega))
        have h4I : ¬ (c0.toNat : Int) = 4 := fun e => h4 (UInt8.toNat_inj.1 (by show c0.toNat = 4; omega))
        have h4b : ((c0.toNat : Int) != 4) = true := by simp [h4I]
        have h6b : ((c0.toNat : Int) != 6) = true := by simp [h6I]
        have Hr : Hid (getAddrS (c0 :: r) = (addr0, 0)) := by show _ = _; simp only [getAddrS]; rw [if_neg h6, if_neg h4]
        go_enter Try.func29, Try.ntmps29
        go_upto_region 1 with fail
        go_upto_region 2 with (first
          | (rw [← HW.out]
             (with_reducible refine gateS 27 ?_)
             refine wpList_store_mid rfl 27 (.tmp 4) (.tmp 7) rfl (w.heap.size + 1) 0 (addrCs addr0).toArray rfl rfl Hth4.out addr_size (addr_one addr0) ?_))
        rw [← HW2.out]
        go_wp2_with (first
          | ((with_reducible refine gateL 27 ?_); refine wpList_load_g (by rfl) 27 (.tmp 4) rfl (w.heap.size + 1) 0 rfl (addrCs addr0) _ HR4.out Try.underlying27 rfl addr_size ?_)
          | ((with_reducible refine gateS 27 ?_); refine wpList_store_mid rfl 27 (.tmp 2) (.tmp 23) rfl w.heap.size 0 (addrCs addr0).toArray rfl rfl Hth2.out addr_size (addr_one addr0) ?_))
        have hX9 := Blk.setCells (addrCs addr0) 0 HY2.out
        rw [setL_whole rfl] at hX9
        refine bodyPost_ret (v := .tuple #[.agg (addrCs addr0).toArray, .int .i64 0]) (results_row_tmp' (P := Try.prog) (p := 2) (u := 3) rfl _ _ w.heap.size _ _ _ rfl hX9 addr_under rfl addr_size) rfl ⟨by rw [Hr.out]; rfl, below_setCells (Nat.le_refl _) _ _ HB2.out⟩
end Go.Proofs.Ytmkeljcjhcaigaa
