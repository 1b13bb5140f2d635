/- The walk of RecordRows. -/
import Derived.Test.YtpeknjbcjpdmnaaRecK
namespace Go.Proofs.Ytpeknjbcjpdmnaa
open Go.RowKit
set_option linter.unusedVariables false

theorem cut_from (ls : List (List UInt8)) (k : Nat) : ∀ (d i : Nat), i + d = ls.length → (rowB (ls.take i)).length ≤ k → ∃ i', i' ≤ ls.length ∧ (rowB (ls.take i')).length ≤ k ∧ (i' < ls.length → k < (rowB (ls.take (i' + 1))).length)
  | 0, i, h, hle => ⟨i, by omega, hle, fun h' => absurd h' (by omega)⟩
  | d + 1, i, h, hle => by
    by_cases hn : (rowB (ls.take (i + 1))).length ≤ k
    · exact cut_from ls k d (i + 1) (by omega) hn
    · exact ⟨i, by omega, hle, fun _ => by omega⟩
theorem cut_at (ls : List (List UInt8)) (k : Nat) : ∃ i, i ≤ ls.length ∧ (rowB (ls.take i)).length ≤ k ∧ (i < ls.length → k < (rowB (ls.take (i + 1))).length) :=
  cut_from ls k ls.length 0 (by omega) (by simp [rowB])
theorem rowB_mono {ls : List (List UInt8)} {j i : Nat} (h : j ≤ i) : (rowB (ls.take j)).length ≤ (rowB (ls.take i)).length := by
  have := rowB_take_le (ls := ls.take i) (i := j)
  rw [List.take_take, Nat.min_eq_left h] at this
  exact this

set_option maxHeartbeats 1600000 in
set_option maxRecDepth 100000 in
theorem walk_recordRows (a0 : Option Addr) (len0 cap0 : Nat) (ls : List (List UInt8)) (a1 : Int) (w : World) (hn : len0 = ls.length) (hlc : len0 ≤ cap0) (hm : len0 ≤ maxLen) (hB : LS w w.heap.size a0 ls) (w1 : (Lit.int .u16 a1).wf = true) :
    Calls Try.prog 8 #[.slice a0 len0 cap0, .int .u16 a1] w fun e w' => e = .returned (.bool true) ∧ Below w.heap.size w w' := by
  subst hn
  obtain ⟨q, rfl, hq⟩ := u16_of_wf w1
  have HB := Lib.hid hB
  clear hB w1
  rcases hf : fewS ls with _ | _
  · have Hf := Lib.hid hf
    clear hf
    go_enter Try.func8, Try.ntmps8
    go_wp2_with fail
    refine (awake5_any _).mono ?_
    rintro e w1 ⟨rfl, hb1⟩
    go_wp2_with fail
    refine (few_eq _ _ _ ls _ rfl ((HB.out.below hb1).more hb1.size) hm Hf.out).mono ?_
    rintro e w2 ⟨rfl, hb2⟩
    have hB2 := bthen hb1 hb2
    go_wp2_with fail
    refine (awake5_any _).mono ?_
    rintro e w3 ⟨rfl, hb3⟩
    go_wp2
    go_ret
    exact ⟨rfl, bthen hB2 hb3⟩
  · have Hf := Lib.hid hf
    obtain ⟨hf1, hf2⟩ := few_of hf
    have hok := Lib.hid (few_ok ⟨hf1, hf2⟩)
    obtain ⟨hr1, hr2⟩ := few_len hf1 hf2
    obtain ⟨k, hk⟩ : ∃ k, q % ((rowB ls).length + 1) = k := ⟨_, rfl⟩
    have hk1 : k ≤ (rowB ls).length := by
      have : q % ((rowB ls).length + 1) < (rowB ls).length + 1 := Nat.mod_lt _ (by omega)
      omega
    obtain ⟨i, hi, hle, hmax⟩ := cut_at ls k
    have hall := all_cut hok.out hk1 hi hle hmax
    obtain ⟨o, ho⟩ : ∃ o, rowB ls = o := ⟨_, rfl⟩
    rw [ho] at hall hr1 hk hk1
    have hki : (q : Int) % ((o.length : Int) + 1) = (k : Int) := by
      rw [← hk, show ((o.length : Int) + 1) = ((o.length + 1 : Nat) : Int) by omega, ← Int.natCast_emod]
    have hq16 : q ≤ 65535 := by omega
    obtain ⟨E, hE⟩ : ∃ E, (rowB (ls.take i)).length = E := ⟨_, rfl⟩
    rw [hE] at hall hle
    have HE := Lib.hid hE
    obtain ⟨xs, hxs⟩ : ∃ xs, ls.take i = xs := ⟨_, rfl⟩
    have hxl : i = xs.length := by rw [← hxs, List.length_take]; omega
    rw [hxs] at hall
    have hx0 : Hid (LS w w.heap.size a0 xs) := by
      show LS _ _ _ _
      rw [← hxs]
      exact HB.out.take i
    have Ho := Lib.hid ho
    have Hf2 := Lib.hid hf2
    have Hmax := Lib.hid hmax
    have Hr2 : Hid (room ls ≤ 1000000000) := by show _ ≤ _; omega
    have Hxl := Lib.hid hxl
    have hss : (xs == xs) = true := by simp
    have htk : Hid (k = (o.take k).length) := by show _ = _; rw [List.length_take]; omega
    obtain ⟨tk, htk2⟩ : ∃ tk, o.take k = tk := ⟨_, rfl⟩
    have Htk2 := Lib.hid htk2
    rw [htk2] at hall htk
    clear hf hf2 ho hr2 hmax hE hxs hxl hk htk2
    have key : ∀ (z : Bool) (e : Nat), ((E : Int) == (k : Int)) = z → ((e : Nat) : Int) = (if z then 0 else 2) → allS tk = (xs, E, e) → Calls Try.prog 8 #[.slice a0 ls.length cap0, .int .u16 (q : Int)] w fun e w' => e = .returned (.bool true) ∧ Below w.heap.size w w' := by
      intro z e hz he hall
      have Hall := Lib.hid hall
      clear hall
      have he2 : e = (if z then 0 else 2) := by cases z <;> simp at he ⊢ <;> omega
      clear he
      rcases z with _ | _
      all_goals
        simp at he2
        subst he2
        go_enter Try.func8, Try.ntmps8
        go_wp2_with fail
        refine (awake5_any _).mono ?_
        rintro e w1 ⟨rfl, hb1⟩
        go_wp2_with fail
        refine (few_eq _ _ _ ls _ rfl ((HB.out.below hb1).more hb1.size) hm Hf.out).mono ?_
        rintro e w2 ⟨rfl, hb2⟩
        have hB2 := bthen hb1 hb2
        go_wp2_with fail
        refine (row_eq _ _ _ ls _ rfl ((HB.out.below hB2).more hB2.size) (by omega) Hr2.out hok.out Ho.out).mono ?_
        rintro e w3 ⟨A3, c3, rfl, hown3, hb3⟩
        have hB3 := bthen hB2 hb3
        have Hown3 := Lib.hid hown3
        have hcap3 : o.length ≤ c3 := own_cap hown3
        have hkc : k ≤ c3 := by omega
        have hkcI : (k : Int) ≤ (c3 : Int) := by omega
        have hk0 : (0 : Int) ≤ (k : Int) := by omega
        clear hown3
        go_wp2_with fail
        try rw [hki]
        have hbk : Hid (BS w3 w3.heap.size A3 tk) := by
          show BS _ _ _ _
          rw [← Htk2.out]
          exact (BS.of_own Hown3.out).1.take k
        clear hki
        refine (all_eq _ _ _ tk _ htk.out hbk.out (by omega) hkc Hall.out).mono ?_
        rintro e' w4 ⟨A4, c4, rfl, hown4, hb4⟩
        have hB4 := bthen hB3 hb4
        have Hown4 := Lib.hid hown4
        clear hown4
        go_wp2_with fail
        go_loopw [11, 12] (fun d i' wr => ∃ (j D : Nat), j ≤ i ∧ d = .int .i64 (D : Int) ∧ i' = .int .i64 (j : Int) ∧ Below w.heap.size w wr ∧ Hid ((rowB (ls.take j)).length = D) ∧ D ≤ E ∧ Hid (LOwn 22 5 wr w3.heap.size A4 c4 xs)) (fun _ i' _ => i - (intOf i').toNat)
        case atStart => exact ⟨0, 0, by omega, rfl, rfl, hB4, by simp [Hid, rowB], by omega, Hown4⟩
        case round =>
          obtain ⟨j, D, hj, rfl, rfl, hbel, hD, hDE, hlo⟩ := hrel
          by_cases hji : j < i
          · have hlt : j < ls.length := by omega
            have hltI : (j : Int) < (ls.length : Int) := by omega
            have hj0 : (0 : Int) ≤ (j : Int) := by omega
            obtain ⟨ad, A6, c6, rfl, _, hc, hcc, hbs⟩ := (HB.out.below hbel).at_ hlt
            have hs := rowB_step hlt
            have hm2 := rowB_mono (ls := ls) (j := j + 1) (i := i) (by omega)
            rw [hs, HE.out, hD.out] at hm2
            rw [hD.out] at hs
            have hl3 := Hf2.out _ (List.getElem_mem hlt)
            have hS := recB_length ls[j]
            have Hs := Lib.hid hs
            obtain ⟨S, hS2⟩ : ∃ S, (recB ls[j]).length = S := ⟨_, rfl⟩
            rw [hS2] at hS hm2 Hs
            have HS := Lib.hid hS
            clear hbs hcc hs hS hS2
            generalize (ls[j]).length = L at *
            have hle1 : (D : Int) + (S : Int) ≤ (k : Int) := by omega
            go_wp2_with fail
            refine (recSize_eq _ _ L rfl (by omega) HS.out.symm).mono ?_
            rintro e' w5 ⟨rfl, rfl⟩
            go_wp2_with fail
            refine (recSize_eq _ _ L rfl (by omega) HS.out.symm).mono ?_
            rintro e' w5 ⟨rfl, rfl⟩
            go_wp2
            go_roundw
            case rel => exact ⟨j + 1, D + S, by omega, by go_num, by go_num, hbel, Hs.out, hm2, hlo⟩
            case measure => simp [intOf]; omega
          · obtain rfl : j = i := by omega
            have hDE2 : D = E := by rw [← hD.out, ← HE.out]
            subst hDE2
            have hxa : Hid (LS wr w.heap.size a0 xs) := hx0.out.below hbel
            have hxb : Hid (LS wr wr.heap.size A4 xs) := hlo.out.to_LS
            have hjc : j ≤ cap0 := by omega
            have hjcI : (j : Int) ≤ (cap0 : Int) := by omega
            have hj0 : (0 : Int) ≤ (j : Int) := by omega
            have hxm : xs.length ≤ 1000000000 := by have := Hxl.out; omega
            by_cases hlt : j < ls.length
            · have hltI : (j : Int) < (ls.length : Int) := by omega
              obtain ⟨ad, A6, c6, rfl, _, hc, hcc, hbs⟩ := (HB.out.below hbel).at_ hlt
              have hs := rowB_step hlt
              have hm2 := Hmax.out hlt
              rw [hs, HE.out] at hm2
              have hl3 := Hf2.out _ (List.getElem_mem hlt)
              have hS := recB_length ls[j]
              obtain ⟨S, hS2⟩ : ∃ S, (recB ls[j]).length = S := ⟨_, rfl⟩
              rw [hS2] at hS hm2
              have hv10 := vput_le (n := (ls[j]).length) (by omega)
              have hS4 : S ≤ 1000 := by omega
              have HS := Lib.hid hS
              clear hbs hcc hs hS hS2 hv10
              generalize (ls[j]).length = L at *
              have hle1 : ¬ (D : Int) + (S : Int) ≤ (k : Int) := by omega
              go_wp2_with fail
              refine (recSize_eq _ _ L rfl (by omega) HS.out.symm).mono ?_
              rintro e' w5 ⟨rfl, rfl⟩
              go_wp2_with fail
              refine (rowSame_any A4 _ c4 xs (some ad) _ cap0 xs _ rfl Hxl.out hxb.out (hxa.out.more hbel.size) hxm).mono ?_
              rintro e' w7 ⟨rfl, hb7⟩
              go_wp2
              go_ret
              exact ⟨rfl, bthen hbel hb7⟩
            · have hltI : ¬ (j : Int) < (ls.length : Int) := by omega
              go_wp2_with fail
              refine (rowSame_any A4 _ c4 xs a0 _ cap0 xs _ rfl Hxl.out hxb.out (hxa.out.more hbel.size) hxm).mono ?_
              rintro e' w7 ⟨rfl, hb7⟩
              go_wp2
              go_ret
              exact ⟨rfl, bthen hbel hb7⟩
    by_cases hek : E = k
    · rw [if_pos hek] at hall
      exact key true 0 (by rw [beq_iff_eq]; omega) rfl hall
    · rw [if_neg hek] at hall
      exact key false 2 (by rw [beq_eq_false_iff_ne]; omega) rfl hall
end Go.Proofs.Ytpeknjbcjpdmnaa
