/- The walk of wayleaveref05.Next. -/
import Derived.Test.YtpeknjbcjpdmnaaRecA
import Derived.Test.YtpeknjbcjpdmnaaRecL
import Derived.Deep.RegionWith
namespace Go.Proofs.Ytpeknjbcjpdmnaa
open Go.RowKit
set_option linter.unusedVariables false

theorem conv_bs (w : World) (B : Nat) (A : Option Addr) (l : List UInt8) (hb : BS w B A l) (n c : Nat) (hn : n = l.length) :
    (convert 22 9 (.slice A n c)).run Try.prog w = .ok (.string ⟨l.toArray⟩) w :=
  run_convert_bs (P := Try.prog) 22 9 5 Try.underlying22 Try.underlying5 Try.underlying9 w B A l hb _ c hn

set_option maxHeartbeats 1600000 in
set_option maxRecDepth 100000 in
theorem refRecNext_any (A : Option Addr) (m c : Nat) (l : List UInt8) (w : World) (hn : m = l.length) (hb : BS w w.heap.size A l) (hl : m ≤ 1000000000) (hc : m ≤ c) :
    Calls Try.prog 17 #[.slice A m c] w (NextIs w l) := by
  subst hn
  obtain ⟨i0, hi0, hz0, hz1, hz2⟩ := info_parts u8_infoO
  have HB := Lib.hid hb
  clear hb
  have hlm : Hid (l.length ≤ maxLen) := by show _ ≤ maxLen; unfold maxLen; omega
  rcases hv : vgetS l with ⟨n, k, e⟩
  have Hv := Lib.hid hv
  by_cases he : e = 0
  · subst he
    obtain ⟨hn64, hk1, hkl, hk3, _⟩ := vget_only hv
    have hk10 : k ≤ 10 := by rw [hk3]; exact vput_le hn64
    clear hk3
    by_cases hbig : 1048576 < n
    · have hx : Hid (nextS l = ([], 0, 4)) := by
        show _ = _
        unfold nextS
        rw [Hv.out]
        rw [if_neg (by simp), if_pos hbig]
      have hbig' : (1048576 : Int) < (n : Int) := by omega
      clear hv
      go_enter Try.func17, Try.ntmps17
      go_wp2_with fail
      refine (refGet_eq _ _ _ l _ w.heap.size rfl HB.out hlm.out Hv.out).mono ?_
      rintro e w1 ⟨rfl, rfl⟩
      go_wp2
      go_ret3
      exact nextIs_no hx.out (Below.refl _ _)
    · have hn20 : n ≤ 1048576 := by omega
      have hbig' : ¬ (1048576 : Int) < (n : Int) := by omega
      by_cases hsh : l.length < k + n + 4
      · have hx : Hid (nextS l = ([], 0, 2)) := by
          show _ = _
          unfold nextS
          rw [Hv.out]
          rw [if_neg (by simp), if_neg hbig, if_pos hsh]
        have hsh' : (l.length : Int) < (k : Int) + (n : Int) + 4 := by omega
        clear hv
        go_enter Try.func17, Try.ntmps17
        go_wp2_with fail
        refine (refGet_eq _ _ _ l _ w.heap.size rfl HB.out hlm.out Hv.out).mono ?_
        rintro e w1 ⟨rfl, rfl⟩
        go_wp2
        go_ret3
        exact nextIs_no hx.out (Below.refl _ _)
      · obtain ⟨ad, rfl, _, _⟩ := HB.out (by omega)
        obtain ⟨F, hF⟩ : ∃ F, k + n + 4 = F := ⟨_, rfl⟩
        have hsi := Lib.hid (sum_iff hv (by omega))
        rw [hF] at hsi
        have hbl : Hid (((l.drop k).take n).length = n) := by show _ = _; rw [List.length_take, List.length_drop]; omega
        obtain ⟨E, hE⟩ : ∃ E, k + n = E := ⟨_, rfl⟩
        have hE' : (k : Int) + (n : Int) = (E : Int) := by omega
        have hE4 : (E : Int) + 4 = (F : Int) := by omega
        have HE := Lib.hid hE
        have hkE : k ≤ E := by omega
        have hkEI : (k : Int) ≤ (E : Int) := by omega
        have hEc : E ≤ c := by omega
        have hEcI : (E : Int) ≤ (c : Int) := by omega
        have hck : c ≠ k := by omega
        have hsh' : ¬ (l.length : Int) < (F : Int) := by omega
        have hF2 : F ≤ l.length := by omega
        have hF5 : F ≤ c := by omega
        have hF6 : (F : Int) ≤ (c : Int) := by omega
        have hb2 : Hid (BS w w.heap.size (some ad) (l.take F)) := HB.out.take F
        have hb3 : Hid (BS w w.heap.size (some (ad.add k)) ((l.drop k).take n)) := by
          have := (HB.out.drop (k := k) (cap := c) hc).take n
          rw [if_neg (by omega)] at this
          exact this
        have hl2 : Hid (F = (l.take F).length) := by show _ = _; rw [List.length_take]; omega
        have hx8 : ¬ (recB ((l.drop k).take n) = l.take F) → Hid (nextS l = ([], 0, 8)) := fun h => by
          show _ = _
          unfold nextS
          rw [Hv.out]
          rw [if_neg (by simp), if_neg hbig, if_neg hsh, if_pos (fun e => h (hsi.out.2 e))]
        have hx0 : (recB ((l.drop k).take n) = l.take F) → Hid (nextS l = ((l.drop k).take n, F, 0)) := fun h => by
          show _ = _
          unfold nextS
          rw [Hv.out]
          rw [if_neg (by simp), if_neg hbig, if_neg hsh, if_neg (fun e => e (hsi.out.1 h)), hF]
        obtain ⟨bod, hbod⟩ : ∃ bod, (l.drop k).take n = bod := ⟨_, rfl⟩
        obtain ⟨tf, htf⟩ : ∃ tf, l.take F = tf := ⟨_, rfl⟩
        rw [hbod] at hb3 hbl hx0 hx8
        rw [htf] at hb2 hl2 hx0 hx8
        clear hbod htf hv hsi hsh
        have hEk : Hid (E - k = bod.length) := by show _ = _; have := hbl.out; omega
        have hb20 : bod.length ≤ 1048576 := by have := hbl.out; omega
        clear hE hF
        go_enter Try.func17, Try.ntmps17
        go_wp2_with fail
        refine (refGet_eq _ _ _ l _ w.heap.size rfl HB.out hlm.out Hv.out).mono ?_
        rintro e w1 ⟨rfl, rfl⟩
        go_wp2_with (at_builtin; refine wpList_append_bytes _ rfl _ _ 22 rfl w.heap.size 5 i0 (.int .u8 0) 1 Try.underlying22 hi0 hz0 hz1 hz2 rfl (.slice (some ⟨w.heap.size, 0, none⟩) 0 0) [] rfl (own_none _ _ _ (Nat.le_refl _) _ rfl) w.heap.size (some (ad.add k)) _ (c - k) bod rfl hEk.out (hb3.out.alloc (Nat.le_refl _) _) (by simp [maxLen]; omega) (by simp; omega) (by simp) ?_; intro A3 c3 w3 hown3 hg3 _)
        have Hown3 : Hid (w3.ownsRow w.heap.size 5 1 (.slice A3 bod.length c3) bod.length (bcells bod)) := by
          show World.ownsRow _ _ _ _ _ _ _
          simpa using hown3
        have hb3' : Hid (Below w.heap.size w w3) := ((Below.refl _ _).alloc (Nat.le_refl _) _).grown hg3 (by simp) (by intro k hk; simp [Value.ownBlock] at hk; omega)
        clear hown3 hg3
        have hc0 := conv_bs w3.drew w.heap.size (some ad) tf (hb2.out.below hb3'.out).drew F c hl2.out
        go_region_with
          (go_at_call 13
           refine (refRecPut_any A3 _ c3 bod _ (by first | rfl | simp) (BS.of_own Hown3.out).1.drew (by first | omega | (simp; omega))).mono ?_
           rintro e wP ⟨A4, c4, rfl, hown4, hb4⟩
           have hc4 := conv_bs wP _ A4 (recB bod) (BS.of_own hown4).1 _ c4 rfl
           have hc5 := conv_bs wP w.heap.size (some ad) tf (hb2.out.below (hb3'.out.drew.trans (hb4.mono hb3'.out.size))) F c hl2.out)
        all_goals
          clear hc4 hc5 hc0
          have HbW : Hid (Below w.heap.size w wP) := hb3'.out.drew.trans (hb4.mono hb3'.out.size)
          have HownP : Hid (wP.ownsRow w.heap.size 5 1 (.slice A3 bod.length c3) bod.length (bcells bod)) := own_below Hown3.out ((Below.refl _ w3).drew.trans hb4)
          clear hown4 hb4
          rcases hq : (recB bod == tf) with _ | _
          · have hx := hx8 (beq_eq_false_iff_ne.1 hq)
            go_wp2
            go_ret3
            exact nextIs_no hx.out HbW.out
          · have hx := hx0 (beq_iff_eq.1 hq)
            go_wp2
            go_ret3
            refine ⟨A3, c3, by rw [hx.out]; rfl, ?_, HbW.out⟩
            rw [hx.out]
            exact HownP.out
  · obtain ⟨rfl, rfl, he'⟩ := vget_bad hv he
    clear hv
    have hx : Hid (nextS l = ([], 0, e)) := by
      show _ = _
      unfold nextS
      rw [Hv.out]
      rw [if_pos he]
    rcases he' with rfl | rfl
    all_goals
      go_enter Try.func17, Try.ntmps17
      go_wp2_with fail
      refine (refGet_eq _ _ _ l _ w.heap.size rfl HB.out hlm.out Hv.out).mono ?_
      rintro e w1 ⟨rfl, rfl⟩
      go_wp2
      go_ret3
      exact nextIs_no hx.out (Below.refl _ _)
end Go.Proofs.Ytpeknjbcjpdmnaa
