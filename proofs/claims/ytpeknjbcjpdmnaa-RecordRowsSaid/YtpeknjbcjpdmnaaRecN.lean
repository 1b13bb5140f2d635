/- The walk of record.Next. -/
import Derived.Test.YtpeknjbcjpdmnaaRec
import Derived.Deep.RegionHeld3
import Derived.IntWalk
namespace Go.Proofs.Ytpeknjbcjpdmnaa
open Go.RowKit
set_option linter.unusedVariables false

def NextIs (w : World) (l : List UInt8) (e : Ending) (w' : World) : Prop :=
  ∃ A' c', e = .returned (.tuple #[.slice A' (nextS l).1.length c', .int .i64 ((nextS l).2.1 : Int), .int .i64 ((nextS l).2.2 : Int)]) ∧ w'.ownsRow w.heap.size 5 1 (.slice A' (nextS l).1.length c') (nextS l).1.length (bcells (nextS l).1) ∧ Below w.heap.size w w'
theorem nextIs_no {w w' : World} {l : List UInt8} {x : Nat} (h : nextS l = ([], 0, x)) (hb : Below w.heap.size w w') : NextIs w l (.returned (.tuple #[.slice none 0 0, .int .i64 0, .int .i64 (x : Int)])) w' := by
  refine ⟨none, 0, by rw [h]; rfl, ?_, hb⟩
  rw [h]
  exact World.ownsRow_nil _ _ _ _

theorem own_base {w : World} {base base' : Nat} {e : TypeId} {size n : Nat} {v : Value} {xs : List Value} (h : w.ownsRow base e size v n xs) (hb : base' ≤ base) : w.ownsRow base' e size v n xs := by
  refine ⟨h.1, ?_⟩
  rcases h.2 with h2 | ⟨g, cap, cur, h1, h2, h3⟩
  · exact .inl h2
  · exact .inr ⟨g, cap, cur, h1, Nat.le_trans hb h2, h3⟩
theorem octGetLe_eq {v : Nat} (A : Option Addr) (n c : Nat) (l : List UInt8) (w : World) (hn : n = l.length) (hb : BS w w.heap.size A l) (hl : n ≤ 8) (hc : n ≤ c) (h : val l = v) :
    Calls Try.prog 31 #[.slice A n c, .bool false] w fun e w' => e = .returned (.int .u64 (v : Int)) ∧ Below w.heap.size w w' := by
  subst h
  exact octGetLe_any A n c l w hn hb hl hc

set_option maxHeartbeats 1600000 in
set_option maxRecDepth 100000 in
theorem recNext_any (A : Option Addr) (m c : Nat) (l : List UInt8) (w : World) (hn : m = l.length) (hb : BS w w.heap.size A l) (hl : m ≤ 1000000000) (hc : m ≤ c) :
    Calls Try.prog 15 #[.slice A m c] w (NextIs w l) := by
  subst hn
  have HB := Lib.hid hb
  clear hb
  have hlm : Hid (l.length ≤ maxLen) := by show _ ≤ maxLen; unfold maxLen; omega
  rcases hv : vgetS l with ⟨n, k, e⟩
  have Hv := Lib.hid hv
  by_cases he : e = 0
  · subst he
    obtain ⟨hn64, hk1, hkl, hk3, _⟩ := vget_only hv
    have hk10 : k ≤ 10 := by rw [hk3]; exact vput_le hn64
    have Hk3 := Lib.hid hk3
    clear hk3 hv
    by_cases hbig : 1048576 < n
    · have hx : Hid (nextS l = ([], 0, 4)) := by
        show _ = _
        unfold nextS
        rw [Hv.out]
        rw [if_neg (by simp), if_pos hbig]
      have hbig' : (1048576 : Int) < (n : Int) := by omega
      go_enter Try.func15, Try.ntmps15
      go_wp2_with fail
      refine (get_eq _ _ _ l _ _ rfl HB.out hlm.out Hv.out).mono ?_
      rintro e w1 ⟨rfl, rfl⟩
      go_wp2
      go_ret3
      exact nextIs_no hx.out (Below.refl _ _)
    · have hn20 : n ≤ 1048576 := by omega
      have hbig' : ¬ (1048576 : Int) < (n : Int) := by omega
      by_cases hsh : l.length < k + n + 4
      · have hx : Hid (nextS l = ([], 0, 2)) := by
          show _ = _
          unfold nextS
          rw [Hv.out]
          rw [if_neg (by simp), if_neg hbig, if_pos hsh]
        have hsh' : (l.length : Int) - 4 < (k : Int) + (n : Int) := by omega
        go_enter Try.func15, Try.ntmps15
        go_wp2_with fail
        refine (get_eq _ _ _ l _ _ rfl HB.out hlm.out Hv.out).mono ?_
        rintro e w1 ⟨rfl, rfl⟩
        go_wp2
        go_ret3
        exact nextIs_no hx.out (Below.refl _ _)
      · obtain ⟨ad, rfl, _, _⟩ := HB.out (by omega)
        have hsh' : ¬ (l.length : Int) - 4 < (k : Int) + (n : Int) := by omega
        obtain ⟨E, hE⟩ : ∃ E, k + n = E := ⟨_, rfl⟩
        have hE' : (k : Int) + (n : Int) = (E : Int) := by omega
        rw [hE'] at hsh'
        have hkE : k ≤ E := by omega
        have hEl : E + 4 ≤ l.length := by omega
        have HE := Lib.hid hE
        have HE' := Lib.hid hE'
        clear hE hE'
        have hi0 : (0 : Int) ≤ (E : Int) := by omega
        have hi1 : (0 : Int) ≤ (E : Int) + 4 := by omega
        have hi2 : (E : Int) ≤ (E : Int) + 4 := by omega
        have hi3 : (E : Int) + 4 ≤ (c : Int) := by omega
        have hi4 : (E : Int) ≤ (c : Int) := by omega
        have hi5 : E + 4 ≤ c := by omega
        have hi6 : c ≠ E := by omega
        have hi7 : c ≠ k := by omega
        have hi8 : E ≤ c := by omega
        have hb1 : Hid (BS w w.heap.size (some (ad.add E)) ((l.drop E).take 4)) := by
          have := (HB.out.drop (k := E) (cap := c) hc).take 4
          rw [if_neg hi6] at this
          exact this
        have hb2 : Hid (BS w w.heap.size (some ad) (l.take E)) := HB.out.take E
        have hb3 : Hid (BS w w.heap.size (some (ad.add k)) ((l.drop k).take n)) := by
          have := (HB.out.drop (k := k) (cap := c) hc).take n
          rw [if_neg hi7] at this
          exact this
        have hl1 : Hid (4 = ((l.drop E).take 4).length) := by show _ = _; rw [List.length_take, List.length_drop]; omega
        have hl2 : Hid (E = (l.take E).length) := by show _ = _; rw [List.length_take]; omega
        have hl3 : Hid (E - k = ((l.drop k).take n).length) := by show _ = _; have := HE.out; rw [List.length_take, List.length_drop]; omega
        obtain ⟨v, hvv⟩ : ∃ v, val ((l.drop E).take 4) = v := ⟨_, rfl⟩
        obtain ⟨o, ho⟩ : ∃ o, ofS (l.take E) = o := ⟨_, rfl⟩
        have ho32 : o < 4294967296 := by rw [← ho]; exact ofS_lt _
        have hx8 : v ≠ o → Hid (nextS l = ([], 0, 8)) := fun h => by
          show _ = _
          unfold nextS
          rw [Hv.out]
          rw [if_neg (by simp), if_neg hbig, if_neg hsh, if_pos (by rw [HE.out, hvv, ho]; exact h)]
        have hx0 : v = o → Hid (nextS l = ((l.drop k).take n, E + 4, 0)) := fun h => by
          show _ = _
          unfold nextS
          rw [Hv.out]
          rw [if_neg (by simp), if_neg hbig, if_neg hsh, if_neg (by rw [HE.out, hvv, ho]; exact fun e => e h)]
          rw [HE.out]
        obtain ⟨bod, hbod⟩ : ∃ bod, (l.drop k).take n = bod := ⟨_, rfl⟩
        rw [hbod] at hb3 hl3 hx0
        clear hbod
        have Hvv := Lib.hid hvv
        have Ho := Lib.hid ho
        clear hvv ho
        have hwo : Hid (IntKind.u64.wrap (o : Int) = (o : Int)) := wrap_u64_nat o (by omega)
        have key : ∀ (b : Bool), ((v : Int) != IntKind.u64.wrap (o : Int)) = b → Calls Try.prog 15 #[.slice (some ad) l.length c] w (NextIs w l) := by
          intro b hb
          rcases b with _ | _
          all_goals
            go_enter Try.func15, Try.ntmps15
            go_wp2_with fail
            refine (get_eq _ _ _ l _ _ rfl HB.out hlm.out Hv.out).mono ?_
            rintro e w1 ⟨rfl, rfl⟩
            go_wp2_with fail
            rw [HE'.out]
            have ht4 : ((E : Int) + 4).toNat = E + 4 := by omega
            have hw4 : IntKind.i64.wrap ((E : Int) + 4) = (E : Int) + 4 := IntWalk.i64_in _ (by omega)
            have hd4 : E + 4 - E = 4 := by omega
            go_region_held3 (fun _ => True) (first | trivial)
              (first
                | (go_at_call 31
                   refine (octGetLe_eq _ _ _ ((l.drop E).take 4) _ hl1.out (by first | exact (hb1.out.below (((Below.refl _ w).drew).trans hbO)).more (Nat.le_trans (Nat.le_refl _) hbO.size) | exact hb1.out) (by omega) (by omega) Hvv.out).mono ?_
                   rintro e wG ⟨rfl, hbG⟩)
                | (go_at_call 25
                   refine (of_eq _ _ _ (l.take E) _ w.heap.size hl2.out (by first | exact hb2.out.below (((Below.refl _ w).drew).trans hbG) | exact hb2.out) (by first | exact hbG.size | exact Nat.le_refl _) (by unfold maxLen; omega) Ho.out).mono ?_
                   rintro e wO ⟨rfl, hbO⟩))
            have hbW : Below w.heap.size w wO := ((Below.refl _ w).drew.trans hbG).trans (hbO.mono hbG.size)
            have HbW := Lib.hid hbW
            clear hbG hbO hbW
          · have hvo : v = o := by
              have := bne_eq_false_iff_eq.1 hb
              rw [hwo.out] at this
              omega
            have hx := hx0 hvo
            go_wp2_with fail
            refine (clone_any _ _ _ bod _ hl3.out ((hb3.out.below HbW.out).more HbW.out.size) (by omega)).mono ?_
            rintro e wC ⟨A', c', rfl, hown, hbC⟩
            have Hown := Lib.hid hown
            clear hown
            go_wp2
            go_ret3
            refine ⟨A', c', by show Ending.returned (.tuple #[.slice A' bod.length c', .int .i64 ((E : Int) + 4), .int .i64 0]) = _; rw [hx.out]; rfl, ?_, HbW.out.trans (hbC.mono HbW.out.size)⟩
            rw [hx.out]
            exact own_base Hown.out HbW.out.size
          · have hvo : v ≠ o := by
              have := bne_iff_ne.1 hb
              rw [hwo.out] at this
              omega
            have hx := hx8 hvo
            go_wp2
            go_ret3
            exact nextIs_no hx.out HbW.out
        exact key _ rfl
  · obtain ⟨rfl, rfl, he'⟩ := vget_bad hv he
    clear hv
    have hx : Hid (nextS l = ([], 0, e)) := by
      show _ = _
      unfold nextS
      rw [Hv.out]
      rw [if_pos he]
    rcases he' with rfl | rfl
    all_goals
      go_enter Try.func15, Try.ntmps15
      go_wp2_with fail
      refine (get_eq _ _ _ l _ _ rfl HB.out hlm.out Hv.out).mono ?_
      rintro e w1 ⟨rfl, rfl⟩
      go_wp2
      go_ret3
      exact nextIs_no hx.out (Below.refl _ _)
end Go.Proofs.Ytpeknjbcjpdmnaa
