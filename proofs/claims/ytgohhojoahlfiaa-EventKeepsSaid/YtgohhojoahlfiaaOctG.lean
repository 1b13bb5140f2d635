/- The walk of octet.Get. -/
import Derived.Test.YtgohhojoahlfiaaOct
import Derived.Test.YtgohhojoahlfiaaKA
namespace Go.Proofs.Ytgohhojoahlfiaa
open Go.RowKit Go.Shelf
set_option linter.unusedVariables false
attribute [local go_sem] Oper.semAt_some

def beN (l : List UInt8) : Nat := l.foldl (fun n c => n * 256 + c.toNat) 0
theorem beN_snoc (l : List UInt8) (c : UInt8) : beN (l ++ [c]) = beN l * 256 + c.toNat := by simp [beN]
theorem beN_go : ∀ (l : List UInt8) (n : Nat), l.foldl (fun n c => n * 256 + c.toNat) n + 1 ≤ (n + 1) * 256 ^ l.length
  | [], n => by simp
  | c :: l, n => by
    have hc := c.toNat_lt
    have ih := beN_go l (n * 256 + c.toNat)
    rw [List.foldl_cons, List.length_cons, Nat.pow_succ]
    refine Nat.le_trans ih ?_
    rw [Nat.mul_comm (256 ^ l.length) 256, ← Nat.mul_assoc]
    exact Nat.mul_le_mul_right _ (by omega)
theorem beN_lt (l : List UInt8) : beN l < 256 ^ l.length := by
  have := beN_go l 0
  unfold beN
  omega
theorem beN_lt7 {l : List UInt8} (h : l.length < 8) : beN l < 72057594037927936 := by
  have h1 := beN_lt l
  have h2 : 256 ^ l.length ≤ 256 ^ 7 := Nat.pow_le_pow_right (by omega) (by omega)
  simp only [Nat.reducePow] at h2
  omega
theorem beN_reverse : ∀ (l : List UInt8), beN l.reverse = val l
  | [] => rfl
  | c :: l => by rw [List.reverse_cons, beN_snoc, beN_reverse l, val]; omega

theorem shlor {n c : Nat} (hn : n < 72057594037927936) (hc : c < 256) : bits .or .u64 ((n : Int) * 256) (c : Int) = ((n * 256 + c : Nat) : Int) := by
  have e : ((n : Int) * 256) = ((n * 256 : Nat) : Int) := by omega
  rw [e, bits_or_u64_nat _ _ (by omega) (by omega)]
  congr 1
  have := Nat.two_pow_add_eq_or_of_lt (i := 8) (b := c) (by omega) n
  rw [Nat.mul_comm n 256]
  exact this.symm

set_option maxHeartbeats 2000000 in
set_option maxRecDepth 100000 in
theorem octGetLe_any (A : Option Addr) (n c : Nat) (l : List UInt8) (w : World) (hn : n = l.length) (hb : BS w w.heap.size A l) (hl : n ≤ 8) (hc : n ≤ c) :
    Calls Try.prog 86 #[.slice A n c, .bool false] w fun e w' => e = .returned (.int .u64 ((val l : Nat) : Int)) ∧ Below w.heap.size w w' := by
  subst hn
  have HB := Lib.hid hb
  clear hb
  have hl' : (l.length : Int) ≤ 8 := by omega
  refine (callsIn_wide (n := 3)).1 ?_
  refine callsIn_of_wp_marks Try.func86 rfl trivial ?_ rfl
  simp only [Try.ntmps86, List.size_toArray, List.length_cons, List.length_nil, Nat.reduceAdd, Nat.reduceSub, Array.replicate_succ, Array.replicate_zero, List.push_toArray, List.append_toArray, List.nil_append, List.cons_append]
  gi_wp2_with (refine ⟨trivial, ?_⟩; gi_at_call 99; refine (backward_in Fence.wide 2 trivial rfl _ _ _ _).mono ?_; rintro e w' ⟨rfl, rfl⟩)
  have bS := Boxed.new w 87 (.int .u64 0)
  have bN := Boxed.new (w.alloc (.cells #[.int .u64 0] 87)) 22 (.slice A l.length c)
  rw [World.size_alloc] at bN
  have hB0 : Below w.heap.size w ((w.alloc (.cells #[.int .u64 0] 87)).alloc (.cells #[.slice A l.length c] 22)) := ((Below.refl _ w).alloc (Nat.le_refl _) _).alloc (by simp) _
  have hbx := bS.alloc (.cells #[.slice A l.length c] 22)
  refine wpIn_rangeFunc_ownG rfl (by omega) (gf := 105) (lb := #[.pointer (some ⟨w.heap.size + 1, 0, none⟩)]) rfl trivial (enters_of Try.func105 (by kernel_rfl) rfl)
    (backward_stops Fence.wide 2 trivial rfl (by omega) (w.heap.size + 1) w.heap.size A c l (by omega) _ (by simp) (by simp; omega) bN.cell (HB.out.below hB0)) KpB.trans (KpB.putObj (by simp; omega) (by simp)) (Below.refl _ _) (fun _ => rfl)
    (fun pre W => (W.cell? ⟨w.heap.size, 0, none⟩ = some (.int .u64 ((beN (pre.map (·.2)) : Nat) : Int)) ∧ W.frozen? ⟨w.heap.size, 0, none⟩ = false) ∧ Below w.heap.size w W)
    (fun _ _ _ => False)
    (OwnFrom.and (Own.from (fun s A B row hs hg hr => ⟨cell_kept hs.1 hg hr, (frozen_kept hs.1 hg hr).trans hs.2⟩) _) (ownFrom_below (Nat.le_refl _) (by simp; omega)))
    (fun _ _ _ _ _ hs _ _ => hs)
    ⟨⟨hbx.cell, hbx.frozen⟩, hB0⟩
    (fun x => { tmps := #[.slice A l.length c, .bool false, undef, undef, .int .u64 0, .pointer (some ⟨w.heap.size, 0, none⟩), undef, undef, undef, .int .u8 (x.2.toNat : Int), .slice A l.length c, .slice A l.length c, .int .i64 (l.length : Int), .int .i64 (l.length : Int), .slice A l.length c, .bool false, undef, undef, undef, undef, undef, undef, undef, undef, undef, undef, undef, undef, undef, .slice A l.length c, .func (.func 105) #[] #[.pointer (some ⟨w.heap.size + 1, 0, none⟩)], .int .i64 (x.1 : Int), .int .u8 (x.2.toNat : Int), undef, undef, undef, undef, undef, undef], defers := [] }) ?assign ?body ?done ?stop
  case assign =>
    intro l x W K hK
    simp only [encP]
    gi_wp2
    exact hK
  case body =>
    rintro l2 pre x W ⟨⟨hc, hf⟩, hB⟩ hlen
    have hlt := beN_lt7 (l := pre.map (·.2)) (by rw [List.length_map]; omega)
    have hch : x.2.toNat < 256 := x.2.toNat_lt
    have hso := shlor hlt hch
    have hsn := beN_snoc (pre.map (·.2)) x.2
    rw [← hsn] at hso
    generalize hn2 : beN (pre.map (·.2) ++ [x.2]) = n2 at *
    have hsn2 : beN ((pre ++ [x]).map (·.2)) = n2 := by rw [List.map_append, List.map_singleton]; assumption
    have Hso := Lib.hid hso
    have Hsn2 := Lib.hid hsn2
    clear hso hsn hsn2 hn2
    generalize beN (pre.map (·.2)) = nn at *
    generalize x.2.toNat = d at *
    gi_wp2
    refine ⟨(KeepsOthers.setCell _ _ _).from _, ⟨(Below.refl w.heap.size W).setCell (p := ⟨w.heap.size, 0, none⟩) (Nat.le_refl _) _, ?_⟩, ⟨?_, by rw [World.frozen?_setCell]; exact hf⟩, hB.setCell (p := ⟨w.heap.size, 0, none⟩) (Nat.le_refl _) _⟩
    · exact Below.heap_setCell _ _ _ _ (by simp)
    · rw [Hsn2.out, Hso.out]
      exact World.cell?_setCell_same' _ _ _ (by rw [hc]; rfl)
  case done =>
    rintro D ys W hD rfl ⟨⟨hc, hf⟩, hB⟩ hK
    rw [bwd_all, beN_reverse] at hc
    gi_wp2
    refine ⟨by simp, .inl ⟨_, _, rfl, run_takeDeferred hK, ?_⟩⟩
    exact ⟨_, results_tmp rfl _ _ _, rfl, hB.trans (belowK_b (w := w) (Nat.le_refl _) W D _ _ (by simp at hD; omega) hK rfl rfl)⟩
  case stop =>
    rintro D c pre W _ _ h _
    exact h.elim
end Go.Proofs.Ytgohhojoahlfiaa
