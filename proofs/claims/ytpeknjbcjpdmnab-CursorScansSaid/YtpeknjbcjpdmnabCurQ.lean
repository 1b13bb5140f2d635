/- Cursor, plain laws: what is laid is read as it was; cut off it ends too early; with more behind it, it is of no form, there. -/
import Derived.Test.YtpeknjbcjpdmnabCurP
namespace Go.Proofs.Ytpeknjbcjpdmnab
set_option linter.unusedVariables false

theorem pre_may {s : St} {x : Item} (h : mayB x = true) : preS s x = s := by unfold preS; rw [h]; rfl
theorem drop_out {out t : List UInt8} : (out ++ t).drop (out.length + 0) = t := by rw [Nat.add_zero, List.drop_left]

section
variable {x : Item} {q : Nat} {b out : List UInt8}
theorem read_piece (rest : List UInt8) (hmay : mayB x = true) (hfit : fitsB x (q, b) = true) (hok : pOk (q, b)) :
    readS (out ++ (pieceB x (q, b) ++ rest)) (out.length, 0, 0) x = ((out.length + (pieceB x (q, b)).length, 0, 0), q, b) := by
  obtain ⟨k, n, big⟩ := x
  have hp := pre_may (s := (out.length, 0, 0)) hmay
  rcases may_kind hmay with rfl | rfl | rfl | rfl
  · have hn : 1 ≤ n ∧ n ≤ 8 := by simpa [mayB] using hmay
    obtain ⟨j, rfl⟩ : ∃ j : Nat, n = (j : Int) := ⟨n.toNat, by omega⟩
    unfold fitsB at hfit
    rw [if_pos rfl] at hfit
    obtain ⟨hb, hq⟩ := of_decide_eq_true hfit
    have hb' : b = [] := List.eq_nil_of_length_eq_zero hb
    subst hb'
    have hq256 : q < 256 ^ j := fits_num_lt hq
    have hpc : pieceB (1, (j : Int), big) (q, []) = putS j q big := by
      show putS (j : Int).toNat q big ++ [] = _
      rw [List.append_nil, Int.toNat_natCast]
    have hpl := putS_length j q big
    rw [hpc]
    have hc : cutS (out ++ (putS j q big ++ rest)) (out.length, 0, 0) 0 j = ((out.length + 0 + j, 0, 0), putS j q big) := by
      rw [cut_ok (by rfl) (by simp only [List.length_append]; omega)]
      simp only
      rw [drop_out, List.take_append_of_le_length (by omega), List.take_of_length_le (by omega)]
    unfold readS
    rw [if_pos rfl, hp]
    have e2 : numS (out ++ (putS j q big ++ rest)) (out.length, 0, 0) (j : Int) big = ((out.length + 0 + j, 0, 0), q) := by
      unfold numS
      rw [if_neg (by omega), Int.toNat_natCast, hc]
      simp only
      rw [get_put hq256]
    rw [e2, hpl, Nat.add_zero]
  · unfold fitsB at hfit
    rw [if_neg (by simp), if_pos rfl] at hfit
    have hb' : b = [] := List.eq_nil_of_length_eq_zero (of_decide_eq_true hfit)
    subst hb'
    have hpc : pieceB (2, n, big) (q, []) = vput q := by
      show vput q ++ [] = _
      rw [List.append_nil]
    rw [hpc]
    have hv : peekS (out ++ (vput q ++ rest)) (out.length, 0, 0) = ((out.length, 0, 0), q, (vput q).length) := by
      unfold peekS
      rw [if_neg (by simp)]
      simp only
      rw [List.drop_left, vget_back q hok.1 rest, if_neg (by simp)]
    unfold readS
    rw [if_neg (by simp), if_pos rfl, hp]
    unfold varS
    rw [hv]
  · unfold fitsB at hfit
    rw [if_neg (by simp), if_neg (by simp), if_neg (by simp)] at hfit
    obtain ⟨hq, hle⟩ := of_decide_eq_true hfit
    simp only at hq hle
    subst hq
    have hbl : b.length ≤ 1000000 := hok.2
    have hpc : pieceB (4, n, big) (0, b) = vput b.length ++ b := rfl
    rw [hpc]
    have hv : peekS (out ++ (vput b.length ++ b ++ rest)) (out.length, 0, 0) = ((out.length, 0, 0), b.length, (vput b.length).length) := by
      unfold peekS
      rw [if_neg (by simp)]
      simp only
      rw [List.drop_left, List.append_assoc, vget_back b.length (by omega) (b ++ rest), if_neg (by simp)]
    have e2 : textS (out ++ (vput b.length ++ b ++ rest)) (out.length, 0, 0) n = ((out.length + (vput b.length).length + b.length, 0, 0), b) := by
      unfold textS
      rw [hv, if_neg (by simp only; omega)]
      simp only
      rw [cut_ok (by rfl) (by simp only [List.length_append]; omega)]
      simp only
      rw [← List.drop_drop, List.drop_left, List.append_assoc, List.drop_left, List.take_append_of_le_length (by omega), List.take_of_length_le (by omega)]
    unfold readS
    rw [if_neg (by simp), if_neg (by simp), if_neg (by simp), if_pos rfl, hp, e2, List.length_append, Nat.add_assoc]
  · unfold fitsB at hfit
    rw [if_neg (by simp), if_neg (by simp), if_pos rfl] at hfit
    obtain ⟨hq, hle⟩ := of_decide_eq_true hfit
    simp only at hq hle
    subst hq
    have hpc : pieceB (3, n, big) (0, b) = b := by show [] ++ b = b; rfl
    rw [hpc]
    have e2 : takeS (out ++ (b ++ rest)) (out.length, 0, 0) n = ((out.length + 0 + b.length, 0, 0), b) := by
      unfold takeS
      rw [if_neg (by omega), ← hle, Int.toNat_natCast, cut_ok (by rfl) (by simp only [List.length_append]; omega)]
      simp only
      rw [drop_out, List.take_append_of_le_length (by omega), List.take_of_length_le (by omega)]
    unfold readS
    rw [if_neg (by simp), if_neg (by simp), if_pos rfl, hp, e2, Nat.add_zero]

theorem read_cut {j : Nat} (hmay : mayB x = true) (hfit : fitsB x (q, b) = true) (hok : pOk (q, b)) (hj : j < (pieceB x (q, b)).length) :
    (readS (out ++ (pieceB x (q, b)).take j) (out.length, 0, 0) x).1.2 = (out.length, 2) := by
  obtain ⟨k, n, big⟩ := x
  have hp := pre_may (s := (out.length, 0, 0)) hmay
  have hf2 : failS (out.length, 0, 0) 2 = (out.length, out.length, 2) := rfl
  rcases may_kind hmay with rfl | rfl | rfl | rfl
  · have hn : 1 ≤ n ∧ n ≤ 8 := by simpa [mayB] using hmay
    obtain ⟨i, rfl⟩ : ∃ i : Nat, n = (i : Int) := ⟨n.toNat, by omega⟩
    unfold fitsB at hfit
    rw [if_pos rfl] at hfit
    obtain ⟨hb, hq⟩ := of_decide_eq_true hfit
    have hb' : b = [] := List.eq_nil_of_length_eq_zero hb
    subst hb'
    have hpc : pieceB (1, (i : Int), big) (q, []) = putS i q big := by
      show putS (i : Int).toNat q big ++ [] = _
      rw [List.append_nil, Int.toNat_natCast]
    have hpl := putS_length i q big
    rw [hpc] at hj ⊢
    unfold readS
    rw [if_pos rfl, hp]
    dsimp only
    unfold numS
    rw [if_neg (by omega), Int.toNat_natCast, cut_short (by rfl) (by simp only [List.length_append, List.length_take]; omega), hf2]
  · unfold fitsB at hfit
    rw [if_neg (by simp), if_pos rfl] at hfit
    have hb' : b = [] := List.eq_nil_of_length_eq_zero (of_decide_eq_true hfit)
    subst hb'
    have hpc : pieceB (2, n, big) (q, []) = vput q := by
      show vput q ++ [] = _
      rw [List.append_nil]
    rw [hpc] at hj ⊢
    have hv : peekS (out ++ (vput q).take j) (out.length, 0, 0) = ((out.length, out.length, 2), 0, 0) := by
      unfold peekS
      rw [if_neg (by simp)]
      simp only
      have hg : vgetS ((vput q).take j) = (0, 0, 2) := vget_cut q 0 0 j (by have := hok.1; simp only at this; omega) (by omega) hj
      rw [List.drop_left, hg, if_pos (by simp), hf2]
    unfold readS
    rw [if_neg (by simp), if_pos rfl, hp]
    unfold varS
    rw [hv]
  · unfold fitsB at hfit
    rw [if_neg (by simp), if_neg (by simp), if_neg (by simp)] at hfit
    obtain ⟨hq, hle⟩ := of_decide_eq_true hfit
    simp only at hq hle
    subst hq
    have hbl : b.length ≤ 1000000 := hok.2
    have hpc : pieceB (4, n, big) (0, b) = vput b.length ++ b := rfl
    rw [hpc] at hj ⊢
    unfold readS
    rw [if_neg (by simp), if_neg (by simp), if_neg (by simp), if_pos rfl, hp]
    rw [List.length_append] at hj
    by_cases hjv : j < (vput b.length).length
    · have hv : peekS (out ++ (vput b.length ++ b).take j) (out.length, 0, 0) = ((out.length, out.length, 2), 0, 0) := by
        unfold peekS
        rw [if_neg (by simp)]
        simp only
        have hg : vgetS ((vput b.length).take j) = (0, 0, 2) := vget_cut b.length 0 0 j (by omega) (by omega) hjv
        rw [List.drop_left, List.take_append_of_le_length (by omega), hg, if_pos (by simp), hf2]
      unfold textS
      rw [hv, if_neg (by simp only; omega), cut_fault (by simp)]
    · have hv : peekS (out ++ (vput b.length ++ b).take j) (out.length, 0, 0) = ((out.length, 0, 0), b.length, (vput b.length).length) := by
        unfold peekS
        rw [if_neg (by simp)]
        simp only
        rw [List.drop_left, List.take_append, List.take_of_length_le (l := vput b.length) (by omega), vget_back b.length (by omega) _, if_neg (by simp)]
      unfold textS
      rw [hv, if_neg (by simp only; omega)]
      simp only
      rw [cut_short (by rfl) (by simp only [List.length_append, List.length_take]; omega), hf2]
  · unfold fitsB at hfit
    rw [if_neg (by simp), if_neg (by simp), if_pos rfl] at hfit
    obtain ⟨hq, hle⟩ := of_decide_eq_true hfit
    simp only at hq hle
    subst hq
    have hpc : pieceB (3, n, big) (0, b) = b := by show [] ++ b = b; rfl
    rw [hpc] at hj ⊢
    unfold readS
    rw [if_neg (by simp), if_neg (by simp), if_pos rfl, hp]
    dsimp only
    unfold takeS
    rw [if_neg (by omega), ← hle, Int.toNat_natCast, cut_short (by rfl) (by simp only [List.length_append, List.length_take]; omega), hf2]
end

theorem layGo_step {out full : List UInt8} {x : Item} {xs : List Item} {p : Piece} {ps : List Piece} (h : layGo out (x :: xs) (p :: ps) = some full) : mayB x = true ∧ fitsB x p = true ∧ layGo (out ++ pieceB x p) xs ps = some full := by
  unfold layGo at h
  split at h
  · rename_i hc
    rw [Bool.and_eq_true] at hc
    exact ⟨hc.1, hc.2, h⟩
  · cases h
theorem lay_prefix : ∀ (plan : List Item) (ps : List Piece) (out full : List UInt8), layGo out plan ps = some full → ∃ rest, full = out ++ rest
  | [], [], out, full, h => ⟨[], by unfold layGo at h; injection h with h; rw [h, List.append_nil]⟩
  | [], _ :: _, _, _, h => by unfold layGo at h; cases h
  | _ :: _, [], _, _, h => by unfold layGo at h; cases h
  | x :: xs, p :: ps, out, full, h => by
    obtain ⟨_, _, h3⟩ := layGo_step h
    obtain ⟨rest, hr⟩ := lay_prefix xs ps _ _ h3
    exact ⟨pieceB x p ++ rest, by rw [hr, List.append_assoc]⟩

theorem scan_back : ∀ (plan : List Item) (ps : List Piece) (out full more : List UInt8) (acc : List Piece), layGo out plan ps = some full → (∀ p ∈ ps, pOk p) →
    scanGo (full ++ more) (out.length, 0, 0) acc plan = if more = [] then (acc ++ ps, 0, 0) else ([], full.length, 3)
  | [], [], out, full, more, acc, h, _ => by
    unfold layGo at h
    injection h with h
    subst h
    by_cases hm : more = []
    · subst hm
      have he : endS (out ++ []) (out.length, 0, 0) = (out.length, 0, 0) := by
        unfold endS
        rw [if_neg (by simp)]
      unfold scanGo
      rw [he, if_pos rfl, if_pos rfl, List.append_nil]
    · have hpos : 0 < more.length := List.length_pos_iff.2 hm
      have he : endS (out ++ more) (out.length, 0, 0) = (out.length, out.length, 3) := by
        unfold endS
        rw [if_pos (by simp only [List.length_append]; omega)]
        rfl
      unfold scanGo
      rw [he, if_neg (by simp), if_neg hm]
  | [], _ :: _, _, _, _, _, h, _ => by unfold layGo at h; cases h
  | _ :: _, [], _, _, _, _, h, _ => by unfold layGo at h; cases h
  | x :: xs, (q, b) :: ps, out, full, more, acc, h, hok => by
    obtain ⟨h1, h2, h3⟩ := layGo_step h
    obtain ⟨rest, hr⟩ := lay_prefix xs ps _ _ h3
    have hrd := read_piece (out := out) (rest ++ more) h1 h2 (hok _ (by simp))
    have ih := scan_back xs ps _ full more (acc ++ [(q, b)]) h3 (fun p hp => hok p (by simp [hp]))
    have hf : full ++ more = out ++ (pieceB x (q, b) ++ (rest ++ more)) := by rw [hr]; simp [List.append_assoc]
    unfold scanGo
    rw [hf, hrd, ← hf]
    simp only [if_true]
    rw [← List.length_append, ih]
    split
    · rw [List.append_assoc]; rfl
    · rfl

theorem scan_cut : ∀ (plan : List Item) (ps : List Piece) (out full : List UInt8) (k : Nat) (acc : List Piece), layGo out plan ps = some full → (∀ p ∈ ps, pOk p) → out.length ≤ k → k < full.length →
    ∃ a, scanGo (full.take k) (out.length, 0, 0) acc plan = ([], a, 2) ∧ a ≤ k
  | [], [], out, full, k, acc, h, _, h1, h2 => by
    unfold layGo at h
    injection h with h
    subst h
    omega
  | [], _ :: _, _, _, _, _, h, _, _, _ => by unfold layGo at h; cases h
  | _ :: _, [], _, _, _, _, h, _, _, _ => by unfold layGo at h; cases h
  | x :: xs, (q, b) :: ps, out, full, k, acc, h, hok, hk1, hk2 => by
    obtain ⟨h1, h2, h3⟩ := layGo_step h
    obtain ⟨rest, hr⟩ := lay_prefix xs ps _ _ h3
    have hpo := hok (q, b) (by simp)
    by_cases hk : out.length + (pieceB x (q, b)).length ≤ k
    · have ht : full.take k = out ++ (pieceB x (q, b) ++ rest.take (k - (out.length + (pieceB x (q, b)).length))) := by
        rw [hr, List.take_append, List.take_of_length_le (by rw [List.length_append]; omega), List.length_append, List.append_assoc]
      have hrd := read_piece (out := out) (rest.take (k - (out.length + (pieceB x (q, b)).length))) h1 h2 hpo
      rw [← ht] at hrd
      obtain ⟨a, e, ha⟩ := scan_cut xs ps _ full k (acc ++ [(q, b)]) h3 (fun p hp => hok p (by simp [hp])) (by rw [List.length_append]; omega) hk2
      refine ⟨a, ?_, ha⟩
      unfold scanGo
      rw [hrd]
      simp only [if_true]
      rw [← List.length_append]
      exact e
    · have ht : full.take k = out ++ (pieceB x (q, b)).take (k - out.length) := by
        rw [hr, List.append_assoc, List.take_append, List.take_of_length_le (l := out) (by omega), List.take_append_of_le_length (by omega)]
      have hrd := read_cut (out := out) (j := k - out.length) h1 h2 hpo (by omega)
      rw [← ht] at hrd
      refine ⟨out.length, ?_, hk1⟩
      unfold scanGo
      rw [hrd]
      simp
theorem lay_full_le : ∀ (plan : List Item) (ps : List Piece) (out full : List UInt8), layGo out plan ps = some full → (∀ p ∈ ps, pOk p) → full.length ≤ out.length + ps.length * 1000010
  | [], [], out, full, h, _ => by unfold layGo at h; injection h with h; rw [h]; simp
  | [], _ :: _, _, _, h, _ => by unfold layGo at h; cases h
  | _ :: _, [], _, _, h, _ => by unfold layGo at h; cases h
  | x :: xs, p :: ps, out, full, h, hok => by
    obtain ⟨h1, h2, h3⟩ := layGo_step h
    have ih := lay_full_le xs ps _ full h3 (fun q hq => hok q (by simp [hq]))
    have hp := hok p (by simp)
    have hh := headB_le hp h1
    have := hp.2
    rw [List.length_append] at ih
    simp only [pieceB, List.length_append, List.length_cons] at ih ⊢
    omega
end Go.Proofs.Ytpeknjbcjpdmnab
