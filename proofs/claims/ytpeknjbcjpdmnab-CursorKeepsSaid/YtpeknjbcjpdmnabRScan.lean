/- The walk of wayleaveref04.Scan. -/
import Derived.Test.YtpeknjbcjpdmnabRefAskT
import Derived.Test.YtpeknjbcjpdmnabRScP
import Derived.Test.YtpeknjbcjpdmnabCurA
namespace Go.Proofs.Ytpeknjbcjpdmnab
open Go.RowKit
set_option linter.unusedVariables false

/-- What holds at the head of the document's loop. -/
def RScAt (w wr : World) (l : List UInt8) (plan : List Item) (A : Option Addr) (c k : Nat) (s : St) (acc : List Piece) (A' : Option Addr) (c' : Nat) : Prop :=
  okS l s ∧ s.2.2 = 0 ∧ Blk wr w.heap.size 28 #[.int .i64 0, .int .i64 0] ∧
    Blk wr (w.heap.size + 1) 47 #[.slice A l.length c, .int .i64 (s.1 : Int), .int .i64 (s.2.1 : Int), .int .i64 (s.2.2 : Int)] ∧
    POwn 70 5 wr w.heap.size A' c' acc ∧ Below w.heap.size w wr ∧ scanGo l s acc (plan.drop k) = scanS l plan ∧ acc.length = k

/-- The two results: slot 4, and the cell of slot 5. -/
theorem rscan_end {w w2 : World} {bf : Nat} {A : Option Addr} {c n : Nat} {x y : Int} {r : List Piece × Nat × Nat} {tmps : Array Value} (h4 : tmps.getD 4 undef = .slice A n c) (h5 : tmps.getD 5 undef = .pointer (some ⟨bf, 0, none⟩))
    (hn : n = r.1.length) (hx : x = (r.2.1 : Int)) (hy : y = (r.2.2 : Int)) (hF : Blk w2 bf 28 #[.int .i64 x, .int .i64 y]) (ho : POwn 70 5 w2 w.heap.size A c r.1) (hB : Below w.heap.size w w2) :
    bodyPost Try.prog Try.f12 (ScanIs w r) .ret { tmps := tmps, defers := [] } w2 := by
  subst hn hx hy
  have h4' : tmps[4]?.getD undef = .slice A r.1.length c := by simpa using h4
  have h5' : tmps[5]?.getD undef = .pointer (some ⟨bf, 0, none⟩) := by simpa using h5
  have c0 : w2.cell? ⟨bf, 0, none⟩ = some (.int .i64 (r.2.1 : Int)) := hF.cell 0
  have c1 : w2.cell? ⟨bf, 1, none⟩ = some (.int .i64 (r.2.2 : Int)) := hF.cell 1
  refine ⟨rfl, .tuple #[.slice A r.1.length c, .agg #[.int .i64 (r.2.1 : Int), .int .i64 (r.2.2 : Int)]], ?_, A, c, rfl, ho, hB⟩
  simp [results, Try.results12, h4', h5', go_sem, c0, c1]

section
variable {P : Program} (w : World)
/-- 'out = append(out, p)', p a piece of the call's own, out a row of such. -/
theorem wpList_append_piece {ops : Array Oper} {rest : List Oper} {o : Oper} {a : Act} {Q : Exit → Act → World → Prop} (hgd : o.guard = none) (s x : Operand) (t : TypeId)
    (ho : o.op = .call { callee := .builtin .append, args := #[s, x], argTypes := #[t, t] })
    (base : Nat) (eT eB : TypeId) (hne : eB ≠ eT) (i : TypeInfo) (z : Value) (bytes : Nat) (ht : P.underlying t = some (.slice eT)) (hi : P.info? eT = some i) (hz : i.zero = some z)
    (hsize : i.size = 2) (hby : i.bytes = bytes) (hzs : z.cells.size = 2)
    (A : Option Addr) (c : Nat) (ps : List Piece) (p : Piece) (A1 : Option Addr) (c1 : Nat) (hs : a.eval s = .slice A ps.length c) (ad : Addr) (hx : a.eval x = .slice (some ad) 1 1)
    (hc0 : w.cell? ad = some (.int .u64 (p.1 : Int))) (hc1 : w.cell? (ad.add 1) = some (.slice A1 p.2.length c1)) (hown : POwn eT eB w base A c ps) (hel : w.ownsRow base eB 1 (.slice A1 p.2.length c1) p.2.length (bcells p.2))
    (h63 : ps.length + 1 ≤ maxLen) (hbytes : (ps.length + 1) * bytes ≤ 140737488355328) (hbase : base ≤ w.heap.size)
    (h : ∀ A' c' w', POwn eT eB w' base A' c' (ps ++ [p]) → w.grownBy w' (Value.slice A ps.length c).ownBlock → wpList P ops Q rest (a.put o.dst (.slice A' (ps.length + 1) c')) w') : wpList P ops Q (o :: rest) a w := by
  obtain ⟨vs, h1, h2⟩ := hown
  have hvl : vs.length = ps.length * 2 := h1.1
  refine wpList_append_own_at w hgd s x t ho base eT i z 2 bytes ht hi hz hsize hby hzs (by omega) (.slice A ps.length c) ps.length vs hs h1 ad 1 1 [.int .u64 (p.1 : Int), .slice A1 p.2.length c1] hx rfl
    (fun j u hj => by
      match j, hj with
      | 0, hj =>
        simp at hj
        subst hj
        simpa [Addr.add] using hc0
      | 1, hj =>
        simp at hj
        subst hj
        exact hc1) (by simp [Value.oneCell']) h63 hbytes hbase ?_
  intro v' w' hown' hg _ _
  obtain ⟨A', c', rfl, _⟩ := own_slice hown'
  refine h A' c' w' ⟨vs ++ [.int .u64 (p.1 : Int), .slice A1 p.2.length c1], by simpa using hown', fun j u hj => ?_⟩ hg
  have hkeep : ∀ {n : Nat} {v : Value} {xs : List Value}, w.ownsRow base eB 1 v n xs → w'.ownsRow base eB 1 v n xs := fun hh => hh.kept hg (own_types_ne hh h1 hne)
  rw [List.getElem?_append] at hj
  split at hj
  · rename_i hjl
    obtain ⟨e0, A2, c2, e1, e2⟩ := h2 j u hj
    exact ⟨by rw [List.getElem?_append_left (by omega)]; exact e0, A2, c2, by rw [List.getElem?_append_left (by omega)]; exact e1, hkeep e2⟩
  · rename_i hjl
    have hj0 : j - ps.length = 0 := by
      rcases Nat.eq_zero_or_pos (j - ps.length) with h0 | h0
      · exact h0
      · rw [List.getElem?_eq_none (by simp; omega)] at hj
        cases hj
    have hj1 : j = ps.length := by omega
    rw [hj0] at hj
    simp at hj
    subst hj hj1
    refine ⟨by rw [List.getElem?_append_right (by omega), hvl, Nat.sub_self]; rfl, A1, c1, by rw [List.getElem?_append_right (by omega), hvl, show ps.length * 2 + 1 - ps.length * 2 = 1 by omega]; rfl, hkeep hel⟩
end

/-- A piece appended, and the loop's relation holds one item further. -/
theorem rscAt_step {w wr W4 W5 : World} {l : List UInt8} {plan : List Item} {A A' A5 : Option Addr} {c c' c5 k : Nat} {at_ fa at2 fa2 q : Nat} {p : List UInt8} {acc : List Piece} {x : Item}
    (hat : RScAt w wr l plan A c k (at_, fa, 0) acc A' c') (hlt : k < plan.length) (hx : plan[k] = x) (hrs : readS l (at_, fa, 0) x = ((at2, fa2, 0), q, p)) (hW : Below w.heap.size w W4)
    (hF4 : Blk W4 w.heap.size 28 #[.int .i64 0, .int .i64 0])
    (hR4 : Blk W4 (w.heap.size + 1) 47 #[.slice A l.length c, .int .i64 (at2 : Int), .int .i64 (fa2 : Int), .int .i64 0])
    (hP4 : POwn 70 5 W4 w.heap.size A' c' acc) (o : Obj) (hg : (W4.alloc o).grownBy W5 (Value.slice A' acc.length c').ownBlock)
    (hP5 : POwn 70 5 W5 w.heap.size A5 c5 (acc ++ [(q, p)])) :
    RScAt w W5 l plan A c (k + 1) (at2, fa2, 0) (acc ++ [(q, p)]) A5 c5 := by
  obtain ⟨Hok, _, _, _, _, _, HS, hacc⟩ := hat
  have hs : w.heap.size ≤ W4.heap.size := hW.size
  have hPa := hP4.below ((Below.refl _ W4).alloc (Nat.le_refl _) o)
  have hFa := Blk.alloc hF4 o
  have hRa := Blk.alloc hR4 o
  refine ⟨?_, rfl, Blk.grown hFa hg (ne_own hFa hPa (by decide)), Blk.grown hRa hg (ne_own hRa hPa (by decide)), hP5, ?_, ?_, ?_⟩
  · have := ok_read Hok x
    rw [hrs] at this
    exact this
  · exact (hW.alloc hs o).grown hg (Nat.le_trans hs ((Below.refl W4.heap.size W4).alloc (Nat.le_refl _) o).size) (fun k hk => hPa.lt hk)
  · rw [← HS, List.drop_eq_getElem_cons hlt, hx]
    conv => rhs; unfold scanGo
    rw [hrs, if_pos rfl]
  · rw [List.length_append, hacc]; rfl

set_option maxHeartbeats 1500000 in
set_option maxRecDepth 100000 in
theorem rscan_any (A : Option Addr) (n c : Nat) (l : List UInt8) (P : Option Addr) (m d : Nat) (plan : List Item) (w : World) (hn : n = l.length) (hb : BS w w.heap.size A l) (hl : n ≤ 1000000000) (hc : n ≤ c)
    (hm : m = plan.length) (hp : IS w w.heap.size P plan) (hmd : m ≤ d) (hml : m ≤ 1000000) (hpn : ∀ x ∈ plan, x.2.1 < 9223372036854775808) :
    Calls Try.prog 12 #[.slice A n c, .slice P m d] w (ScanIs w (scanS l plan)) := by
  subst hn hm
  obtain ⟨i0, hi0, hz0, hz1, hz2⟩ := info_parts piece_info
  have HB := Lib.hid hb
  have HP := Lib.hid hp
  have Hpn := Lib.hid hpn
  clear hb hp hpn
  go_enter Try.func12, Try.ntmps12
  go_wp2
  go_outline
  go_loopw [7, 8] (fun v i wr => ∃ (k : Nat) (s : St) (acc : List Piece) (A' : Option Addr) (c' : Nat), k ≤ plan.length ∧ i = .int .i64 (k : Int) ∧ v = .slice A' acc.length c' ∧ Hid (RScAt w wr l plan A c k s acc A' c')) (fun _ i _ => plan.length - (intOf i).toNat)
  case atStart => exact ⟨0, (0, 0, 0), [], none, 0, by omega, rfl, rfl, ⟨by simp [okS], rfl, Blk.alloc (Blk.new w _ _ _ rfl) _, Blk.new _ _ _ _ (by simp), POwn.nil _ _ _ _, ((Below.refl _ w).alloc (Nat.le_refl _) _).alloc (by simp) _, rfl, rfl⟩⟩
  case round =>
    obtain ⟨k, s, acc, A', c', hk, rfl, rfl, hat⟩ := hrel
    obtain ⟨Hok, Hz, HFr, HRr, HPO, Hbr, HS, hacc⟩ := hat.out
    obtain ⟨at_, fa, fe⟩ := s
    simp only at Hz
    subst Hz
    by_cases hlt : k < plan.length
    · have hkm : acc.length + 1 ≤ 1000000 := by omega
      have hkI : (k : Int) < (plan.length : Int) := by omega
      have hk0 : (0 : Int) ≤ (k : Int) := by omega
      obtain ⟨ad, rfl, hadb, y0, y1, y2⟩ := (HP.out.below Hbr).whole hlt
      rcases hx : plan[k] with ⟨kx, nx, bx⟩
      rw [hx] at y0 y1 y2
      simp only at y0 y1 y2
      have hcons : plan.drop k = (kx, nx, bx) :: plan.drop (k + 1) := by rw [List.drop_eq_getElem_cons hlt, hx]
      have HC := Lib.hid hcons
      clear hcons
      have Hx := Lib.hid hx
      have v0 : wr.cell? ⟨w.heap.size + 1, 0, none⟩ = some (.slice A l.length c) := HRr.cell 0
      have v1 : wr.cell? ⟨w.heap.size + 1, 1, none⟩ = some (.int .i64 (at_ : Int)) := HRr.cell 1
      have v2 : wr.cell? ⟨w.heap.size + 1, 2, none⟩ = some (.int .i64 (fa : Int)) := HRr.cell 2
      have v3 : wr.cell? ⟨w.heap.size + 1, 3, none⟩ = some (.int .i64 0) := HRr.cell 3
      have u0 : wr.cell? ⟨w.heap.size, 0, none⟩ = some (.int .i64 0) := HFr.cell 0
      have u1 : wr.cell? ⟨w.heap.size, 1, none⟩ = some (.int .i64 0) := HFr.cell 1
      have uf : ∀ i, wr.frozen? ⟨w.heap.size, i, none⟩ = false := fun i => HFr.frozen i
      have Hok := Lib.hid Hok
      have HFr := Lib.hid HFr
      have HRr := Lib.hid HRr
      have HPO := Lib.hid HPO
      have Hbr := Lib.hid Hbr
      have HS := Lib.hid HS
      have Hacc := Lib.hid hacc
      clear hx hacc
      rcases hmay : mayB (kx, nx, bx) with _ | _
      · have Hmay := Lib.hid hmay
        clear hmay
        go_wp2_with fail
        refine (refMay_any kx nx bx _ _ Hmay.out).mono ?_
        rintro e w1 ⟨rfl, hb1⟩
        have q0 : w1.cell? ⟨w.heap.size + 1, 1, none⟩ = some (.int .i64 (at_ : Int)) := (HRr.out.below hb1 HRr.out.lt).cell 1
        have q1 : w1.cell? ⟨w.heap.size, 0, none⟩ = some (.int .i64 0) := (HFr.out.below hb1 HFr.out.lt).cell 0
        have q2 : w1.cell? ⟨w.heap.size, 1, none⟩ = some (.int .i64 0) := (HFr.out.below hb1 HFr.out.lt).cell 1
        have qf : ∀ i, w1.frozen? ⟨w.heap.size, i, none⟩ = false := (HFr.out.below hb1 HFr.out.lt).frozen
        go_wp2
        have hend : scanS l plan = ([], at_, 1) := by
          rw [← HS.out, HC.out, scanGo, read_bad rfl Hmay.out, if_neg (by simp)]
        have Hend := Lib.hid hend
        clear hend
        go_region
        all_goals
          go_wp2
          rw [Hend.out]
          refine rscan_end rfl rfl rfl rfl rfl (Blk.drew (Blk.set_ (Blk.set_ (HFr.out.below hb1 HFr.out.lt) 0 (.int .i64 (at_ : Int))) 1 (.int .i64 1))) (POwn.nil _ _ _ _) ?_
          exact (((Hbr.out.trans (hb1.mono (by have := HFr.out.lt; omega))).setCell (Nat.le_refl _) _).setCell (Nat.le_refl _) _).drew
      · have Hmay := Lib.hid hmay
        clear hmay
        go_wp2_with fail
        refine (refMay_any kx nx bx _ _ Hmay.out).mono ?_
        rintro e w1 ⟨rfl, hb1⟩
        have hHR1 : Blk w1 (w.heap.size + 1) 47 #[.slice A l.length c, .int .i64 (at_ : Int), .int .i64 (fa : Int), .int .i64 0] := HRr.out.below hb1 HRr.out.lt
        have hHF1 : Blk w1 w.heap.size 28 #[.int .i64 0, .int .i64 0] := HFr.out.below hb1 HFr.out.lt
        have hw1 : Below w.heap.size w w1 := Hbr.out.trans (hb1.mono (by have := HFr.out.lt; omega))
        have hB1 : BS w1 w1.heap.size A l := by
          have h := HB.out.below hw1
          exact h.more (by have := hHF1.lt; omega)
        obtain ⟨ad2, had2, _, y10, y11, y12⟩ := (HP.out.below hw1).whole hlt
        obtain rfl : ad = ad2 := by simpa using had2
        have hx1 : plan[k] = (kx, nx, bx) := by
          have h := HC.out
          rw [List.drop_eq_getElem_cons hlt] at h
          exact (List.cons.inj h).1
        rw [hx1] at y10 y11 y12
        simp only at y10 y11 y12
        have hnx : nx < 9223372036854775808 := by have h := Hpn.out _ (List.getElem_mem hlt); rw [hx1] at h; exact h
        have hask : askS l (at_, fa, 0) kx nx bx = ((readS l (at_, fa, 0) (kx, nx, bx)).1, (readS l (at_, fa, 0) (kx, nx, bx)).2.1, (readS l (at_, fa, 0) (kx, nx, bx)).2.2) := read_ask rfl Hmay.out
        rcases hrs : readS l (at_, fa, 0) (kx, nx, bx) with ⟨⟨at2, fa2, fe2⟩, q, p⟩
        rw [hrs] at hask
        simp only at hask
        have hS1 : ∀ w', Below w1.heap.size w1 w' → w'.cell? ⟨w.heap.size + 1, 0, none⟩ = some (.slice A l.length c) ∧ w'.cell? ⟨w.heap.size + 1, 1, none⟩ = some (.int .i64 (at_ : Int)) ∧ w'.cell? ⟨w.heap.size + 1, 2, none⟩ = some (.int .i64 (fa : Int)) ∧ w'.cell? ⟨w.heap.size + 1, 3, none⟩ = some (.int .i64 0) ∧ w'.cell? (ad.add (k * 3)) = some (.int .i64 kx) ∧ w'.cell? ⟨(ad.add (k * 3)).block, (ad.add (k * 3)).off + 1, none⟩ = some (.int .i64 nx) ∧ w'.cell? ⟨(ad.add (k * 3)).block, (ad.add (k * 3)).off + 2, none⟩ = some (.bool bx) := fun w' h => by
          have hr := Blk.below hHR1 h hHR1.lt
          have hlt2 : (ad.add (k * 3)).block < w1.heap.size := by rw [block_of_add]; exact Nat.lt_of_lt_of_le hadb hw1.size
          exact ⟨hr.cell 0, hr.cell 1, hr.cell 2, hr.cell 3, (h.cell (p := ad.add (k * 3)) hlt2).trans y10, (h.cell (p := ⟨(ad.add (k * 3)).block, (ad.add (k * 3)).off + 1, none⟩) hlt2).trans y11, (h.cell (p := ⟨(ad.add (k * 3)).block, (ad.add (k * 3)).off + 2, none⟩) hlt2).trans y12⟩
        have hB1a : ∀ o, BS (w1.alloc o).drew (w1.alloc o).drew.heap.size A l := fun o => BS.drew (BS.more (hB1.below ((Below.refl w1.heap.size w1).alloc (Nat.le_refl _) o)) (Below.size ((Below.refl w1.heap.size w1).alloc (Nat.le_refl _) o).drew))
        have HR1 := Lib.hid hHR1
        have HF1 := Lib.hid hHF1
        have HW1 := Lib.hid hw1
        have HB1 := Lib.hid hB1
        have HB1a := Lib.hid hB1a
        have HS1 := Lib.hid hS1
        have Hask := Lib.hid hask
        have Hrs := Lib.hid hrs
        have Y := Lib.hid (And.intro y10 (And.intro y11 y12))
        have HP1 := Lib.hid (HPO.out.below (hb1.mono (Nat.le_refl _)))
        clear hHR1 hHF1 hw1 hB1 hB1a hS1 hask hrs y10 y11 y12 hx1 had2
        go_wp2_with fail
        go_region_held3 (fun w' => w'.cell? ⟨w.heap.size + 1, 0, none⟩ = some (.slice A l.length c) ∧ w'.cell? ⟨w.heap.size + 1, 1, none⟩ = some (.int .i64 (at_ : Int)) ∧ w'.cell? ⟨w.heap.size + 1, 2, none⟩ = some (.int .i64 (fa : Int)) ∧ w'.cell? ⟨w.heap.size + 1, 3, none⟩ = some (.int .i64 0) ∧ w'.cell? (ad.add (k * 3)) = some (.int .i64 kx) ∧ w'.cell? ⟨(ad.add (k * 3)).block, (ad.add (k * 3)).off + 1, none⟩ = some (.int .i64 nx) ∧ w'.cell? ⟨(ad.add (k * 3)).block, (ad.add (k * 3)).off + 2, none⟩ = some (.bool bx))
          ((refine HS1.out _ ?_
            repeat (first | (with_reducible refine Below.setCell ?_ (by first | exact Nat.le_refl _ | exact HLe.out) _) | (with_reducible refine Below.alloc ?_ (by first | exact Nat.le_refl _ | exact HLe.out) _) | (with_reducible refine Below.drew ?_))
            first | exact Below.refl _ _ | exact Hb2.out))
          (first
            | (go_at_call 24
               refine (ask_any A c l (at_, fa, 0) kx nx bx w1.drew (BS.drew HB1.out) hc hl Hok.out hnx).mono ?_
               rw [Hask.out]
               rintro e w2 ⟨A2, c2, rfl, hown2, hb2⟩
               simp only [rdrV]
               have HLe : Hid (w1.heap.size ≤ w2.heap.size) := hb2.size
               have Hb2 : Hid (Below w1.heap.size w1 w2) := ((Below.refl _ w1).drew).trans hb2
               have H9 : ∀ o, Blk (w2.alloc (.cells o 47)) w2.heap.size 47 o := fun o => Blk.new _ _ _ _ rfl
               have H9 := Lib.hid H9
               have Hown2 := Lib.hid hown2
               clear hown2 hb2)
            | (go_at_call 24
               refine (ask_any A c l (at_, fa, 0) kx nx bx (w1.alloc (.cells #[.slice none 0 0, .int .i64 0, .int .i64 0, .int .i64 0] 47)).drew (HB1a.out _) hc hl Hok.out hnx).mono ?_
               rw [Hask.out]
               rintro e w2 ⟨A2, c2, rfl, hown2, hb2⟩
               simp only [rdrV]
               have h9 := Blk.below (Blk.drew (Blk.new w1 47 #[.slice none 0 0, .int .i64 0, .int .i64 0, .int .i64 0] _ rfl)) hb2 (Blk.lt (Blk.drew (Blk.new w1 47 #[.slice none 0 0, .int .i64 0, .int .i64 0, .int .i64 0] _ rfl)))
               have z0 : w2.cell? ⟨w1.heap.size, 0, none⟩ = some (.slice none 0 0) := h9.cell 0
               have z1 : w2.cell? ⟨w1.heap.size, 1, none⟩ = some (.int .i64 0) := h9.cell 1
               have z2 : w2.cell? ⟨w1.heap.size, 2, none⟩ = some (.int .i64 0) := h9.cell 2
               have z3 : w2.cell? ⟨w1.heap.size, 3, none⟩ = some (.int .i64 0) := h9.cell 3
               have zf : ∀ i, w2.frozen? ⟨w1.heap.size, i, none⟩ = false := fun i => h9.frozen i
               have HLe : Hid (w1.heap.size ≤ w2.heap.size) := Nat.le_trans (Below.size ((Below.refl w1.heap.size w1).alloc (Nat.le_refl _) (.cells #[.slice none 0 0, .int .i64 0, .int .i64 0, .int .i64 0] 47)).drew) hb2.size
               have Hb2 : Hid (Below w1.heap.size w1 w2) := (((Below.refl w1.heap.size w1).alloc (Nat.le_refl _) (.cells #[.slice none 0 0, .int .i64 0, .int .i64 0, .int .i64 0] 47)).drew).trans (hb2.mono (Below.size ((Below.refl w1.heap.size w1).alloc (Nat.le_refl _) (.cells #[.slice none 0 0, .int .i64 0, .int .i64 0, .int .i64 0] 47)).drew))
               have H9 := Lib.hid h9
               have Hown2 := Lib.hid hown2
               clear hown2 hb2 h9))
        all_goals
          first
            | (obtain ⟨W3, hW3⟩ : ∃ W3, W3 = w2.alloc (.cells #[.slice A l.length c, .int .i64 (at2 : Int), .int .i64 (fa2 : Int), .int .i64 (fe2 : Int)] 47) := ⟨_, rfl⟩
               obtain ⟨b9, hb9⟩ : ∃ b, b = w2.heap.size := ⟨_, rfl⟩
               rw [← hW3, ← hb9]
               have h9 : Blk W3 b9 47 #[.slice A l.length c, .int .i64 (at2 : Int), .int .i64 (fa2 : Int), .int .i64 (fe2 : Int)] := by rw [hW3, hb9]; exact H9.out _
               have hW : Below w1.heap.size w1 W3 := by rw [hW3]; exact Hb2.out.alloc HLe.out _
               have hown3 : W3.ownsRow w.heap.size 5 1 (.slice A2 p.length c2) p.length (bcells p) := by rw [hW3]; exact own_base' (own_below Hown2.out ((Below.refl _ w2).alloc (Nat.le_refl _) _)) HW1.out.size
               have hg9 : w.heap.size + 1 < b9 := by rw [hb9]; exact Nat.lt_of_lt_of_le HR1.out.lt HLe.out
               clear hW3 hb9 H9 Hb2 HLe Hown2)
            | (obtain ⟨W3, hW3⟩ : ∃ W3, W3 = ((((w2.setCell ⟨w1.heap.size, 0, none⟩ (.slice A l.length c)).setCell ⟨w1.heap.size, 1, none⟩ (.int .i64 (at2 : Int))).setCell ⟨w1.heap.size, 2, none⟩ (.int .i64 (fa2 : Int))).setCell ⟨w1.heap.size, 3, none⟩ (.int .i64 (fe2 : Int))) := ⟨_, rfl⟩
               obtain ⟨b9, hb9⟩ : ∃ b, b = w1.heap.size := ⟨_, rfl⟩
               rw [← hW3, ← hb9]
               have h9 : Blk W3 b9 47 #[.slice A l.length c, .int .i64 (at2 : Int), .int .i64 (fa2 : Int), .int .i64 (fe2 : Int)] := by rw [hW3, hb9]; exact Blk.store4 H9.out _ _ _ _
               have hW : Below w1.heap.size w1 W3 := by rw [hW3]; exact (((Hb2.out.setCell (Nat.le_refl _) _).setCell (Nat.le_refl _) _).setCell (Nat.le_refl _) _).setCell (Nat.le_refl _) _
               have hown3 : W3.ownsRow w.heap.size 5 1 (.slice A2 p.length c2) p.length (bcells p) := by
                 rw [hW3]
                 exact own_base' (Hown2.out.kept (grownTrans (grownTrans (grownTrans (grownSet _ ⟨w1.heap.size, 0, none⟩ _) (grownSet _ ⟨w1.heap.size, 1, none⟩ _)) (grownSet _ ⟨w1.heap.size, 2, none⟩ _)) (grownSet _ ⟨w1.heap.size, 3, none⟩ _)) (own_blk_ne Hown2.out H9.out (by decide))) (Nat.le_trans HW1.out.size (Below.size ((Below.refl w1.heap.size w1).alloc (Nat.le_refl _) (.cells #[.slice none 0 0, .int .i64 0, .int .i64 0, .int .i64 0] 47)).drew))
               have hg9 : w.heap.size + 1 < b9 := by rw [hb9]; exact HR1.out.lt
               clear hW3 hb9 H9 Hb2 HLe Hown2 z0 z1 z2 z3 zf)
          have hF3 := Blk.below HF1.out hW HF1.out.lt
          have hR3 := Blk.below HR1.out hW HR1.out.lt
          have hP3 := HP1.out.below hW
          have hWW := HW1.out.trans (hW.mono HW1.out.size)
          have hR4 := Blk.store4 hR3 (.slice A l.length c) (.int .i64 (at2 : Int)) (.int .i64 (fa2 : Int)) (.int .i64 (fe2 : Int))
          have hgs : W3.grownBy _ (some (w.heap.size + 1)) := grownTrans (grownTrans (grownTrans (grownSet W3 ⟨w.heap.size + 1, 0, none⟩ (.slice A l.length c)) (grownSet _ ⟨w.heap.size + 1, 1, none⟩ (.int .i64 (at2 : Int)))) (grownSet _ ⟨w.heap.size + 1, 2, none⟩ (.int .i64 (fa2 : Int)))) (grownSet _ ⟨w.heap.size + 1, 3, none⟩ (.int .i64 (fe2 : Int)))
          have hF4 := Blk.grown hF3 hgs (fun e => by injection e with e; omega)
          have hown4 := hown3.kept hgs (own_blk_ne hown3 hR3 (by decide))
          have hP4 := hP3.keep (fun he ho => ho.kept hgs (own_blk_ne ho hR3 (by rcases he with rfl | rfl <;> decide)))
          have hW4 := (((hWW.setCell (p := ⟨w.heap.size + 1, 0, none⟩) (Nat.le_succ _) (.slice A l.length c)).setCell (p := ⟨w.heap.size + 1, 1, none⟩) (Nat.le_succ _) (.int .i64 (at2 : Int))).setCell (p := ⟨w.heap.size + 1, 2, none⟩) (Nat.le_succ _) (.int .i64 (fa2 : Int))).setCell (p := ⟨w.heap.size + 1, 3, none⟩) (Nat.le_succ _) (.int .i64 (fe2 : Int))
          have n0 : W3.cell? ⟨b9, 0, none⟩ = some (.slice A l.length c) := h9.cell 0
          have n1 : W3.cell? ⟨b9, 1, none⟩ = some (.int .i64 (at2 : Int)) := h9.cell 1
          have n2 : W3.cell? ⟨b9, 2, none⟩ = some (.int .i64 (fa2 : Int)) := h9.cell 2
          have n3 : W3.cell? ⟨b9, 3, none⟩ = some (.int .i64 (fe2 : Int)) := h9.cell 3
          have r0 : W3.cell? ⟨w.heap.size + 1, 0, none⟩ = some (.slice A l.length c) := hR3.cell 0
          have r1 : W3.cell? ⟨w.heap.size + 1, 1, none⟩ = some (.int .i64 (at_ : Int)) := hR3.cell 1
          have r2 : W3.cell? ⟨w.heap.size + 1, 2, none⟩ = some (.int .i64 (fa : Int)) := hR3.cell 2
          have r3 : W3.cell? ⟨w.heap.size + 1, 3, none⟩ = some (.int .i64 0) := hR3.cell 3
          have rf : ∀ i, W3.frozen? ⟨w.heap.size + 1, i, none⟩ = false := fun i => hR3.frozen i
          have u0 : W3.cell? ⟨w.heap.size, 0, none⟩ = some (.int .i64 0) := hF3.cell 0
          have u1 : W3.cell? ⟨w.heap.size, 1, none⟩ = some (.int .i64 0) := hF3.cell 1
          have uf : ∀ i, W3.frozen? ⟨w.heap.size, i, none⟩ = false := fun i => hF3.frozen i
          have HR4 := Lib.hid hR4
          have HF4 := Lib.hid hF4
          have Hown4 := Lib.hid hown4
          have HP4 := Lib.hid hP4
          have HW4 := Lib.hid hW4
          clear hF3 hR3 hP3 hWW hR4 hgs hF4 hown4 hP4 hW4 h9 hW hown3
          by_cases hfe : fe2 = 0
          · subst hfe
            go_upto_region 12 with fail
            obtain ⟨W4, hW4e⟩ : ∃ W4, W4 = ((((W3.setCell ⟨w.heap.size + 1, 0, none⟩ (.slice A l.length c)).setCell ⟨w.heap.size + 1, 1, none⟩ (.int .i64 (at2 : Int))).setCell ⟨w.heap.size + 1, 2, none⟩ (.int .i64 (fa2 : Int))).setCell ⟨w.heap.size + 1, 3, none⟩ (.int .i64 0)) := ⟨_, rfl⟩
            rw [← hW4e]
            have hR5 : Blk W4 (w.heap.size + 1) 47 #[.slice A l.length c, .int .i64 (at2 : Int), .int .i64 (fa2 : Int), .int .i64 0] := by rw [hW4e]; exact HR4.out
            have hF5 : Blk W4 w.heap.size 28 #[.int .i64 0, .int .i64 0] := by rw [hW4e]; exact HF4.out
            have hown5 : W4.ownsRow w.heap.size 5 1 (.slice A2 p.length c2) p.length (bcells p) := by rw [hW4e]; exact Hown4.out
            have hP5 : POwn 70 5 W4 w.heap.size A' c' acc := by rw [hW4e]; exact HP4.out
            have hW5 : Below w.heap.size w W4 := by rw [hW4e]; exact HW4.out
            have HR5 := Lib.hid hR5
            have HF5 := Lib.hid hF5
            have Hown5 := Lib.hid hown5
            have HP5 := Lib.hid hP5
            have HW5 := Lib.hid hW5
            clear hR5 hF5 hown5 hP5 hW5 HR4 HF4 Hown4 HP4 HW4 hW4e n0 n1 n2 n3 r0 r1 r2 r3 rf u0 u1 uf
            go_wp2_with (at_builtin; go_loud (refine wpList_append_piece _ rfl _ _ 25 rfl w.heap.size 70 5 (by decide) i0 (.agg #[.int .u64 0, .slice none 0 0]) 32 Try.underlying25 hi0 hz0 hz1 hz2 rfl A' c' acc (q, p) A2 c2 rfl _ rfl ?_ ?_ ?_ ?_ ?_ ?_ ?_ ?_))
            · exact HP5.out.below ((Below.refl _ W4).alloc (Nat.le_refl _) _)
            · exact own_below Hown5.out ((Below.refl _ W4).alloc (Nat.le_refl _) _)
            · unfold maxLen; omega
            · omega
            · exact Nat.le_trans HW5.out.size ((Below.refl _ W4).alloc (Nat.le_refl _) _).size
            intro A5 c5 w5 hP6 hg6
            have Hend := Lib.hid (rscAt_step hat.out hlt Hx.out Hrs.out HW5.out HF5.out HR5.out HP5.out _ hg6 hP6)
            clear hP6 hg6 HR5 HF5 Hown5 HP5 HW5
            go_wp2
            go_roundw
            case rel => exact ⟨k + 1, (at2, fa2, 0), acc ++ [(q, p)], A5, c5, by omega, by go_num, by simp, Hend⟩
            case measure => simp [intOf]; omega
          · have hfe' : ¬ ((fe2 : Int) = 0) := by omega
            go_upto_region 11 with fail
            obtain ⟨W4, hW4e⟩ : ∃ W4, W4 = ((((W3.setCell ⟨w.heap.size + 1, 0, none⟩ (.slice A l.length c)).setCell ⟨w.heap.size + 1, 1, none⟩ (.int .i64 (at2 : Int))).setCell ⟨w.heap.size + 1, 2, none⟩ (.int .i64 (fa2 : Int))).setCell ⟨w.heap.size + 1, 3, none⟩ (.int .i64 (fe2 : Int))) := ⟨_, rfl⟩
            rw [← hW4e]
            have hR5 : Blk W4 (w.heap.size + 1) 47 #[.slice A l.length c, .int .i64 (at2 : Int), .int .i64 (fa2 : Int), .int .i64 (fe2 : Int)] := by rw [hW4e]; exact HR4.out
            have hF5 : Blk W4 w.heap.size 28 #[.int .i64 0, .int .i64 0] := by rw [hW4e]; exact HF4.out
            have hown5 : W4.ownsRow w.heap.size 5 1 (.slice A2 p.length c2) p.length (bcells p) := by rw [hW4e]; exact Hown4.out
            have hP5 : POwn 70 5 W4 w.heap.size A' c' acc := by rw [hW4e]; exact HP4.out
            have hW5 : Below w.heap.size w W4 := by rw [hW4e]; exact HW4.out
            have HR5 := Lib.hid hR5
            have HF5 := Lib.hid hF5
            have Hown5 := Lib.hid hown5
            have HP5 := Lib.hid hP5
            have HW5 := Lib.hid hW5
            clear hR5 hF5 hown5 hP5 hW5 HR4 HF4 Hown4 HP4 HW4 hW4e n0 n1 n2 n3 r0 r1 r2 r3 rf u0 u1 uf
            have hend : scanS l plan = ([], fa2, fe2) := by
              rw [← HS.out, HC.out, scanGo, Hrs.out, if_neg hfe]
            have Hend := Lib.hid hend
            clear hend
            have r2 : W4.cell? ⟨w.heap.size + 1, 2, none⟩ = some (.int .i64 (fa2 : Int)) := HR5.out.cell 2
            have r3 : W4.cell? ⟨w.heap.size + 1, 3, none⟩ = some (.int .i64 (fe2 : Int)) := HR5.out.cell 3
            have u0 : W4.cell? ⟨w.heap.size, 0, none⟩ = some (.int .i64 0) := HF5.out.cell 0
            have u1 : W4.cell? ⟨w.heap.size, 1, none⟩ = some (.int .i64 0) := HF5.out.cell 1
            have uf : ∀ i, W4.frozen? ⟨w.heap.size, i, none⟩ = false := fun i => HF5.out.frozen i
            go_region
            all_goals
              go_wp2
              rw [Hend.out]
              refine rscan_end rfl rfl rfl rfl rfl (Blk.drew (Blk.set_ (Blk.set_ HF5.out 0 (.int .i64 (fa2 : Int))) 1 (.int .i64 (fe2 : Int)))) (POwn.nil _ _ _ _) ?_
              exact ((HW5.out.setCell (Nat.le_refl _) _).setCell (Nat.le_refl _) _).drew
    · have hkk : k = plan.length := by omega
      subst hkk
      have v1 : wr.cell? ⟨w.heap.size + 1, 1, none⟩ = some (.int .i64 (at_ : Int)) := HRr.cell 1
      have u0 : wr.cell? ⟨w.heap.size, 0, none⟩ = some (.int .i64 0) := HFr.cell 0
      have u1 : wr.cell? ⟨w.heap.size, 1, none⟩ = some (.int .i64 0) := HFr.cell 1
      have uf : ∀ i, wr.frozen? ⟨w.heap.size, i, none⟩ = false := fun i => HFr.frozen i
      have hdrop : plan.drop plan.length = [] := List.drop_length
      have HD := Lib.hid hdrop
      have Hok := Lib.hid Hok
      have HFr := Lib.hid HFr
      have HRr := Lib.hid HRr
      have HPO := Lib.hid HPO
      have Hbr := Lib.hid Hbr
      have HS := Lib.hid HS
      have Hacc := Lib.hid hacc
      clear hacc hdrop
      have hfin : scanS l plan = (if at_ < l.length then ([], at_, 3) else (acc, 0, 0)) := by
        have hE : endS l (at_, fa, 0) = if at_ < l.length then (at_, at_, 3) else (at_, fa, 0) := rfl
        rw [← HS.out, HD.out, scanGo, hE]
        by_cases hh : at_ < l.length
        · rw [if_pos hh, if_pos hh, if_neg (by simp)]
        · rw [if_neg hh, if_neg hh, if_pos rfl]
      have Hfin := Lib.hid hfin
      clear hfin
      go_wp2
      · go_region
        all_goals
          go_wp2
          rw [Hfin.out, if_pos (by omega)]
          refine rscan_end rfl rfl rfl rfl rfl (Blk.drew (Blk.set_ (Blk.set_ HFr.out 0 (.int .i64 (at_ : Int))) 1 (.int .i64 3))) (POwn.nil _ _ _ _) ?_
          exact ((Hbr.out.setCell (Nat.le_refl _) _).setCell (Nat.le_refl _) _).drew
      · rw [Hfin.out, if_neg (by omega)]
        refine rscan_end rfl rfl rfl rfl rfl (Blk.set_ (Blk.set_ HFr.out 0 (.int .i64 0)) 1 (.int .i64 0)) ?_ ((Hbr.out.setCell (Nat.le_refl _) _).setCell (Nat.le_refl _) _)
        exact HPO.out.keep fun he ho => by
          rcases he with rfl | rfl
          · exact ho.kept (grownTrans (grownSet wr ⟨w.heap.size, 0, none⟩ _) (grownSet _ ⟨w.heap.size, 1, none⟩ _)) (own_blk_ne ho HFr.out (by decide))
          · exact ho.kept (grownTrans (grownSet wr ⟨w.heap.size, 0, none⟩ _) (grownSet _ ⟨w.heap.size, 1, none⟩ _)) (own_blk_ne ho HFr.out (by decide))
end Go.Proofs.Ytpeknjbcjpdmnab
