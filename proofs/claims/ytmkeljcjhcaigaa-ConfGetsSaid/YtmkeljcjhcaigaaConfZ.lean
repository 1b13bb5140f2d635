/- conf.TakeAddr: an address read. -/
import Derived.Test.YtmkeljcjhcaigaaConfQ
import Derived.Test.YtmkeljcjhcaigaaKE
import Derived.Laws.CopyOwn
namespace Go.Proofs.Ytmkeljcjhcaigaa
open Go.RowKit
set_option linter.unusedVariables false
set_option linter.unusedSimpArgs false

theorem addr0_lit : (addrCs addr0).toArray = (#[.bool false, .int .u8 0, .int .u8 0, .int .u8 0, .int .u8 0, .int .u8 0, .int .u8 0, .int .u8 0, .int .u8 0, .int .u8 0, .int .u8 0, .int .u8 0, .int .u8 0, .int .u8 0, .int .u8 0, .int .u8 0, .int .u8 0] : Array Value) := rfl
theorem addr_one (a : AddrP) : (addrCs a).toArray.all (·.oneCell') = true := all_oneCell_toArray (by
  intro u hu
  have := all_one_addr a.2 a.1 [] (by simp) u (by rw [List.append_nil]; exact hu)
  exact this)
theorem u8_isize : (Try.prog.info? 5).map (·.size) = some 1 := by kernel_rfl
theorem grownRow (w : World) (g : Nat) (cs : Array Value) : w.grownBy (w.setRow g cs) (some g) :=
  ⟨rfl, rfl, rfl, by simp [World.setRow], fun k hk hne => setRow_other w g k cs (fun e => hne (by rw [e]))⟩
theorem grownCells (w : World) (g o : Nat) : ∀ (vs : List Value) {w' : World} (o : Nat), w.grownBy w' (some g) → w.grownBy (w'.setCells g o vs) (some g)
  | [], _, _, h => h
  | v :: r, _, o, h => grownCells w g o r (o + 1) (grownTrans h (grownSet _ ⟨g, o, none⟩ v))
/-- What is written lies in blocks that are new: the row alone is turned. -/
theorem grownNew {w w1 w2 : World} {g k : Nat} (h : w.grownBy w1 (some g)) (hk : w.heap.size ≤ k) (h2 : w1.grownBy w2 (some k)) : w.grownBy w2 (some g) :=
  ⟨h2.os.trans h.os, h2.tape.trans h.tape, h2.output.trans h.output, Nat.le_trans h.size h2.size, fun j hj hne => (h2.block j (Nat.lt_of_lt_of_le hj h.size) (fun e => by injection e with e; omega)).trans (h.block j hj hne)⟩
theorem wpList_copy_blk {P : Program} {w : World} {ops : Array Oper} {rest : List Oper} {o : Oper} {a : Act} {Q : Exit → Act → World → Prop} (hgd : o.guard = none) (d s : Operand) (dT sT : TypeId)
    (ho : o.op = .call { callee := .builtin .copy, args := #[d, s], argTypes := #[dT, sT] }) (elem : TypeId) (hu : P.underlying dT = some (.slice elem)) (hsz : (P.info? elem).map (·.size) = some 1)
    (g off dLen dCap : Nat) (ad : Addr) (sLen sCap : Nat) (hd : a.eval d = .slice (some ⟨g, off, none⟩) dLen dCap) (hs : a.eval s = .slice (some ad) sLen sCap)
    (cur : List Value) (t : TypeId) (hg : Blk w g t cur.toArray) (cs : List Value) (hn : cs.length = Nat.min sLen dLen)
    (hsrc : ∀ j v, cs[j]? = some v → w.cell? (ad.add j) = some v) (hfit : off + cs.length ≤ cur.length) (h1 : ∀ v ∈ cs, v.oneCell' = true) (res : List Value) (hres : cur.take off ++ (cs ++ cur.drop (off + cs.length)) = res)
    (h : wpList P ops Q rest (a.put o.dst (goInt cs.length)) (w.setRow g res.toArray)) : wpList P ops Q (o :: rest) a w := by
  refine wpList_copy_own hgd d s dT sT ho elem hu hsz g off dLen dCap ad sLen sCap hd hs cur.toArray t hg cs hn hsrc (by simpa using hfit) h1 ?_
  simp only [List.toList_toArray, hres]
  exact h
/-- The address that is answered, and whether there is one. -/
def takeR (l : List UInt8) (s : St) : AddrP := (takeAddrS l s).2.getD addr0
def TakeIs (w : World) (base g : Nat) (l : List UInt8) (s : St) (x : Ending) (w' : World) : Prop :=
  x = .returned (.tuple #[.agg (addrCs (takeR l s)).toArray, .bool (takeAddrS l s).2.isSome]) ∧ RdW w' base g l (takeAddrS l s).1 ∧ w.grownBy w' (some g)
theorem splice6 {b : List UInt8} (h : b.length = 16) : ((addrCs (true, addr0.2)).take 1 ++ (bcells b ++ (addrCs (true, addr0.2)).drop (1 + (bcells b).length))) = addrCs (true, b) := by
  rw [bcells_length, h]
  show [Value.bool true] ++ (bcells b ++ []) = _
  simp [addrCs]
theorem splice4 {b : List UInt8} (h : b.length = 4) : ((addrCs addr0).take 1 ++ (bcells b ++ (addrCs addr0).drop (1 + (bcells b).length))) = addrCs (false, pad b 16) := by
  rw [bcells_length, h]
  show [Value.bool false] ++ (bcells b ++ List.replicate 12 (.int .u8 0)) = _
  rw [addrCs, pad, bcells_append, h]
  rfl

set_option maxHeartbeats 2000000 in
set_option maxRecDepth 100000 in
theorem takeAddr_any (base g : Nat) (l : List UInt8) (s : St) (w : World) (h : RdW w base g l s) (hs : okS l s) (hl : l.length ≤ 1000000000) :
    Calls Try.prog 25 #[.pointer (some ⟨g, 0, none⟩)] w (TakeIs w base g l s) := by
  have hgl : g < w.heap.size := h.lt
  obtain ⟨W, hW⟩ : ∃ W, W = (w.alloc (.cells (addrCs addr0).toArray 27)).alloc (.cells (addrCs addr0).toArray 27) := ⟨_, rfl⟩
  have hX2 : Blk W w.heap.size 27 (addrCs addr0).toArray := by rw [hW]; exact Blk.alloc (Blk.new w _ _ _ rfl) _
  have hX4 : Blk W (w.heap.size + 1) 27 (addrCs addr0).toArray := by rw [hW]; exact Blk.new _ _ _ _ (by simp)
  have hB : Below w.heap.size w W := by rw [hW]; exact ((Below.refl _ _).alloc (Nat.le_refl _) _).alloc (by simp) _
  have Hnum := Lib.hid (rdNum_any base g l s W 1 true (h.below hB) hs hl)
  have hok1 := ok_num hs 1 true
  rcases hn : numS l s 1 true with ⟨s1, v⟩
  rw [hn] at Hnum hok1
  have hT : takeAddrS l s = (if v = 6 then ((takeS l s1 16).1, if (takeS l s1 16).2.length = 16 then some (true, (takeS l s1 16).2) else none) else if v = 4 then ((takeS l s1 4).1, if (takeS l s1 4).2.length = 4 then some (false, pad (takeS l s1 4).2 16) else none) else (s1, none)) := by unfold takeAddrS; rw [hn]
  have HT := Lib.hid hT
  have HW := Lib.hid hW
  have HX2 := Lib.hid hX2
  have HX4 := Lib.hid hX4
  have HB := Lib.hid hB
  rw [addr0_lit] at HW
  clear hT hW hX2 hX4 hB hn h
  by_cases h6 : v = 6
  · have h6I : (v : Int) = 6 := by omega
    have hok2 := ok_take hok1 16
    have Htk := Lib.hid (fun w' h => rdTake_any base g l s1 w' 16 h hok1 hl (by omega))
    rcases ht : takeS l s1 16 with ⟨s2, b⟩
    rw [ht] at Htk hok2
    have hS1 : (takeAddrS l s).1 = s2 := by rw [HT.out, if_pos h6, ht]
    have HS1 := Lib.hid hS1
    by_cases hb : b.length = 16
    · have hS2 : (takeAddrS l s).2 = some (true, b) := by rw [HT.out, if_pos h6, ht]; simp [hb]
      have hR : takeR l s = (true, b) := by unfold takeR; rw [hS2]; rfl
      have hbI : (b.length : Int) = 16 := by omega
      have hao : addrOk (true, b) := hb
      have HR := Lib.hid hR
      have HS2 := Lib.hid hS2
      have Hb := Lib.hid hb
      have Hasz := Lib.hid (addr_sz hao)
      clear hR hS2 hS1 ht hb
      go_enter Try.func25, Try.ntmps25
      go_upto_region 2 with fail
      rw [← HW.out]
      go_wp2_with fail
      refine Hnum.out.mono ?_
      rintro e w1 ⟨rfl, hR1, hg1⟩
      have hXa := Blk.grown HX2.out hg1 (fun e => by injection e with e; omega)
      have hXb := Blk.grown HX4.out hg1 (fun e => by injection e with e; omega)
      have c0 : w1.cell? ⟨w.heap.size + 1, 0, none⟩ = some (.bool false) := addr_c0 hXb
      have f0 : w1.frozen? ⟨w.heap.size + 1, 0, none⟩ = false := hXb.frozen 0
      have hXc : Blk (w1.setCell ⟨w.heap.size + 1, 0, none⟩ (.bool true)) (w.heap.size + 1) 27 (addrCs (true, addr0.2)).toArray := Blk.set_ hXb 0 (.bool true)
      have hXd := Blk.far hXa (p := ⟨w.heap.size + 1, 0, none⟩) (by simp) (.bool true)
      have hgs := grownSet w1 ⟨w.heap.size + 1, 0, none⟩ (.bool true)
      have hR1' := RdW.off hR1 hgs hXb (by decide) (by decide)
      have hg1' := grownNew (grownTrans (grownOf HB.out) hg1) (Nat.le_succ _) hgs
      have HXc := Lib.hid hXc
      have HXd := Lib.hid hXd
      have HR1 := Lib.hid hR1'
      have Hg1 := Lib.hid hg1'
      clear hXc hXd hR1 hR1' hg1 hg1' hXa hXb hgs
      go_wp2_with fail
      refine (Htk.out _ HR1.out).mono ?_
      rintro e w2 ⟨A, c, rfl, hown, hR2, hg2⟩
      simp only at hown hR2
      have hY4 := Blk.grown HXc.out hg2 (fun e => by injection e with e; omega)
      have hY2 := Blk.grown HXd.out hg2 (fun e => by injection e with e; omega)
      have hgw2 : w.grownBy w2 (some g) := grownTrans Hg1.out hg2
      obtain ⟨ad, rfl, hadb, hcell⟩ := (BS.of_own hown).1 (by rw [Hb.out]; decide)
      have Hsrc : Hid (∀ j u, (bcells b)[j]? = some u → w2.cell? (ad.add j) = some u) := fun j u hj => by
        rw [bcells, List.getElem?_map] at hj
        rcases hm : b[j]? with _ | y
        · rw [hm] at hj; cases hj
        · rw [hm] at hj
          simp only [Option.map_some, Option.some.injEq] at hj
          rw [← hj]
          exact hcell j y hm
      have hZ4 : Blk (w2.setRow (w.heap.size + 1) (addrCs (true, b)).toArray) (w.heap.size + 1) 27 (addrCs (true, b)).toArray := Blk.row hY4 _
      have hZ2 : Blk (w2.setRow (w.heap.size + 1) (addrCs (true, b)).toArray) w.heap.size 27 (addrCs addr0).toArray := Blk.rowFar hY2 (by omega) _
      have hgr := grownRow w2 (w.heap.size + 1) (addrCs (true, b)).toArray
      have hR3 := RdW.off hR2 hgr hY4 (by decide) (by decide)
      have hg3 := grownNew hgw2 (Nat.le_succ _) hgr
      have Hth : Hid ((w2.setRow (w.heap.size + 1) (addrCs (true, b)).toArray).there w.heap.size 0 (addrCs (true, b)).toArray.size) := hZ2.there (by rw [addr0_lit, List.size_toArray, addrCs_length hao]; decide)
      have HY4 := Lib.hid hY4
      have HZ2 := Lib.hid hZ2
      have HRg := Lib.hid (blk_range hZ4)
      have HR3 := Lib.hid hR3
      have Hg3 := Lib.hid hg3
      clear hown hR2 hg2 hY4 hY2 hgw2 hcell hZ4 hZ2 hgr hR3 hg3 HXc HXd HR1 Hg1
      go_wp2_with (first
        | ((with_reducible refine gateB .copy ?_); refine wpList_copy_blk rfl _ _ 40 40 rfl 5 Try.underlying40 u8_isize (w.heap.size + 1) 1 16 16 ad b.length c rfl rfl (addrCs (true, addr0.2)) _ HY4.out (bcells b) (by rw [bcells_length, Hb.out]; rfl) Hsrc.out (by rw [bcells_length, Hb.out]; decide) (bcells_one b) (addrCs (true, b)) (splice6 Hb.out) ?_)
        | ((with_reducible refine gateL 27 ?_); refine wpList_load_g (by rfl) 27 (.tmp 4) rfl (w.heap.size + 1) 0 rfl (addrCs (true, b)) _ HRg.out Try.underlying27 rfl Hasz.out ?_)
        | ((with_reducible refine gateS 27 ?_); refine wpList_store_mid rfl 27 (.tmp 2) (.tmp 26) rfl w.heap.size 0 (addrCs (true, b)).toArray rfl rfl Hth.out Hasz.out (addr_one _) ?_))
      have hX9 := Blk.setCells (addrCs (true, b)) 0 HZ2.out
      rw [setL_whole (by rw [addrCs_length hao]; rfl)] at hX9
      refine bodyPost_ret (v := .tuple #[.agg (addrCs (true, b)).toArray, .bool true]) (results_row_tmp (P := Try.prog) (p := 2) (u := 3) rfl _ _ w.heap.size _ _ _ _ rfl hX9 addr_under rfl Hasz.out) rfl ⟨?_, ?_, ?_⟩
      · rw [HR.out, HS2.out]; rfl
      · rw [HS1.out]
        exact RdW.off HR3.out (grownCells _ _ 0 _ _ (grownOf (Below.refl _ _))) HZ2.out (by decide) (by decide)
      · exact grownNew Hg3.out (Nat.le_refl _) (grownCells _ _ 0 _ _ (grownOf (Below.refl _ _)))
    · have hS2 : (takeAddrS l s).2 = none := by rw [HT.out, if_pos h6, ht]; simp [hb]
      have hR : takeR l s = addr0 := by unfold takeR; rw [hS2]; rfl
      have hbI : ¬ (b.length : Int) = 16 := by omega
      have HR := Lib.hid hR
      have HS2 := Lib.hid hS2
      clear hR hS2 hS1 ht
      go_enter Try.func25, Try.ntmps25
      go_upto_region 2 with fail
      rw [← HW.out]
      go_wp2_with fail
      refine Hnum.out.mono ?_
      rintro e w1 ⟨rfl, hR1, hg1⟩
      have hXa := Blk.grown HX2.out hg1 (fun e => by injection e with e; omega)
      have hXb := Blk.grown HX4.out hg1 (fun e => by injection e with e; omega)
      have c0 : w1.cell? ⟨w.heap.size + 1, 0, none⟩ = some (.bool false) := addr_c0 hXb
      have f0 : w1.frozen? ⟨w.heap.size + 1, 0, none⟩ = false := hXb.frozen 0
      have hXc : Blk (w1.setCell ⟨w.heap.size + 1, 0, none⟩ (.bool true)) (w.heap.size + 1) 27 (addrCs (true, addr0.2)).toArray := Blk.set_ hXb 0 (.bool true)
      have hXd := Blk.far hXa (p := ⟨w.heap.size + 1, 0, none⟩) (by simp) (.bool true)
      have hgs := grownSet w1 ⟨w.heap.size + 1, 0, none⟩ (.bool true)
      have hR1' := RdW.off hR1 hgs hXb (by decide) (by decide)
      have hg1' := grownNew (grownTrans (grownOf HB.out) hg1) (Nat.le_succ _) hgs
      have HXc := Lib.hid hXc
      have HXd := Lib.hid hXd
      have HR1 := Lib.hid hR1'
      have Hg1 := Lib.hid hg1'
      clear hXc hXd hR1 hR1' hg1 hg1' hXa hXb hgs
      go_wp2_with fail
      refine (Htk.out _ HR1.out).mono ?_
      rintro e w2 ⟨A, c, rfl, hown, hR2, hg2⟩
      simp only at hown hR2
      have hY4 := Blk.grown HXc.out hg2 (fun e => by injection e with e; omega)
      have hY2 := Blk.grown HXd.out hg2 (fun e => by injection e with e; omega)
      have hgw2 : w.grownBy w2 (some g) := grownTrans Hg1.out hg2
      have Hth : Hid (w2.there w.heap.size 0 17) := hY2.there (by rw [addr0_lit]; decide)
      have HY2 := Lib.hid hY2
      have HR2 := Lib.hid hR2
      have Hg2 := Lib.hid hgw2
      clear hown hR2 hg2 hY4 hY2 hgw2 HXc HXd HR1 Hg1
      go_wp2_with (first
        | ((with_reducible refine gateS 27 ?_); refine wpList_store_mid rfl 27 (.tmp 2) (.tmp 27) rfl w.heap.size 0 (addrCs addr0).toArray rfl rfl Hth.out addr_size (addr_one addr0) ?_))
      have hX9 := Blk.setCells (addrCs addr0) 0 HY2.out
      rw [setL_whole rfl] at hX9
      refine bodyPost_ret (v := .tuple #[.agg (addrCs addr0).toArray, .bool false]) (results_row_tmp (P := Try.prog) (p := 2) (u := 3) rfl _ _ w.heap.size _ _ _ _ rfl hX9 addr_under rfl addr_size) rfl ⟨?_, ?_, ?_⟩
      · rw [HR.out, HS2.out]; rfl
      · rw [HS1.out]
        exact RdW.off HR2.out (grownCells _ _ 0 _ _ (grownOf (Below.refl _ _))) HY2.out (by decide) (by decide)
      · exact grownNew Hg2.out (Nat.le_refl _) (grownCells _ _ 0 _ _ (grownOf (Below.refl _ _)))
  · by_cases h4 : v = 4
    · have h6I : ¬ (v : Int) = 6 := by omega
      have h4I : (v : Int) = 4 := by omega
      have hok2 := ok_take hok1 4
      have Htk := Lib.hid (fun w' h => rdTake_any base g l s1 w' 4 h hok1 hl (by omega))
      rcases ht : takeS l s1 4 with ⟨s2, b⟩
      rw [ht] at Htk hok2
      have hS1 : (takeAddrS l s).1 = s2 := by rw [HT.out, if_neg h6, if_pos h4, ht]
      have HS1 := Lib.hid hS1
      by_cases hb : b.length = 4
      · have hS2 : (takeAddrS l s).2 = some (false, pad b 16) := by rw [HT.out, if_neg h6, if_pos h4, ht]; simp [hb]
        have hR : takeR l s = (false, pad b 16) := by unfold takeR; rw [hS2]; rfl
        have hbI : (b.length : Int) = 4 := by omega
        have hao : addrOk (false, pad b 16) := pad_len (by omega)
        have HR := Lib.hid hR
        have HS2 := Lib.hid hS2
        have Hb := Lib.hid hb
        have Hasz := Lib.hid (addr_sz hao)
        clear hR hS2 hS1 ht hb
        go_enter Try.func25, Try.ntmps25
        go_upto_region 2 with fail
        rw [← HW.out]
        go_wp2_with fail
        refine Hnum.out.mono ?_
        rintro e w1 ⟨rfl, hR1, hg1⟩
        have hXa := Blk.grown HX2.out hg1 (fun e => by injection e with e; omega)
        have hXb := Blk.grown HX4.out hg1 (fun e => by injection e with e; omega)
        have hXc := hXb
        have hXd := hXa
        have hR1' := hR1
        have hg1' : w.grownBy w1 (some g) := grownTrans (grownOf HB.out) hg1
        have HXc := Lib.hid hXc
        have HXd := Lib.hid hXd
        have HR1 := Lib.hid hR1'
        have Hg1 := Lib.hid hg1'
        clear hXc hXd hR1 hR1' hg1 hg1' hXa hXb
        go_wp2_with fail
        refine (Htk.out _ HR1.out).mono ?_
        rintro e w2 ⟨A, c, rfl, hown, hR2, hg2⟩
        simp only at hown hR2
        have hY4 := Blk.grown HXc.out hg2 (fun e => by injection e with e; omega)
        have hY2 := Blk.grown HXd.out hg2 (fun e => by injection e with e; omega)
        have hgw2 : w.grownBy w2 (some g) := grownTrans Hg1.out hg2
        obtain ⟨ad, rfl, hadb, hcell⟩ := (BS.of_own hown).1 (by rw [Hb.out]; decide)
        have Hsrc : Hid (∀ j u, (bcells b)[j]? = some u → w2.cell? (ad.add j) = some u) := fun j u hj => by
          rw [bcells, List.getElem?_map] at hj
          rcases hm : b[j]? with _ | y
          · rw [hm] at hj; cases hj
          · rw [hm] at hj
            simp only [Option.map_some, Option.some.injEq] at hj
            rw [← hj]
            exact hcell j y hm
        have hZ4 : Blk (w2.setRow (w.heap.size + 1) (addrCs (false, pad b 16)).toArray) (w.heap.size + 1) 27 (addrCs (false, pad b 16)).toArray := Blk.row hY4 _
        have hZ2 : Blk (w2.setRow (w.heap.size + 1) (addrCs (false, pad b 16)).toArray) w.heap.size 27 (addrCs addr0).toArray := Blk.rowFar hY2 (by omega) _
        have hgr := grownRow w2 (w.heap.size + 1) (addrCs (false, pad b 16)).toArray
        have hR3 := RdW.off hR2 hgr hY4 (by decide) (by decide)
        have hg3 := grownNew hgw2 (Nat.le_succ _) hgr
        have Hth : Hid ((w2.setRow (w.heap.size + 1) (addrCs (false, pad b 16)).toArray).there w.heap.size 0 (addrCs (false, pad b 16)).toArray.size) := hZ2.there (by rw [addr0_lit, List.size_toArray, addrCs_length hao]; decide)
        have HY4 := Lib.hid hY4
        have HZ2 := Lib.hid hZ2
        have HRg := Lib.hid (blk_range hZ4)
        have HR3 := Lib.hid hR3
        have Hg3 := Lib.hid hg3
        clear hown hR2 hg2 hY4 hY2 hgw2 hcell hZ4 hZ2 hgr hR3 hg3 HXc HXd HR1 Hg1
        go_wp2_with (first
          | ((with_reducible refine gateB .copy ?_); refine wpList_copy_blk rfl _ _ 40 40 rfl 5 Try.underlying40 u8_isize (w.heap.size + 1) 1 16 16 ad b.length c rfl rfl (addrCs addr0) _ HY4.out (bcells b) (by rw [bcells_length, Hb.out]; rfl) Hsrc.out (by rw [bcells_length, Hb.out]; decide) (bcells_one b) (addrCs (false, pad b 16)) (splice4 Hb.out) ?_)
          | ((with_reducible refine gateL 27 ?_); refine wpList_load_g (by rfl) 27 (.tmp 4) rfl (w.heap.size + 1) 0 rfl (addrCs (false, pad b 16)) _ HRg.out Try.underlying27 rfl Hasz.out ?_)
          | ((with_reducible refine gateS 27 ?_); refine wpList_store_mid rfl 27 (.tmp 2) (.tmp 26) rfl w.heap.size 0 (addrCs (false, pad b 16)).toArray rfl rfl Hth.out Hasz.out (addr_one _) ?_))
        have hX9 := Blk.setCells (addrCs (false, pad b 16)) 0 HZ2.out
        rw [setL_whole (by rw [addrCs_length hao]; rfl)] at hX9
        refine bodyPost_ret (v := .tuple #[.agg (addrCs (false, pad b 16)).toArray, .bool true]) (results_row_tmp (P := Try.prog) (p := 2) (u := 3) rfl _ _ w.heap.size _ _ _ _ rfl hX9 addr_under rfl Hasz.out) rfl ⟨?_, ?_, ?_⟩
        · rw [HR.out, HS2.out]; rfl
        · rw [HS1.out]
          exact RdW.off HR3.out (grownCells _ _ 0 _ _ (grownOf (Below.refl _ _))) HZ2.out (by decide) (by decide)
        · exact grownNew Hg3.out (Nat.le_refl _) (grownCells _ _ 0 _ _ (grownOf (Below.refl _ _)))
      · have hS2 : (takeAddrS l s).2 = none := by rw [HT.out, if_neg h6, if_pos h4, ht]; simp [hb]
        have hR : takeR l s = addr0 := by unfold takeR; rw [hS2]; rfl
        have hbI : ¬ (b.length : Int) = 4 := by omega
        have HR := Lib.hid hR
        have HS2 := Lib.hid hS2
        clear hR hS2 hS1 ht
        go_enter Try.func25, Try.ntmps25
        go_upto_region 2 with fail
        rw [← HW.out]
        go_wp2_with fail
        refine Hnum.out.mono ?_
        rintro e w1 ⟨rfl, hR1, hg1⟩
        have hXa := Blk.grown HX2.out hg1 (fun e => by injection e with e; omega)
        have hXb := Blk.grown HX4.out hg1 (fun e => by injection e with e; omega)
        have hXc := hXb
        have hXd := hXa
        have hR1' := hR1
        have hg1' : w.grownBy w1 (some g) := grownTrans (grownOf HB.out) hg1
        have HXc := Lib.hid hXc
        have HXd := Lib.hid hXd
        have HR1 := Lib.hid hR1'
        have Hg1 := Lib.hid hg1'
        clear hXc hXd hR1 hR1' hg1 hg1' hXa hXb
        go_wp2_with fail
        refine (Htk.out _ HR1.out).mono ?_
        rintro e w2 ⟨A, c, rfl, hown, hR2, hg2⟩
        simp only at hown hR2
        have hY4 := Blk.grown HXc.out hg2 (fun e => by injection e with e; omega)
        have hY2 := Blk.grown HXd.out hg2 (fun e => by injection e with e; omega)
        have hgw2 : w.grownBy w2 (some g) := grownTrans Hg1.out hg2
        have Hth : Hid (w2.there w.heap.size 0 17) := hY2.there (by rw [addr0_lit]; decide)
        have HY2 := Lib.hid hY2
        have HR2 := Lib.hid hR2
        have Hg2 := Lib.hid hgw2
        clear hown hR2 hg2 hY4 hY2 hgw2 HXc HXd HR1 Hg1
        go_wp2_with (first
          | ((with_reducible refine gateS 27 ?_); refine wpList_store_mid rfl 27 (.tmp 2) (.tmp 27) rfl w.heap.size 0 (addrCs addr0).toArray rfl rfl Hth.out addr_size (addr_one addr0) ?_))
        have hX9 := Blk.setCells (addrCs addr0) 0 HY2.out
        rw [setL_whole rfl] at hX9
        refine bodyPost_ret (v := .tuple #[.agg (addrCs addr0).toArray, .bool false]) (results_row_tmp (P := Try.prog) (p := 2) (u := 3) rfl _ _ w.heap.size _ _ _ _ rfl hX9 addr_under rfl addr_size) rfl ⟨?_, ?_, ?_⟩
        · rw [HR.out, HS2.out]; rfl
        · rw [HS1.out]
          exact RdW.off HR2.out (grownCells _ _ 0 _ _ (grownOf (Below.refl _ _))) HY2.out (by decide) (by decide)
        · exact grownNew Hg2.out (Nat.le_refl _) (grownCells _ _ 0 _ _ (grownOf (Below.refl _ _)))
    · have h6I : ¬ (v : Int) = 6 := by omega
      have h4I : ¬ (v : Int) = 4 := by omega
      have hR : takeR l s = addr0 := by unfold takeR; rw [HT.out, if_neg h6, if_neg h4]; rfl
      have hS : (takeAddrS l s) = (s1, none) := by rw [HT.out, if_neg h6, if_neg h4]
      have HR := Lib.hid hR
      have HS := Lib.hid hS
      clear hR hS
      go_enter Try.func25, Try.ntmps25
      go_upto_region 2 with fail
      rw [← HW.out]
      go_wp2_with fail
      refine Hnum.out.mono ?_
      rintro e w1 ⟨rfl, hR1, hg1⟩
      have HXa := Lib.hid (Blk.grown HX2.out hg1 (fun e => by injection e with e; omega))
      have Hth : Hid (w1.there w.heap.size 0 17) := Blk.there (o := 0) (n := 17) HXa.out (by rw [addr0_lit]; decide)
      have HR1 := Lib.hid hR1
      have Hg1 := Lib.hid hg1
      clear hR1 hg1
      go_wp2_with (first
        | ((with_reducible refine gateS 27 ?_); refine wpList_store_mid rfl 27 (.tmp 2) (.tmp 9) rfl w.heap.size 0 (addrCs addr0).toArray rfl rfl Hth.out addr_size (addr_one addr0) ?_))
      have hX9 := Blk.setCells (addrCs addr0) 0 HXa.out
      rw [setL_whole rfl] at hX9
      refine bodyPost_ret (v := .tuple #[.agg (addrCs addr0).toArray, .bool false]) (results_row_tmp (P := Try.prog) (p := 2) (u := 3) rfl _ _ w.heap.size _ _ _ _ rfl hX9 addr_under rfl addr_size) rfl ⟨?_, ?_, ?_⟩
      · rw [HR.out, HS.out]; rfl
      · rw [HS.out]
        exact RdW.off HR1.out (grownCells _ _ 0 _ _ (grownOf (Below.refl _ _))) HXa.out (by decide) (by decide)
      · exact grownNew (grownTrans (grownOf HB.out) (by
          have := Hg1.out
          exact this)) (Nat.le_refl _) (grownCells _ _ 0 _ _ (grownOf (Below.refl _ _)))
end Go.Proofs.Ytmkeljcjhcaigaa
