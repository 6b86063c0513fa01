/- Walks, printed by program (gen.py): each function computes its plain function. -/
import Derived.Test.YtapnjifcfljmmaaW3
set_option linter.unusedVariables false
set_option linter.unusedSimpArgs false
set_option maxRecDepth 100000
namespace Go.Proofs.Ytapnjifcfljmmaa
open Go.L Go.Sh
theorem GTape_Order_ok {F : Nat} {p0 : GTape} {p1 : Int} {r : List Int × GTape} (h : GTape_Order F p0 p1 = some r) : LCall Try.prog 48 [.ptr 7 0, .int .i64 p1] (Mem.of [(7, .box [.lst 1 (List.map (LV.int .i64) p0.L), .int .i64 p0.At])]) (.lst 1 (List.map (LV.int .i64) r.1)) (Mem.of [(7, .box [.lst 1 (List.map (LV.int .i64) r.2.L), .int .i64 r.2.At])]) := by
  unfold GTape_Order at h
  refine bodyT Try.func48 rfl (by rw [Try.ntmps48]; exact Nat.le_of_ble_eq_true rfl) ?_
  refine LH.wk (Wk.to (el := [(0, .ptr 7 0), (1, .int .i64 p1)]) (ml := [(7, .box [.lst 1 (List.map (LV.int .i64) p0.L), .int .i64 p0.At])]) (eC rfl (eC rfl eN)) (mC rfl mN) rfl (prK rfl)) ?_
  refine LH.seqT [(0, .ptr 7 0), (1, .int .i64 p1)] [(7, .box [.lst 1 (List.map (LV.int .i64) p0.L), .int .i64 p0.At])] rfl ?_ ?_
  · refine sN (oA (v := .nil) rfl ?_)
    exact s0 (Wk.to (eC rfl (eC rfl eN)) (mC rfl mN) rfl (prK rfl))
  refine LH.seqT [(0, .ptr 7 0), (1, .int .i64 p1), (5, .nil)] [(7, .box [.lst 1 (List.map (LV.int .i64) p0.L), .int .i64 p0.At])] rfl ?_ ?_
  · refine sN (oA (v := .nil) rfl ?_)
    exact s0 (Wk.to (eC rfl (eC rfl (eC rfl eN))) (mC rfl mN) rfl (prK rfl))
  refine LH.seq ?_
  refine LH.seqT [(0, .ptr 7 0), (1, .int .i64 p1), (5, .nil), (6, .int .i64 0)] [(7, .box [.lst 1 (List.map (LV.int .i64) p0.L), .int .i64 p0.At])] rfl ?_ ?_
  · refine sN (oA (v := (.int _ _)) rfl ?_)
    exact s0 (Wk.to (eC rfl (eC rfl (eC rfl (eC rfl eN)))) (mC rfl mN) rfl (prK rfl))
  refine LH.block ?_
  refine LH.wk (Wk.to (el := [(0, .ptr 7 0), (1, .int .i64 p1), (5, .lst 1 (List.map (LV.int .i64) ([] : List Int))), (6, .int .i64 0)]) (ml := [(7, .box [.lst 1 (List.map (LV.int .i64) p0.L), .int .i64 p0.At])]) (eC rfl (eC rfl (eL rfl (eC rfl eN)))) (mC rfl mN) rfl (prK rfl)) ?_
  refine LH.loop (fun n e m => ∃ (l1 : List Int) (n2 : Int) (l3 : List Int) (n4 : Int), GTape_Order_L1 p1 n l1 n2 l3 n4 = some r ∧ e = Env.of [(0, .ptr 7 0), (1, .int .i64 p1), (5, .lst 1 (List.map (LV.int .i64) l1)), (6, .int .i64 n2)] ∧ m = Mem.of [(7, .box [.lst 1 (List.map (LV.int .i64) l3), .int .i64 n4])]) F ⟨([] : List Int), 0, p0.L, p0.At, h, rfl, rfl⟩ ?_
  clear h
  rintro n e m ⟨l1, n2, l3, n4, h, rfl, rfl⟩
  rcases n with _ | n
  · cases (show Option.none = some _ from h)
  obtain ⟨rec1, hrec1⟩ : ∃ f, f = GTape_Order_L1 p1 n := ⟨_, rfl⟩
  replace h : GTape_Order_L1_B p1 rec1 l1 n2 l3 n4 = some r := hrec1 ▸ h
  unfold GTape_Order_L1_B at h
  refine LH.seq ?_
  refine LH.seqT [(0, .ptr 7 0), (1, .int .i64 p1), (5, .lst 1 (List.map (LV.int .i64) l1)), (6, .int .i64 n2), (11, .bool (decide (n2 < p1)))] [(7, .box [.lst 1 (List.map (LV.int .i64) l3), .int .i64 n4])] rfl ?_ ?_
  · refine sN (oM (v := (.int _ _)) rfl ?_)
    refine sN (oM (v := (.int _ _)) rfl ?_)
    refine sN (oLt rfl rfl ?_)
    exact s0 (Wk.to (eC rfl (eC rfl (eC rfl (eC rfl (eC rfl eN))))) (mC rfl mN) rfl (prK rfl))
  refine LH.cond (t := (decide (n2 < p1))) rfl (fun hc5 => ?_) (fun hc5 => ?_)
  · replace h := iteT h hc5
    refine LH.skip ?_
    refine thenN ?_
    refine LH.wk (Wk.to (el := [(0, .ptr 7 0), (1, .int .i64 p1), (5, .lst 1 (List.map (LV.int .i64) l1)), (6, .int .i64 n2)]) (ml := [(7, .box [.lst 1 (List.map (LV.int .i64) l3), .int .i64 n4])]) (eC rfl (eC rfl (eC rfl (eC rfl eN)))) (mC rfl mN) rfl (prK rfl)) ?_
    refine LH.seq ?_
    refine LH.block ?_
    obtain ⟨r6, hr6, h⟩ := bindS h
    refine LH.seqT [(0, .ptr 7 0), (1, .int .i64 p1), (5, .lst 1 (List.map (LV.int .i64) l1)), (6, .int .i64 n2), (7, .int .i64 r6.1)] [(7, .box [.lst 1 (List.map (LV.int .i64) r6.2.L), .int .i64 r6.2.At])] rfl ?_ ?_
    · refine sN (oM (v := (.ptr _ _)) rfl ?_)
      refine sN (oM (v := (.int _ _)) rfl ?_)
      refine sN (oAdd rfl rfl ?_)
      refine sN (oCM (args := [.ptr 7 0, .int .i64 (i64 (n2 + 1))]) (ml := [(7, .box [.lst 1 (List.map (LV.int .i64) l3), .int .i64 n4])]) (ml' := [(7, .box [.lst 1 (List.map (LV.int .i64) r6.2.L), .int .i64 r6.2.At])]) rfl isF15 rfl (sbR (sbR sbN)) (GTape_Next_ok hr6) (mC rfl mN) (newI rfl newN) rfl ?_)
      refine sN (oA (v := (.int _ _)) rfl ?_)
      exact s0 (Wk.to (eC rfl (eC rfl (eC rfl (eC rfl (eC rfl eN))))) (mC rfl mN) rfl (prK rfl))
    refine LH.seqT [(0, .ptr 7 0), (1, .int .i64 p1), (5, .lst 1 (List.map (LV.int .i64) l1)), (6, .int .i64 n2), (7, .int .i64 r6.1), (8, .nil)] [(7, .box [.lst 1 (List.map (LV.int .i64) r6.2.L), .int .i64 r6.2.At])] rfl ?_ ?_
    · refine sN (oA (v := .nil) rfl ?_)
      exact s0 (Wk.to (eC rfl (eC rfl (eC rfl (eC rfl (eC rfl (eC rfl eN)))))) (mC rfl mN) rfl (prK rfl))
    obtain ⟨v7, hv7, h⟩ := bindS h
    obtain ⟨v8, hv8, h⟩ := bindS h
    refine LH.seqT [(0, .ptr 7 0), (1, .int .i64 p1), (5, .lst 1 (List.map (LV.int .i64) l1)), (6, .int .i64 n2), (7, .int .i64 r6.1), (8, .arr 122 (List.length v8))] [(7, .box [.lst 1 (List.map (LV.int .i64) r6.2.L), .int .i64 r6.2.At]), (122, .arr 3 1 (List.map (LV.int .i64) v8))] rfl ?_ ?_
    · refine sN (oM (v := .nil) rfl ?_)
      refine sN (oM (v := (.lst _ _)) rfl ?_)
      refine sN (oM (v := (.int _ _)) rfl ?_)
      refine sN (oSl (f := (LV.int .i64)) te22 tk3 ts3 rfl rfl rfl hv7 ?_)
      refine sN (oApN (f := (LV.int .i64)) (id := 122) rfl te22 tr3 ts3 rfl rfl hv8 rfl ?_)
      refine sN (oA (v := (.arr _ _)) rfl ?_)
      exact s0 (Wk.to (eC rfl (eC rfl (eC rfl (eC rfl (eC rfl (eC rfl eN)))))) (mC rfl (mC rfl mN)) rfl (prK rfl))
    obtain ⟨v9, hv9, h⟩ := bindS h
    refine LH.seqT [(0, .ptr 7 0), (1, .int .i64 p1), (5, .lst 1 (List.map (LV.int .i64) l1)), (6, .int .i64 n2), (7, .int .i64 r6.1), (8, .arr 122 (List.length v9))] [(7, .box [.lst 1 (List.map (LV.int .i64) r6.2.L), .int .i64 r6.2.At]), (122, .arr 3 1 (List.map (LV.int .i64) v9))] rfl ?_ ?_
    · refine sN (oM (v := (.arr _ _)) rfl ?_)
      refine sN (oM (v := (.int _ _)) rfl ?_)
      refine sN (oBS (f := (LV.int .i64)) (ys := [n2]) te22 tr3 ts3 rfl rfl rfl okI ?_)
      refine sN (oAp (f := (LV.int .i64)) te22 tr3 ts3 rfl rfl (prN rfl) rfl hv9 ?_)
      refine sN (oA (v := (.arr _ _)) rfl ?_)
      exact s0 (Wk.to (eC rfl (eC rfl (eC rfl (eC rfl (eC rfl (eC rfl eN)))))) (mC rfl (mC rfl mN)) rfl (prK rfl))
    obtain ⟨v10, hv10, h⟩ := bindS h
    obtain ⟨v11, hv11, h⟩ := bindS h
    refine LH.loneT [(0, .ptr 7 0), (1, .int .i64 p1), (5, .lst 1 (List.map (LV.int .i64) v11)), (6, .int .i64 n2)] [(7, .box [.lst 1 (List.map (LV.int .i64) r6.2.L), .int .i64 r6.2.At])] rfl ?_ ?_
    · refine sN (oM (v := (.arr _ _)) rfl ?_)
      refine sN (oM (v := (.lst _ _)) rfl ?_)
      refine sN (oM (v := (.int _ _)) rfl ?_)
      refine sN (oSl (f := (LV.int .i64)) te22 tk3 ts3 rfl rfl rfl hv10 ?_)
      refine sN (oAp (f := (LV.int .i64)) te22 tr3 ts3 rfl rfl (prN rfl) rfl hv11 ?_)
      refine sN (oA (v := (.arr _ _)) rfl ?_)
      exact s0 ((Wk.trans (Wk.to (el := [(0, .ptr 7 0), (1, .int .i64 p1), (5, .arr 122 (List.length v11)), (6, .int .i64 n2)]) (ml := [(7, .box [.lst 1 (List.map (LV.int .i64) r6.2.L), .int .i64 r6.2.At]), (122, .arr 3 1 (List.map (LV.int .i64) v11))]) (eC rfl (eC rfl (eC rfl (eC rfl eN)))) (mC rfl (mC rfl mN)) rfl (prK rfl)) (Wk.trans (Wk.frzL (f := (LV.int .i64)) (el' := [(0, .ptr 7 0), (1, .int .i64 p1), (5, .lst 1 (List.map (LV.int .i64) v11)), (6, .int .i64 n2)]) 122 3 1 v11 rfl rfl (prN rfl) (fK rfl (fK rfl (fZ (fK rfl fN))))) (Wk.to (eC rfl (eC rfl (eC rfl (eC rfl eN)))) (mC rfl mN) rfl (prK rfl)))))
    refine blockN ?_
    refine thenN ?_
    refine LH.loneT [(0, .ptr 7 0), (1, .int .i64 p1), (5, .lst 1 (List.map (LV.int .i64) v11)), (6, .int .i64 (i64 (n2 + 1)))] [(7, .box [.lst 1 (List.map (LV.int .i64) r6.2.L), .int .i64 r6.2.At])] rfl ?_ ?_
    · refine sN (oM (v := (.int _ _)) rfl ?_)
      refine sN (oAdd rfl rfl ?_)
      refine sN (oA (v := (.int _ _)) rfl ?_)
      exact s0 (Wk.to (eC rfl (eC rfl (eC rfl (eC rfl eN)))) (mC rfl mN) rfl (prK rfl))
    exact roundN (e' := Env.of [(0, .ptr 7 0), (1, .int .i64 p1), (5, .lst 1 (List.map (LV.int .i64) v11)), (6, .int .i64 (i64 (n2 + 1)))]) (m' := Mem.of [(7, .box [.lst 1 (List.map (LV.int .i64) r6.2.L), .int .i64 r6.2.At])]) (Wk.to (eC rfl (eC rfl (eC rfl (eC rfl eN)))) (mC rfl mN) rfl (prK rfl)) ⟨v11, (i64 (n2 + 1)), r6.2.L, r6.2.At, hrec1 ▸ h, rfl, rfl⟩
  replace h := iteF h hc5
  refine LH.exit ?_
  refine thenX ?_
  refine roundX ?_
  refine blockH ?_
  refine thenN ?_
  refine LH.wk (Wk.to (el := [(5, .lst 1 (List.map (LV.int .i64) l1))]) (ml := [(7, .box [.lst 1 (List.map (LV.int .i64) l3), .int .i64 n4])]) (eC rfl eN) (mC rfl mN) rfl (prK rfl)) ?_
  refine LH.seqT [(4, .lst 1 (List.map (LV.int .i64) l1))] [(7, .box [.lst 1 (List.map (LV.int .i64) l3), .int .i64 n4])] rfl ?_ ?_
  · refine sN (oM (v := (.lst _ _)) rfl ?_)
    refine sN (oA (v := (.lst _ _)) rfl ?_)
    exact s0 (Wk.to (eC rfl eN) (mC rfl mN) rfl (prK rfl))
  refine LH.ret ?_
  obtain rfl := Option.some.inj h
  exact retE (congrArg Array.toList Try.results48) (lrT rfl (lr0 ⟨memN (mC rfl mN), rfl, prK rfl, Sub.rfl⟩))

theorem GTape_Mixed_ok {F : Nat} {p0 : GTape} {p1 : Int} {r : List Int × GTape} (h : GTape_Mixed F p0 p1 = some r) : LCall Try.prog 27 [.ptr 7 0, .int .i64 p1] (Mem.of [(7, .box [.lst 1 (List.map (LV.int .i64) p0.L), .int .i64 p0.At])]) (.lst 1 (List.map (LV.int .i64) r.1)) (Mem.of [(7, .box [.lst 1 (List.map (LV.int .i64) r.2.L), .int .i64 r.2.At])]) := by
  unfold GTape_Mixed at h
  refine bodyT Try.func27 rfl (by rw [Try.ntmps27]; exact Nat.le_of_ble_eq_true rfl) ?_
  refine LH.wk (Wk.to (el := [(0, .ptr 7 0), (1, .int .i64 p1)]) (ml := [(7, .box [.lst 1 (List.map (LV.int .i64) p0.L), .int .i64 p0.At])]) (eC rfl (eC rfl eN)) (mC rfl mN) rfl (prK rfl)) ?_
  refine LH.seqT [(0, .ptr 7 0), (1, .int .i64 p1)] [(7, .box [.lst 1 (List.map (LV.int .i64) p0.L), .int .i64 p0.At])] rfl ?_ ?_
  · refine sN (oA (v := .nil) rfl ?_)
    exact s0 (Wk.to (eC rfl (eC rfl eN)) (mC rfl mN) rfl (prK rfl))
  obtain ⟨r1, hr1, h⟩ := bindS h
  refine LH.seqT [(0, .ptr 7 0), (1, .int .i64 p1), (5, .lst 1 (List.map (LV.int .i64) r1.1))] [(7, .box [.lst 1 (List.map (LV.int .i64) r1.2.L), .int .i64 r1.2.At])] rfl ?_ ?_
  · refine sN (oM (v := (.ptr _ _)) rfl ?_)
    refine sN (oM (v := (.int _ _)) rfl ?_)
    refine sN (oCM (args := [.ptr 7 0, .int .i64 p1]) (ml := [(7, .box [.lst 1 (List.map (LV.int .i64) p0.L), .int .i64 p0.At])]) (ml' := [(7, .box [.lst 1 (List.map (LV.int .i64) r1.2.L), .int .i64 r1.2.At])]) rfl isF48 rfl (sbR (sbR sbN)) (GTape_Order_ok hr1) (mC rfl mN) (newI rfl newN) rfl ?_)
    refine sN (oA (v := (.lst _ _)) rfl ?_)
    exact s0 (Wk.to (eC rfl (eC rfl (eC rfl eN))) (mC rfl mN) rfl (prK rfl))
  refine LH.seq ?_
  obtain ⟨r2, hr2, h⟩ := bindS h
  refine LH.seqT [(0, .ptr 7 0), (1, .int .i64 p1), (5, .lst 1 (List.map (LV.int .i64) r1.1)), (6, .int .i64 r2.1)] [(7, .box [.lst 1 (List.map (LV.int .i64) r2.2.L), .int .i64 r2.2.At])] rfl ?_ ?_
  · refine sN (oM (v := (.ptr _ _)) rfl ?_)
    refine sN (oCM (args := [.ptr 7 0, .int .i64 4]) (ml := [(7, .box [.lst 1 (List.map (LV.int .i64) r1.2.L), .int .i64 r1.2.At])]) (ml' := [(7, .box [.lst 1 (List.map (LV.int .i64) r2.2.L), .int .i64 r2.2.At])]) rfl isF15 rfl (sbR (sbR sbN)) (GTape_Next_ok hr2) (mC rfl mN) (newI rfl newN) rfl ?_)
    refine sN (oA (v := (.int _ _)) rfl ?_)
    exact s0 (Wk.to (eC rfl (eC rfl (eC rfl (eC rfl eN)))) (mC rfl mN) rfl (prK rfl))
  refine LH.block ?_
  refine LH.loop (fun n e m => ∃ (l3 : List Int) (n4 : Int) (l5 : List Int) (n6 : Int), GTape_Mixed_L1 p1 n l3 n4 l5 n6 = some r ∧ e = Env.of [(0, .ptr 7 0), (1, .int .i64 p1), (5, .lst 1 (List.map (LV.int .i64) l3)), (6, .int .i64 n4)] ∧ m = Mem.of [(7, .box [.lst 1 (List.map (LV.int .i64) l5), .int .i64 n6])]) F ⟨r1.1, r2.1, r2.2.L, r2.2.At, h, rfl, rfl⟩ ?_
  clear h
  rintro n e m ⟨l3, n4, l5, n6, h, rfl, rfl⟩
  rcases n with _ | n
  · cases (show Option.none = some _ from h)
  obtain ⟨rec1, hrec1⟩ : ∃ f, f = GTape_Mixed_L1 p1 n := ⟨_, rfl⟩
  replace h : GTape_Mixed_L1_B p1 rec1 l3 n4 l5 n6 = some r := hrec1 ▸ h
  unfold GTape_Mixed_L1_B at h
  refine LH.seq ?_
  refine LH.seqT [(0, .ptr 7 0), (1, .int .i64 p1), (5, .lst 1 (List.map (LV.int .i64) l3)), (6, .int .i64 n4), (20, .bool ((decide (n4 > 0)) && (decide (p1 > 0))))] [(7, .box [.lst 1 (List.map (LV.int .i64) l5), .int .i64 n6])] rfl ?_ ?_
  · refine sN (oM (v := (.int _ _)) rfl ?_)
    refine sN (oGt rfl rfl ?_)
    refine sN (oM (v := (.bool _)) rfl ?_)
    by_cases hb8 : (decide (n4 > 0)) = true
    · refine sT rfl (congrArg LV.bool hb8) (oM (v := (.int _ _)) rfl ?_)
      refine sT rfl (congrArg LV.bool hb8) (oGt rfl rfl ?_)
      refine sN (oPkT (congrArg LV.bool hb8) (v := (.bool _)) rfl ?_)
      exact s0 (Wk.to (eC rfl (eC rfl (eC rfl (eC rfl (eC (congrArg LV.bool (andT hb8)) eN))))) (mC rfl mN) rfl (prK rfl))
    · replace hb8 := bF hb8
      refine sF rfl rfl hb8 ?_
      refine sF rfl rfl hb8 ?_
      refine sN (oPkF (congrArg LV.bool hb8) (v := (.bool _)) rfl ?_)
      exact s0 (Wk.to (eC rfl (eC rfl (eC rfl (eC rfl (eC (congrArg LV.bool (andF hb8)) eN))))) (mC rfl mN) rfl (prK rfl))
  refine LH.cond (t := ((decide (n4 > 0)) && (decide (p1 > 0)))) rfl (fun hc9 => ?_) (fun hc9 => ?_)
  · replace h := iteT h hc9
    refine LH.skip ?_
    refine thenN ?_
    refine LH.wk (Wk.to (el := [(0, .ptr 7 0), (1, .int .i64 p1), (5, .lst 1 (List.map (LV.int .i64) l3)), (6, .int .i64 n4)]) (ml := [(7, .box [.lst 1 (List.map (LV.int .i64) l5), .int .i64 n6])]) (eC rfl (eC rfl (eC rfl (eC rfl eN)))) (mC rfl mN) rfl (prK rfl)) ?_
    refine LH.seq ?_
    refine LH.block ?_
    obtain ⟨r10, hr10, h⟩ := bindS h
    obtain ⟨r11, hr11, h⟩ := bindS h
    refine LH.seqT [(0, .ptr 7 0), (1, .int .i64 p1), (5, .lst 1 (List.map (LV.int .i64) l3)), (6, .int .i64 n4), (7, .int .i64 r10.1), (8, .int .i64 r11.1)] [(7, .box [.lst 1 (List.map (LV.int .i64) r11.2.L), .int .i64 r11.2.At])] rfl ?_ ?_
    · refine sN (oM (v := (.ptr _ _)) rfl ?_)
      refine sN (oM (v := (.lst _ _)) rfl ?_)
      refine sN (oLnL (f := (LV.int .i64)) te22 rfl ?_)
      refine sN (oAdd rfl rfl ?_)
      refine sN (oCM (args := [.ptr 7 0, .int .i64 (i64 ((l3.length : Int) + 1))]) (ml := [(7, .box [.lst 1 (List.map (LV.int .i64) l5), .int .i64 n6])]) (ml' := [(7, .box [.lst 1 (List.map (LV.int .i64) r10.2.L), .int .i64 r10.2.At])]) rfl isF15 rfl (sbR (sbR sbN)) (GTape_Next_ok hr10) (mC rfl mN) (newI rfl newN) rfl ?_)
      refine sN (oM (v := (.ptr _ _)) rfl ?_)
      refine sN (oM (v := (.int _ _)) rfl ?_)
      refine sN (oCM (args := [.ptr 7 0, .int .i64 p1]) (ml := [(7, .box [.lst 1 (List.map (LV.int .i64) r10.2.L), .int .i64 r10.2.At])]) (ml' := [(7, .box [.lst 1 (List.map (LV.int .i64) r11.2.L), .int .i64 r11.2.At])]) rfl isF15 rfl (sbR (sbR sbN)) (GTape_Next_ok hr11) (mC rfl mN) (newI rfl newN) rfl ?_)
      refine sN (oA (v := (.int _ _)) rfl ?_)
      refine sN (oA (v := (.int _ _)) rfl ?_)
      exact s0 (Wk.to (eC rfl (eC rfl (eC rfl (eC rfl (eC rfl (eC rfl eN)))))) (mC rfl mN) rfl (prK rfl))
    refine LH.seqT [(0, .ptr 7 0), (1, .int .i64 p1), (5, .lst 1 (List.map (LV.int .i64) l3)), (6, .int .i64 n4), (7, .int .i64 r10.1), (8, .int .i64 r11.1), (9, .nil)] [(7, .box [.lst 1 (List.map (LV.int .i64) r11.2.L), .int .i64 r11.2.At])] rfl ?_ ?_
    · refine sN (oA (v := .nil) rfl ?_)
      exact s0 (Wk.to (eC rfl (eC rfl (eC rfl (eC rfl (eC rfl (eC rfl (eC rfl eN))))))) (mC rfl mN) rfl (prK rfl))
    obtain ⟨v12, hv12, h⟩ := bindS h
    obtain ⟨v13, hv13, h⟩ := bindS h
    refine LH.seqT [(0, .ptr 7 0), (1, .int .i64 p1), (5, .lst 1 (List.map (LV.int .i64) l3)), (6, .int .i64 n4), (7, .int .i64 r10.1), (8, .int .i64 r11.1), (9, .arr 135 (List.length v13))] [(7, .box [.lst 1 (List.map (LV.int .i64) r11.2.L), .int .i64 r11.2.At]), (135, .arr 3 1 (List.map (LV.int .i64) v13))] rfl ?_ ?_
    · refine sN (oM (v := .nil) rfl ?_)
      refine sN (oM (v := (.lst _ _)) rfl ?_)
      refine sN (oM (v := (.int _ _)) rfl ?_)
      refine sN (oSl (f := (LV.int .i64)) te22 tk3 ts3 rfl rfl rfl hv12 ?_)
      refine sN (oApN (f := (LV.int .i64)) (id := 135) rfl te22 tr3 ts3 rfl rfl hv13 rfl ?_)
      refine sN (oA (v := (.arr _ _)) rfl ?_)
      exact s0 (Wk.to (eC rfl (eC rfl (eC rfl (eC rfl (eC rfl (eC rfl (eC rfl eN))))))) (mC rfl (mC rfl mN)) rfl (prK rfl))
    obtain ⟨v14, hv14, h⟩ := bindS h
    refine LH.seqT [(0, .ptr 7 0), (1, .int .i64 p1), (5, .lst 1 (List.map (LV.int .i64) l3)), (6, .int .i64 n4), (7, .int .i64 r10.1), (9, .arr 135 (List.length v14))] [(7, .box [.lst 1 (List.map (LV.int .i64) r11.2.L), .int .i64 r11.2.At]), (135, .arr 3 1 (List.map (LV.int .i64) v14))] rfl ?_ ?_
    · refine sN (oM (v := (.arr _ _)) rfl ?_)
      refine sN (oM (v := (.int _ _)) rfl ?_)
      refine sN (oBS (f := (LV.int .i64)) (ys := [r11.1]) te22 tr3 ts3 rfl rfl rfl okI ?_)
      refine sN (oAp (f := (LV.int .i64)) te22 tr3 ts3 rfl rfl (prN rfl) rfl hv14 ?_)
      refine sN (oA (v := (.arr _ _)) rfl ?_)
      exact s0 (Wk.to (eC rfl (eC rfl (eC rfl (eC rfl (eC rfl (eC rfl eN)))))) (mC rfl (mC rfl mN)) rfl (prK rfl))
    obtain ⟨v15, hv15, h⟩ := bindS h
    obtain ⟨v16, hv16, h⟩ := bindS h
    refine LH.loneT [(0, .ptr 7 0), (1, .int .i64 p1), (5, .lst 1 (List.map (LV.int .i64) v16)), (6, .int .i64 n4)] [(7, .box [.lst 1 (List.map (LV.int .i64) r11.2.L), .int .i64 r11.2.At])] rfl ?_ ?_
    · refine sN (oM (v := (.arr _ _)) rfl ?_)
      refine sN (oM (v := (.lst _ _)) rfl ?_)
      refine sN (oM (v := (.int _ _)) rfl ?_)
      refine sN (oSl (f := (LV.int .i64)) te22 tk3 ts3 rfl rfl rfl hv15 ?_)
      refine sN (oAp (f := (LV.int .i64)) te22 tr3 ts3 rfl rfl (prN rfl) rfl hv16 ?_)
      refine sN (oA (v := (.arr _ _)) rfl ?_)
      exact s0 ((Wk.trans (Wk.to (el := [(0, .ptr 7 0), (1, .int .i64 p1), (5, .arr 135 (List.length v16)), (6, .int .i64 n4)]) (ml := [(7, .box [.lst 1 (List.map (LV.int .i64) r11.2.L), .int .i64 r11.2.At]), (135, .arr 3 1 (List.map (LV.int .i64) v16))]) (eC rfl (eC rfl (eC rfl (eC rfl eN)))) (mC rfl (mC rfl mN)) rfl (prK rfl)) (Wk.trans (Wk.frzL (f := (LV.int .i64)) (el' := [(0, .ptr 7 0), (1, .int .i64 p1), (5, .lst 1 (List.map (LV.int .i64) v16)), (6, .int .i64 n4)]) 135 3 1 v16 rfl rfl (prN rfl) (fK rfl (fK rfl (fZ (fK rfl fN))))) (Wk.to (eC rfl (eC rfl (eC rfl (eC rfl eN)))) (mC rfl mN) rfl (prK rfl)))))
    refine blockN ?_
    refine thenN ?_
    refine LH.loneT [(0, .ptr 7 0), (1, .int .i64 p1), (5, .lst 1 (List.map (LV.int .i64) v16)), (6, .int .i64 (i64 (n4 - 1)))] [(7, .box [.lst 1 (List.map (LV.int .i64) r11.2.L), .int .i64 r11.2.At])] rfl ?_ ?_
    · refine sN (oM (v := (.int _ _)) rfl ?_)
      refine sN (oSub rfl rfl ?_)
      refine sN (oA (v := (.int _ _)) rfl ?_)
      exact s0 (Wk.to (eC rfl (eC rfl (eC rfl (eC rfl eN)))) (mC rfl mN) rfl (prK rfl))
    exact roundN (e' := Env.of [(0, .ptr 7 0), (1, .int .i64 p1), (5, .lst 1 (List.map (LV.int .i64) v16)), (6, .int .i64 (i64 (n4 - 1)))]) (m' := Mem.of [(7, .box [.lst 1 (List.map (LV.int .i64) r11.2.L), .int .i64 r11.2.At])]) (Wk.to (eC rfl (eC rfl (eC rfl (eC rfl eN)))) (mC rfl mN) rfl (prK rfl)) ⟨v16, (i64 (n4 - 1)), r11.2.L, r11.2.At, hrec1 ▸ h, rfl, rfl⟩
  replace h := iteF h hc9
  refine LH.exit ?_
  refine thenX ?_
  refine roundX ?_
  refine blockH ?_
  refine thenN ?_
  refine LH.wk (Wk.to (el := [(5, .lst 1 (List.map (LV.int .i64) l3))]) (ml := [(7, .box [.lst 1 (List.map (LV.int .i64) l5), .int .i64 n6])]) (eC rfl eN) (mC rfl mN) rfl (prK rfl)) ?_
  refine LH.seqT [(4, .lst 1 (List.map (LV.int .i64) l3))] [(7, .box [.lst 1 (List.map (LV.int .i64) l5), .int .i64 n6])] rfl ?_ ?_
  · refine sN (oM (v := (.lst _ _)) rfl ?_)
    refine sN (oA (v := (.lst _ _)) rfl ?_)
    exact s0 (Wk.to (eC rfl eN) (mC rfl mN) rfl (prK rfl))
  refine LH.ret ?_
  obtain rfl := Option.some.inj h
  exact retE (congrArg Array.toList Try.results27) (lrT rfl (lr0 ⟨memN (mC rfl mN), rfl, prK rfl, Sub.rfl⟩))

theorem law16_AttendanceAnyOrder_ok {F : Nat} {p0 : List Int} {r : Bool} (h : law16_AttendanceAnyOrder F p0 = some r) : LCall Try.prog 7 [.lst 1 (List.map (LV.int .i64) p0)] (Mem.of []) (.bool r) (Mem.of []) := by
  unfold law16_AttendanceAnyOrder at h
  refine bodyT Try.func7 rfl (by rw [Try.ntmps7]; exact Nat.le_of_ble_eq_true rfl) ?_
  refine LH.wk (Wk.to (el := [(0, .lst 1 (List.map (LV.int .i64) p0))]) (ml := []) (eC rfl eN) mN rfl (prK rfl)) ?_
  refine LH.seqT [(0, .lst 1 (List.map (LV.int .i64) p0))] [] rfl ?_ ?_
  · refine sN (oA (v := (.bool _)) rfl ?_)
    exact s0 (Wk.to (eC rfl eN) mN rfl (prK rfl))
  obtain ⟨r1, hr1, h⟩ := bindS h
  refine LH.seqT [(3, .ptr 7 0)] [(7, .box [.lst 1 (List.map (LV.int .i64) r1.L), .int .i64 r1.At])] rfl ?_ ?_
  · refine sN (oM (v := (.lst _ _)) rfl ?_)
    refine sN (oCM (args := [.lst 1 (List.map (LV.int .i64) p0)]) (ml := []) (ml' := [(7, .box [.lst 1 (List.map (LV.int .i64) r1.L), .int .i64 r1.At])]) rfl isF11 rfl (sbR sbN) (make_New_ok hr1) mN (newF rfl newN) rfl ?_)
    refine sN (oA (v := (.ptr _ _)) rfl ?_)
    exact s0 (Wk.to (eC rfl eN) (mC rfl mN) rfl (prK rfl))
  obtain ⟨r2, hr2, h⟩ := bindS h
  refine LH.seqT [(3, .ptr 7 0), (4, .lst 4 (List.map GEnrolment.lv r2.1))] [(7, .box [.lst 1 (List.map (LV.int .i64) r2.2.L), .int .i64 r2.2.At])] rfl ?_ ?_
  · refine sN (oM (v := (.ptr _ _)) rfl ?_)
    refine sN (oCM (args := [.ptr 7 0, .int .i64 0]) (ml := [(7, .box [.lst 1 (List.map (LV.int .i64) r1.L), .int .i64 r1.At])]) (ml' := [(7, .box [.lst 1 (List.map (LV.int .i64) r2.2.L), .int .i64 r2.2.At])]) rfl isF18 rfl (sbR (sbR sbN)) (GTape_Enrolled_ok hr2) (mC rfl mN) (newI rfl newN) rfl ?_)
    refine sN (oA (v := (.lst _ _)) rfl ?_)
    exact s0 (Wk.to (eC rfl (eC rfl eN)) (mC rfl mN) rfl (prK rfl))
  obtain ⟨r3, hr3, h⟩ := bindS h
  refine LH.seqT [(3, .ptr 7 0), (4, .lst 4 (List.map GEnrolment.lv r2.1)), (5, .lst 6 (List.map GRegisterEvent.lv r3.1))] [(7, .box [.lst 1 (List.map (LV.int .i64) r3.2.L), .int .i64 r3.2.At])] rfl ?_ ?_
  · refine sN (oM (v := (.ptr _ _)) rfl ?_)
    refine sN (oCM (args := [.ptr 7 0, .int .i64 10, .int .i64 8]) (ml := [(7, .box [.lst 1 (List.map (LV.int .i64) r2.2.L), .int .i64 r2.2.At])]) (ml' := [(7, .box [.lst 1 (List.map (LV.int .i64) r3.2.L), .int .i64 r3.2.At])]) rfl isF12 rfl (sbR (sbR (sbR sbN))) (GTape_RegisterEvents_ok hr3) (mC rfl mN) (newI rfl newN) rfl ?_)
    refine sN (oA (v := (.lst _ _)) rfl ?_)
    exact s0 (Wk.to (eC rfl (eC rfl (eC rfl eN))) (mC rfl mN) rfl (prK rfl))
  obtain ⟨r4, hr4, h⟩ := bindS h
  refine LH.seqT [(4, .lst 4 (List.map GEnrolment.lv r2.1)), (5, .lst 6 (List.map GRegisterEvent.lv r3.1)), (6, .lst 1 (List.map (LV.int .i64) r4.1))] [] rfl ?_ ?_
  · refine sN (oM (v := (.ptr _ _)) rfl ?_)
    refine sN (oM (v := (.lst _ _)) rfl ?_)
    refine sN (oLnL (f := GRegisterEvent.lv) te25 rfl ?_)
    refine sN (oCM (args := [.ptr 7 0, .int .i64 (r3.1.length : Int)]) (ml := [(7, .box [.lst 1 (List.map (LV.int .i64) r3.2.L), .int .i64 r3.2.At])]) (ml' := [(7, .box [.lst 1 (List.map (LV.int .i64) r4.2.L), .int .i64 r4.2.At])]) rfl isF27 rfl (sbR (sbR sbN)) (GTape_Mixed_ok hr4) (mC rfl mN) (newI rfl newN) rfl ?_)
    refine sN (oA (v := (.lst _ _)) rfl ?_)
    exact s0 (Wk.to (eC rfl (eC rfl (eC rfl eN))) mN rfl (prK rfl))
  refine LH.seqT [(4, .lst 4 (List.map GEnrolment.lv r2.1)), (5, .lst 6 (List.map GRegisterEvent.lv r3.1)), (6, .lst 1 (List.map (LV.int .i64) r4.1)), (7, .nil)] [] rfl ?_ ?_
  · refine sN (oA (v := .nil) rfl ?_)
    exact s0 (Wk.to (eC rfl (eC rfl (eC rfl (eC rfl eN)))) mN rfl (prK rfl))
  refine LH.seq ?_
  refine LH.seqT [(4, .lst 4 (List.map GEnrolment.lv r2.1)), (5, .lst 6 (List.map GRegisterEvent.lv r3.1)), (6, .lst 1 (List.map (LV.int .i64) r4.1)), (7, .nil), (8, .int .i64 0)] [] rfl ?_ ?_
  · refine sN (oA (v := (.int _ _)) rfl ?_)
    exact s0 (Wk.to (eC rfl (eC rfl (eC rfl (eC rfl (eC rfl eN))))) mN rfl (prK rfl))
  refine LH.block ?_
  refine LH.wk ((Wk.trans (Wk.to (el := [(4, .lst 4 (List.map GEnrolment.lv r2.1)), (5, .lst 6 (List.map GRegisterEvent.lv r3.1)), (6, .lst 1 (List.map (LV.int .i64) r4.1)), (7, .nil), (8, .int .i64 0)]) (ml := []) (eC rfl (eC rfl (eC rfl (eC rfl (eC rfl eN))))) mN rfl (prK rfl)) (Wk.trans (Wk.to (el := [(4, .lst 4 (List.map GEnrolment.lv r2.1)), (5, .lst 6 (List.map GRegisterEvent.lv r3.1)), (6, .lst 1 (List.map (LV.int .i64) r4.1)), (7, .nil), (8, .int .i64 0)]) (ml := []) (eC rfl (eC rfl (eC rfl (eC rfl (eC rfl eN))))) mN rfl (prK rfl)) (Wk.trans (Wk.ownL (el' := [(4, .lst 4 (List.map GEnrolment.lv r2.1)), (5, .lst 6 (List.map GRegisterEvent.lv r3.1)), (6, .lst 1 (List.map (LV.int .i64) r4.1)), (7, .arr 140 (List.length ([] : List GRegisterEvent))), (8, .int .i64 0)]) 140 33 6 rfl rfl (wK (wK (wK (wO (wK wN)))))) (Wk.to (el := [(4, .lst 4 (List.map GEnrolment.lv r2.1)), (5, .lst 6 (List.map GRegisterEvent.lv r3.1)), (6, .lst 1 (List.map (LV.int .i64) r4.1)), (7, .arr 140 (List.length ([] : List GRegisterEvent))), (8, .int .i64 0)]) (ml := [(140, .arr 33 6 (List.map GRegisterEvent.lv ([] : List GRegisterEvent)))]) (eC rfl (eC rfl (eC rfl (eC rfl (eC rfl eN))))) (mC rfl mN) rfl (prK rfl)))))) ?_
  refine LH.loop (fun n e m => ∃ (n5 : Int) (l6 : List GRegisterEvent), law16_AttendanceAnyOrder_L1 F r2 r3 r4 n n5 l6 = some r ∧ e = Env.of [(4, .lst 4 (List.map GEnrolment.lv r2.1)), (5, .lst 6 (List.map GRegisterEvent.lv r3.1)), (6, .lst 1 (List.map (LV.int .i64) r4.1)), (7, .arr 140 (List.length l6)), (8, .int .i64 n5)] ∧ m = Mem.of [(140, .arr 33 6 (List.map GRegisterEvent.lv l6))]) F ⟨0, ([] : List GRegisterEvent), h, rfl, rfl⟩ ?_
  clear h
  rintro n e m ⟨n5, l6, h, rfl, rfl⟩
  rcases n with _ | n
  · cases (show Option.none = some _ from h)
  obtain ⟨rec1, hrec1⟩ : ∃ f, f = law16_AttendanceAnyOrder_L1 F r2 r3 r4 n := ⟨_, rfl⟩
  replace h : law16_AttendanceAnyOrder_L1_B F r2 r3 r4 rec1 n5 l6 = some r := hrec1 ▸ h
  unfold law16_AttendanceAnyOrder_L1_B at h
  refine LH.seq ?_
  refine LH.seqT [(4, .lst 4 (List.map GEnrolment.lv r2.1)), (5, .lst 6 (List.map GRegisterEvent.lv r3.1)), (6, .lst 1 (List.map (LV.int .i64) r4.1)), (7, .arr 140 (List.length l6)), (8, .int .i64 n5), (28, .bool (decide (n5 < (r4.1.length : Int))))] [(140, .arr 33 6 (List.map GRegisterEvent.lv l6))] rfl ?_ ?_
  · refine sN (oM (v := (.int _ _)) rfl ?_)
    refine sN (oM (v := (.lst _ _)) rfl ?_)
    refine sN (oLnL (f := (LV.int .i64)) te22 rfl ?_)
    refine sN (oLt rfl rfl ?_)
    exact s0 (Wk.to (eC rfl (eC rfl (eC rfl (eC rfl (eC rfl (eC rfl eN)))))) (mC rfl mN) rfl (prK rfl))
  refine LH.cond (t := (decide (n5 < (r4.1.length : Int)))) rfl (fun hc7 => ?_) (fun hc7 => ?_)
  · replace h := iteT h hc7
    refine LH.skip ?_
    refine thenN ?_
    refine LH.wk (Wk.to (el := [(4, .lst 4 (List.map GEnrolment.lv r2.1)), (5, .lst 6 (List.map GRegisterEvent.lv r3.1)), (6, .lst 1 (List.map (LV.int .i64) r4.1)), (7, .arr 140 (List.length l6)), (8, .int .i64 n5)]) (ml := [(140, .arr 33 6 (List.map GRegisterEvent.lv l6))]) (eC rfl (eC rfl (eC rfl (eC rfl (eC rfl eN))))) (mC rfl mN) rfl (prK rfl)) ?_
    refine LH.seq ?_
    refine LH.block ?_
    obtain ⟨x8, hx8, h⟩ := bindS h
    obtain ⟨x9, hx9, h⟩ := bindS h
    obtain ⟨v10, hv10, h⟩ := bindS h
    refine LH.loneT [(4, .lst 4 (List.map GEnrolment.lv r2.1)), (5, .lst 6 (List.map GRegisterEvent.lv r3.1)), (6, .lst 1 (List.map (LV.int .i64) r4.1)), (7, .arr 140 (List.length v10)), (8, .int .i64 n5)] [(140, .arr 33 6 (List.map GRegisterEvent.lv v10))] rfl ?_ ?_
    · refine sN (oM (v := (.arr _ _)) rfl ?_)
      refine sN (oM (v := (.lst _ _)) rfl ?_)
      refine sN (oM (v := (.lst _ _)) rfl ?_)
      refine sN (oM (v := (.int _ _)) rfl ?_)
      refine sN (oIx (f := (LV.int .i64)) te22 tk3 ts3 rfl rfl okI hx8 rfl ?_)
      refine sN (oLd rfl tk3 ta3 ?_)
      refine sN (oIx (f := GRegisterEvent.lv) te25 tk33 ts33 rfl rfl GRegisterEvent.ok hx9 rfl ?_)
      refine sN (oLdA rfl tk33 ta33 ts33 rfl rfl ?_)
      refine sN (oBS (f := GRegisterEvent.lv) (ys := [x9]) te25 tr33 ts33 rfl rfl rfl GRegisterEvent.ok ?_)
      refine sN (oAp (f := GRegisterEvent.lv) te25 tr33 ts33 rfl rfl (prN rfl) rfl hv10 ?_)
      refine sN (oA (v := (.arr _ _)) rfl ?_)
      exact s0 (Wk.to (eC rfl (eC rfl (eC rfl (eC rfl (eC rfl eN))))) (mC rfl mN) rfl (prK rfl))
    refine blockN ?_
    refine thenN ?_
    refine LH.loneT [(4, .lst 4 (List.map GEnrolment.lv r2.1)), (5, .lst 6 (List.map GRegisterEvent.lv r3.1)), (6, .lst 1 (List.map (LV.int .i64) r4.1)), (7, .arr 140 (List.length v10)), (8, .int .i64 (i64 (n5 + 1)))] [(140, .arr 33 6 (List.map GRegisterEvent.lv v10))] rfl ?_ ?_
    · refine sN (oM (v := (.int _ _)) rfl ?_)
      refine sN (oAdd rfl rfl ?_)
      refine sN (oA (v := (.int _ _)) rfl ?_)
      exact s0 (Wk.to (eC rfl (eC rfl (eC rfl (eC rfl (eC rfl eN))))) (mC rfl mN) rfl (prK rfl))
    exact roundN (e' := Env.of [(4, .lst 4 (List.map GEnrolment.lv r2.1)), (5, .lst 6 (List.map GRegisterEvent.lv r3.1)), (6, .lst 1 (List.map (LV.int .i64) r4.1)), (7, .arr 140 (List.length v10)), (8, .int .i64 (i64 (n5 + 1)))]) (m' := Mem.of [(140, .arr 33 6 (List.map GRegisterEvent.lv v10))]) (Wk.to (eC rfl (eC rfl (eC rfl (eC rfl (eC rfl eN))))) (mC rfl mN) rfl (prK rfl)) ⟨(i64 (n5 + 1)), v10, hrec1 ▸ h, rfl, rfl⟩
  replace h := iteF h hc7
  refine LH.exit ?_
  refine thenX ?_
  refine roundX ?_
  refine blockH ?_
  refine thenN ?_
  refine LH.wk ((Wk.trans (Wk.to (el := [(4, .lst 4 (List.map GEnrolment.lv r2.1)), (5, .lst 6 (List.map GRegisterEvent.lv r3.1)), (7, .arr 140 (List.length l6))]) (ml := [(140, .arr 33 6 (List.map GRegisterEvent.lv l6))]) (eC rfl (eC rfl (eC rfl eN))) (mC rfl mN) rfl (prK rfl)) (Wk.trans (Wk.frzL (f := GRegisterEvent.lv) (el' := [(4, .lst 4 (List.map GEnrolment.lv r2.1)), (5, .lst 6 (List.map GRegisterEvent.lv r3.1)), (7, .lst 6 (List.map GRegisterEvent.lv l6))]) 140 33 6 l6 rfl rfl (prN rfl) (fK rfl (fK rfl (fZ fN)))) (Wk.to (el := [(4, .lst 4 (List.map GEnrolment.lv r2.1)), (5, .lst 6 (List.map GRegisterEvent.lv r3.1)), (7, .lst 6 (List.map GRegisterEvent.lv l6))]) (ml := []) (eC rfl (eC rfl (eC rfl eN))) mN rfl (prK rfl))))) ?_
  obtain ⟨r11, hr11, h⟩ := bindS h
  refine LH.seqT [(4, .lst 4 (List.map GEnrolment.lv r2.1)), (7, .lst 6 (List.map GRegisterEvent.lv l6)), (9, .lst 5 (List.map GAttendance.lv r11.1)), (10, .lst 3 (List.map GRefusal.lv r11.2.1)), (11, .int .i64 r11.2.2)] [] rfl ?_ ?_
  · refine sN (oM (v := (.lst _ _)) rfl ?_)
    refine sN (oM (v := (.lst _ _)) rfl ?_)
    refine sN (oCP (args := [.lst 4 (List.map GEnrolment.lv r2.1), .lst 6 (List.map GRegisterEvent.lv r3.1), .int .i64 1000000]) rfl isF22 rfl (sbR (sbR (sbR sbN))) (attendance_Fold_ok hr11) rfl ?_)
    refine sN (oM (v := (.tup _)) rfl ?_)
    refine sN (oEx rfl rfl ?_)
    refine sN (oEx rfl rfl ?_)
    refine sN (oEx rfl rfl ?_)
    refine sN (oA (v := (.lst _ _)) rfl ?_)
    refine sN (oA (v := (.lst _ _)) rfl ?_)
    refine sN (oA (v := (.int _ _)) rfl ?_)
    exact s0 (Wk.to (eC rfl (eC rfl (eC rfl (eC rfl (eC rfl eN))))) mN rfl (prK rfl))
  obtain ⟨r12, hr12, h⟩ := bindS h
  refine LH.seqT [(9, .lst 5 (List.map GAttendance.lv r11.1)), (10, .lst 3 (List.map GRefusal.lv r11.2.1)), (11, .int .i64 r11.2.2), (12, .lst 5 (List.map GAttendance.lv r12.1)), (13, .lst 3 (List.map GRefusal.lv r12.2.1)), (14, .int .i64 r12.2.2)] [] rfl ?_ ?_
  · refine sN (oM (v := (.lst _ _)) rfl ?_)
    refine sN (oM (v := (.lst _ _)) rfl ?_)
    refine sN (oCP (args := [.lst 4 (List.map GEnrolment.lv r2.1), .lst 6 (List.map GRegisterEvent.lv l6), .int .i64 1000000]) rfl isF22 rfl (sbR (sbR (sbR sbN))) (attendance_Fold_ok hr12) rfl ?_)
    refine sN (oM (v := (.tup _)) rfl ?_)
    refine sN (oEx rfl rfl ?_)
    refine sN (oEx rfl rfl ?_)
    refine sN (oEx rfl rfl ?_)
    refine sN (oA (v := (.lst _ _)) rfl ?_)
    refine sN (oA (v := (.lst _ _)) rfl ?_)
    refine sN (oA (v := (.int _ _)) rfl ?_)
    exact s0 (Wk.to (eC rfl (eC rfl (eC rfl (eC rfl (eC rfl (eC rfl eN)))))) mN rfl (prK rfl))
  obtain ⟨w14, hv, h⟩ := bindS h
  refine LH.seqT [(2, .bool w14)] [] rfl ?_ ?_
  · refine sN (oM (v := (.int _ _)) rfl ?_)
    refine sN (oEq rfl rfl ?_)
    refine sN (oM (v := (.bool _)) rfl ?_)
    by_cases hb15 : (r11.2.2 == 0) = true
    · replace hv := iteT hv hb15
      refine sT rfl (congrArg LV.bool hb15) (oM (v := (.int _ _)) rfl ?_)
      refine sT rfl (congrArg LV.bool hb15) (oEq rfl rfl ?_)
      refine sN (oPkT (congrArg LV.bool hb15) (v := (.bool _)) rfl ?_)
      refine sN (oM (v := (.bool _)) rfl ?_)
      by_cases hb16 : (r12.2.2 == 0) = true
      · replace hv := iteT hv hb16
        refine sT rfl (congrArg LV.bool hb16) (oM (v := (.lst _ _)) rfl ?_)
        refine sT rfl (congrArg LV.bool hb16) (oM (v := (.lst _ _)) rfl ?_)
        obtain ⟨r17, hr17, hv⟩ := bindS hv
        refine sT rfl (congrArg LV.bool hb16) (oCP (args := [.lst 5 (List.map GAttendance.lv r11.1), .lst 5 (List.map GAttendance.lv r12.1)]) rfl isF24 rfl (sbR (sbR sbN)) (law16_same_ok hr17) rfl ?_)
        refine sN (oPkT (congrArg LV.bool hb16) (v := (.bool _)) rfl ?_)
        refine sN (oM (v := (.bool _)) rfl ?_)
        by_cases hb18 : r17 = true
        · replace hv := iteT hv hb18
          refine sT rfl (congrArg LV.bool hb18) (oM (v := (.lst _ _)) rfl ?_)
          refine sT rfl (congrArg LV.bool hb18) (oM (v := (.lst _ _)) rfl ?_)
          obtain ⟨r19, hr19, hv⟩ := bindS hv
          refine sT rfl (congrArg LV.bool hb18) (oCP (args := [.lst 3 (List.map GRefusal.lv r11.2.1), .lst 3 (List.map GRefusal.lv r12.2.1)]) rfl isF25 rfl (sbR (sbR sbN)) (law16_refusals_ok hr19) rfl ?_)
          refine sN (oPkT (congrArg LV.bool hb18) (v := (.bool _)) rfl ?_)
          refine sN (oM (v := (.bool _)) rfl ?_)
          by_cases hb20 : r19 = true
          · replace hv := iteT hv hb20
            obtain ⟨r21, hr21, hv⟩ := bindS hv
            refine sT rfl (congrArg LV.bool hb20) (oCP (args := []) rfl isF17 rfl sbN (law16_awake_ok hr21) rfl ?_)
            refine sN (oPkT (congrArg LV.bool hb20) (v := (.bool _)) rfl ?_)
            refine sN (oA (v := (.bool _)) rfl ?_)
            obtain rfl := Option.some.inj hv
            exact s0 (Wk.to (eC rfl eN) mN rfl (prK rfl))
          · replace hb20 := bF hb20
            replace hv := iteF hv hb20
            refine sF rfl rfl hb20 ?_
            refine sN (oPkF (congrArg LV.bool hb20) (v := (.bool _)) rfl ?_)
            refine sN (oA (v := (.bool _)) rfl ?_)
            obtain rfl := Option.some.inj hv
            exact s0 (Wk.to (eC rfl eN) mN rfl (prK rfl))
        · replace hb18 := bF hb18
          replace hv := iteF hv hb18
          refine sF rfl rfl hb18 ?_
          refine sF rfl rfl hb18 ?_
          refine sF rfl rfl hb18 ?_
          refine sN (oPkF (congrArg LV.bool hb18) (v := (.bool _)) rfl ?_)
          refine sN (oM (v := (.bool _)) rfl ?_)
          refine sF rfl rfl rfl ?_
          refine sN (oPkF rfl (v := (.bool _)) rfl ?_)
          refine sN (oA (v := (.bool _)) rfl ?_)
          obtain rfl := Option.some.inj hv
          exact s0 (Wk.to (eC rfl eN) mN rfl (prK rfl))
      · replace hb16 := bF hb16
        replace hv := iteF hv hb16
        refine sF rfl rfl hb16 ?_
        refine sF rfl rfl hb16 ?_
        refine sF rfl rfl hb16 ?_
        refine sN (oPkF (congrArg LV.bool hb16) (v := (.bool _)) rfl ?_)
        refine sN (oM (v := (.bool _)) rfl ?_)
        refine sF rfl rfl rfl ?_
        refine sF rfl rfl rfl ?_
        refine sF rfl rfl rfl ?_
        refine sN (oPkF rfl (v := (.bool _)) rfl ?_)
        refine sN (oM (v := (.bool _)) rfl ?_)
        refine sF rfl rfl rfl ?_
        refine sN (oPkF rfl (v := (.bool _)) rfl ?_)
        refine sN (oA (v := (.bool _)) rfl ?_)
        obtain rfl := Option.some.inj hv
        exact s0 (Wk.to (eC rfl eN) mN rfl (prK rfl))
    · replace hb15 := bF hb15
      replace hv := iteF hv hb15
      refine sF rfl rfl hb15 ?_
      refine sF rfl rfl hb15 ?_
      refine sN (oPkF (congrArg LV.bool hb15) (v := (.bool _)) rfl ?_)
      refine sN (oM (v := (.bool _)) rfl ?_)
      refine sF rfl rfl rfl ?_
      refine sF rfl rfl rfl ?_
      refine sF rfl rfl rfl ?_
      refine sN (oPkF rfl (v := (.bool _)) rfl ?_)
      refine sN (oM (v := (.bool _)) rfl ?_)
      refine sF rfl rfl rfl ?_
      refine sF rfl rfl rfl ?_
      refine sF rfl rfl rfl ?_
      refine sN (oPkF rfl (v := (.bool _)) rfl ?_)
      refine sN (oM (v := (.bool _)) rfl ?_)
      refine sF rfl rfl rfl ?_
      refine sN (oPkF rfl (v := (.bool _)) rfl ?_)
      refine sN (oA (v := (.bool _)) rfl ?_)
      obtain rfl := Option.some.inj hv
      exact s0 (Wk.to (eC rfl eN) mN rfl (prK rfl))
  clear hv
  refine LH.ret ?_
  obtain rfl := Option.some.inj h
  exact retE (congrArg Array.toList Try.results7) (lrT rfl (lr0 ⟨memN mN, rfl, prK rfl, Sub.rfl⟩))

end Go.Proofs.Ytapnjifcfljmmaa
