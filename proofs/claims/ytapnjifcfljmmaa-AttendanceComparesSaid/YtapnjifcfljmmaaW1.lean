/- Walks, printed by program (gen.py): each function computes its plain function. -/
import Derived.Test.YtapnjifcfljmmaaL5
import Derived.Test.YtapnjifcfljmmaaL4
import Derived.Test.YtapnjifcfljmmaaLz
import Derived.Test.YtapnjifcfljmmaaFacts
import Derived.Test.YtapnjifcfljmmaaEqs
import Derived.Test.YtapnjifcfljmmaaSort
import Derived.Test.YtapnjifcfljmmaaLp
import Derived.Test.YtapnjifcfljmmaaSh
set_option linter.unusedVariables false
set_option linter.unusedSimpArgs false
set_option maxRecDepth 100000
namespace Go.Proofs.Ytapnjifcfljmmaa
open Go.L Go.Sh
theorem make_New_ok0 {p0 : List Int} {r : GTape} (h : make_New p0 = some r) : LCall Try.prog 11 [.lst 1 (List.map (LV.int .i64) p0)] (Mem.of []) (.ptr 110 0) (Mem.of [(110, .box [.lst 1 (List.map (LV.int .i64) r.L), .int .i64 r.At])]) := by
  unfold make_New at h
  refine bodyT Try.func11 rfl (by rw [Try.ntmps11]; exact Nat.le_of_ble_eq_true rfl) ?_
  refine LH.wk (Wk.to (el := [(0, .lst 1 (List.map (LV.int .i64) p0))]) (ml := []) (eC rfl eN) mN rfl (prK rfl)) ?_
  refine LH.seqT [(0, .lst 1 (List.map (LV.int .i64) p0))] [] rfl ?_ ?_
  · refine sN (oA (v := .nilp) rfl ?_)
    exact s0 (Wk.to (eC rfl eN) mN rfl (prK rfl))
  refine LH.seq ?_
  refine LH.seqT [(0, .lst 1 (List.map (LV.int .i64) p0)), (5, .bool (decide ((p0.length : Int) > 600)))] [] rfl ?_ ?_
  · refine sN (oM (v := (.lst _ _)) rfl ?_)
    refine sN (oLnL (f := (LV.int .i64)) te22 rfl ?_)
    refine sN (oGt rfl rfl ?_)
    exact s0 (Wk.to (eC rfl (eC rfl eN)) mN rfl (prK rfl))
  refine LH.cond (t := (decide ((p0.length : Int) > 600))) rfl (fun hc1 => ?_) (fun hc1 => ?_)
  · replace h := iteT h hc1
    obtain ⟨v2, hv2, h⟩ := bindS h
    refine LH.loneT [(0, .lst 1 (List.map (LV.int .i64) v2))] [] rfl ?_ ?_
    · refine sN (oM (v := (.lst _ _)) rfl ?_)
      refine sN (oSl (f := (LV.int .i64)) te22 tk3 ts3 rfl rfl rfl hv2 ?_)
      refine sN (oA (v := (.lst _ _)) rfl ?_)
      exact s0 (Wk.to (eC rfl eN) mN rfl (prK rfl))
    refine thenN ?_
    refine LH.seqT [(2, .ptr 110 0)] [(110, .box [.lst 1 (List.map (LV.int .i64) v2), .int .i64 0])] rfl ?_ ?_
    · refine sN (oM (v := (.lst _ _)) rfl ?_)
      refine sN (oBd (vs := [(0, .lst 1 (List.map (LV.int .i64) v2))]) tu70 tz70 rfl (lf tf70_0 ts22 tk22 rfl rfl rfl lf0) ?_)
      refine sN (oBx (id := 110) rfl rfl rfl rfl rfl rfl ?_)
      refine sN (oA (v := (.ptr _ _)) rfl ?_)
      exact s0 (Wk.to (eC rfl eN) (mC rfl mN) rfl (prK rfl))
    refine LH.ret ?_
    obtain rfl := Option.some.inj h
    exact retE (congrArg Array.toList Try.results11) (lrT rfl (lr0 ⟨memN (mC rfl mN), rfl, prK rfl, Sub.rfl⟩))
  replace h := iteF h hc1
  refine LH.skip ?_
  refine thenN ?_
  refine LH.wk (Wk.to (el := [(0, .lst 1 (List.map (LV.int .i64) p0))]) (ml := []) (eC rfl eN) mN rfl (prK rfl)) ?_
  refine LH.seqT [(2, .ptr 110 0)] [(110, .box [.lst 1 (List.map (LV.int .i64) p0), .int .i64 0])] rfl ?_ ?_
  · refine sN (oM (v := (.lst _ _)) rfl ?_)
    refine sN (oBd (vs := [(0, .lst 1 (List.map (LV.int .i64) p0))]) tu70 tz70 rfl (lf tf70_0 ts22 tk22 rfl rfl rfl lf0) ?_)
    refine sN (oBx (id := 110) rfl rfl rfl rfl rfl rfl ?_)
    refine sN (oA (v := (.ptr _ _)) rfl ?_)
    exact s0 (Wk.to (eC rfl eN) (mC rfl mN) rfl (prK rfl))
  refine LH.ret ?_
  obtain rfl := Option.some.inj h
  exact retE (congrArg Array.toList Try.results11) (lrT rfl (lr0 ⟨memN (mC rfl mN), rfl, prK rfl, Sub.rfl⟩))
theorem make_New_ok {p0 : List Int} {r : GTape} (h : make_New p0 = some r) : LCall Try.prog 11 [.lst 1 (List.map (LV.int .i64) p0)] (Mem.of []) (.ptr 7 0) (Mem.of [(7, .box [.lst 1 (List.map (LV.int .i64) r.L), .int .i64 r.At])]) := LCall.renamePtr 7 rfl (make_New_ok0 h)

theorem GTape_Raw_ok {p0 : GTape} {r : Int × GTape} (h : GTape_Raw p0 = some r) : LCall Try.prog 43 [.ptr 7 0] (Mem.of [(7, .box [.lst 1 (List.map (LV.int .i64) p0.L), .int .i64 p0.At])]) (.int .i64 r.1) (Mem.of [(7, .box [.lst 1 (List.map (LV.int .i64) r.2.L), .int .i64 r.2.At])]) := by
  unfold GTape_Raw at h
  refine bodyT Try.func43 rfl (by rw [Try.ntmps43]; exact Nat.le_of_ble_eq_true rfl) ?_
  refine LH.wk (Wk.to (el := [(0, .ptr 7 0)]) (ml := [(7, .box [.lst 1 (List.map (LV.int .i64) p0.L), .int .i64 p0.At])]) (eC rfl eN) (mC rfl mN) rfl (prK rfl)) ?_
  refine LH.seqT [(0, .ptr 7 0)] [(7, .box [.lst 1 (List.map (LV.int .i64) p0.L), .int .i64 p0.At])] rfl ?_ ?_
  · refine sN (oA (v := (.int _ _)) rfl ?_)
    exact s0 (Wk.to (eC rfl eN) (mC rfl mN) rfl (prK rfl))
  refine LH.seq ?_
  refine LH.seqJM mixed [] [0, 0, 0, 1, 0, 0, 0, 1, 0, 0] [(0, .ptr 7 0), (12, .bool (decide (p0.At ≥ (p0.L.length : Int))))] [(7, .box [.lst 1 (List.map (LV.int .i64) p0.L), .int .i64 p0.At])] rfl rfl (by kernel_rfl) ?_ ?_
  · refine mN0 (oM (v := (.ptr _ _)) rfl ⟨rfl, ?_⟩)
    refine mN0 (oNC rfl ⟨rfl, ?_⟩)
    refine mN0 (oFa tf70_1 tk3 ts3 rfl rfl ⟨rfl, ?_⟩)
    refine mN1 (oLdP rfl rfl rfl rfl tk3 ta3 ⟨rfl, ?_⟩)
    refine mN0 (oM (v := (.ptr _ _)) rfl ⟨rfl, ?_⟩)
    refine mN0 (oNC rfl ⟨rfl, ?_⟩)
    refine mN0 (oFa tf70_0 tk22 ts22 rfl rfl ⟨rfl, ?_⟩)
    refine mN1 (oLdP rfl rfl rfl rfl tk22 ta22 ⟨rfl, ?_⟩)
    refine mN0 (oLnL (f := (LV.int .i64)) te22 rfl ⟨rfl, ?_⟩)
    refine mN0 (oGe rfl rfl ⟨rfl, ?_⟩)
    exact m0 (Wk.to (eC rfl (eC rfl eN)) (mC rfl mN) rfl (prK rfl))
  refine LH.cond (t := (decide (p0.At ≥ (p0.L.length : Int)))) rfl (fun hc1 => ?_) (fun hc1 => ?_)
  · replace h := iteT h hc1
    refine LH.seqT [(2, .int .i64 0)] [(7, .box [.lst 1 (List.map (LV.int .i64) p0.L), .int .i64 p0.At])] rfl ?_ ?_
    · refine sN (oA (v := (.int _ _)) rfl ?_)
      exact s0 (Wk.to (eC rfl eN) (mC rfl mN) rfl (prK rfl))
    refine LH.ret ?_
    refine thenR ?_
    obtain rfl := Option.some.inj h
    exact retE (congrArg Array.toList Try.results43) (lrT rfl (lr0 ⟨memN (mC rfl mN), rfl, prK rfl, Sub.rfl⟩))
  replace h := iteF h hc1
  refine LH.skip ?_
  refine thenN ?_
  refine LH.wk (Wk.to (el := [(0, .ptr 7 0)]) (ml := [(7, .box [.lst 1 (List.map (LV.int .i64) p0.L), .int .i64 p0.At])]) (eC rfl eN) (mC rfl mN) rfl (prK rfl)) ?_
  refine LH.seqT [(0, .ptr 7 0)] [(7, .box [.lst 1 (List.map (LV.int .i64) p0.L), .int .i64 (i64 (p0.At + 1))])] rfl ?_ ?_
  · refine sN (oM (v := (.ptr _ _)) rfl ?_)
    refine sN (oNC rfl ?_)
    refine sN (oFa tf70_1 tk3 ts3 rfl rfl ?_)
    refine sN (oLdP rfl rfl rfl rfl tk3 ta3 ?_)
    refine sN (oAdd rfl rfl ?_)
    refine sN (oNC rfl ?_)
    refine sN (oFa tf70_1 tk3 ts3 rfl rfl ?_)
    refine s_ (oSt rfl rfl rfl tk3 ts3 rfl rfl rfl ?_)
    exact s0 (Wk.to (eC rfl eN) (mC rfl mN) rfl (prK rfl))
  obtain ⟨x2, hx2, h⟩ := bindS h
  refine LH.seqJM mixed [] [0, 0, 0, 1, 0, 0, 0, 1, 0, 0, 0, 0] [(2, .int .i64 x2)] [(7, .box [.lst 1 (List.map (LV.int .i64) p0.L), .int .i64 (i64 (p0.At + 1))])] rfl rfl (by kernel_rfl) ?_ ?_
  · refine mN0 (oM (v := (.ptr _ _)) rfl ⟨rfl, ?_⟩)
    refine mN0 (oNC rfl ⟨rfl, ?_⟩)
    refine mN0 (oFa tf70_0 tk22 ts22 rfl rfl ⟨rfl, ?_⟩)
    refine mN1 (oLdP rfl rfl rfl rfl tk22 ta22 ⟨rfl, ?_⟩)
    refine mN0 (oM (v := (.ptr _ _)) rfl ⟨rfl, ?_⟩)
    refine mN0 (oNC rfl ⟨rfl, ?_⟩)
    refine mN0 (oFa tf70_1 tk3 ts3 rfl rfl ⟨rfl, ?_⟩)
    refine mN1 (oLdP rfl rfl rfl rfl tk3 ta3 ⟨rfl, ?_⟩)
    refine mN0 (oSub rfl rfl ⟨rfl, ?_⟩)
    refine mN0 (oIx (f := (LV.int .i64)) te22 tk3 ts3 rfl rfl okI hx2 rfl ⟨rfl, ?_⟩)
    refine mN0 (oLd rfl tk3 ta3 ⟨rfl, ?_⟩)
    refine mN0 (oA (v := (.int _ _)) rfl ⟨rfl, ?_⟩)
    exact m0 (Wk.to (eC rfl eN) (mC rfl mN) rfl (prK rfl))
  refine LH.ret ?_
  obtain rfl := Option.some.inj h
  exact retE (congrArg Array.toList Try.results43) (lrT rfl (lr0 ⟨memN (mC rfl mN), rfl, prK rfl, Sub.rfl⟩))

theorem make_Cut_ok {p0 : Int} {p1 : Int} {r : Int} (h : make_Cut p0 p1 = some r) : LCall Try.prog 19 [.int .i64 p0, .int .i64 p1] (Mem.of []) (.int .i64 r) (Mem.of []) := by
  unfold make_Cut at h
  refine bodyT Try.func19 rfl (by rw [Try.ntmps19]; exact Nat.le_of_ble_eq_true rfl) ?_
  refine LH.wk (Wk.to (el := [(0, .int .i64 p0), (1, .int .i64 p1)]) (ml := []) (eC rfl (eC rfl eN)) mN rfl (prK rfl)) ?_
  refine LH.seqT [(0, .int .i64 p0), (1, .int .i64 p1)] [] rfl ?_ ?_
  · refine sN (oA (v := (.int _ _)) rfl ?_)
    exact s0 (Wk.to (eC rfl (eC rfl eN)) mN rfl (prK rfl))
  refine LH.seq ?_
  refine LH.seqT [(0, .int .i64 p0), (1, .int .i64 p1), (6, .bool (decide (p1 < 1)))] [] rfl ?_ ?_
  · refine sN (oM (v := (.int _ _)) rfl ?_)
    refine sN (oLt rfl rfl ?_)
    exact s0 (Wk.to (eC rfl (eC rfl (eC rfl eN))) mN rfl (prK rfl))
  refine LH.cond (t := (decide (p1 < 1))) rfl (fun hc1 => ?_) (fun hc1 => ?_)
  · replace h := iteT h hc1
    refine LH.seqT [(4, .int .i64 0)] [] rfl ?_ ?_
    · refine sN (oA (v := (.int _ _)) rfl ?_)
      exact s0 (Wk.to (eC rfl eN) mN rfl (prK rfl))
    refine LH.ret ?_
    refine thenR ?_
    obtain rfl := Option.some.inj h
    exact retE (congrArg Array.toList Try.results19) (lrT rfl (lr0 ⟨memN mN, rfl, prK rfl, Sub.rfl⟩))
  replace h := iteF h hc1
  refine LH.skip ?_
  refine thenN ?_
  refine LH.wk (Wk.to (el := [(0, .int .i64 p0), (1, .int .i64 p1)]) (ml := []) (eC rfl (eC rfl eN)) mN rfl (prK rfl)) ?_
  obtain ⟨v2, hv2, h⟩ := bindS h
  refine LH.seqT [(0, .int .i64 v2), (1, .int .i64 p1)] [] rfl ?_ ?_
  · refine sN (oM (v := (.int _ _)) rfl ?_)
    refine sN (oM (v := (.int _ _)) rfl ?_)
    refine sN (oRem rfl rfl hv2 ?_)
    refine sN (oA (v := (.int _ _)) rfl ?_)
    exact s0 (Wk.to (eC rfl (eC rfl eN)) mN rfl (prK rfl))
  refine LH.seq ?_
  refine LH.seqT [(0, .int .i64 v2), (1, .int .i64 p1), (11, .bool (decide (v2 < 0)))] [] rfl ?_ ?_
  · refine sN (oM (v := (.int _ _)) rfl ?_)
    refine sN (oLt rfl rfl ?_)
    exact s0 (Wk.to (eC rfl (eC rfl (eC rfl eN))) mN rfl (prK rfl))
  refine LH.cond (t := (decide (v2 < 0))) rfl (fun hc3 => ?_) (fun hc3 => ?_)
  · replace h := iteT h hc3
    refine LH.loneT [(0, .int .i64 (i64 (v2 + p1)))] [] rfl ?_ ?_
    · refine sN (oM (v := (.int _ _)) rfl ?_)
      refine sN (oM (v := (.int _ _)) rfl ?_)
      refine sN (oAdd rfl rfl ?_)
      refine sN (oA (v := (.int _ _)) rfl ?_)
      exact s0 (Wk.to (eC rfl eN) mN rfl (prK rfl))
    refine thenN ?_
    refine LH.seqT [(4, .int .i64 (i64 (v2 + p1)))] [] rfl ?_ ?_
    · refine sN (oM (v := (.int _ _)) rfl ?_)
      refine sN (oA (v := (.int _ _)) rfl ?_)
      exact s0 (Wk.to (eC rfl eN) mN rfl (prK rfl))
    refine LH.ret ?_
    obtain rfl := Option.some.inj h
    exact retE (congrArg Array.toList Try.results19) (lrT rfl (lr0 ⟨memN mN, rfl, prK rfl, Sub.rfl⟩))
  replace h := iteF h hc3
  refine LH.skip ?_
  refine thenN ?_
  refine LH.wk (Wk.to (el := [(0, .int .i64 v2)]) (ml := []) (eC rfl eN) mN rfl (prK rfl)) ?_
  refine LH.seqT [(4, .int .i64 v2)] [] rfl ?_ ?_
  · refine sN (oM (v := (.int _ _)) rfl ?_)
    refine sN (oA (v := (.int _ _)) rfl ?_)
    exact s0 (Wk.to (eC rfl eN) mN rfl (prK rfl))
  refine LH.ret ?_
  obtain rfl := Option.some.inj h
  exact retE (congrArg Array.toList Try.results19) (lrT rfl (lr0 ⟨memN mN, rfl, prK rfl, Sub.rfl⟩))

theorem GTape_Next_ok {p0 : GTape} {p1 : Int} {r : Int × GTape} (h : GTape_Next p0 p1 = some r) : LCall Try.prog 15 [.ptr 7 0, .int .i64 p1] (Mem.of [(7, .box [.lst 1 (List.map (LV.int .i64) p0.L), .int .i64 p0.At])]) (.int .i64 r.1) (Mem.of [(7, .box [.lst 1 (List.map (LV.int .i64) r.2.L), .int .i64 r.2.At])]) := by
  unfold GTape_Next at h
  refine bodyT Try.func15 rfl (by rw [Try.ntmps15]; exact Nat.le_of_ble_eq_true rfl) ?_
  refine LH.wk (Wk.to (el := [(0, .ptr 7 0), (1, .int .i64 p1)]) (ml := [(7, .box [.lst 1 (List.map (LV.int .i64) p0.L), .int .i64 p0.At])]) (eC rfl (eC rfl eN)) (mC rfl mN) rfl (prK rfl)) ?_
  refine LH.seqT [(0, .ptr 7 0), (1, .int .i64 p1)] [(7, .box [.lst 1 (List.map (LV.int .i64) p0.L), .int .i64 p0.At])] rfl ?_ ?_
  · refine sN (oA (v := (.int _ _)) rfl ?_)
    exact s0 (Wk.to (eC rfl (eC rfl eN)) (mC rfl mN) rfl (prK rfl))
  obtain ⟨r1, hr1, h⟩ := bindS h
  obtain ⟨r2, hr2, h⟩ := bindS h
  refine LH.seqT [(4, .int .i64 r2)] [(7, .box [.lst 1 (List.map (LV.int .i64) r1.2.L), .int .i64 r1.2.At])] rfl ?_ ?_
  · refine sN (oM (v := (.ptr _ _)) rfl ?_)
    refine sN (oCM (args := [.ptr 7 0]) (ml := [(7, .box [.lst 1 (List.map (LV.int .i64) p0.L), .int .i64 p0.At])]) (ml' := [(7, .box [.lst 1 (List.map (LV.int .i64) r1.2.L), .int .i64 r1.2.At])]) rfl isF43 rfl (sbR sbN) (GTape_Raw_ok hr1) (mC rfl mN) (newI rfl newN) rfl ?_)
    refine sN (oM (v := (.int _ _)) rfl ?_)
    refine sN (oCP (args := [.int .i64 r1.1, .int .i64 p1]) rfl isF19 rfl (sbR (sbR sbN)) (make_Cut_ok hr2) rfl ?_)
    refine sN (oA (v := (.int _ _)) rfl ?_)
    exact s0 (Wk.to (eC rfl eN) (mC rfl mN) rfl (prK rfl))
  refine LH.ret ?_
  obtain rfl := Option.some.inj h
  exact retE (congrArg Array.toList Try.results15) (lrT rfl (lr0 ⟨memN (mC rfl mN), rfl, prK rfl, Sub.rfl⟩))

theorem GTape_Range_ok {p0 : GTape} {p1 : Int} {p2 : Int} {r : Int × GTape} (h : GTape_Range p0 p1 p2 = some r) : LCall Try.prog 26 [.ptr 7 0, .int .i64 p1, .int .i64 p2] (Mem.of [(7, .box [.lst 1 (List.map (LV.int .i64) p0.L), .int .i64 p0.At])]) (.int .i64 r.1) (Mem.of [(7, .box [.lst 1 (List.map (LV.int .i64) r.2.L), .int .i64 r.2.At])]) := by
  unfold GTape_Range at h
  refine bodyT Try.func26 rfl (by rw [Try.ntmps26]; exact Nat.le_of_ble_eq_true rfl) ?_
  refine LH.wk (Wk.to (el := [(0, .ptr 7 0), (1, .int .i64 p1), (2, .int .i64 p2)]) (ml := [(7, .box [.lst 1 (List.map (LV.int .i64) p0.L), .int .i64 p0.At])]) (eC rfl (eC rfl (eC rfl eN))) (mC rfl mN) rfl (prK rfl)) ?_
  refine LH.seqT [(0, .ptr 7 0), (1, .int .i64 p1), (2, .int .i64 p2)] [(7, .box [.lst 1 (List.map (LV.int .i64) p0.L), .int .i64 p0.At])] rfl ?_ ?_
  · refine sN (oA (v := (.int _ _)) rfl ?_)
    exact s0 (Wk.to (eC rfl (eC rfl (eC rfl eN))) (mC rfl mN) rfl (prK rfl))
  obtain ⟨r1, hr1, h⟩ := bindS h
  refine LH.seqT [(6, .int .i64 (i64 (p1 + r1.1)))] [(7, .box [.lst 1 (List.map (LV.int .i64) r1.2.L), .int .i64 r1.2.At])] rfl ?_ ?_
  · refine sN (oM (v := (.int _ _)) rfl ?_)
    refine sN (oM (v := (.ptr _ _)) rfl ?_)
    refine sN (oM (v := (.int _ _)) rfl ?_)
    refine sN (oM (v := (.int _ _)) rfl ?_)
    refine sN (oSub rfl rfl ?_)
    refine sN (oAdd rfl rfl ?_)
    refine sN (oCM (args := [.ptr 7 0, .int .i64 (i64 ((i64 (p2 - p1)) + 1))]) (ml := [(7, .box [.lst 1 (List.map (LV.int .i64) p0.L), .int .i64 p0.At])]) (ml' := [(7, .box [.lst 1 (List.map (LV.int .i64) r1.2.L), .int .i64 r1.2.At])]) rfl isF15 rfl (sbR (sbR sbN)) (GTape_Next_ok hr1) (mC rfl mN) (newI rfl newN) rfl ?_)
    refine sN (oAdd rfl rfl ?_)
    refine sN (oA (v := (.int _ _)) rfl ?_)
    exact s0 (Wk.to (eC rfl eN) (mC rfl mN) rfl (prK rfl))
  refine LH.ret ?_
  obtain rfl := Option.some.inj h
  exact retE (congrArg Array.toList Try.results26) (lrT rfl (lr0 ⟨memN (mC rfl mN), rfl, prK rfl, Sub.rfl⟩))

theorem GTape_Pick_ok {p0 : GTape} {p1 : List Int} {r : Int × GTape} (h : GTape_Pick p0 p1 = some r) : LCall Try.prog 36 [.ptr 7 0, .lst 1 (List.map (LV.int .i64) p1)] (Mem.of [(7, .box [.lst 1 (List.map (LV.int .i64) p0.L), .int .i64 p0.At])]) (.int .i64 r.1) (Mem.of [(7, .box [.lst 1 (List.map (LV.int .i64) r.2.L), .int .i64 r.2.At])]) := by
  unfold GTape_Pick at h
  refine bodyT Try.func36 rfl (by rw [Try.ntmps36]; exact Nat.le_of_ble_eq_true rfl) ?_
  refine LH.wk (Wk.to (el := [(0, .ptr 7 0), (1, .lst 1 (List.map (LV.int .i64) p1))]) (ml := [(7, .box [.lst 1 (List.map (LV.int .i64) p0.L), .int .i64 p0.At])]) (eC rfl (eC rfl eN)) (mC rfl mN) rfl (prK rfl)) ?_
  refine LH.seqT [(0, .ptr 7 0), (1, .lst 1 (List.map (LV.int .i64) p1))] [(7, .box [.lst 1 (List.map (LV.int .i64) p0.L), .int .i64 p0.At])] rfl ?_ ?_
  · refine sN (oA (v := (.int _ _)) rfl ?_)
    exact s0 (Wk.to (eC rfl (eC rfl eN)) (mC rfl mN) rfl (prK rfl))
  obtain ⟨r1, hr1, h⟩ := bindS h
  obtain ⟨x2, hx2, h⟩ := bindS h
  refine LH.seqT [(4, .int .i64 x2)] [(7, .box [.lst 1 (List.map (LV.int .i64) r1.2.L), .int .i64 r1.2.At])] rfl ?_ ?_
  · refine sN (oM (v := (.lst _ _)) rfl ?_)
    refine sN (oM (v := (.ptr _ _)) rfl ?_)
    refine sN (oM (v := (.lst _ _)) rfl ?_)
    refine sN (oLnL (f := (LV.int .i64)) te22 rfl ?_)
    refine sN (oCM (args := [.ptr 7 0, .int .i64 (p1.length : Int)]) (ml := [(7, .box [.lst 1 (List.map (LV.int .i64) p0.L), .int .i64 p0.At])]) (ml' := [(7, .box [.lst 1 (List.map (LV.int .i64) r1.2.L), .int .i64 r1.2.At])]) rfl isF15 rfl (sbR (sbR sbN)) (GTape_Next_ok hr1) (mC rfl mN) (newI rfl newN) rfl ?_)
    refine sN (oIx (f := (LV.int .i64)) te22 tk3 ts3 rfl rfl okI hx2 rfl ?_)
    refine sN (oLd rfl tk3 ta3 ?_)
    refine sN (oA (v := (.int _ _)) rfl ?_)
    exact s0 (Wk.to (eC rfl eN) (mC rfl mN) rfl (prK rfl))
  refine LH.ret ?_
  obtain rfl := Option.some.inj h
  exact retE (congrArg Array.toList Try.results36) (lrT rfl (lr0 ⟨memN (mC rfl mN), rfl, prK rfl, Sub.rfl⟩))

theorem GTape_One_ok {p0 : GTape} {p1 : Int} {r : Bool × GTape} (h : GTape_One p0 p1 = some r) : LCall Try.prog 37 [.ptr 7 0, .int .i64 p1] (Mem.of [(7, .box [.lst 1 (List.map (LV.int .i64) p0.L), .int .i64 p0.At])]) (.bool r.1) (Mem.of [(7, .box [.lst 1 (List.map (LV.int .i64) r.2.L), .int .i64 r.2.At])]) := by
  unfold GTape_One at h
  refine bodyT Try.func37 rfl (by rw [Try.ntmps37]; exact Nat.le_of_ble_eq_true rfl) ?_
  refine LH.wk (Wk.to (el := [(0, .ptr 7 0), (1, .int .i64 p1)]) (ml := [(7, .box [.lst 1 (List.map (LV.int .i64) p0.L), .int .i64 p0.At])]) (eC rfl (eC rfl eN)) (mC rfl mN) rfl (prK rfl)) ?_
  refine LH.seqT [(0, .ptr 7 0), (1, .int .i64 p1)] [(7, .box [.lst 1 (List.map (LV.int .i64) p0.L), .int .i64 p0.At])] rfl ?_ ?_
  · refine sN (oA (v := (.bool _)) rfl ?_)
    exact s0 (Wk.to (eC rfl (eC rfl eN)) (mC rfl mN) rfl (prK rfl))
  obtain ⟨r1, hr1, h⟩ := bindS h
  refine LH.seqT [(4, .bool (r1.1 == (i64 (p1 - 1))))] [(7, .box [.lst 1 (List.map (LV.int .i64) r1.2.L), .int .i64 r1.2.At])] rfl ?_ ?_
  · refine sN (oM (v := (.ptr _ _)) rfl ?_)
    refine sN (oM (v := (.int _ _)) rfl ?_)
    refine sN (oCM (args := [.ptr 7 0, .int .i64 p1]) (ml := [(7, .box [.lst 1 (List.map (LV.int .i64) p0.L), .int .i64 p0.At])]) (ml' := [(7, .box [.lst 1 (List.map (LV.int .i64) r1.2.L), .int .i64 r1.2.At])]) rfl isF15 rfl (sbR (sbR sbN)) (GTape_Next_ok hr1) (mC rfl mN) (newI rfl newN) rfl ?_)
    refine sN (oM (v := (.int _ _)) rfl ?_)
    refine sN (oSub rfl rfl ?_)
    refine sN (oEq rfl rfl ?_)
    refine sN (oA (v := (.bool _)) rfl ?_)
    exact s0 (Wk.to (eC rfl eN) (mC rfl mN) rfl (prK rfl))
  refine LH.ret ?_
  obtain rfl := Option.some.inj h
  exact retE (congrArg Array.toList Try.results37) (lrT rfl (lr0 ⟨memN (mC rfl mN), rfl, prK rfl, Sub.rfl⟩))

theorem GTape_Wild_ok {p0 : GTape} {r : Int × GTape} (h : GTape_Wild p0 = some r) : LCall Try.prog 38 [.ptr 7 0] (Mem.of [(7, .box [.lst 1 (List.map (LV.int .i64) p0.L), .int .i64 p0.At])]) (.int .i64 r.1) (Mem.of [(7, .box [.lst 1 (List.map (LV.int .i64) r.2.L), .int .i64 r.2.At])]) := by
  unfold GTape_Wild at h
  refine bodyT Try.func38 rfl (by rw [Try.ntmps38]; exact Nat.le_of_ble_eq_true rfl) ?_
  refine LH.wk (Wk.to (el := [(0, .ptr 7 0)]) (ml := [(7, .box [.lst 1 (List.map (LV.int .i64) p0.L), .int .i64 p0.At])]) (eC rfl eN) (mC rfl mN) rfl (prK rfl)) ?_
  refine LH.seqT [(0, .ptr 7 0)] [(7, .box [.lst 1 (List.map (LV.int .i64) p0.L), .int .i64 p0.At])] rfl ?_ ?_
  · refine sN (oA (v := (.int _ _)) rfl ?_)
    exact s0 (Wk.to (eC rfl eN) (mC rfl mN) rfl (prK rfl))
  obtain ⟨r1, hr1, h⟩ := bindS h
  refine LH.seqT [(2, .int .i64 r1.1)] [(7, .box [.lst 1 (List.map (LV.int .i64) r1.2.L), .int .i64 r1.2.At])] rfl ?_ ?_
  · refine sN (oM (v := (.ptr _ _)) rfl ?_)
    refine sN (oBS (f := (LV.int .i64)) (ys := [(-1), 0, 1, 2, 31, 32, 99, 100, 200, 201, 9999, 10000, 1000000, 1000001, 1152921504606846976, 1152921504606846977, (-1152921504606846976), 9223372036854775807, (-9223372036854775808)]) te22 tr3 ts3 rfl rfl rfl okI ?_)
    refine sN (oCM (args := [.ptr 7 0, .lst 1 (List.map (LV.int .i64) [(-1), 0, 1, 2, 31, 32, 99, 100, 200, 201, 9999, 10000, 1000000, 1000001, 1152921504606846976, 1152921504606846977, (-1152921504606846976), 9223372036854775807, (-9223372036854775808)])]) (ml := [(7, .box [.lst 1 (List.map (LV.int .i64) p0.L), .int .i64 p0.At])]) (ml' := [(7, .box [.lst 1 (List.map (LV.int .i64) r1.2.L), .int .i64 r1.2.At])]) rfl isF36 rfl (sbR (sbR sbN)) (GTape_Pick_ok hr1) (mC rfl mN) (newI rfl newN) rfl ?_)
    refine sN (oA (v := (.int _ _)) rfl ?_)
    exact s0 (Wk.to (eC rfl eN) (mC rfl mN) rfl (prK rfl))
  refine LH.ret ?_
  obtain rfl := Option.some.inj h
  exact retE (congrArg Array.toList Try.results38) (lrT rfl (lr0 ⟨memN (mC rfl mN), rfl, prK rfl, Sub.rfl⟩))

theorem GTape_Stamp_ok {p0 : GTape} {p1 : Int} {r : GStamp × GTape} (h : GTape_Stamp p0 p1 = some r) : LCall Try.prog 39 [.ptr 7 0, .int .i64 p1] (Mem.of [(7, .box [.lst 1 (List.map (LV.int .i64) p0.L), .int .i64 p0.At])]) (.agg [.int .i64 r.1.Time, .int .i64 r.1.Source, .int .i64 r.1.Seq]) (Mem.of [(7, .box [.lst 1 (List.map (LV.int .i64) r.2.L), .int .i64 r.2.At])]) := by
  unfold GTape_Stamp at h
  refine bodyT Try.func39 rfl (by rw [Try.ntmps39]; exact Nat.le_of_ble_eq_true rfl) ?_
  refine LH.wk (Wk.to (el := [(0, .ptr 7 0), (1, .int .i64 p1)]) (ml := [(7, .box [.lst 1 (List.map (LV.int .i64) p0.L), .int .i64 p0.At])]) (eC rfl (eC rfl eN)) (mC rfl mN) rfl (prK rfl)) ?_
  refine LH.seqT [(0, .ptr 7 0), (1, .int .i64 p1), (4, .ptr 104 0)] [(7, .box [.lst 1 (List.map (LV.int .i64) p0.L), .int .i64 p0.At]), (104, .box [.int .i64 0, .int .i64 0, .int .i64 0])] rfl ?_ ?_
  · refine sN (oAl (id := 104) rfl tz31 rfl rfl ?_)
    exact s0 (Wk.to (eC rfl (eC rfl (eC rfl eN))) (mC rfl (mC rfl mN)) rfl (prK rfl))
  obtain ⟨r1, hr1, h⟩ := bindS h
  obtain ⟨r2, hr2, h⟩ := bindS h
  obtain ⟨r3, hr3, h⟩ := bindS h
  refine LH.seqT [(0, .ptr 7 0), (1, .int .i64 p1), (4, .ptr 104 0), (5, .ptr 105 0)] [(7, .box [.lst 1 (List.map (LV.int .i64) r3.2.L), .int .i64 r3.2.At]), (104, .box [.int .i64 0, .int .i64 0, .int .i64 0]), (105, .box [.int .i64 r1.1, .int .i64 r2.1, .int .i64 r3.1])] rfl ?_ ?_
  · refine sN (oM (v := (.ptr _ _)) rfl ?_)
    refine sN (oCM (args := [.ptr 7 0, .int .i64 0, .int .i64 24]) (ml := [(7, .box [.lst 1 (List.map (LV.int .i64) p0.L), .int .i64 p0.At])]) (ml' := [(7, .box [.lst 1 (List.map (LV.int .i64) r1.2.L), .int .i64 r1.2.At])]) rfl isF26 rfl (sbR (sbR (sbR sbN))) (GTape_Range_ok hr1) (mC rfl mN) (newI rfl newN) rfl ?_)
    refine sN (oM (v := (.ptr _ _)) rfl ?_)
    refine sN (oCM (args := [.ptr 7 0, .int .i64 0, .int .i64 3]) (ml := [(7, .box [.lst 1 (List.map (LV.int .i64) r1.2.L), .int .i64 r1.2.At])]) (ml' := [(7, .box [.lst 1 (List.map (LV.int .i64) r2.2.L), .int .i64 r2.2.At])]) rfl isF26 rfl (sbR (sbR (sbR sbN))) (GTape_Range_ok hr2) (mC rfl mN) (newI rfl newN) rfl ?_)
    refine sN (oM (v := (.ptr _ _)) rfl ?_)
    refine sN (oCM (args := [.ptr 7 0, .int .i64 0, .int .i64 9]) (ml := [(7, .box [.lst 1 (List.map (LV.int .i64) r2.2.L), .int .i64 r2.2.At])]) (ml' := [(7, .box [.lst 1 (List.map (LV.int .i64) r3.2.L), .int .i64 r3.2.At])]) rfl isF26 rfl (sbR (sbR (sbR sbN))) (GTape_Range_ok hr3) (mC rfl mN) (newI rfl newN) rfl ?_)
    refine sN (oBd (vs := [(0, .int .i64 r1.1), (1, .int .i64 r2.1), (2, .int .i64 r3.1)]) tu31 tz31 rfl (lf tf31_0 ts3 tk3 rfl rfl rfl (lf tf31_1 ts3 tk3 rfl rfl rfl (lf tf31_2 ts3 tk3 rfl rfl rfl lf0))) ?_)
    refine sN (oAl (id := 105) rfl tz31 rfl rfl ?_)
    refine s_ (oSt rfl rfl rfl tk31 ts31 rfl rfl rfl ?_)
    exact s0 (Wk.to (eC rfl (eC rfl (eC rfl (eC rfl eN)))) (mC rfl (mC rfl (mC rfl mN))) rfl (prK rfl))
  refine LH.seq ?_
  obtain ⟨w7, hv, h⟩ := bindS h
  refine LH.seqT [(0, .ptr 7 0), (4, .ptr 104 0), (5, .ptr 105 0), (19, .bool w7.1)] [(7, .box [.lst 1 (List.map (LV.int .i64) w7.2.1), .int .i64 w7.2.2]), (104, .box [.int .i64 0, .int .i64 0, .int .i64 0]), (105, .box [.int .i64 r1.1, .int .i64 r2.1, .int .i64 r3.1])] rfl ?_ ?_
  · refine sN (oM (v := (.int _ _)) rfl ?_)
    refine sN (oGt rfl rfl ?_)
    refine sN (oM (v := (.bool _)) rfl ?_)
    by_cases hb8 : (decide (p1 > 0)) = true
    · replace hv := iteT hv hb8
      refine sT rfl (congrArg LV.bool hb8) (oM (v := (.ptr _ _)) rfl ?_)
      refine sT rfl (congrArg LV.bool hb8) (oM (v := (.int _ _)) rfl ?_)
      obtain ⟨r9, hr9, hv⟩ := bindS hv
      refine sT rfl (congrArg LV.bool hb8) (oCM (args := [.ptr 7 0, .int .i64 p1]) (ml := [(7, .box [.lst 1 (List.map (LV.int .i64) r3.2.L), .int .i64 r3.2.At])]) (ml' := [(7, .box [.lst 1 (List.map (LV.int .i64) r9.2.L), .int .i64 r9.2.At])]) rfl isF37 rfl (sbR (sbR sbN)) (GTape_One_ok hr9) (mC rfl mN) (newI rfl newN) rfl ?_)
      refine sN (oPkT (congrArg LV.bool hb8) (v := (.bool _)) rfl ?_)
      obtain rfl := Option.some.inj hv
      exact s0 (Wk.to (eC rfl (eC rfl (eC rfl (eC rfl eN)))) (mC rfl (mC rfl (mC rfl mN))) rfl (prK rfl))
    · replace hb8 := bF hb8
      replace hv := iteF hv hb8
      refine sF rfl rfl hb8 ?_
      refine sF rfl rfl hb8 ?_
      refine sF rfl rfl hb8 ?_
      refine sN (oPkF (congrArg LV.bool hb8) (v := (.bool _)) rfl ?_)
      obtain rfl := Option.some.inj hv
      exact s0 (Wk.to (eC rfl (eC rfl (eC rfl (eC rfl eN)))) (mC rfl (mC rfl (mC rfl mN))) rfl (prK rfl))
  clear hv
  refine LH.cond (t := w7.1) rfl (fun hc10 => ?_) (fun hc10 => ?_)
  · replace h := iteT h hc10
    obtain ⟨r11, hr11, h⟩ := bindS h
    refine LH.seqT [(0, .ptr 7 0), (4, .ptr 104 0), (5, .ptr 105 0), (21, .int .i64 r11.1)] [(7, .box [.lst 1 (List.map (LV.int .i64) r11.2.L), .int .i64 r11.2.At]), (104, .box [.int .i64 0, .int .i64 0, .int .i64 0]), (105, .box [.int .i64 r1.1, .int .i64 r2.1, .int .i64 r3.1])] rfl ?_ ?_
    · refine sN (oM (v := (.ptr _ _)) rfl ?_)
      refine sN (oCM (args := [.ptr 7 0, .int .i64 3]) (ml := [(7, .box [.lst 1 (List.map (LV.int .i64) w7.2.1), .int .i64 w7.2.2])]) (ml' := [(7, .box [.lst 1 (List.map (LV.int .i64) r11.2.L), .int .i64 r11.2.At])]) rfl isF15 rfl (sbR (sbR sbN)) (GTape_Next_ok hr11) (mC rfl mN) (newI rfl newN) rfl ?_)
      exact s0 (Wk.to (eC rfl (eC rfl (eC rfl (eC rfl eN)))) (mC rfl (mC rfl (mC rfl mN))) rfl (prK rfl))
    refine LH.block ?_
    refine LH.seqT [(0, .ptr 7 0), (4, .ptr 104 0), (5, .ptr 105 0), (21, .int .i64 r11.1), (25, .bool (r11.1 == 0))] [(7, .box [.lst 1 (List.map (LV.int .i64) r11.2.L), .int .i64 r11.2.At]), (104, .box [.int .i64 0, .int .i64 0, .int .i64 0]), (105, .box [.int .i64 r1.1, .int .i64 r2.1, .int .i64 r3.1])] rfl ?_ ?_
    · refine sN (oEq rfl rfl ?_)
      refine sN (oA (v := (.bool _)) rfl ?_)
      exact s0 (Wk.to (eC rfl (eC rfl (eC rfl (eC rfl (eC rfl eN))))) (mC rfl (mC rfl (mC rfl mN))) rfl (prK rfl))
    refine LH.cond (t := (r11.1 == 0)) rfl (fun hc12 => ?_) (fun hc12 => ?_)
    · replace h := iteT h hc12
      obtain ⟨r13, hr13, h⟩ := bindS h
      refine LH.loneT [(4, .ptr 104 0), (5, .sptr [.int .i64 r13.1, .int .i64 r2.1, .int .i64 r3.1])] [(7, .box [.lst 1 (List.map (LV.int .i64) r13.2.L), .int .i64 r13.2.At]), (104, .box [.int .i64 0, .int .i64 0, .int .i64 0])] rfl ?_ ?_
      · refine sN (oM (v := (.ptr _ _)) rfl ?_)
        refine sN (oCM (args := [.ptr 7 0]) (ml := [(7, .box [.lst 1 (List.map (LV.int .i64) r11.2.L), .int .i64 r11.2.At])]) (ml' := [(7, .box [.lst 1 (List.map (LV.int .i64) r13.2.L), .int .i64 r13.2.At])]) rfl isF38 rfl (sbR sbN) (GTape_Wild_ok hr13) (mC rfl mN) (newI rfl newN) rfl ?_)
        refine sN (oFa tf31_0 tk3 ts3 rfl rfl ?_)
        refine s_ (oSt rfl rfl rfl tk3 ts3 rfl rfl rfl ?_)
        exact s0 ((Wk.trans (Wk.to (el := [(4, .ptr 104 0), (5, .ptr 105 0)]) (ml := [(7, .box [.lst 1 (List.map (LV.int .i64) r13.2.L), .int .i64 r13.2.At]), (104, .box [.int .i64 0, .int .i64 0, .int .i64 0]), (105, .box [.int .i64 r13.1, .int .i64 r2.1, .int .i64 r3.1])]) (eC rfl (eC rfl eN)) (mC rfl (mC rfl (mC rfl mN))) rfl (prK rfl)) (Wk.trans (Wk.frzB 105 [.int .i64 r13.1, .int .i64 r2.1, .int .i64 r3.1] rfl rfl rfl (prN rfl)) (Wk.to (eC rfl (eC rfl eN)) (mC rfl (mC rfl mN)) rfl (prK rfl)))))
      refine blockN ?_
      refine thenN ?_
      refine LH.seqT [(4, .sptr [.int .i64 r13.1, .int .i64 r2.1, .int .i64 r3.1])] [(7, .box [.lst 1 (List.map (LV.int .i64) r13.2.L), .int .i64 r13.2.At])] rfl ?_ ?_
      · refine sN (oLdA rfl tk31 ta31 ts31 rfl rfl ?_)
        refine s_ (oSt rfl rfl rfl tk31 ts31 rfl rfl rfl ?_)
        exact s0 ((Wk.trans (Wk.to (el := [(4, .ptr 104 0)]) (ml := [(7, .box [.lst 1 (List.map (LV.int .i64) r13.2.L), .int .i64 r13.2.At]), (104, .box [.int .i64 r13.1, .int .i64 r2.1, .int .i64 r3.1])]) (eC rfl eN) (mC rfl (mC rfl mN)) rfl (prK rfl)) (Wk.trans (Wk.frzB 104 [.int .i64 r13.1, .int .i64 r2.1, .int .i64 r3.1] rfl rfl rfl (prN rfl)) (Wk.to (eC rfl eN) (mC rfl mN) rfl (prK rfl)))))
      refine LH.ret ?_
      obtain rfl := Option.some.inj h
      exact retE (congrArg Array.toList Try.results39) (lrSA rfl tk31 ta31 ts31 rfl rfl (lr0 ⟨memN (mC rfl mN), rfl, prK rfl, Sub.rfl⟩))
    replace h := iteF h hc12
    refine LH.seqT [(0, .ptr 7 0), (4, .ptr 104 0), (5, .ptr 105 0), (30, .bool (r11.1 == 1))] [(7, .box [.lst 1 (List.map (LV.int .i64) r11.2.L), .int .i64 r11.2.At]), (104, .box [.int .i64 0, .int .i64 0, .int .i64 0]), (105, .box [.int .i64 r1.1, .int .i64 r2.1, .int .i64 r3.1])] rfl ?_ ?_
    · refine sN (oEq rfl rfl ?_)
      refine sN (oA (v := (.bool _)) rfl ?_)
      exact s0 (Wk.to (eC rfl (eC rfl (eC rfl (eC rfl eN)))) (mC rfl (mC rfl (mC rfl mN))) rfl (prK rfl))
    refine LH.cond (t := (r11.1 == 1)) rfl (fun hc14 => ?_) (fun hc14 => ?_)
    · replace h := iteT h hc14
      obtain ⟨r15, hr15, h⟩ := bindS h
      refine LH.loneT [(4, .ptr 104 0), (5, .sptr [.int .i64 r1.1, .int .i64 r15.1, .int .i64 r3.1])] [(7, .box [.lst 1 (List.map (LV.int .i64) r15.2.L), .int .i64 r15.2.At]), (104, .box [.int .i64 0, .int .i64 0, .int .i64 0])] rfl ?_ ?_
      · refine sN (oM (v := (.ptr _ _)) rfl ?_)
        refine sN (oCM (args := [.ptr 7 0]) (ml := [(7, .box [.lst 1 (List.map (LV.int .i64) r11.2.L), .int .i64 r11.2.At])]) (ml' := [(7, .box [.lst 1 (List.map (LV.int .i64) r15.2.L), .int .i64 r15.2.At])]) rfl isF38 rfl (sbR sbN) (GTape_Wild_ok hr15) (mC rfl mN) (newI rfl newN) rfl ?_)
        refine sN (oFa tf31_1 tk3 ts3 rfl rfl ?_)
        refine s_ (oSt rfl rfl rfl tk3 ts3 rfl rfl rfl ?_)
        exact s0 ((Wk.trans (Wk.to (el := [(4, .ptr 104 0), (5, .ptr 105 0)]) (ml := [(7, .box [.lst 1 (List.map (LV.int .i64) r15.2.L), .int .i64 r15.2.At]), (104, .box [.int .i64 0, .int .i64 0, .int .i64 0]), (105, .box [.int .i64 r1.1, .int .i64 r15.1, .int .i64 r3.1])]) (eC rfl (eC rfl eN)) (mC rfl (mC rfl (mC rfl mN))) rfl (prK rfl)) (Wk.trans (Wk.frzB 105 [.int .i64 r1.1, .int .i64 r15.1, .int .i64 r3.1] rfl rfl rfl (prN rfl)) (Wk.to (eC rfl (eC rfl eN)) (mC rfl (mC rfl mN)) rfl (prK rfl)))))
      refine blockN ?_
      refine thenN ?_
      refine LH.seqT [(4, .sptr [.int .i64 r1.1, .int .i64 r15.1, .int .i64 r3.1])] [(7, .box [.lst 1 (List.map (LV.int .i64) r15.2.L), .int .i64 r15.2.At])] rfl ?_ ?_
      · refine sN (oLdA rfl tk31 ta31 ts31 rfl rfl ?_)
        refine s_ (oSt rfl rfl rfl tk31 ts31 rfl rfl rfl ?_)
        exact s0 ((Wk.trans (Wk.to (el := [(4, .ptr 104 0)]) (ml := [(7, .box [.lst 1 (List.map (LV.int .i64) r15.2.L), .int .i64 r15.2.At]), (104, .box [.int .i64 r1.1, .int .i64 r15.1, .int .i64 r3.1])]) (eC rfl eN) (mC rfl (mC rfl mN)) rfl (prK rfl)) (Wk.trans (Wk.frzB 104 [.int .i64 r1.1, .int .i64 r15.1, .int .i64 r3.1] rfl rfl rfl (prN rfl)) (Wk.to (eC rfl eN) (mC rfl mN) rfl (prK rfl)))))
      refine LH.ret ?_
      obtain rfl := Option.some.inj h
      exact retE (congrArg Array.toList Try.results39) (lrSA rfl tk31 ta31 ts31 rfl rfl (lr0 ⟨memN (mC rfl mN), rfl, prK rfl, Sub.rfl⟩))
    replace h := iteF h hc14
    obtain ⟨r16, hr16, h⟩ := bindS h
    refine LH.loneT [(4, .ptr 104 0), (5, .sptr [.int .i64 r1.1, .int .i64 r2.1, .int .i64 r16.1])] [(7, .box [.lst 1 (List.map (LV.int .i64) r16.2.L), .int .i64 r16.2.At]), (104, .box [.int .i64 0, .int .i64 0, .int .i64 0])] rfl ?_ ?_
    · refine sN (oM (v := (.ptr _ _)) rfl ?_)
      refine sN (oCM (args := [.ptr 7 0]) (ml := [(7, .box [.lst 1 (List.map (LV.int .i64) r11.2.L), .int .i64 r11.2.At])]) (ml' := [(7, .box [.lst 1 (List.map (LV.int .i64) r16.2.L), .int .i64 r16.2.At])]) rfl isF38 rfl (sbR sbN) (GTape_Wild_ok hr16) (mC rfl mN) (newI rfl newN) rfl ?_)
      refine sN (oFa tf31_2 tk3 ts3 rfl rfl ?_)
      refine s_ (oSt rfl rfl rfl tk3 ts3 rfl rfl rfl ?_)
      exact s0 ((Wk.trans (Wk.to (el := [(4, .ptr 104 0), (5, .ptr 105 0)]) (ml := [(7, .box [.lst 1 (List.map (LV.int .i64) r16.2.L), .int .i64 r16.2.At]), (104, .box [.int .i64 0, .int .i64 0, .int .i64 0]), (105, .box [.int .i64 r1.1, .int .i64 r2.1, .int .i64 r16.1])]) (eC rfl (eC rfl eN)) (mC rfl (mC rfl (mC rfl mN))) rfl (prK rfl)) (Wk.trans (Wk.frzB 105 [.int .i64 r1.1, .int .i64 r2.1, .int .i64 r16.1] rfl rfl rfl (prN rfl)) (Wk.to (eC rfl (eC rfl eN)) (mC rfl (mC rfl mN)) rfl (prK rfl)))))
    refine blockN ?_
    refine thenN ?_
    refine LH.seqT [(4, .sptr [.int .i64 r1.1, .int .i64 r2.1, .int .i64 r16.1])] [(7, .box [.lst 1 (List.map (LV.int .i64) r16.2.L), .int .i64 r16.2.At])] rfl ?_ ?_
    · refine sN (oLdA rfl tk31 ta31 ts31 rfl rfl ?_)
      refine s_ (oSt rfl rfl rfl tk31 ts31 rfl rfl rfl ?_)
      exact s0 ((Wk.trans (Wk.to (el := [(4, .ptr 104 0)]) (ml := [(7, .box [.lst 1 (List.map (LV.int .i64) r16.2.L), .int .i64 r16.2.At]), (104, .box [.int .i64 r1.1, .int .i64 r2.1, .int .i64 r16.1])]) (eC rfl eN) (mC rfl (mC rfl mN)) rfl (prK rfl)) (Wk.trans (Wk.frzB 104 [.int .i64 r1.1, .int .i64 r2.1, .int .i64 r16.1] rfl rfl rfl (prN rfl)) (Wk.to (eC rfl eN) (mC rfl mN) rfl (prK rfl)))))
    refine LH.ret ?_
    obtain rfl := Option.some.inj h
    exact retE (congrArg Array.toList Try.results39) (lrSA rfl tk31 ta31 ts31 rfl rfl (lr0 ⟨memN (mC rfl mN), rfl, prK rfl, Sub.rfl⟩))
  replace h := iteF h hc10
  refine LH.skip ?_
  refine thenN ?_
  refine LH.wk ((Wk.trans (Wk.to (el := [(4, .ptr 104 0), (5, .ptr 105 0)]) (ml := [(7, .box [.lst 1 (List.map (LV.int .i64) w7.2.1), .int .i64 w7.2.2]), (104, .box [.int .i64 0, .int .i64 0, .int .i64 0]), (105, .box [.int .i64 r1.1, .int .i64 r2.1, .int .i64 r3.1])]) (eC rfl (eC rfl eN)) (mC rfl (mC rfl (mC rfl mN))) rfl (prK rfl)) (Wk.trans (Wk.frzB 105 [.int .i64 r1.1, .int .i64 r2.1, .int .i64 r3.1] rfl rfl rfl (prN rfl)) (Wk.to (el := [(4, .ptr 104 0), (5, .sptr [.int .i64 r1.1, .int .i64 r2.1, .int .i64 r3.1])]) (ml := [(7, .box [.lst 1 (List.map (LV.int .i64) w7.2.1), .int .i64 w7.2.2]), (104, .box [.int .i64 0, .int .i64 0, .int .i64 0])]) (eC rfl (eC rfl eN)) (mC rfl (mC rfl mN)) rfl (prK rfl))))) ?_
  refine LH.seqT [(4, .sptr [.int .i64 r1.1, .int .i64 r2.1, .int .i64 r3.1])] [(7, .box [.lst 1 (List.map (LV.int .i64) w7.2.1), .int .i64 w7.2.2])] rfl ?_ ?_
  · refine sN (oLdA rfl tk31 ta31 ts31 rfl rfl ?_)
    refine s_ (oSt rfl rfl rfl tk31 ts31 rfl rfl rfl ?_)
    exact s0 ((Wk.trans (Wk.to (el := [(4, .ptr 104 0)]) (ml := [(7, .box [.lst 1 (List.map (LV.int .i64) w7.2.1), .int .i64 w7.2.2]), (104, .box [.int .i64 r1.1, .int .i64 r2.1, .int .i64 r3.1])]) (eC rfl eN) (mC rfl (mC rfl mN)) rfl (prK rfl)) (Wk.trans (Wk.frzB 104 [.int .i64 r1.1, .int .i64 r2.1, .int .i64 r3.1] rfl rfl rfl (prN rfl)) (Wk.to (eC rfl eN) (mC rfl mN) rfl (prK rfl)))))
  refine LH.ret ?_
  obtain rfl := Option.some.inj h
  exact retE (congrArg Array.toList Try.results39) (lrSA rfl tk31 ta31 ts31 rfl rfl (lr0 ⟨memN (mC rfl mN), rfl, prK rfl, Sub.rfl⟩))

theorem GTape_RegisterEvents_ok {F : Nat} {p0 : GTape} {p1 : Int} {p2 : Int} {r : List GRegisterEvent × GTape} (h : GTape_RegisterEvents F p0 p1 p2 = some r) : LCall Try.prog 12 [.ptr 7 0, .int .i64 p1, .int .i64 p2] (Mem.of [(7, .box [.lst 1 (List.map (LV.int .i64) p0.L), .int .i64 p0.At])]) (.lst 6 (List.map GRegisterEvent.lv r.1)) (Mem.of [(7, .box [.lst 1 (List.map (LV.int .i64) r.2.L), .int .i64 r.2.At])]) := by
  unfold GTape_RegisterEvents at h
  refine bodyT Try.func12 rfl (by rw [Try.ntmps12]; exact Nat.le_of_ble_eq_true rfl) ?_
  refine LH.wk (Wk.to (el := [(0, .ptr 7 0), (1, .int .i64 p1), (2, .int .i64 p2)]) (ml := [(7, .box [.lst 1 (List.map (LV.int .i64) p0.L), .int .i64 p0.At])]) (eC rfl (eC rfl (eC rfl eN))) (mC rfl mN) rfl (prK rfl)) ?_
  refine LH.seqT [(0, .ptr 7 0), (1, .int .i64 p1), (2, .int .i64 p2)] [(7, .box [.lst 1 (List.map (LV.int .i64) p0.L), .int .i64 p0.At])] rfl ?_ ?_
  · refine sN (oA (v := .nil) rfl ?_)
    exact s0 (Wk.to (eC rfl (eC rfl (eC rfl eN))) (mC rfl mN) rfl (prK rfl))
  refine LH.seqT [(0, .ptr 7 0), (1, .int .i64 p1), (2, .int .i64 p2), (7, .nil)] [(7, .box [.lst 1 (List.map (LV.int .i64) p0.L), .int .i64 p0.At])] rfl ?_ ?_
  · refine sN (oA (v := .nil) rfl ?_)
    exact s0 (Wk.to (eC rfl (eC rfl (eC rfl (eC rfl eN)))) (mC rfl mN) rfl (prK rfl))
  refine LH.seq ?_
  obtain ⟨r1, hr1, h⟩ := bindS h
  refine LH.seqT [(0, .ptr 7 0), (2, .int .i64 p2), (7, .nil), (8, .int .i64 r1.1)] [(7, .box [.lst 1 (List.map (LV.int .i64) r1.2.L), .int .i64 r1.2.At])] rfl ?_ ?_
  · refine sN (oM (v := (.ptr _ _)) rfl ?_)
    refine sN (oM (v := (.int _ _)) rfl ?_)
    refine sN (oCM (args := [.ptr 7 0, .int .i64 0, .int .i64 p1]) (ml := [(7, .box [.lst 1 (List.map (LV.int .i64) p0.L), .int .i64 p0.At])]) (ml' := [(7, .box [.lst 1 (List.map (LV.int .i64) r1.2.L), .int .i64 r1.2.At])]) rfl isF26 rfl (sbR (sbR (sbR sbN))) (GTape_Range_ok hr1) (mC rfl mN) (newI rfl newN) rfl ?_)
    refine sN (oA (v := (.int _ _)) rfl ?_)
    exact s0 (Wk.to (eC rfl (eC rfl (eC rfl (eC rfl eN)))) (mC rfl mN) rfl (prK rfl))
  refine LH.block ?_
  refine LH.wk ((Wk.trans (Wk.to (el := [(0, .ptr 7 0), (2, .int .i64 p2), (7, .nil), (8, .int .i64 r1.1)]) (ml := [(7, .box [.lst 1 (List.map (LV.int .i64) r1.2.L), .int .i64 r1.2.At])]) (eC rfl (eC rfl (eC rfl (eC rfl eN)))) (mC rfl mN) rfl (prK rfl)) (Wk.trans (Wk.to (el := [(0, .ptr 7 0), (2, .int .i64 p2), (7, .nil), (8, .int .i64 r1.1)]) (ml := [(7, .box [.lst 1 (List.map (LV.int .i64) r1.2.L), .int .i64 r1.2.At])]) (eC rfl (eC rfl (eC rfl (eC rfl eN)))) (mC rfl mN) rfl (prK rfl)) (Wk.trans (Wk.ownL (el' := [(0, .ptr 7 0), (2, .int .i64 p2), (7, .arr 163 (List.length ([] : List GRegisterEvent))), (8, .int .i64 r1.1)]) 163 33 6 rfl rfl (wK (wK (wO (wK wN))))) (Wk.to (el := [(0, .ptr 7 0), (2, .int .i64 p2), (7, .arr 163 (List.length ([] : List GRegisterEvent))), (8, .int .i64 r1.1)]) (ml := [(7, .box [.lst 1 (List.map (LV.int .i64) r1.2.L), .int .i64 r1.2.At]), (163, .arr 33 6 (List.map GRegisterEvent.lv ([] : List GRegisterEvent)))]) (eC rfl (eC rfl (eC rfl (eC rfl eN)))) (mC rfl (mC rfl mN)) rfl (prK rfl)))))) ?_
  refine LH.loop (fun n e m => ∃ (n2 : Int) (l3 : List Int) (n4 : Int) (l5 : List GRegisterEvent), GTape_RegisterEvents_L1 p2 n n2 l3 n4 l5 = some r ∧ e = Env.of [(0, .ptr 7 0), (2, .int .i64 p2), (7, .arr 163 (List.length l5)), (8, .int .i64 n2)] ∧ m = Mem.of [(7, .box [.lst 1 (List.map (LV.int .i64) l3), .int .i64 n4]), (163, .arr 33 6 (List.map GRegisterEvent.lv l5))]) F ⟨r1.1, r1.2.L, r1.2.At, ([] : List GRegisterEvent), h, rfl, rfl⟩ ?_
  clear h
  rintro n e m ⟨n2, l3, n4, l5, h, rfl, rfl⟩
  rcases n with _ | n
  · cases (show Option.none = some _ from h)
  obtain ⟨rec1, hrec1⟩ : ∃ f, f = GTape_RegisterEvents_L1 p2 n := ⟨_, rfl⟩
  replace h : GTape_RegisterEvents_L1_B p2 rec1 n2 l3 n4 l5 = some r := hrec1 ▸ h
  unfold GTape_RegisterEvents_L1_B at h
  refine LH.seq ?_
  refine LH.seqT [(0, .ptr 7 0), (2, .int .i64 p2), (7, .arr 163 (List.length l5)), (8, .int .i64 n2), (14, .bool (decide (n2 > 0)))] [(7, .box [.lst 1 (List.map (LV.int .i64) l3), .int .i64 n4]), (163, .arr 33 6 (List.map GRegisterEvent.lv l5))] rfl ?_ ?_
  · refine sN (oM (v := (.int _ _)) rfl ?_)
    refine sN (oGt rfl rfl ?_)
    exact s0 (Wk.to (eC rfl (eC rfl (eC rfl (eC rfl (eC rfl eN))))) (mC rfl (mC rfl mN)) rfl (prK rfl))
  refine LH.cond (t := (decide (n2 > 0))) rfl (fun hc6 => ?_) (fun hc6 => ?_)
  · replace h := iteT h hc6
    refine LH.skip ?_
    refine thenN ?_
    refine LH.wk (Wk.to (el := [(0, .ptr 7 0), (2, .int .i64 p2), (7, .arr 163 (List.length l5)), (8, .int .i64 n2)]) (ml := [(7, .box [.lst 1 (List.map (LV.int .i64) l3), .int .i64 n4]), (163, .arr 33 6 (List.map GRegisterEvent.lv l5))]) (eC rfl (eC rfl (eC rfl (eC rfl eN)))) (mC rfl (mC rfl mN)) rfl (prK rfl)) ?_
    refine LH.seq ?_
    refine LH.block ?_
    obtain ⟨r7, hr7, h⟩ := bindS h
    obtain ⟨r8, hr8, h⟩ := bindS h
    obtain ⟨r9, hr9, h⟩ := bindS h
    obtain ⟨r10, hr10, h⟩ := bindS h
    obtain ⟨r11, hr11, h⟩ := bindS h
    refine LH.seqT [(0, .ptr 7 0), (2, .int .i64 p2), (7, .arr 163 (List.length l5)), (8, .int .i64 n2), (9, .ptr 109 0)] [(7, .box [.lst 1 (List.map (LV.int .i64) r11.2.L), .int .i64 r11.2.At]), (109, .box [.int .i64 r7.1, .int .i64 r8.1, .int .i64 (l5.length : Int), .int .i64 r9.1, .int .i64 r10.1, .int .i64 r11.1]), (163, .arr 33 6 (List.map GRegisterEvent.lv l5))] rfl ?_ ?_
    · refine sN (oM (v := (.ptr _ _)) rfl ?_)
      refine sN (oCM (args := [.ptr 7 0, .int .i64 0, .int .i64 24]) (ml := [(7, .box [.lst 1 (List.map (LV.int .i64) l3), .int .i64 n4])]) (ml' := [(7, .box [.lst 1 (List.map (LV.int .i64) r7.2.L), .int .i64 r7.2.At])]) rfl isF26 rfl (sbR (sbR (sbR sbN))) (GTape_Range_ok hr7) (mC rfl mN) (newI rfl newN) rfl ?_)
      refine sN (oM (v := (.ptr _ _)) rfl ?_)
      refine sN (oBS (f := (LV.int .i64)) (ys := [0, 0, 1, 2, 3]) te22 tr3 ts3 rfl rfl rfl okI ?_)
      refine sN (oCM (args := [.ptr 7 0, .lst 1 (List.map (LV.int .i64) [0, 0, 1, 2, 3])]) (ml := [(7, .box [.lst 1 (List.map (LV.int .i64) r7.2.L), .int .i64 r7.2.At])]) (ml' := [(7, .box [.lst 1 (List.map (LV.int .i64) r8.2.L), .int .i64 r8.2.At])]) rfl isF36 rfl (sbR (sbR sbN)) (GTape_Pick_ok hr8) (mC rfl mN) (newI rfl newN) rfl ?_)
      refine sN (oM (v := (.arr _ _)) rfl ?_)
      refine sN (oLnA (f := GRegisterEvent.lv) te25 rfl rfl ?_)
      refine sN (oBd (vs := [(0, .int .i64 r7.1), (1, .int .i64 r8.1), (2, .int .i64 (l5.length : Int))]) tu31 tz31 rfl (lf tf31_0 ts3 tk3 rfl rfl rfl (lf tf31_1 ts3 tk3 rfl rfl rfl (lf tf31_2 ts3 tk3 rfl rfl rfl lf0))) ?_)
      refine sN (oM (v := (.ptr _ _)) rfl ?_)
      refine sN (oCM (args := [.ptr 7 0, .int .i64 1, .int .i64 5]) (ml := [(7, .box [.lst 1 (List.map (LV.int .i64) r8.2.L), .int .i64 r8.2.At])]) (ml' := [(7, .box [.lst 1 (List.map (LV.int .i64) r9.2.L), .int .i64 r9.2.At])]) rfl isF26 rfl (sbR (sbR (sbR sbN))) (GTape_Range_ok hr9) (mC rfl mN) (newI rfl newN) rfl ?_)
      refine sN (oM (v := (.ptr _ _)) rfl ?_)
      refine sN (oCM (args := [.ptr 7 0, .int .i64 5]) (ml := [(7, .box [.lst 1 (List.map (LV.int .i64) r9.2.L), .int .i64 r9.2.At])]) (ml' := [(7, .box [.lst 1 (List.map (LV.int .i64) r10.2.L), .int .i64 r10.2.At])]) rfl isF15 rfl (sbR (sbR sbN)) (GTape_Next_ok hr10) (mC rfl mN) (newI rfl newN) rfl ?_)
      refine sN (oM (v := (.ptr _ _)) rfl ?_)
      refine sN (oCM (args := [.ptr 7 0, .int .i64 60]) (ml := [(7, .box [.lst 1 (List.map (LV.int .i64) r10.2.L), .int .i64 r10.2.At])]) (ml' := [(7, .box [.lst 1 (List.map (LV.int .i64) r11.2.L), .int .i64 r11.2.At])]) rfl isF15 rfl (sbR (sbR sbN)) (GTape_Next_ok hr11) (mC rfl mN) (newI rfl newN) rfl ?_)
      refine sN (oBd (vs := [(0, .agg [.int .i64 r7.1, .int .i64 r8.1, .int .i64 (l5.length : Int)]), (1, .int .i64 r9.1), (2, .int .i64 r10.1), (3, .int .i64 r11.1)]) tu33 tz33 rfl (lf tf33_0 ts31 tk31 rfl rfl rfl (lf tf33_1 ts3 tk3 rfl rfl rfl (lf tf33_2 ts3 tk3 rfl rfl rfl (lf tf33_3 ts3 tk3 rfl rfl rfl lf0)))) ?_)
      refine sN (oAl (id := 109) rfl tz33 rfl rfl ?_)
      refine s_ (oSt rfl rfl rfl tk33 ts33 rfl rfl rfl ?_)
      exact s0 (Wk.to (eC rfl (eC rfl (eC rfl (eC rfl (eC rfl eN))))) (mC rfl (mC rfl (mC rfl mN))) rfl (prK rfl))
    refine LH.mid (fun e m => ∃ (n12 : Int) (n13 : Int) (n14 : Int) (n15 : Int) (n16 : Int) (n17 : Int) (l18 : List Int) (n19 : Int), GTape_RegisterEvents_J2 rec1 n2 l5 n12 n13 n14 n15 n16 n17 l18 n19 = some r ∧ Wk (fun id => Mem.of [(7, .box [.lst 1 (List.map (LV.int .i64) p0.L), .int .i64 p0.At])] id ≠ .none) e m (Env.of [(0, .ptr 7 0), (2, .int .i64 p2), (7, .arr 163 (List.length l5)), (8, .int .i64 n2), (9, .sptr [.int .i64 n12, .int .i64 n13, .int .i64 n14, .int .i64 n15, .int .i64 n16, .int .i64 n17])]) (Mem.of [(7, .box [.lst 1 (List.map (LV.int .i64) l18), .int .i64 n19]), (163, .arr 33 6 (List.map GRegisterEvent.lv l5))])) ?_ ?_
    · obtain ⟨w29, hv, h⟩ := bindS h
      refine LH.seqT [(0, .ptr 7 0), (2, .int .i64 p2), (7, .arr 163 (List.length l5)), (8, .int .i64 n2), (9, .ptr 109 0), (38, .bool w29.1)] [(7, .box [.lst 1 (List.map (LV.int .i64) w29.2.1), .int .i64 w29.2.2]), (109, .box [.int .i64 r7.1, .int .i64 r8.1, .int .i64 (l5.length : Int), .int .i64 r9.1, .int .i64 r10.1, .int .i64 r11.1]), (163, .arr 33 6 (List.map GRegisterEvent.lv l5))] rfl ?_ ?_
      · refine sN (oM (v := (.int _ _)) rfl ?_)
        refine sN (oGt rfl rfl ?_)
        refine sN (oM (v := (.bool _)) rfl ?_)
        by_cases hb30 : (decide (p2 > 0)) = true
        · replace hv := iteT hv hb30
          refine sT rfl (congrArg LV.bool hb30) (oM (v := (.ptr _ _)) rfl ?_)
          refine sT rfl (congrArg LV.bool hb30) (oM (v := (.int _ _)) rfl ?_)
          obtain ⟨r31, hr31, hv⟩ := bindS hv
          refine sT rfl (congrArg LV.bool hb30) (oCM (args := [.ptr 7 0, .int .i64 p2]) (ml := [(7, .box [.lst 1 (List.map (LV.int .i64) r11.2.L), .int .i64 r11.2.At])]) (ml' := [(7, .box [.lst 1 (List.map (LV.int .i64) r31.2.L), .int .i64 r31.2.At])]) rfl isF37 rfl (sbR (sbR sbN)) (GTape_One_ok hr31) (mC rfl mN) (newI rfl newN) rfl ?_)
          refine sN (oPkT (congrArg LV.bool hb30) (v := (.bool _)) rfl ?_)
          obtain rfl := Option.some.inj hv
          exact s0 (Wk.to (eC rfl (eC rfl (eC rfl (eC rfl (eC rfl (eC rfl eN)))))) (mC rfl (mC rfl (mC rfl mN))) rfl (prK rfl))
        · replace hb30 := bF hb30
          replace hv := iteF hv hb30
          refine sF rfl rfl hb30 ?_
          refine sF rfl rfl hb30 ?_
          refine sF rfl rfl hb30 ?_
          refine sN (oPkF (congrArg LV.bool hb30) (v := (.bool _)) rfl ?_)
          obtain rfl := Option.some.inj hv
          exact s0 (Wk.to (eC rfl (eC rfl (eC rfl (eC rfl (eC rfl (eC rfl eN)))))) (mC rfl (mC rfl (mC rfl mN))) rfl (prK rfl))
      clear hv
      refine LH.cond (t := w29.1) rfl (fun hc32 => ?_) (fun hc32 => ?_)
      · replace h := iteT h hc32
        obtain ⟨r33, hr33, h⟩ := bindS h
        refine LH.seqT [(0, .ptr 7 0), (2, .int .i64 p2), (7, .arr 163 (List.length l5)), (8, .int .i64 n2), (9, .ptr 109 0), (40, .int .i64 r33.1)] [(7, .box [.lst 1 (List.map (LV.int .i64) r33.2.L), .int .i64 r33.2.At]), (109, .box [.int .i64 r7.1, .int .i64 r8.1, .int .i64 (l5.length : Int), .int .i64 r9.1, .int .i64 r10.1, .int .i64 r11.1]), (163, .arr 33 6 (List.map GRegisterEvent.lv l5))] rfl ?_ ?_
        · refine sN (oM (v := (.ptr _ _)) rfl ?_)
          refine sN (oCM (args := [.ptr 7 0, .int .i64 4]) (ml := [(7, .box [.lst 1 (List.map (LV.int .i64) w29.2.1), .int .i64 w29.2.2])]) (ml' := [(7, .box [.lst 1 (List.map (LV.int .i64) r33.2.L), .int .i64 r33.2.At])]) rfl isF15 rfl (sbR (sbR sbN)) (GTape_Next_ok hr33) (mC rfl mN) (newI rfl newN) rfl ?_)
          exact s0 (Wk.to (eC rfl (eC rfl (eC rfl (eC rfl (eC rfl (eC rfl eN)))))) (mC rfl (mC rfl (mC rfl mN))) rfl (prK rfl))
        refine LH.block ?_
        refine LH.seqT [(0, .ptr 7 0), (2, .int .i64 p2), (7, .arr 163 (List.length l5)), (8, .int .i64 n2), (9, .ptr 109 0), (40, .int .i64 r33.1), (44, .bool (r33.1 == 0))] [(7, .box [.lst 1 (List.map (LV.int .i64) r33.2.L), .int .i64 r33.2.At]), (109, .box [.int .i64 r7.1, .int .i64 r8.1, .int .i64 (l5.length : Int), .int .i64 r9.1, .int .i64 r10.1, .int .i64 r11.1]), (163, .arr 33 6 (List.map GRegisterEvent.lv l5))] rfl ?_ ?_
        · refine sN (oEq rfl rfl ?_)
          refine sN (oA (v := (.bool _)) rfl ?_)
          exact s0 (Wk.to (eC rfl (eC rfl (eC rfl (eC rfl (eC rfl (eC rfl (eC rfl eN))))))) (mC rfl (mC rfl (mC rfl mN))) rfl (prK rfl))
        refine LH.cond (t := (r33.1 == 0)) rfl (fun hc34 => ?_) (fun hc34 => ?_)
        · replace h := iteT h hc34
          obtain ⟨r35, hr35, h⟩ := bindS h
          refine LH.loneT [(0, .ptr 7 0), (2, .int .i64 p2), (7, .arr 163 (List.length l5)), (8, .int .i64 n2), (9, .sptr [.int .i64 r7.1, .int .i64 r8.1, .int .i64 (l5.length : Int), .int .i64 r35.1, .int .i64 r10.1, .int .i64 r11.1])] [(7, .box [.lst 1 (List.map (LV.int .i64) r35.2.L), .int .i64 r35.2.At]), (163, .arr 33 6 (List.map GRegisterEvent.lv l5))] rfl ?_ ?_
          · refine sN (oM (v := (.ptr _ _)) rfl ?_)
            refine sN (oCM (args := [.ptr 7 0, .int .i64 (-1), .int .i64 7]) (ml := [(7, .box [.lst 1 (List.map (LV.int .i64) r33.2.L), .int .i64 r33.2.At])]) (ml' := [(7, .box [.lst 1 (List.map (LV.int .i64) r35.2.L), .int .i64 r35.2.At])]) rfl isF26 rfl (sbR (sbR (sbR sbN))) (GTape_Range_ok hr35) (mC rfl mN) (newI rfl newN) rfl ?_)
            refine sN (oFa tf33_1 tk3 ts3 rfl rfl ?_)
            refine s_ (oSt rfl rfl rfl tk3 ts3 rfl rfl rfl ?_)
            exact s0 ((Wk.trans (Wk.to (el := [(0, .ptr 7 0), (2, .int .i64 p2), (7, .arr 163 (List.length l5)), (8, .int .i64 n2), (9, .ptr 109 0)]) (ml := [(7, .box [.lst 1 (List.map (LV.int .i64) r35.2.L), .int .i64 r35.2.At]), (109, .box [.int .i64 r7.1, .int .i64 r8.1, .int .i64 (l5.length : Int), .int .i64 r35.1, .int .i64 r10.1, .int .i64 r11.1]), (163, .arr 33 6 (List.map GRegisterEvent.lv l5))]) (eC rfl (eC rfl (eC rfl (eC rfl (eC rfl eN))))) (mC rfl (mC rfl (mC rfl mN))) rfl (prK rfl)) (Wk.trans (Wk.frzB 109 [.int .i64 r7.1, .int .i64 r8.1, .int .i64 (l5.length : Int), .int .i64 r35.1, .int .i64 r10.1, .int .i64 r11.1] rfl rfl rfl (prN rfl)) (Wk.to (eC rfl (eC rfl (eC rfl (eC rfl (eC rfl eN))))) (mC rfl (mC rfl mN)) rfl (prK rfl)))))
          refine blockN ?_
          exact thenN ⟨r7.1, r8.1, (l5.length : Int), r35.1, r10.1, r11.1, r35.2.L, r35.2.At, h, Wk.to (eC rfl (eC rfl (eC rfl (eC rfl (eC rfl eN))))) (mC rfl (mC rfl mN)) rfl (prK rfl)⟩
        replace h := iteF h hc34
        refine LH.seqT [(0, .ptr 7 0), (2, .int .i64 p2), (7, .arr 163 (List.length l5)), (8, .int .i64 n2), (9, .ptr 109 0), (40, .int .i64 r33.1), (49, .bool (r33.1 == 1))] [(7, .box [.lst 1 (List.map (LV.int .i64) r33.2.L), .int .i64 r33.2.At]), (109, .box [.int .i64 r7.1, .int .i64 r8.1, .int .i64 (l5.length : Int), .int .i64 r9.1, .int .i64 r10.1, .int .i64 r11.1]), (163, .arr 33 6 (List.map GRegisterEvent.lv l5))] rfl ?_ ?_
        · refine sN (oEq rfl rfl ?_)
          refine sN (oA (v := (.bool _)) rfl ?_)
          exact s0 (Wk.to (eC rfl (eC rfl (eC rfl (eC rfl (eC rfl (eC rfl (eC rfl eN))))))) (mC rfl (mC rfl (mC rfl mN))) rfl (prK rfl))
        refine LH.cond (t := (r33.1 == 1)) rfl (fun hc36 => ?_) (fun hc36 => ?_)
        · replace h := iteT h hc36
          obtain ⟨r37, hr37, h⟩ := bindS h
          refine LH.loneT [(0, .ptr 7 0), (2, .int .i64 p2), (7, .arr 163 (List.length l5)), (8, .int .i64 n2), (9, .sptr [.int .i64 r7.1, .int .i64 r8.1, .int .i64 (l5.length : Int), .int .i64 r9.1, .int .i64 r37.1, .int .i64 r11.1])] [(7, .box [.lst 1 (List.map (LV.int .i64) r37.2.L), .int .i64 r37.2.At]), (163, .arr 33 6 (List.map GRegisterEvent.lv l5))] rfl ?_ ?_
          · refine sN (oM (v := (.ptr _ _)) rfl ?_)
            refine sN (oCM (args := [.ptr 7 0]) (ml := [(7, .box [.lst 1 (List.map (LV.int .i64) r33.2.L), .int .i64 r33.2.At])]) (ml' := [(7, .box [.lst 1 (List.map (LV.int .i64) r37.2.L), .int .i64 r37.2.At])]) rfl isF38 rfl (sbR sbN) (GTape_Wild_ok hr37) (mC rfl mN) (newI rfl newN) rfl ?_)
            refine sN (oFa tf33_2 tk3 ts3 rfl rfl ?_)
            refine s_ (oSt rfl rfl rfl tk3 ts3 rfl rfl rfl ?_)
            exact s0 ((Wk.trans (Wk.to (el := [(0, .ptr 7 0), (2, .int .i64 p2), (7, .arr 163 (List.length l5)), (8, .int .i64 n2), (9, .ptr 109 0)]) (ml := [(7, .box [.lst 1 (List.map (LV.int .i64) r37.2.L), .int .i64 r37.2.At]), (109, .box [.int .i64 r7.1, .int .i64 r8.1, .int .i64 (l5.length : Int), .int .i64 r9.1, .int .i64 r37.1, .int .i64 r11.1]), (163, .arr 33 6 (List.map GRegisterEvent.lv l5))]) (eC rfl (eC rfl (eC rfl (eC rfl (eC rfl eN))))) (mC rfl (mC rfl (mC rfl mN))) rfl (prK rfl)) (Wk.trans (Wk.frzB 109 [.int .i64 r7.1, .int .i64 r8.1, .int .i64 (l5.length : Int), .int .i64 r9.1, .int .i64 r37.1, .int .i64 r11.1] rfl rfl rfl (prN rfl)) (Wk.to (eC rfl (eC rfl (eC rfl (eC rfl (eC rfl eN))))) (mC rfl (mC rfl mN)) rfl (prK rfl)))))
          refine blockN ?_
          exact thenN ⟨r7.1, r8.1, (l5.length : Int), r9.1, r37.1, r11.1, r37.2.L, r37.2.At, h, Wk.to (eC rfl (eC rfl (eC rfl (eC rfl (eC rfl eN))))) (mC rfl (mC rfl mN)) rfl (prK rfl)⟩
        replace h := iteF h hc36
        refine LH.seqT [(0, .ptr 7 0), (2, .int .i64 p2), (7, .arr 163 (List.length l5)), (8, .int .i64 n2), (9, .ptr 109 0), (54, .bool (r33.1 == 2))] [(7, .box [.lst 1 (List.map (LV.int .i64) r33.2.L), .int .i64 r33.2.At]), (109, .box [.int .i64 r7.1, .int .i64 r8.1, .int .i64 (l5.length : Int), .int .i64 r9.1, .int .i64 r10.1, .int .i64 r11.1]), (163, .arr 33 6 (List.map GRegisterEvent.lv l5))] rfl ?_ ?_
        · refine sN (oEq rfl rfl ?_)
          refine sN (oA (v := (.bool _)) rfl ?_)
          exact s0 (Wk.to (eC rfl (eC rfl (eC rfl (eC rfl (eC rfl (eC rfl eN)))))) (mC rfl (mC rfl (mC rfl mN))) rfl (prK rfl))
        refine LH.cond (t := (r33.1 == 2)) rfl (fun hc38 => ?_) (fun hc38 => ?_)
        · replace h := iteT h hc38
          obtain ⟨r39, hr39, h⟩ := bindS h
          refine LH.loneT [(0, .ptr 7 0), (2, .int .i64 p2), (7, .arr 163 (List.length l5)), (8, .int .i64 n2), (9, .sptr [.int .i64 r7.1, .int .i64 r8.1, .int .i64 (l5.length : Int), .int .i64 r9.1, .int .i64 r10.1, .int .i64 r39.1])] [(7, .box [.lst 1 (List.map (LV.int .i64) r39.2.L), .int .i64 r39.2.At]), (163, .arr 33 6 (List.map GRegisterEvent.lv l5))] rfl ?_ ?_
          · refine sN (oM (v := (.ptr _ _)) rfl ?_)
            refine sN (oBS (f := (LV.int .i64)) (ys := [(-1), 600, 601]) te22 tr3 ts3 rfl rfl rfl okI ?_)
            refine sN (oCM (args := [.ptr 7 0, .lst 1 (List.map (LV.int .i64) [(-1), 600, 601])]) (ml := [(7, .box [.lst 1 (List.map (LV.int .i64) r33.2.L), .int .i64 r33.2.At])]) (ml' := [(7, .box [.lst 1 (List.map (LV.int .i64) r39.2.L), .int .i64 r39.2.At])]) rfl isF36 rfl (sbR (sbR sbN)) (GTape_Pick_ok hr39) (mC rfl mN) (newI rfl newN) rfl ?_)
            refine sN (oFa tf33_3 tk3 ts3 rfl rfl ?_)
            refine s_ (oSt rfl rfl rfl tk3 ts3 rfl rfl rfl ?_)
            exact s0 ((Wk.trans (Wk.to (el := [(0, .ptr 7 0), (2, .int .i64 p2), (7, .arr 163 (List.length l5)), (8, .int .i64 n2), (9, .ptr 109 0)]) (ml := [(7, .box [.lst 1 (List.map (LV.int .i64) r39.2.L), .int .i64 r39.2.At]), (109, .box [.int .i64 r7.1, .int .i64 r8.1, .int .i64 (l5.length : Int), .int .i64 r9.1, .int .i64 r10.1, .int .i64 r39.1]), (163, .arr 33 6 (List.map GRegisterEvent.lv l5))]) (eC rfl (eC rfl (eC rfl (eC rfl (eC rfl eN))))) (mC rfl (mC rfl (mC rfl mN))) rfl (prK rfl)) (Wk.trans (Wk.frzB 109 [.int .i64 r7.1, .int .i64 r8.1, .int .i64 (l5.length : Int), .int .i64 r9.1, .int .i64 r10.1, .int .i64 r39.1] rfl rfl rfl (prN rfl)) (Wk.to (eC rfl (eC rfl (eC rfl (eC rfl (eC rfl eN))))) (mC rfl (mC rfl mN)) rfl (prK rfl)))))
          refine blockN ?_
          exact thenN ⟨r7.1, r8.1, (l5.length : Int), r9.1, r10.1, r39.1, r39.2.L, r39.2.At, h, Wk.to (eC rfl (eC rfl (eC rfl (eC rfl (eC rfl eN))))) (mC rfl (mC rfl mN)) rfl (prK rfl)⟩
        replace h := iteF h hc38
        obtain ⟨r40, hr40, h⟩ := bindS h
        refine LH.loneT [(0, .ptr 7 0), (2, .int .i64 p2), (7, .arr 163 (List.length l5)), (8, .int .i64 n2), (9, .sptr [.int .i64 r40.1.Time, .int .i64 r40.1.Source, .int .i64 r40.1.Seq, .int .i64 r9.1, .int .i64 r10.1, .int .i64 r11.1])] [(7, .box [.lst 1 (List.map (LV.int .i64) r40.2.L), .int .i64 r40.2.At]), (163, .arr 33 6 (List.map GRegisterEvent.lv l5))] rfl ?_ ?_
        · refine sN (oM (v := (.ptr _ _)) rfl ?_)
          refine sN (oCM (args := [.ptr 7 0, .int .i64 4]) (ml := [(7, .box [.lst 1 (List.map (LV.int .i64) r33.2.L), .int .i64 r33.2.At])]) (ml' := [(7, .box [.lst 1 (List.map (LV.int .i64) r40.2.L), .int .i64 r40.2.At])]) rfl isF39 rfl (sbR (sbR sbN)) (GTape_Stamp_ok hr40) (mC rfl mN) (newI rfl newN) rfl ?_)
          refine sN (oFa tf33_0 tk31 ts31 rfl rfl ?_)
          refine s_ (oSt rfl rfl rfl tk31 ts31 rfl rfl rfl ?_)
          exact s0 ((Wk.trans (Wk.to (el := [(0, .ptr 7 0), (2, .int .i64 p2), (7, .arr 163 (List.length l5)), (8, .int .i64 n2), (9, .ptr 109 0)]) (ml := [(7, .box [.lst 1 (List.map (LV.int .i64) r40.2.L), .int .i64 r40.2.At]), (109, .box [.int .i64 r40.1.Time, .int .i64 r40.1.Source, .int .i64 r40.1.Seq, .int .i64 r9.1, .int .i64 r10.1, .int .i64 r11.1]), (163, .arr 33 6 (List.map GRegisterEvent.lv l5))]) (eC rfl (eC rfl (eC rfl (eC rfl (eC rfl eN))))) (mC rfl (mC rfl (mC rfl mN))) rfl (prK rfl)) (Wk.trans (Wk.frzB 109 [.int .i64 r40.1.Time, .int .i64 r40.1.Source, .int .i64 r40.1.Seq, .int .i64 r9.1, .int .i64 r10.1, .int .i64 r11.1] rfl rfl rfl (prN rfl)) (Wk.to (eC rfl (eC rfl (eC rfl (eC rfl (eC rfl eN))))) (mC rfl (mC rfl mN)) rfl (prK rfl)))))
        refine blockN ?_
        exact thenN ⟨r40.1.Time, r40.1.Source, r40.1.Seq, r9.1, r10.1, r11.1, r40.2.L, r40.2.At, h, Wk.to (eC rfl (eC rfl (eC rfl (eC rfl (eC rfl eN))))) (mC rfl (mC rfl mN)) rfl (prK rfl)⟩
      replace h := iteF h hc32
      refine LH.skip ?_
      exact thenN ⟨r7.1, r8.1, (l5.length : Int), r9.1, r10.1, r11.1, w29.2.1, w29.2.2, h, (Wk.trans (Wk.to (el := [(0, .ptr 7 0), (2, .int .i64 p2), (7, .arr 163 (List.length l5)), (8, .int .i64 n2), (9, .ptr 109 0)]) (ml := [(7, .box [.lst 1 (List.map (LV.int .i64) w29.2.1), .int .i64 w29.2.2]), (109, .box [.int .i64 r7.1, .int .i64 r8.1, .int .i64 (l5.length : Int), .int .i64 r9.1, .int .i64 r10.1, .int .i64 r11.1]), (163, .arr 33 6 (List.map GRegisterEvent.lv l5))]) (eC rfl (eC rfl (eC rfl (eC rfl (eC rfl eN))))) (mC rfl (mC rfl (mC rfl mN))) rfl (prK rfl)) (Wk.trans (Wk.frzB 109 [.int .i64 r7.1, .int .i64 r8.1, .int .i64 (l5.length : Int), .int .i64 r9.1, .int .i64 r10.1, .int .i64 r11.1] rfl rfl rfl (prN rfl)) (Wk.to (eC rfl (eC rfl (eC rfl (eC rfl (eC rfl eN))))) (mC rfl (mC rfl mN)) rfl (prK rfl))))⟩
    clear h
    rintro e m ⟨n12, n13, n14, n15, n16, n17, l18, n19, h, hw⟩
    refine LH.wk hw ?_
    clear hw
    unfold GTape_RegisterEvents_J2 at h
    obtain ⟨v20, hv20, h⟩ := bindS h
    refine LH.seqT [(0, .ptr 7 0), (2, .int .i64 p2), (7, .arr 163 (List.length v20)), (8, .int .i64 n2)] [(7, .box [.lst 1 (List.map (LV.int .i64) l18), .int .i64 n19]), (163, .arr 33 6 (List.map GRegisterEvent.lv v20))] rfl ?_ ?_
    · refine sN (oM (v := (.arr _ _)) rfl ?_)
      refine sN (oLdA rfl tk33 ta33 ts33 rfl rfl ?_)
      refine sN (oBS (f := GRegisterEvent.lv) (ys := [(GRegisterEvent.mk (GStamp.mk n12 n13 n14) n15 n16 n17)]) te25 tr33 ts33 rfl rfl rfl GRegisterEvent.ok ?_)
      refine sN (oAp (f := GRegisterEvent.lv) te25 tr33 ts33 rfl rfl (prN rfl) rfl hv20 ?_)
      refine sN (oA (v := (.arr _ _)) rfl ?_)
      exact s0 (Wk.to (eC rfl (eC rfl (eC rfl (eC rfl eN)))) (mC rfl (mC rfl mN)) rfl (prK rfl))
    obtain ⟨r21, hr21, h⟩ := bindS h
    refine LH.seqT [(0, .ptr 7 0), (2, .int .i64 p2), (7, .arr 163 (List.length v20)), (8, .int .i64 n2), (65, .bool r21.1)] [(7, .box [.lst 1 (List.map (LV.int .i64) r21.2.L), .int .i64 r21.2.At]), (163, .arr 33 6 (List.map GRegisterEvent.lv v20))] rfl ?_ ?_
    · refine sN (oM (v := (.ptr _ _)) rfl ?_)
      refine sN (oCM (args := [.ptr 7 0, .int .i64 8]) (ml := [(7, .box [.lst 1 (List.map (LV.int .i64) l18), .int .i64 n19])]) (ml' := [(7, .box [.lst 1 (List.map (LV.int .i64) r21.2.L), .int .i64 r21.2.At])]) rfl isF37 rfl (sbR (sbR sbN)) (GTape_One_ok hr21) (mC rfl mN) (newI rfl newN) rfl ?_)
      exact s0 (Wk.to (eC rfl (eC rfl (eC rfl (eC rfl (eC rfl eN))))) (mC rfl (mC rfl mN)) rfl (prK rfl))
    refine LH.cond (t := r21.1) rfl (fun hc22 => ?_) (fun hc22 => ?_)
    · replace h := iteT h hc22
      obtain ⟨r23, hr23, h⟩ := bindS h
      obtain ⟨x24, hx24, h⟩ := bindS h
      obtain ⟨v25, hv25, h⟩ := bindS h
      refine LH.loneT [(0, .ptr 7 0), (2, .int .i64 p2), (7, .arr 163 (List.length v25)), (8, .int .i64 n2)] [(7, .box [.lst 1 (List.map (LV.int .i64) r23.2.L), .int .i64 r23.2.At]), (163, .arr 33 6 (List.map GRegisterEvent.lv v25))] rfl ?_ ?_
      · refine sN (oM (v := (.arr _ _)) rfl ?_)
        refine sN (oM (v := (.arr _ _)) rfl ?_)
        refine sN (oM (v := (.ptr _ _)) rfl ?_)
        refine sN (oM (v := (.arr _ _)) rfl ?_)
        refine sN (oLnA (f := GRegisterEvent.lv) te25 rfl rfl ?_)
        refine sN (oCM (args := [.ptr 7 0, .int .i64 (v20.length : Int)]) (ml := [(7, .box [.lst 1 (List.map (LV.int .i64) r21.2.L), .int .i64 r21.2.At])]) (ml' := [(7, .box [.lst 1 (List.map (LV.int .i64) r23.2.L), .int .i64 r23.2.At])]) rfl isF15 rfl (sbR (sbR sbN)) (GTape_Next_ok hr23) (mC rfl mN) (newI rfl newN) rfl ?_)
        refine sN (oIxA (f := GRegisterEvent.lv) te25 tk33 ts33 rfl rfl rfl hx24 ?_)
        refine sN (oLdEA (f := GRegisterEvent.lv) rfl rfl (idxOk hx24).2 rfl rfl tk33 ta33 ts33 rfl rfl ?_)
        refine sN (oBS (f := GRegisterEvent.lv) (ys := [x24]) te25 tr33 ts33 rfl rfl rfl GRegisterEvent.ok ?_)
        refine sN (oAp (f := GRegisterEvent.lv) te25 tr33 ts33 rfl rfl (prN rfl) rfl hv25 ?_)
        refine sN (oA (v := (.arr _ _)) rfl ?_)
        exact s0 (Wk.to (eC rfl (eC rfl (eC rfl (eC rfl eN)))) (mC rfl (mC rfl mN)) rfl (prK rfl))
      refine blockN ?_
      refine thenN ?_
      refine LH.loneT [(0, .ptr 7 0), (2, .int .i64 p2), (7, .arr 163 (List.length v25)), (8, .int .i64 (i64 (n2 - 1)))] [(7, .box [.lst 1 (List.map (LV.int .i64) r23.2.L), .int .i64 r23.2.At]), (163, .arr 33 6 (List.map GRegisterEvent.lv v25))] rfl ?_ ?_
      · refine sN (oM (v := (.int _ _)) rfl ?_)
        refine sN (oSub rfl rfl ?_)
        refine sN (oA (v := (.int _ _)) rfl ?_)
        exact s0 (Wk.to (eC rfl (eC rfl (eC rfl (eC rfl eN)))) (mC rfl (mC rfl mN)) rfl (prK rfl))
      exact roundN (e' := Env.of [(0, .ptr 7 0), (2, .int .i64 p2), (7, .arr 163 (List.length v25)), (8, .int .i64 (i64 (n2 - 1)))]) (m' := Mem.of [(7, .box [.lst 1 (List.map (LV.int .i64) r23.2.L), .int .i64 r23.2.At]), (163, .arr 33 6 (List.map GRegisterEvent.lv v25))]) (Wk.to (eC rfl (eC rfl (eC rfl (eC rfl eN)))) (mC rfl (mC rfl mN)) rfl (prK rfl)) ⟨(i64 (n2 - 1)), r23.2.L, r23.2.At, v25, hrec1 ▸ h, rfl, rfl⟩
    replace h := iteF h hc22
    refine LH.skip ?_
    refine blockN ?_
    refine thenN ?_
    refine LH.wk (Wk.to (el := [(0, .ptr 7 0), (2, .int .i64 p2), (7, .arr 163 (List.length v20)), (8, .int .i64 n2)]) (ml := [(7, .box [.lst 1 (List.map (LV.int .i64) r21.2.L), .int .i64 r21.2.At]), (163, .arr 33 6 (List.map GRegisterEvent.lv v20))]) (eC rfl (eC rfl (eC rfl (eC rfl eN)))) (mC rfl (mC rfl mN)) rfl (prK rfl)) ?_
    refine LH.loneT [(0, .ptr 7 0), (2, .int .i64 p2), (7, .arr 163 (List.length v20)), (8, .int .i64 (i64 (n2 - 1)))] [(7, .box [.lst 1 (List.map (LV.int .i64) r21.2.L), .int .i64 r21.2.At]), (163, .arr 33 6 (List.map GRegisterEvent.lv v20))] rfl ?_ ?_
    · refine sN (oM (v := (.int _ _)) rfl ?_)
      refine sN (oSub rfl rfl ?_)
      refine sN (oA (v := (.int _ _)) rfl ?_)
      exact s0 (Wk.to (eC rfl (eC rfl (eC rfl (eC rfl eN)))) (mC rfl (mC rfl mN)) rfl (prK rfl))
    exact roundN (e' := Env.of [(0, .ptr 7 0), (2, .int .i64 p2), (7, .arr 163 (List.length v20)), (8, .int .i64 (i64 (n2 - 1)))]) (m' := Mem.of [(7, .box [.lst 1 (List.map (LV.int .i64) r21.2.L), .int .i64 r21.2.At]), (163, .arr 33 6 (List.map GRegisterEvent.lv v20))]) (Wk.to (eC rfl (eC rfl (eC rfl (eC rfl eN)))) (mC rfl (mC rfl mN)) rfl (prK rfl)) ⟨(i64 (n2 - 1)), r21.2.L, r21.2.At, v20, hrec1 ▸ h, rfl, rfl⟩
  replace h := iteF h hc6
  refine LH.exit ?_
  refine thenX ?_
  refine roundX ?_
  refine blockH ?_
  refine thenN ?_
  refine LH.wk ((Wk.trans (Wk.to (el := [(7, .arr 163 (List.length l5))]) (ml := [(7, .box [.lst 1 (List.map (LV.int .i64) l3), .int .i64 n4]), (163, .arr 33 6 (List.map GRegisterEvent.lv l5))]) (eC rfl eN) (mC rfl (mC rfl mN)) rfl (prK rfl)) (Wk.trans (Wk.frzL (f := GRegisterEvent.lv) (el' := [(7, .lst 6 (List.map GRegisterEvent.lv l5))]) 163 33 6 l5 rfl rfl (prN rfl) (fZ fN)) (Wk.to (el := [(7, .lst 6 (List.map GRegisterEvent.lv l5))]) (ml := [(7, .box [.lst 1 (List.map (LV.int .i64) l3), .int .i64 n4])]) (eC rfl eN) (mC rfl mN) rfl (prK rfl))))) ?_
  refine LH.seqT [(6, .lst 6 (List.map GRegisterEvent.lv l5))] [(7, .box [.lst 1 (List.map (LV.int .i64) l3), .int .i64 n4])] rfl ?_ ?_
  · refine sN (oM (v := (.lst _ _)) rfl ?_)
    refine sN (oA (v := (.lst _ _)) rfl ?_)
    exact s0 (Wk.to (eC rfl eN) (mC rfl mN) rfl (prK rfl))
  refine LH.ret ?_
  obtain rfl := Option.some.inj h
  exact retE (congrArg Array.toList Try.results12) (lrT rfl (lr0 ⟨memN (mC rfl mN), rfl, prK rfl, Sub.rfl⟩))

theorem copies_Split_RegisterEvent_ok {F : Nat} {p0 : List GRegisterEvent} {p1 : (GRegisterEvent → Option GStamp)} {p2 : (GRegisterEvent → GRegisterEvent → Option Bool)} {r : List GStamp × List Int} {p1_f : Nat} {p1_c : List LV} (p1_i : ∃ fn, Try.prog.funcs[p1_f]? = some fn ∧ (fn.name == "runtime.NumGoroutine") = false ∧ fn.body.isNone = false) (p1_q : LV.pureL p1_c = true) (p1_k : ∀ (x0 : GRegisterEvent) (q : GStamp), p1 x0 = some q → LCall Try.prog p1_f ([.agg [.int .i64 x0.Stamp.Time, .int .i64 x0.Stamp.Source, .int .i64 x0.Stamp.Seq, .int .i64 x0.Kind, .int .i64 x0.Candidate, .int .i64 x0.Minutes]] ++ p1_c) (Mem.of []) (.agg [.int .i64 q.Time, .int .i64 q.Source, .int .i64 q.Seq]) (Mem.of [])) {p2_f : Nat} {p2_c : List LV} (p2_i : ∃ fn, Try.prog.funcs[p2_f]? = some fn ∧ (fn.name == "runtime.NumGoroutine") = false ∧ fn.body.isNone = false) (p2_q : LV.pureL p2_c = true) (p2_k : ∀ (x0 : GRegisterEvent) (x1 : GRegisterEvent) (q : Bool), p2 x0 x1 = some q → LCall Try.prog p2_f ([.agg [.int .i64 x0.Stamp.Time, .int .i64 x0.Stamp.Source, .int .i64 x0.Stamp.Seq, .int .i64 x0.Kind, .int .i64 x0.Candidate, .int .i64 x0.Minutes], .agg [.int .i64 x1.Stamp.Time, .int .i64 x1.Stamp.Source, .int .i64 x1.Stamp.Seq, .int .i64 x1.Kind, .int .i64 x1.Candidate, .int .i64 x1.Minutes]] ++ p2_c) (Mem.of []) (.bool q) (Mem.of [])) (h : copies_Split_RegisterEvent F p0 p1 p2 = some r) : LCall Try.prog 50 [.lst 6 (List.map GRegisterEvent.lv p0), .fn p1_f p1_c, .fn p2_f p2_c] (Mem.of []) (.tup [.lst 3 (List.map GStamp.lv r.1), .lst 1 (List.map (LV.int .i64) r.2)]) (Mem.of []) := by
  have p2_p : ∀ {l : List LV}, LV.pureL l = true → LV.pureL (l ++ p2_c) = true := pnC p2_q
  have p2_r : LV.refsL p2_c = [] := refsL_pure p2_q
  have p1_p : ∀ {l : List LV}, LV.pureL l = true → LV.pureL (l ++ p1_c) = true := pnC p1_q
  have p1_r : LV.refsL p1_c = [] := refsL_pure p1_q
  unfold copies_Split_RegisterEvent at h
  refine bodyT Try.func50 rfl (by rw [Try.ntmps50]; exact Nat.le_of_ble_eq_true rfl) ?_
  refine LH.wk (Wk.to (el := [(0, .lst 6 (List.map GRegisterEvent.lv p0)), (1, .fn p1_f p1_c), (2, .fn p2_f p2_c)]) (ml := []) (eC rfl (eC rfl (eC rfl eN))) mN (by simp [keptRefs, LV.refs, LV.refsL, Env.args, Env.of, Env.put, Env.drop, p1_r, p2_r]) (prK rfl)) ?_
  refine LH.seqT [(0, .lst 6 (List.map GRegisterEvent.lv p0)), (1, .fn p1_f p1_c), (2, .fn p2_f p2_c)] [] rfl ?_ ?_
  · refine sN (oA (v := .nil) rfl ?_)
    refine sN (oA (v := .nil) rfl ?_)
    exact s0 (Wk.to (eC rfl (eC rfl (eC rfl eN))) mN (by simp [keptRefs, LV.refs, LV.refsL, Env.args, Env.of, Env.put, Env.drop, p1_r, p2_r]) (prK rfl))
  obtain ⟨v1, hv1, h⟩ := bindS h
  refine LH.seqT [(0, .lst 6 (List.map GRegisterEvent.lv p0)), (1, .fn p1_f p1_c), (2, .fn p2_f p2_c), (8, .arr 117 (List.length v1))] [(117, .arr 31 3 (List.map GStamp.lv v1))] rfl ?_ ?_
  · refine sN (oM (v := (.lst _ _)) rfl ?_)
    refine sN (oLnL (f := GRegisterEvent.lv) te25 rfl ?_)
    refine sN (oMk (f := GStamp.lv) (z := (GStamp.mk 0 0 0)) (id := 117) rfl te78 tz31 tr31 ts31 rfl rfl rfl hv1 rfl ?_)
    refine sN (oA (v := (.arr _ _)) rfl ?_)
    exact s0 (Wk.to (eC rfl (eC rfl (eC rfl (eC rfl eN)))) (mC rfl mN) (by simp [keptRefs, LV.refs, LV.refsL, Env.args, Env.of, Env.put, Env.drop, p1_r, p2_r]) (prK rfl))
  obtain ⟨v2, hv2, h⟩ := bindS h
  refine LH.seqT [(0, .lst 6 (List.map GRegisterEvent.lv p0)), (1, .fn p1_f p1_c), (2, .fn p2_f p2_c), (8, .arr 117 (List.length v1)), (9, .arr 120 (List.length v2))] [(117, .arr 31 3 (List.map GStamp.lv v1)), (120, .arr 3 1 (List.map (LV.int .i64) v2))] rfl ?_ ?_
  · refine sN (oM (v := (.lst _ _)) rfl ?_)
    refine sN (oLnL (f := GRegisterEvent.lv) te25 rfl ?_)
    refine sN (oMk (f := (LV.int .i64)) (z := 0) (id := 120) rfl te22 tz3 tr3 ts3 rfl rfl rfl hv2 rfl ?_)
    refine sN (oA (v := (.arr _ _)) rfl ?_)
    exact s0 (Wk.to (eC rfl (eC rfl (eC rfl (eC rfl (eC rfl eN))))) (mC rfl (mC rfl mN)) (by simp [keptRefs, LV.refs, LV.refsL, Env.args, Env.of, Env.put, Env.drop, p1_r, p2_r]) (prK rfl))
  refine LH.seqT [(0, .lst 6 (List.map GRegisterEvent.lv p0)), (1, .fn p1_f p1_c), (2, .fn p2_f p2_c), (8, .arr 117 (List.length v1)), (9, .arr 120 (List.length v2)), (10, .mp 121)] [(117, .arr 31 3 (List.map GStamp.lv v1)), (120, .arr 3 1 (List.map (LV.int .i64) v2)), (121, .map 31 3 (mlv GStamp.lv (LV.int .i64) ([] : List (GStamp × Int))))] rfl ?_ ?_
  · refine sX ((ok_makeMap (kt := 31) (vt := 3) (id := 121) rfl).ok) ?_
    refine sN (oA (v := (.mp _)) rfl ?_)
    exact s0 (Wk.to (eC rfl (eC rfl (eC rfl (eC rfl (eC rfl (eC rfl eN)))))) (mC rfl (mC rfl (mC rfl mN))) (by simp [keptRefs, LV.refs, LV.refsL, Env.args, Env.of, Env.put, Env.drop, p1_r, p2_r]) (prK rfl))
  refine LH.seq ?_
  refine LH.seqT [(0, .lst 6 (List.map GRegisterEvent.lv p0)), (1, .fn p1_f p1_c), (2, .fn p2_f p2_c), (8, .arr 117 (List.length v1)), (9, .arr 120 (List.length v2)), (10, .mp 121), (22, .lst 6 (List.map GRegisterEvent.lv p0)), (23, .int .i64 (p0.length : Int)), (24, .int .i64 0)] [(117, .arr 31 3 (List.map GStamp.lv v1)), (120, .arr 3 1 (List.map (LV.int .i64) v2)), (121, .map 31 3 (mlv GStamp.lv (LV.int .i64) ([] : List (GStamp × Int))))] rfl ?_ ?_
  · refine sN (oM (v := (.lst _ _)) rfl ?_)
    refine sN (oLnL (f := GRegisterEvent.lv) te25 rfl ?_)
    refine sN (oM (v := (.int _ _)) rfl ?_)
    exact s0 (Wk.to (eC rfl (eC rfl (eC rfl (eC rfl (eC rfl (eC rfl (eC rfl (eC rfl (eC rfl eN))))))))) (mC rfl (mC rfl (mC rfl mN))) (by simp [keptRefs, LV.refs, LV.refsL, Env.args, Env.of, Env.put, Env.drop, p1_r, p2_r]) (prK rfl))
  refine LH.block ?_
  refine LH.loop (fun n e m => ∃ (n3 : Int) (l4 : List GStamp) (l5 : List Int) (m6 : List (GStamp × Int)), copies_Split_RegisterEvent_L1 p0 p1 p2 n n3 l4 l5 m6 = some r ∧ e = Env.of [(0, .lst 6 (List.map GRegisterEvent.lv p0)), (1, .fn p1_f p1_c), (2, .fn p2_f p2_c), (8, .arr 117 (List.length l4)), (9, .arr 120 (List.length l5)), (10, .mp 121), (22, .lst 6 (List.map GRegisterEvent.lv p0)), (23, .int .i64 (p0.length : Int)), (24, .int .i64 n3)] ∧ m = Mem.of [(117, .arr 31 3 (List.map GStamp.lv l4)), (120, .arr 3 1 (List.map (LV.int .i64) l5)), (121, .map 31 3 (mlv GStamp.lv (LV.int .i64) m6))]) F ⟨0, v1, v2, ([] : List (GStamp × Int)), h, rfl, rfl⟩ ?_
  clear h
  rintro n e m ⟨n3, l4, l5, m6, h, rfl, rfl⟩
  rcases n with _ | n
  · cases (show Option.none = some _ from h)
  obtain ⟨rec1, hrec1⟩ : ∃ f, f = copies_Split_RegisterEvent_L1 p0 p1 p2 n := ⟨_, rfl⟩
  replace h : copies_Split_RegisterEvent_L1_B p0 p1 p2 rec1 n3 l4 l5 m6 = some r := hrec1 ▸ h
  unfold copies_Split_RegisterEvent_L1_B at h
  refine LH.seqT [(0, .lst 6 (List.map GRegisterEvent.lv p0)), (1, .fn p1_f p1_c), (2, .fn p2_f p2_c), (8, .arr 117 (List.length l4)), (9, .arr 120 (List.length l5)), (10, .mp 121), (22, .lst 6 (List.map GRegisterEvent.lv p0)), (23, .int .i64 (p0.length : Int)), (24, .int .i64 n3), (25, .bool (decide (n3 < (p0.length : Int))))] [(117, .arr 31 3 (List.map GStamp.lv l4)), (120, .arr 3 1 (List.map (LV.int .i64) l5)), (121, .map 31 3 (mlv GStamp.lv (LV.int .i64) m6))] rfl ?_ ?_
  · refine sN (oLt rfl rfl ?_)
    exact s0 (Wk.to (eC rfl (eC rfl (eC rfl (eC rfl (eC rfl (eC rfl (eC rfl (eC rfl (eC rfl (eC rfl eN)))))))))) (mC rfl (mC rfl (mC rfl mN))) (by simp [keptRefs, LV.refs, LV.refsL, Env.args, Env.of, Env.put, Env.drop, p1_r, p2_r]) (prK rfl))
  refine LH.seq ?_
  refine LH.cond (t := (decide (n3 < (p0.length : Int)))) rfl (fun hc7 => ?_) (fun hc7 => ?_)
  · replace h := iteT h hc7
    refine LH.skip ?_
    refine thenN ?_
    refine LH.wk (Wk.to (el := [(0, .lst 6 (List.map GRegisterEvent.lv p0)), (1, .fn p1_f p1_c), (2, .fn p2_f p2_c), (8, .arr 117 (List.length l4)), (9, .arr 120 (List.length l5)), (10, .mp 121), (22, .lst 6 (List.map GRegisterEvent.lv p0)), (23, .int .i64 (p0.length : Int)), (24, .int .i64 n3)]) (ml := [(117, .arr 31 3 (List.map GStamp.lv l4)), (120, .arr 3 1 (List.map (LV.int .i64) l5)), (121, .map 31 3 (mlv GStamp.lv (LV.int .i64) m6))]) (eC rfl (eC rfl (eC rfl (eC rfl (eC rfl (eC rfl (eC rfl (eC rfl (eC rfl eN))))))))) (mC rfl (mC rfl (mC rfl mN))) (by simp [keptRefs, LV.refs, LV.refsL, Env.args, Env.of, Env.put, Env.drop, p1_r, p2_r]) (prK rfl)) ?_
    refine LH.seq ?_
    refine LH.block ?_
    obtain ⟨x8, hx8, h⟩ := bindS h
    refine LH.seqT [(0, .lst 6 (List.map GRegisterEvent.lv p0)), (1, .fn p1_f p1_c), (2, .fn p2_f p2_c), (8, .arr 117 (List.length l4)), (9, .arr 120 (List.length l5)), (10, .mp 121), (11, .int .i64 n3), (12, .ptr 112 0), (22, .lst 6 (List.map GRegisterEvent.lv p0)), (23, .int .i64 (p0.length : Int)), (24, .int .i64 n3)] [(112, .box [.int .i64 x8.Stamp.Time, .int .i64 x8.Stamp.Source, .int .i64 x8.Stamp.Seq, .int .i64 x8.Kind, .int .i64 x8.Candidate, .int .i64 x8.Minutes]), (117, .arr 31 3 (List.map GStamp.lv l4)), (120, .arr 3 1 (List.map (LV.int .i64) l5)), (121, .map 31 3 (mlv GStamp.lv (LV.int .i64) m6))] rfl ?_ ?_
    · refine sN (oM (v := (.int _ _)) rfl ?_)
      refine sN (oIx (f := GRegisterEvent.lv) te25 tk33 ts33 rfl rfl GRegisterEvent.ok hx8 rfl ?_)
      refine sN (oLdA rfl tk33 ta33 ts33 rfl rfl ?_)
      refine sN (oAl (id := 112) rfl tz33 rfl rfl ?_)
      refine sN (oA (v := (.int _ _)) rfl ?_)
      refine s_ (oSt rfl rfl rfl tk33 ts33 rfl rfl rfl ?_)
      exact s0 (Wk.to (eC rfl (eC rfl (eC rfl (eC rfl (eC rfl (eC rfl (eC rfl (eC rfl (eC rfl (eC rfl (eC rfl eN))))))))))) (mC rfl (mC rfl (mC rfl (mC rfl mN)))) (by simp [keptRefs, LV.refs, LV.refsL, Env.args, Env.of, Env.put, Env.drop, p1_r, p2_r]) (prK rfl))
    obtain ⟨r9, hr9, h⟩ := bindS h
    obtain ⟨x10, hx10, h⟩ := bindS h
    refine LH.seqT [(0, .lst 6 (List.map GRegisterEvent.lv p0)), (1, .fn p1_f p1_c), (2, .fn p2_f p2_c), (8, .arr 117 (List.length (l4.set n3.toNat r9))), (9, .arr 120 (List.length l5)), (10, .mp 121), (11, .int .i64 n3), (12, .ptr 112 0), (22, .lst 6 (List.map GRegisterEvent.lv p0)), (23, .int .i64 (p0.length : Int)), (24, .int .i64 n3)] [(112, .box [.int .i64 x8.Stamp.Time, .int .i64 x8.Stamp.Source, .int .i64 x8.Stamp.Seq, .int .i64 x8.Kind, .int .i64 x8.Candidate, .int .i64 x8.Minutes]), (117, .arr 31 3 (List.map GStamp.lv (l4.set n3.toNat r9))), (120, .arr 3 1 (List.map (LV.int .i64) l5)), (121, .map 31 3 (mlv GStamp.lv (LV.int .i64) m6))] rfl ?_ ?_
    · refine sN (oM (v := (.arr _ _)) rfl ?_)
      refine sN (oM (v := (.int _ _)) rfl ?_)
      refine sN (oM (v := (.fn _ _)) rfl ?_)
      refine sN (oLdPA rfl rfl rfl tk33 ta33 ts33 rfl rfl ?_)
      refine sN (oCP (args := [.agg [.int .i64 x8.Stamp.Time, .int .i64 x8.Stamp.Source, .int .i64 x8.Stamp.Seq, .int .i64 x8.Kind, .int .i64 x8.Candidate, .int .i64 x8.Minutes]] ++ p1_c) (args' := [.agg [.int .i64 x8.Stamp.Time, .int .i64 x8.Stamp.Source, .int .i64 x8.Stamp.Seq, .int .i64 x8.Kind, .int .i64 x8.Candidate, .int .i64 x8.Minutes]] ++ p1_c) rfl p1_i rfl SubL.rfl (p1_k _ _ hr9) (p1_p rfl) ?_)
      refine sN (oIxA (f := GStamp.lv) te78 tk31 ts31 rfl rfl rfl hx10 ?_)
      refine s_ (oStE (f := GStamp.lv) (z' := r9) rfl rfl rfl rfl tk31 ts31 rfl (idxOk hx10).2 rfl ?_)
      exact s0 (Wk.to (eC rfl (eC rfl (eC rfl (eC (congrArg (LV.arr 117) (by simp)) (eC rfl (eC rfl (eC rfl (eC rfl (eC rfl (eC rfl (eC rfl eN))))))))))) (mC rfl (mC rfl (mC rfl (mC rfl mN)))) (by simp [keptRefs, LV.refs, LV.refsL, Env.args, Env.of, Env.put, Env.drop, p1_r, p2_r]) (prK rfl))
    obtain ⟨x11, hx11, h⟩ := bindS h
    refine LH.seqT [(0, .lst 6 (List.map GRegisterEvent.lv p0)), (1, .fn p1_f p1_c), (2, .fn p2_f p2_c), (8, .arr 117 (List.length (l4.set n3.toNat r9))), (9, .arr 120 (List.length l5)), (10, .mp 121), (11, .int .i64 n3), (12, .ptr 112 0), (13, .int .i64 ((mget m6 x11).getD 0)), (14, .bool ((mget m6 x11).isSome)), (22, .lst 6 (List.map GRegisterEvent.lv p0)), (23, .int .i64 (p0.length : Int)), (24, .int .i64 n3)] [(112, .box [.int .i64 x8.Stamp.Time, .int .i64 x8.Stamp.Source, .int .i64 x8.Stamp.Seq, .int .i64 x8.Kind, .int .i64 x8.Candidate, .int .i64 x8.Minutes]), (117, .arr 31 3 (List.map GStamp.lv (l4.set n3.toNat r9))), (120, .arr 3 1 (List.map (LV.int .i64) l5)), (121, .map 31 3 (mlv GStamp.lv (LV.int .i64) m6))] rfl ?_ ?_
    · refine sN (oM (v := (.mp _)) rfl ?_)
      refine sN (oM (v := (.arr _ _)) rfl ?_)
      refine sN (oM (v := (.int _ _)) rfl ?_)
      refine sN (oIxA (f := GStamp.lv) te78 tk31 ts31 rfl rfl rfl hx11 ?_)
      refine sN (oLdEA (f := GStamp.lv) rfl rfl (idxOk hx11).2 rfl rfl tk31 ta31 ts31 rfl rfl ?_)
      refine sX ((ok_lookup2 (f := GStamp.lv) (g := (LV.int .i64)) (xs := m6) (key := x11) (z := 0) tm95 kok31 kf31 rfl rfl rfl tz3).ok) ?_
      refine sN (oM (v := (.tup _)) rfl ?_)
      refine sN (oEx rfl rfl ?_)
      refine sN (oEx rfl rfl ?_)
      refine sN (oA (v := (.int _ _)) rfl ?_)
      refine sN (oA (v := (.bool _)) rfl ?_)
      exact s0 (Wk.to (eC rfl (eC rfl (eC rfl (eC rfl (eC rfl (eC rfl (eC rfl (eC rfl (eC rfl (eC rfl (eC rfl (eC rfl (eC rfl eN))))))))))))) (mC rfl (mC rfl (mC rfl (mC rfl mN)))) (by simp [keptRefs, LV.refs, LV.refsL, Env.args, Env.of, Env.put, Env.drop, p1_r, p2_r]) (prK rfl))
    refine LH.seqT [(0, .lst 6 (List.map GRegisterEvent.lv p0)), (1, .fn p1_f p1_c), (2, .fn p2_f p2_c), (8, .arr 117 (List.length (l4.set n3.toNat r9))), (9, .arr 120 (List.length l5)), (10, .mp 121), (11, .int .i64 n3), (12, .ptr 112 0), (13, .int .i64 ((mget m6 x11).getD 0)), (22, .lst 6 (List.map GRegisterEvent.lv p0)), (23, .int .i64 (p0.length : Int)), (24, .int .i64 n3), (45, .bool (!((mget m6 x11).isSome)))] [(112, .box [.int .i64 x8.Stamp.Time, .int .i64 x8.Stamp.Source, .int .i64 x8.Stamp.Seq, .int .i64 x8.Kind, .int .i64 x8.Candidate, .int .i64 x8.Minutes]), (117, .arr 31 3 (List.map GStamp.lv (l4.set n3.toNat r9))), (120, .arr 3 1 (List.map (LV.int .i64) l5)), (121, .map 31 3 (mlv GStamp.lv (LV.int .i64) m6))] rfl ?_ ?_
    · refine sN (oM (v := (.bool _)) rfl ?_)
      refine sN (oNot rfl ?_)
      exact s0 (Wk.to (eC rfl (eC rfl (eC rfl (eC rfl (eC rfl (eC rfl (eC rfl (eC rfl (eC rfl (eC rfl (eC rfl (eC rfl (eC rfl eN))))))))))))) (mC rfl (mC rfl (mC rfl (mC rfl mN)))) (by simp [keptRefs, LV.refs, LV.refsL, Env.args, Env.of, Env.put, Env.drop, p1_r, p2_r]) (prK rfl))
    refine LH.cond (t := (!((mget m6 x11).isSome))) rfl (fun hc12 => ?_) (fun hc12 => ?_)
    · replace h := iteT h hc12
      obtain ⟨x13, hx13, h⟩ := bindS h
      refine LH.loneT [(0, .lst 6 (List.map GRegisterEvent.lv p0)), (1, .fn p1_f p1_c), (2, .fn p2_f p2_c), (8, .arr 117 (List.length (l4.set n3.toNat r9))), (9, .arr 120 (List.length l5)), (10, .mp 121), (22, .lst 6 (List.map GRegisterEvent.lv p0)), (23, .int .i64 (p0.length : Int)), (24, .int .i64 n3)] [(117, .arr 31 3 (List.map GStamp.lv (l4.set n3.toNat r9))), (120, .arr 3 1 (List.map (LV.int .i64) l5)), (121, .map 31 3 (mlv GStamp.lv (LV.int .i64) (mput m6 x13 n3)))] rfl ?_ ?_
      · refine sN (oM (v := (.mp _)) rfl ?_)
        refine sN (oM (v := (.arr _ _)) rfl ?_)
        refine sN (oM (v := (.int _ _)) rfl ?_)
        refine sN (oIxA (f := GStamp.lv) te78 tk31 ts31 rfl rfl rfl hx13 ?_)
        refine sN (oLdEA (f := GStamp.lv) rfl rfl (idxOk hx13).2 rfl rfl tk31 ta31 ts31 rfl rfl ?_)
        refine sN (oM (v := (.int _ _)) rfl ?_)
        refine sX_ ((ok_update (f := GStamp.lv) (g := (LV.int .i64)) (xs := m6) (key := x13) (val := n3) (.inl rfl) tm95 kok31 kf31 (fun _ => rfl) rfl rfl rfl rfl).ok) ?_
        exact s0 (Wk.to (eC rfl (eC rfl (eC rfl (eC rfl (eC rfl (eC rfl (eC rfl (eC rfl (eC rfl eN))))))))) (mC rfl (mC rfl (mC rfl mN))) (by simp [keptRefs, LV.refs, LV.refsL, Env.args, Env.of, Env.put, Env.drop, p1_r, p2_r]) (prK rfl))
      refine blockN ?_
      refine thenN ?_
      refine LH.loneT [(0, .lst 6 (List.map GRegisterEvent.lv p0)), (1, .fn p1_f p1_c), (2, .fn p2_f p2_c), (8, .arr 117 (List.length (l4.set n3.toNat r9))), (9, .arr 120 (List.length l5)), (10, .mp 121), (22, .lst 6 (List.map GRegisterEvent.lv p0)), (23, .int .i64 (p0.length : Int)), (24, .int .i64 (i64 (n3 + 1)))] [(117, .arr 31 3 (List.map GStamp.lv (l4.set n3.toNat r9))), (120, .arr 3 1 (List.map (LV.int .i64) l5)), (121, .map 31 3 (mlv GStamp.lv (LV.int .i64) (mput m6 x13 n3)))] rfl ?_ ?_
      · refine sN (oAdd rfl rfl ?_)
        refine sN (oM (v := (.int _ _)) rfl ?_)
        exact s0 (Wk.to (eC rfl (eC rfl (eC rfl (eC rfl (eC rfl (eC rfl (eC rfl (eC rfl (eC rfl eN))))))))) (mC rfl (mC rfl (mC rfl mN))) (by simp [keptRefs, LV.refs, LV.refsL, Env.args, Env.of, Env.put, Env.drop, p1_r, p2_r]) (prK rfl))
      exact roundN (e' := Env.of [(0, .lst 6 (List.map GRegisterEvent.lv p0)), (1, .fn p1_f p1_c), (2, .fn p2_f p2_c), (8, .arr 117 (List.length (l4.set n3.toNat r9))), (9, .arr 120 (List.length l5)), (10, .mp 121), (22, .lst 6 (List.map GRegisterEvent.lv p0)), (23, .int .i64 (p0.length : Int)), (24, .int .i64 (i64 (n3 + 1)))]) (m' := Mem.of [(117, .arr 31 3 (List.map GStamp.lv (l4.set n3.toNat r9))), (120, .arr 3 1 (List.map (LV.int .i64) l5)), (121, .map 31 3 (mlv GStamp.lv (LV.int .i64) (mput m6 x13 n3)))]) (Wk.to (eC rfl (eC rfl (eC rfl (eC rfl (eC rfl (eC rfl (eC rfl (eC rfl (eC rfl eN))))))))) (mC rfl (mC rfl (mC rfl mN))) (by simp [keptRefs, LV.refs, LV.refsL, Env.args, Env.of, Env.put, Env.drop, p1_r, p2_r]) (prK rfl)) ⟨(i64 (n3 + 1)), (l4.set n3.toNat r9), l5, (mput m6 x13 n3), hrec1 ▸ h, rfl, rfl⟩
    replace h := iteF h hc12
    obtain ⟨x14, hx14, h⟩ := bindS h
    obtain ⟨r15, hr15, h⟩ := bindS h
    refine LH.seqJM mixed [] [0, 0, 0, 0, 0, 1, 0, 0] [(0, .lst 6 (List.map GRegisterEvent.lv p0)), (1, .fn p1_f p1_c), (2, .fn p2_f p2_c), (8, .arr 117 (List.length (l4.set n3.toNat r9))), (9, .arr 120 (List.length l5)), (10, .mp 121), (11, .int .i64 n3), (22, .lst 6 (List.map GRegisterEvent.lv p0)), (23, .int .i64 (p0.length : Int)), (24, .int .i64 n3), (59, .bool (!r15))] [(117, .arr 31 3 (List.map GStamp.lv (l4.set n3.toNat r9))), (120, .arr 3 1 (List.map (LV.int .i64) l5)), (121, .map 31 3 (mlv GStamp.lv (LV.int .i64) m6))] rfl rfl (by kernel_rfl) ?_ ?_
    · refine mN0 (oM (v := (.fn _ _)) rfl ⟨rfl, ?_⟩)
      refine mN0 (oM (v := (.lst _ _)) rfl ⟨rfl, ?_⟩)
      refine mN0 (oM (v := (.int _ _)) rfl ⟨rfl, ?_⟩)
      refine mN0 (oIx (f := GRegisterEvent.lv) te25 tk33 ts33 rfl rfl GRegisterEvent.ok hx14 rfl ⟨rfl, ?_⟩)
      refine mN0 (oLdA rfl tk33 ta33 ts33 rfl rfl ⟨rfl, ?_⟩)
      refine mN1 (oLdPA rfl rfl rfl tk33 ta33 ts33 rfl rfl ⟨rfl, ?_⟩)
      refine mN0 (oCP (args := [.agg [.int .i64 x14.Stamp.Time, .int .i64 x14.Stamp.Source, .int .i64 x14.Stamp.Seq, .int .i64 x14.Kind, .int .i64 x14.Candidate, .int .i64 x14.Minutes], .agg [.int .i64 x8.Stamp.Time, .int .i64 x8.Stamp.Source, .int .i64 x8.Stamp.Seq, .int .i64 x8.Kind, .int .i64 x8.Candidate, .int .i64 x8.Minutes]] ++ p2_c) (args' := [.agg [.int .i64 x14.Stamp.Time, .int .i64 x14.Stamp.Source, .int .i64 x14.Stamp.Seq, .int .i64 x14.Kind, .int .i64 x14.Candidate, .int .i64 x14.Minutes], .agg [.int .i64 x8.Stamp.Time, .int .i64 x8.Stamp.Source, .int .i64 x8.Stamp.Seq, .int .i64 x8.Kind, .int .i64 x8.Candidate, .int .i64 x8.Minutes]] ++ p2_c) rfl p2_i rfl SubL.rfl (p2_k _ _ _ hr15) (p2_p rfl) ⟨rfl, ?_⟩)
      refine mN0 (oNot rfl ⟨rfl, ?_⟩)
      exact m0 (Wk.to (eC rfl (eC rfl (eC rfl (eC rfl (eC rfl (eC rfl (eC rfl (eC rfl (eC rfl (eC rfl (eC rfl eN))))))))))) (mC rfl (mC rfl (mC rfl mN))) (by simp [keptRefs, LV.refs, LV.refsL, Env.args, Env.of, Env.put, Env.drop, p1_r, p2_r]) (prK rfl))
    refine LH.cond (t := (!r15)) rfl (fun hc16 => ?_) (fun hc16 => ?_)
    · replace h := iteT h hc16
      obtain ⟨x17, hx17, h⟩ := bindS h
      refine LH.loneT [(0, .lst 6 (List.map GRegisterEvent.lv p0)), (1, .fn p1_f p1_c), (2, .fn p2_f p2_c), (8, .arr 117 (List.length (l4.set n3.toNat r9))), (9, .arr 120 (List.length (l5.set n3.toNat 1))), (10, .mp 121), (22, .lst 6 (List.map GRegisterEvent.lv p0)), (23, .int .i64 (p0.length : Int)), (24, .int .i64 n3)] [(117, .arr 31 3 (List.map GStamp.lv (l4.set n3.toNat r9))), (120, .arr 3 1 (List.map (LV.int .i64) (l5.set n3.toNat 1))), (121, .map 31 3 (mlv GStamp.lv (LV.int .i64) m6))] rfl ?_ ?_
      · refine sN (oM (v := (.arr _ _)) rfl ?_)
        refine sN (oM (v := (.int _ _)) rfl ?_)
        refine sN (oIxA (f := (LV.int .i64)) te22 tk3 ts3 rfl rfl rfl hx17 ?_)
        refine s_ (oStE (f := (LV.int .i64)) (z' := 1) rfl rfl rfl rfl tk3 ts3 rfl (idxOk hx17).2 rfl ?_)
        exact s0 (Wk.to (eC rfl (eC rfl (eC rfl (eC rfl (eC (congrArg (LV.arr 120) (by simp)) (eC rfl (eC rfl (eC rfl (eC rfl eN))))))))) (mC rfl (mC rfl (mC rfl mN))) (by simp [keptRefs, LV.refs, LV.refsL, Env.args, Env.of, Env.put, Env.drop, p1_r, p2_r]) (prK rfl))
      refine blockN ?_
      refine thenN ?_
      refine LH.loneT [(0, .lst 6 (List.map GRegisterEvent.lv p0)), (1, .fn p1_f p1_c), (2, .fn p2_f p2_c), (8, .arr 117 (List.length (l4.set n3.toNat r9))), (9, .arr 120 (List.length (l5.set n3.toNat 1))), (10, .mp 121), (22, .lst 6 (List.map GRegisterEvent.lv p0)), (23, .int .i64 (p0.length : Int)), (24, .int .i64 (i64 (n3 + 1)))] [(117, .arr 31 3 (List.map GStamp.lv (l4.set n3.toNat r9))), (120, .arr 3 1 (List.map (LV.int .i64) (l5.set n3.toNat 1))), (121, .map 31 3 (mlv GStamp.lv (LV.int .i64) m6))] rfl ?_ ?_
      · refine sN (oAdd rfl rfl ?_)
        refine sN (oM (v := (.int _ _)) rfl ?_)
        exact s0 (Wk.to (eC rfl (eC rfl (eC rfl (eC rfl (eC rfl (eC rfl (eC rfl (eC rfl (eC rfl eN))))))))) (mC rfl (mC rfl (mC rfl mN))) (by simp [keptRefs, LV.refs, LV.refsL, Env.args, Env.of, Env.put, Env.drop, p1_r, p2_r]) (prK rfl))
      exact roundN (e' := Env.of [(0, .lst 6 (List.map GRegisterEvent.lv p0)), (1, .fn p1_f p1_c), (2, .fn p2_f p2_c), (8, .arr 117 (List.length (l4.set n3.toNat r9))), (9, .arr 120 (List.length (l5.set n3.toNat 1))), (10, .mp 121), (22, .lst 6 (List.map GRegisterEvent.lv p0)), (23, .int .i64 (p0.length : Int)), (24, .int .i64 (i64 (n3 + 1)))]) (m' := Mem.of [(117, .arr 31 3 (List.map GStamp.lv (l4.set n3.toNat r9))), (120, .arr 3 1 (List.map (LV.int .i64) (l5.set n3.toNat 1))), (121, .map 31 3 (mlv GStamp.lv (LV.int .i64) m6))]) (Wk.to (eC rfl (eC rfl (eC rfl (eC rfl (eC rfl (eC rfl (eC rfl (eC rfl (eC rfl eN))))))))) (mC rfl (mC rfl (mC rfl mN))) (by simp [keptRefs, LV.refs, LV.refsL, Env.args, Env.of, Env.put, Env.drop, p1_r, p2_r]) (prK rfl)) ⟨(i64 (n3 + 1)), (l4.set n3.toNat r9), (l5.set n3.toNat 1), m6, hrec1 ▸ h, rfl, rfl⟩
    replace h := iteF h hc16
    refine LH.skip ?_
    refine blockN ?_
    refine thenN ?_
    refine LH.wk (Wk.to (el := [(0, .lst 6 (List.map GRegisterEvent.lv p0)), (1, .fn p1_f p1_c), (2, .fn p2_f p2_c), (8, .arr 117 (List.length (l4.set n3.toNat r9))), (9, .arr 120 (List.length l5)), (10, .mp 121), (22, .lst 6 (List.map GRegisterEvent.lv p0)), (23, .int .i64 (p0.length : Int)), (24, .int .i64 n3)]) (ml := [(117, .arr 31 3 (List.map GStamp.lv (l4.set n3.toNat r9))), (120, .arr 3 1 (List.map (LV.int .i64) l5)), (121, .map 31 3 (mlv GStamp.lv (LV.int .i64) m6))]) (eC rfl (eC rfl (eC rfl (eC rfl (eC rfl (eC rfl (eC rfl (eC rfl (eC rfl eN))))))))) (mC rfl (mC rfl (mC rfl mN))) (by simp [keptRefs, LV.refs, LV.refsL, Env.args, Env.of, Env.put, Env.drop, p1_r, p2_r]) (prK rfl)) ?_
    refine LH.loneT [(0, .lst 6 (List.map GRegisterEvent.lv p0)), (1, .fn p1_f p1_c), (2, .fn p2_f p2_c), (8, .arr 117 (List.length (l4.set n3.toNat r9))), (9, .arr 120 (List.length l5)), (10, .mp 121), (22, .lst 6 (List.map GRegisterEvent.lv p0)), (23, .int .i64 (p0.length : Int)), (24, .int .i64 (i64 (n3 + 1)))] [(117, .arr 31 3 (List.map GStamp.lv (l4.set n3.toNat r9))), (120, .arr 3 1 (List.map (LV.int .i64) l5)), (121, .map 31 3 (mlv GStamp.lv (LV.int .i64) m6))] rfl ?_ ?_
    · refine sN (oAdd rfl rfl ?_)
      refine sN (oM (v := (.int _ _)) rfl ?_)
      exact s0 (Wk.to (eC rfl (eC rfl (eC rfl (eC rfl (eC rfl (eC rfl (eC rfl (eC rfl (eC rfl eN))))))))) (mC rfl (mC rfl (mC rfl mN))) (by simp [keptRefs, LV.refs, LV.refsL, Env.args, Env.of, Env.put, Env.drop, p1_r, p2_r]) (prK rfl))
    exact roundN (e' := Env.of [(0, .lst 6 (List.map GRegisterEvent.lv p0)), (1, .fn p1_f p1_c), (2, .fn p2_f p2_c), (8, .arr 117 (List.length (l4.set n3.toNat r9))), (9, .arr 120 (List.length l5)), (10, .mp 121), (22, .lst 6 (List.map GRegisterEvent.lv p0)), (23, .int .i64 (p0.length : Int)), (24, .int .i64 (i64 (n3 + 1)))]) (m' := Mem.of [(117, .arr 31 3 (List.map GStamp.lv (l4.set n3.toNat r9))), (120, .arr 3 1 (List.map (LV.int .i64) l5)), (121, .map 31 3 (mlv GStamp.lv (LV.int .i64) m6))]) (Wk.to (eC rfl (eC rfl (eC rfl (eC rfl (eC rfl (eC rfl (eC rfl (eC rfl (eC rfl eN))))))))) (mC rfl (mC rfl (mC rfl mN))) (by simp [keptRefs, LV.refs, LV.refsL, Env.args, Env.of, Env.put, Env.drop, p1_r, p2_r]) (prK rfl)) ⟨(i64 (n3 + 1)), (l4.set n3.toNat r9), l5, m6, hrec1 ▸ h, rfl, rfl⟩
  replace h := iteF h hc7
  refine LH.exit ?_
  refine thenX ?_
  refine roundX ?_
  refine blockH ?_
  refine thenN ?_
  refine LH.wk ((Wk.trans (Wk.to (el := [(8, .arr 117 (List.length l4)), (9, .arr 120 (List.length l5))]) (ml := [(117, .arr 31 3 (List.map GStamp.lv l4)), (120, .arr 3 1 (List.map (LV.int .i64) l5))]) (eC rfl (eC rfl eN)) (mC rfl (mC rfl mN)) (by simp [keptRefs, LV.refs, LV.refsL, Env.args, Env.of, Env.put, Env.drop, p1_r, p2_r]) (prK rfl)) (Wk.trans (Wk.frzL (f := GStamp.lv) (el' := [(8, .lst 3 (List.map GStamp.lv l4)), (9, .arr 120 (List.length l5))]) 117 31 3 l4 rfl rfl (prN rfl) (fZ (fK rfl fN))) (Wk.trans (Wk.frzL (f := (LV.int .i64)) (el' := [(8, .lst 3 (List.map GStamp.lv l4)), (9, .lst 1 (List.map (LV.int .i64) l5))]) 120 3 1 l5 rfl rfl (prN rfl) (fK rfl (fZ fN))) (Wk.to (el := [(8, .lst 3 (List.map GStamp.lv l4)), (9, .lst 1 (List.map (LV.int .i64) l5))]) (ml := []) (eC rfl (eC rfl eN)) mN (by simp [keptRefs, LV.refs, LV.refsL, Env.args, Env.of, Env.put, Env.drop, p1_r, p2_r]) (prK rfl)))))) ?_
  refine LH.seqT [(6, .lst 3 (List.map GStamp.lv l4)), (7, .lst 1 (List.map (LV.int .i64) l5))] [] rfl ?_ ?_
  · refine sN (oM (v := (.lst _ _)) rfl ?_)
    refine sN (oM (v := (.lst _ _)) rfl ?_)
    refine sN (oA (v := (.lst _ _)) rfl ?_)
    refine sN (oA (v := (.lst _ _)) rfl ?_)
    exact s0 (Wk.to (eC rfl (eC rfl eN)) mN (by simp [keptRefs, LV.refs, LV.refsL, Env.args, Env.of, Env.put, Env.drop, p1_r, p2_r]) (prK rfl))
  refine LH.ret ?_
  obtain rfl := Option.some.inj h
  exact retE (congrArg Array.toList Try.results50) (lrT rfl (lrT rfl (lr0 ⟨memN mN, rfl, prK rfl, (Sub.tup (sbR (sbR sbN)))⟩)))

theorem stamp_Valid_ok {p0 : GStamp} {r : Bool} (h : stamp_Valid p0 = some r) : LCall Try.prog 71 [.agg [.int .i64 p0.Time, .int .i64 p0.Source, .int .i64 p0.Seq]] (Mem.of []) (.bool r) (Mem.of []) := by
  unfold stamp_Valid at h
  refine bodyT Try.func71 rfl (by rw [Try.ntmps71]; exact Nat.le_of_ble_eq_true rfl) ?_
  refine LH.wk (Wk.to (el := [(0, .agg [.int .i64 p0.Time, .int .i64 p0.Source, .int .i64 p0.Seq])]) (ml := []) (eC rfl eN) mN rfl (prK rfl)) ?_
  refine LH.seqT [(1, .sptr [.int .i64 p0.Time, .int .i64 p0.Source, .int .i64 p0.Seq])] [] rfl ?_ ?_
  · refine sB (oBxR rfl rfl rfl rfl ?_)
    refine sN (oA (v := (.bool _)) rfl ?_)
    exact s0 (Wk.to (eC rfl eN) mN rfl (prK rfl))
  refine LH.seqT [(2, .bool ((decide (p0.Time ≥ 0)) && ((decide (p0.Time ≤ 1000000)) && ((decide (p0.Source ≥ 0)) && ((decide (p0.Source ≤ 99)) && ((decide (p0.Seq ≥ 0)) && (decide (p0.Seq ≤ 9999))))))))] [] rfl ?_ ?_
  · refine sN (oFaS tf31_0 tk3 ts3 rfl rfl rfl ?_)
    refine sN (oLd rfl tk3 ta3 ?_)
    refine sN (oGe rfl rfl ?_)
    refine sN (oM (v := (.bool _)) rfl ?_)
    by_cases hb2 : (decide (p0.Time ≥ 0)) = true
    · refine sT rfl (congrArg LV.bool hb2) (oFaS tf31_0 tk3 ts3 rfl rfl rfl ?_)
      refine sT rfl (congrArg LV.bool hb2) (oLd rfl tk3 ta3 ?_)
      refine sT rfl (congrArg LV.bool hb2) (oLe rfl rfl ?_)
      refine sN (oPkT (congrArg LV.bool hb2) (v := (.bool _)) rfl ?_)
      refine sN (oM (v := (.bool _)) rfl ?_)
      by_cases hb3 : (decide (p0.Time ≤ 1000000)) = true
      · refine sT rfl (congrArg LV.bool hb3) (oFaS tf31_1 tk3 ts3 rfl rfl rfl ?_)
        refine sT rfl (congrArg LV.bool hb3) (oLd rfl tk3 ta3 ?_)
        refine sT rfl (congrArg LV.bool hb3) (oGe rfl rfl ?_)
        refine sN (oPkT (congrArg LV.bool hb3) (v := (.bool _)) rfl ?_)
        refine sN (oM (v := (.bool _)) rfl ?_)
        by_cases hb4 : (decide (p0.Source ≥ 0)) = true
        · refine sT rfl (congrArg LV.bool hb4) (oFaS tf31_1 tk3 ts3 rfl rfl rfl ?_)
          refine sT rfl (congrArg LV.bool hb4) (oLd rfl tk3 ta3 ?_)
          refine sT rfl (congrArg LV.bool hb4) (oLe rfl rfl ?_)
          refine sN (oPkT (congrArg LV.bool hb4) (v := (.bool _)) rfl ?_)
          refine sN (oM (v := (.bool _)) rfl ?_)
          by_cases hb5 : (decide (p0.Source ≤ 99)) = true
          · refine sT rfl (congrArg LV.bool hb5) (oFaS tf31_2 tk3 ts3 rfl rfl rfl ?_)
            refine sT rfl (congrArg LV.bool hb5) (oLd rfl tk3 ta3 ?_)
            refine sT rfl (congrArg LV.bool hb5) (oGe rfl rfl ?_)
            refine sN (oPkT (congrArg LV.bool hb5) (v := (.bool _)) rfl ?_)
            refine sN (oM (v := (.bool _)) rfl ?_)
            by_cases hb6 : (decide (p0.Seq ≥ 0)) = true
            · refine sT rfl (congrArg LV.bool hb6) (oFaS tf31_2 tk3 ts3 rfl rfl rfl ?_)
              refine sT rfl (congrArg LV.bool hb6) (oLd rfl tk3 ta3 ?_)
              refine sT rfl (congrArg LV.bool hb6) (oLe rfl rfl ?_)
              refine sN (oPkT (congrArg LV.bool hb6) (v := (.bool _)) rfl ?_)
              refine sN (oA (v := (.bool _)) rfl ?_)
              exact s0 (Wk.to (eC (congrArg LV.bool (Eq.trans (Eq.trans (Eq.trans (Eq.trans (andT hb6) (andT hb5)) (andT hb4)) (andT hb3)) (andT hb2))) eN) mN rfl (prK rfl))
            · replace hb6 := bF hb6
              refine sF rfl rfl hb6 ?_
              refine sF rfl rfl hb6 ?_
              refine sF rfl rfl hb6 ?_
              refine sN (oPkF (congrArg LV.bool hb6) (v := (.bool _)) rfl ?_)
              refine sN (oA (v := (.bool _)) rfl ?_)
              exact s0 (Wk.to (eC (congrArg LV.bool (Eq.trans (Eq.trans (Eq.trans (Eq.trans (andF hb6) (andT hb5)) (andT hb4)) (andT hb3)) (andT hb2))) eN) mN rfl (prK rfl))
          · replace hb5 := bF hb5
            refine sF rfl rfl hb5 ?_
            refine sF rfl rfl hb5 ?_
            refine sF rfl rfl hb5 ?_
            refine sN (oPkF (congrArg LV.bool hb5) (v := (.bool _)) rfl ?_)
            refine sN (oM (v := (.bool _)) rfl ?_)
            refine sF rfl rfl rfl ?_
            refine sF rfl rfl rfl ?_
            refine sF rfl rfl rfl ?_
            refine sN (oPkF rfl (v := (.bool _)) rfl ?_)
            refine sN (oA (v := (.bool _)) rfl ?_)
            exact s0 (Wk.to (eC (congrArg LV.bool (Eq.trans (Eq.trans (Eq.trans (andF hb5) (andT hb4)) (andT hb3)) (andT hb2))) eN) mN rfl (prK rfl))
        · replace hb4 := bF hb4
          refine sF rfl rfl hb4 ?_
          refine sF rfl rfl hb4 ?_
          refine sF rfl rfl hb4 ?_
          refine sN (oPkF (congrArg LV.bool hb4) (v := (.bool _)) rfl ?_)
          refine sN (oM (v := (.bool _)) rfl ?_)
          refine sF rfl rfl rfl ?_
          refine sF rfl rfl rfl ?_
          refine sF rfl rfl rfl ?_
          refine sN (oPkF rfl (v := (.bool _)) rfl ?_)
          refine sN (oM (v := (.bool _)) rfl ?_)
          refine sF rfl rfl rfl ?_
          refine sF rfl rfl rfl ?_
          refine sF rfl rfl rfl ?_
          refine sN (oPkF rfl (v := (.bool _)) rfl ?_)
          refine sN (oA (v := (.bool _)) rfl ?_)
          exact s0 (Wk.to (eC (congrArg LV.bool (Eq.trans (Eq.trans (andF hb4) (andT hb3)) (andT hb2))) eN) mN rfl (prK rfl))
      · replace hb3 := bF hb3
        refine sF rfl rfl hb3 ?_
        refine sF rfl rfl hb3 ?_
        refine sF rfl rfl hb3 ?_
        refine sN (oPkF (congrArg LV.bool hb3) (v := (.bool _)) rfl ?_)
        refine sN (oM (v := (.bool _)) rfl ?_)
        refine sF rfl rfl rfl ?_
        refine sF rfl rfl rfl ?_
        refine sF rfl rfl rfl ?_
        refine sN (oPkF rfl (v := (.bool _)) rfl ?_)
        refine sN (oM (v := (.bool _)) rfl ?_)
        refine sF rfl rfl rfl ?_
        refine sF rfl rfl rfl ?_
        refine sF rfl rfl rfl ?_
        refine sN (oPkF rfl (v := (.bool _)) rfl ?_)
        refine sN (oM (v := (.bool _)) rfl ?_)
        refine sF rfl rfl rfl ?_
        refine sF rfl rfl rfl ?_
        refine sF rfl rfl rfl ?_
        refine sN (oPkF rfl (v := (.bool _)) rfl ?_)
        refine sN (oA (v := (.bool _)) rfl ?_)
        exact s0 (Wk.to (eC (congrArg LV.bool (Eq.trans (andF hb3) (andT hb2))) eN) mN rfl (prK rfl))
    · replace hb2 := bF hb2
      refine sF rfl rfl hb2 ?_
      refine sF rfl rfl hb2 ?_
      refine sF rfl rfl hb2 ?_
      refine sN (oPkF (congrArg LV.bool hb2) (v := (.bool _)) rfl ?_)
      refine sN (oM (v := (.bool _)) rfl ?_)
      refine sF rfl rfl rfl ?_
      refine sF rfl rfl rfl ?_
      refine sF rfl rfl rfl ?_
      refine sN (oPkF rfl (v := (.bool _)) rfl ?_)
      refine sN (oM (v := (.bool _)) rfl ?_)
      refine sF rfl rfl rfl ?_
      refine sF rfl rfl rfl ?_
      refine sF rfl rfl rfl ?_
      refine sN (oPkF rfl (v := (.bool _)) rfl ?_)
      refine sN (oM (v := (.bool _)) rfl ?_)
      refine sF rfl rfl rfl ?_
      refine sF rfl rfl rfl ?_
      refine sF rfl rfl rfl ?_
      refine sN (oPkF rfl (v := (.bool _)) rfl ?_)
      refine sN (oM (v := (.bool _)) rfl ?_)
      refine sF rfl rfl rfl ?_
      refine sF rfl rfl rfl ?_
      refine sF rfl rfl rfl ?_
      refine sN (oPkF rfl (v := (.bool _)) rfl ?_)
      refine sN (oA (v := (.bool _)) rfl ?_)
      exact s0 (Wk.to (eC (congrArg LV.bool (andF hb2)) eN) mN rfl (prK rfl))
  refine LH.ret ?_
  obtain rfl := Option.some.inj h
  exact retE (congrArg Array.toList Try.results71) (lrT rfl (lr0 ⟨memN mN, rfl, prK rfl, Sub.rfl⟩))

theorem cmp_isNaN_int_ok {p0 : Int} {r : Bool} (h : cmp_isNaN_int p0 = some r) : LCall Try.prog 65 [.int .i64 p0] (Mem.of []) (.bool r) (Mem.of []) := by
  unfold cmp_isNaN_int at h
  refine bodyT Try.func65 rfl (by rw [Try.ntmps65]; exact Nat.le_of_ble_eq_true rfl) ?_
  refine LH.wk (Wk.to (el := [(0, .int .i64 p0)]) (ml := []) (eC rfl eN) mN rfl (prK rfl)) ?_
  refine LH.seqT [(0, .int .i64 p0)] [] rfl ?_ ?_
  · refine sN (oA (v := (.bool _)) rfl ?_)
    exact s0 (Wk.to (eC rfl eN) mN rfl (prK rfl))
  refine LH.seqT [(2, .bool (p0 != p0))] [] rfl ?_ ?_
  · refine sN (oM (v := (.int _ _)) rfl ?_)
    refine sN (oM (v := (.int _ _)) rfl ?_)
    refine sN (oNe rfl rfl ?_)
    refine sN (oA (v := (.bool _)) rfl ?_)
    exact s0 (Wk.to (eC rfl eN) mN rfl (prK rfl))
  refine LH.ret ?_
  obtain rfl := Option.some.inj h
  exact retE (congrArg Array.toList Try.results65) (lrT rfl (lr0 ⟨memN mN, rfl, prK rfl, Sub.rfl⟩))

theorem cmp_Compare_int_ok {p0 : Int} {p1 : Int} {r : Int} (h : cmp_Compare_int p0 p1 = some r) : LCall Try.prog 56 [.int .i64 p0, .int .i64 p1] (Mem.of []) (.int .i64 r) (Mem.of []) := by
  unfold cmp_Compare_int at h
  refine bodyT Try.func56 rfl (by rw [Try.ntmps56]; exact Nat.le_of_ble_eq_true rfl) ?_
  refine LH.wk (Wk.to (el := [(0, .int .i64 p0), (1, .int .i64 p1)]) (ml := []) (eC rfl (eC rfl eN)) mN rfl (prK rfl)) ?_
  refine LH.seqT [(0, .int .i64 p0), (1, .int .i64 p1)] [] rfl ?_ ?_
  · refine sN (oA (v := (.int _ _)) rfl ?_)
    exact s0 (Wk.to (eC rfl (eC rfl eN)) mN rfl (prK rfl))
  obtain ⟨r1, hr1, h⟩ := bindS h
  refine LH.seqT [(0, .int .i64 p0), (1, .int .i64 p1), (5, .bool r1)] [] rfl ?_ ?_
  · refine sN (oM (v := (.int _ _)) rfl ?_)
    refine sN (oCP (args := [.int .i64 p0]) rfl isF65 rfl (sbR sbN) (cmp_isNaN_int_ok hr1) rfl ?_)
    refine sN (oA (v := (.bool _)) rfl ?_)
    exact s0 (Wk.to (eC rfl (eC rfl (eC rfl eN))) mN rfl (prK rfl))
  obtain ⟨r2, hr2, h⟩ := bindS h
  refine LH.seqT [(0, .int .i64 p0), (1, .int .i64 p1), (5, .bool r1), (6, .bool r2)] [] rfl ?_ ?_
  · refine sN (oM (v := (.int _ _)) rfl ?_)
    refine sN (oCP (args := [.int .i64 p1]) rfl isF65 rfl (sbR sbN) (cmp_isNaN_int_ok hr2) rfl ?_)
    refine sN (oA (v := (.bool _)) rfl ?_)
    exact s0 (Wk.to (eC rfl (eC rfl (eC rfl (eC rfl eN)))) mN rfl (prK rfl))
  refine LH.seq ?_
  refine LH.seqT [(0, .int .i64 p0), (1, .int .i64 p1), (6, .bool r2), (11, .bool r1)] [] rfl ?_ ?_
  · refine sN (oM (v := (.bool _)) rfl ?_)
    exact s0 (Wk.to (eC rfl (eC rfl (eC rfl (eC rfl eN)))) mN rfl (prK rfl))
  refine LH.cond (t := r1) rfl (fun hc3 => ?_) (fun hc3 => ?_)
  · replace h := iteT h hc3
    refine LH.seq ?_
    refine LH.seqT [(12, .bool r2)] [] rfl ?_ ?_
    · refine sN (oM (v := (.bool _)) rfl ?_)
      exact s0 (Wk.to (eC rfl eN) mN rfl (prK rfl))
    refine LH.cond (t := r2) rfl (fun hc4 => ?_) (fun hc4 => ?_)
    · replace h := iteT h hc4
      refine LH.seqT [(4, .int .i64 0)] [] rfl ?_ ?_
      · refine sN (oA (v := (.int _ _)) rfl ?_)
        exact s0 (Wk.to (eC rfl eN) mN rfl (prK rfl))
      refine LH.ret ?_
      refine thenR ?_
      refine thenR ?_
      obtain rfl := Option.some.inj h
      exact retE (congrArg Array.toList Try.results56) (lrT rfl (lr0 ⟨memN mN, rfl, prK rfl, Sub.rfl⟩))
    replace h := iteF h hc4
    refine LH.skip ?_
    refine thenN ?_
    refine LH.wk (Wk.to (el := []) (ml := []) eN mN rfl (prK rfl)) ?_
    refine LH.seqT [(4, .int .i64 (-1))] [] rfl ?_ ?_
    · refine sN (oA (v := (.int _ _)) rfl ?_)
      exact s0 (Wk.to (eC rfl eN) mN rfl (prK rfl))
    refine LH.ret ?_
    refine thenR ?_
    obtain rfl := Option.some.inj h
    exact retE (congrArg Array.toList Try.results56) (lrT rfl (lr0 ⟨memN mN, rfl, prK rfl, Sub.rfl⟩))
  replace h := iteF h hc3
  refine LH.skip ?_
  refine thenN ?_
  refine LH.wk (Wk.to (el := [(0, .int .i64 p0), (1, .int .i64 p1), (6, .bool r2)]) (ml := []) (eC rfl (eC rfl (eC rfl eN))) mN rfl (prK rfl)) ?_
  refine LH.seq ?_
  refine LH.seqT [(0, .int .i64 p0), (1, .int .i64 p1), (13, .bool r2)] [] rfl ?_ ?_
  · refine sN (oM (v := (.bool _)) rfl ?_)
    exact s0 (Wk.to (eC rfl (eC rfl (eC rfl eN))) mN rfl (prK rfl))
  refine LH.cond (t := r2) rfl (fun hc5 => ?_) (fun hc5 => ?_)
  · replace h := iteT h hc5
    refine LH.seqT [(4, .int .i64 1)] [] rfl ?_ ?_
    · refine sN (oA (v := (.int _ _)) rfl ?_)
      exact s0 (Wk.to (eC rfl eN) mN rfl (prK rfl))
    refine LH.ret ?_
    refine thenR ?_
    obtain rfl := Option.some.inj h
    exact retE (congrArg Array.toList Try.results56) (lrT rfl (lr0 ⟨memN mN, rfl, prK rfl, Sub.rfl⟩))
  replace h := iteF h hc5
  refine LH.skip ?_
  refine thenN ?_
  refine LH.wk (Wk.to (el := [(0, .int .i64 p0), (1, .int .i64 p1)]) (ml := []) (eC rfl (eC rfl eN)) mN rfl (prK rfl)) ?_
  refine LH.seq ?_
  refine LH.seqT [(0, .int .i64 p0), (1, .int .i64 p1), (16, .bool (decide (p0 < p1)))] [] rfl ?_ ?_
  · refine sN (oM (v := (.int _ _)) rfl ?_)
    refine sN (oM (v := (.int _ _)) rfl ?_)
    refine sN (oLt rfl rfl ?_)
    exact s0 (Wk.to (eC rfl (eC rfl (eC rfl eN))) mN rfl (prK rfl))
  refine LH.cond (t := (decide (p0 < p1))) rfl (fun hc6 => ?_) (fun hc6 => ?_)
  · replace h := iteT h hc6
    refine LH.seqT [(4, .int .i64 (-1))] [] rfl ?_ ?_
    · refine sN (oA (v := (.int _ _)) rfl ?_)
      exact s0 (Wk.to (eC rfl eN) mN rfl (prK rfl))
    refine LH.ret ?_
    refine thenR ?_
    obtain rfl := Option.some.inj h
    exact retE (congrArg Array.toList Try.results56) (lrT rfl (lr0 ⟨memN mN, rfl, prK rfl, Sub.rfl⟩))
  replace h := iteF h hc6
  refine LH.skip ?_
  refine thenN ?_
  refine LH.wk (Wk.to (el := [(0, .int .i64 p0), (1, .int .i64 p1)]) (ml := []) (eC rfl (eC rfl eN)) mN rfl (prK rfl)) ?_
  refine LH.seq ?_
  refine LH.seqT [(19, .bool (decide (p0 > p1)))] [] rfl ?_ ?_
  · refine sN (oM (v := (.int _ _)) rfl ?_)
    refine sN (oM (v := (.int _ _)) rfl ?_)
    refine sN (oGt rfl rfl ?_)
    exact s0 (Wk.to (eC rfl eN) mN rfl (prK rfl))
  refine LH.cond (t := (decide (p0 > p1))) rfl (fun hc7 => ?_) (fun hc7 => ?_)
  · replace h := iteT h hc7
    refine LH.seqT [(4, .int .i64 1)] [] rfl ?_ ?_
    · refine sN (oA (v := (.int _ _)) rfl ?_)
      exact s0 (Wk.to (eC rfl eN) mN rfl (prK rfl))
    refine LH.ret ?_
    refine thenR ?_
    obtain rfl := Option.some.inj h
    exact retE (congrArg Array.toList Try.results56) (lrT rfl (lr0 ⟨memN mN, rfl, prK rfl, Sub.rfl⟩))
  replace h := iteF h hc7
  refine LH.skip ?_
  refine thenN ?_
  refine LH.wk (Wk.to (el := []) (ml := []) eN mN rfl (prK rfl)) ?_
  refine LH.seqT [(4, .int .i64 0)] [] rfl ?_ ?_
  · refine sN (oA (v := (.int _ _)) rfl ?_)
    exact s0 (Wk.to (eC rfl eN) mN rfl (prK rfl))
  refine LH.ret ?_
  obtain rfl := Option.some.inj h
  exact retE (congrArg Array.toList Try.results56) (lrT rfl (lr0 ⟨memN mN, rfl, prK rfl, Sub.rfl⟩))

theorem cmp_Or_int_ok {F : Nat} {p0 : List Int} {r : Int} (h : cmp_Or_int F p0 = some r) : LCall Try.prog 73 [.lst 1 (List.map (LV.int .i64) p0)] (Mem.of []) (.int .i64 r) (Mem.of []) := by
  unfold cmp_Or_int at h
  refine bodyT Try.func73 rfl (by rw [Try.ntmps73]; exact Nat.le_of_ble_eq_true rfl) ?_
  refine LH.wk (Wk.to (el := [(0, .lst 1 (List.map (LV.int .i64) p0))]) (ml := []) (eC rfl eN) mN rfl (prK rfl)) ?_
  refine LH.seqT [(0, .lst 1 (List.map (LV.int .i64) p0))] [] rfl ?_ ?_
  · refine sN (oA (v := (.int _ _)) rfl ?_)
    exact s0 (Wk.to (eC rfl eN) mN rfl (prK rfl))
  refine LH.seqT [(0, .lst 1 (List.map (LV.int .i64) p0)), (3, .int .i64 0)] [] rfl ?_ ?_
  · refine sN (oA (v := (.int _ _)) rfl ?_)
    exact s0 (Wk.to (eC rfl (eC rfl eN)) mN rfl (prK rfl))
  refine LH.seq ?_
  refine LH.seqT [(3, .int .i64 0), (6, .lst 1 (List.map (LV.int .i64) p0)), (7, .int .i64 (p0.length : Int)), (8, .int .i64 0)] [] rfl ?_ ?_
  · refine sN (oM (v := (.lst _ _)) rfl ?_)
    refine sN (oLnL (f := (LV.int .i64)) te22 rfl ?_)
    refine sN (oM (v := (.int _ _)) rfl ?_)
    exact s0 (Wk.to (eC rfl (eC rfl (eC rfl (eC rfl eN)))) mN rfl (prK rfl))
  refine LH.block ?_
  refine LH.loop (fun n e m => ∃ (n1 : Int), cmp_Or_int_L1 p0 n n1 = some r ∧ e = Env.of [(3, .int .i64 0), (6, .lst 1 (List.map (LV.int .i64) p0)), (7, .int .i64 (p0.length : Int)), (8, .int .i64 n1)] ∧ m = Mem.of []) F ⟨0, h, rfl, rfl⟩ ?_
  clear h
  rintro n e m ⟨n1, h, rfl, rfl⟩
  rcases n with _ | n
  · cases (show Option.none = some _ from h)
  obtain ⟨rec1, hrec1⟩ : ∃ f, f = cmp_Or_int_L1 p0 n := ⟨_, rfl⟩
  replace h : cmp_Or_int_L1_B p0 rec1 n1 = some r := hrec1 ▸ h
  unfold cmp_Or_int_L1_B at h
  refine LH.seqT [(3, .int .i64 0), (6, .lst 1 (List.map (LV.int .i64) p0)), (7, .int .i64 (p0.length : Int)), (8, .int .i64 n1), (9, .bool (decide (n1 < (p0.length : Int))))] [] rfl ?_ ?_
  · refine sN (oLt rfl rfl ?_)
    exact s0 (Wk.to (eC rfl (eC rfl (eC rfl (eC rfl (eC rfl eN))))) mN rfl (prK rfl))
  refine LH.seq ?_
  refine LH.cond (t := (decide (n1 < (p0.length : Int)))) rfl (fun hc2 => ?_) (fun hc2 => ?_)
  · replace h := iteT h hc2
    refine LH.skip ?_
    refine thenN ?_
    refine LH.wk (Wk.to (el := [(3, .int .i64 0), (6, .lst 1 (List.map (LV.int .i64) p0)), (7, .int .i64 (p0.length : Int)), (8, .int .i64 n1)]) (ml := []) (eC rfl (eC rfl (eC rfl (eC rfl eN)))) mN rfl (prK rfl)) ?_
    refine LH.seq ?_
    refine LH.block ?_
    obtain ⟨x3, hx3, h⟩ := bindS h
    refine LH.seqT [(3, .int .i64 0), (5, .int .i64 x3), (6, .lst 1 (List.map (LV.int .i64) p0)), (7, .int .i64 (p0.length : Int)), (8, .int .i64 n1)] [] rfl ?_ ?_
    · refine sN (oIx (f := (LV.int .i64)) te22 tk3 ts3 rfl rfl okI hx3 rfl ?_)
      refine sN (oLd rfl tk3 ta3 ?_)
      refine sN (oA (v := (.int _ _)) rfl ?_)
      exact s0 (Wk.to (eC rfl (eC rfl (eC rfl (eC rfl (eC rfl eN))))) mN rfl (prK rfl))
    refine LH.seqT [(3, .int .i64 0), (5, .int .i64 x3), (6, .lst 1 (List.map (LV.int .i64) p0)), (7, .int .i64 (p0.length : Int)), (8, .int .i64 n1), (14, .bool (x3 != 0))] [] rfl ?_ ?_
    · refine sN (oM (v := (.int _ _)) rfl ?_)
      refine sN (oM (v := (.int _ _)) rfl ?_)
      refine sN (oNe rfl rfl ?_)
      exact s0 (Wk.to (eC rfl (eC rfl (eC rfl (eC rfl (eC rfl (eC rfl eN)))))) mN rfl (prK rfl))
    refine LH.cond (t := (x3 != 0)) rfl (fun hc4 => ?_) (fun hc4 => ?_)
    · replace h := iteT h hc4
      refine LH.seqT [(2, .int .i64 x3)] [] rfl ?_ ?_
      · refine sN (oM (v := (.int _ _)) rfl ?_)
        refine sN (oA (v := (.int _ _)) rfl ?_)
        exact s0 (Wk.to (eC rfl eN) mN rfl (prK rfl))
      refine LH.ret ?_
      refine blockR ?_
      refine thenR ?_
      refine roundR ?_
      refine blockR ?_
      refine thenR ?_
      obtain rfl := Option.some.inj h
      exact retE (congrArg Array.toList Try.results73) (lrT rfl (lr0 ⟨memN mN, rfl, prK rfl, Sub.rfl⟩))
    replace h := iteF h hc4
    refine LH.skip ?_
    refine blockN ?_
    refine thenN ?_
    refine LH.wk (Wk.to (el := [(3, .int .i64 0), (6, .lst 1 (List.map (LV.int .i64) p0)), (7, .int .i64 (p0.length : Int)), (8, .int .i64 n1)]) (ml := []) (eC rfl (eC rfl (eC rfl (eC rfl eN)))) mN rfl (prK rfl)) ?_
    refine LH.loneT [(3, .int .i64 0), (6, .lst 1 (List.map (LV.int .i64) p0)), (7, .int .i64 (p0.length : Int)), (8, .int .i64 (i64 (n1 + 1)))] [] rfl ?_ ?_
    · refine sN (oAdd rfl rfl ?_)
      refine sN (oM (v := (.int _ _)) rfl ?_)
      exact s0 (Wk.to (eC rfl (eC rfl (eC rfl (eC rfl eN)))) mN rfl (prK rfl))
    exact roundN (e' := Env.of [(3, .int .i64 0), (6, .lst 1 (List.map (LV.int .i64) p0)), (7, .int .i64 (p0.length : Int)), (8, .int .i64 (i64 (n1 + 1)))]) (m' := Mem.of []) (Wk.to (eC rfl (eC rfl (eC rfl (eC rfl eN)))) mN rfl (prK rfl)) ⟨(i64 (n1 + 1)), hrec1 ▸ h, rfl, rfl⟩
  replace h := iteF h hc2
  refine LH.exit ?_
  refine thenX ?_
  refine roundX ?_
  refine blockH ?_
  refine thenN ?_
  refine LH.wk (Wk.to (el := [(3, .int .i64 0)]) (ml := []) (eC rfl eN) mN rfl (prK rfl)) ?_
  refine LH.seqT [(2, .int .i64 0)] [] rfl ?_ ?_
  · refine sN (oM (v := (.int _ _)) rfl ?_)
    refine sN (oA (v := (.int _ _)) rfl ?_)
    exact s0 (Wk.to (eC rfl eN) mN rfl (prK rfl))
  refine LH.ret ?_
  obtain rfl := Option.some.inj h
  exact retE (congrArg Array.toList Try.results73) (lrT rfl (lr0 ⟨memN mN, rfl, prK rfl, Sub.rfl⟩))

theorem stamp_compareIdentity_ok {F : Nat} {p0 : GStamp} {p1 : GStamp} {r : Int} (h : stamp_compareIdentity F p0 p1 = some r) : LCall Try.prog 74 [.agg [.int .i64 p0.Time, .int .i64 p0.Source, .int .i64 p0.Seq], .agg [.int .i64 p1.Time, .int .i64 p1.Source, .int .i64 p1.Seq]] (Mem.of []) (.int .i64 r) (Mem.of []) := by
  unfold stamp_compareIdentity at h
  refine bodyT Try.func74 rfl (by rw [Try.ntmps74]; exact Nat.le_of_ble_eq_true rfl) ?_
  refine LH.wk (Wk.to (el := [(0, .agg [.int .i64 p0.Time, .int .i64 p0.Source, .int .i64 p0.Seq]), (1, .agg [.int .i64 p1.Time, .int .i64 p1.Source, .int .i64 p1.Seq])]) (ml := []) (eC rfl (eC rfl eN)) mN rfl (prK rfl)) ?_
  refine LH.seqT [(2, .sptr [.int .i64 p0.Time, .int .i64 p0.Source, .int .i64 p0.Seq]), (3, .sptr [.int .i64 p1.Time, .int .i64 p1.Source, .int .i64 p1.Seq])] [] rfl ?_ ?_
  · refine sB (oBxR rfl rfl rfl rfl ?_)
    refine sB (oBxR rfl rfl rfl rfl ?_)
    refine sN (oA (v := (.int _ _)) rfl ?_)
    exact s0 (Wk.to (eC rfl (eC rfl eN)) mN rfl (prK rfl))
  obtain ⟨r1, hr1, h⟩ := bindS h
  obtain ⟨r2, hr2, h⟩ := bindS h
  obtain ⟨r3, hr3, h⟩ := bindS h
  refine LH.seqJM mixed [] [0, 0, 0, 0, 0, 0, 0, 0, 0, 0, 0, 0, 0] [(4, .int .i64 r3)] [] rfl rfl (by kernel_rfl) ?_ ?_
  · refine mN0 (oFaS tf31_1 tk3 ts3 rfl rfl rfl ⟨rfl, ?_⟩)
    refine mN0 (oLd rfl tk3 ta3 ⟨rfl, ?_⟩)
    refine mN0 (oFaS tf31_1 tk3 ts3 rfl rfl rfl ⟨rfl, ?_⟩)
    refine mN0 (oLd rfl tk3 ta3 ⟨rfl, ?_⟩)
    refine mN0 (oCP (args := [.int .i64 p0.Source, .int .i64 p1.Source]) rfl isF56 rfl (sbR (sbR sbN)) (cmp_Compare_int_ok hr1) rfl ⟨rfl, ?_⟩)
    refine mN0 (oFaS tf31_2 tk3 ts3 rfl rfl rfl ⟨rfl, ?_⟩)
    refine mN0 (oLd rfl tk3 ta3 ⟨rfl, ?_⟩)
    refine mN0 (oFaS tf31_2 tk3 ts3 rfl rfl rfl ⟨rfl, ?_⟩)
    refine mN0 (oLd rfl tk3 ta3 ⟨rfl, ?_⟩)
    refine mN0 (oCP (args := [.int .i64 p0.Seq, .int .i64 p1.Seq]) rfl isF56 rfl (sbR (sbR sbN)) (cmp_Compare_int_ok hr2) rfl ⟨rfl, ?_⟩)
    refine mN0 (oBS (f := (LV.int .i64)) (ys := [r1, r2]) te22 tr3 ts3 rfl rfl rfl okI ⟨rfl, ?_⟩)
    refine mN0 (oCP (args := [.lst 1 (List.map (LV.int .i64) [r1, r2])]) rfl isF73 rfl (sbR sbN) (cmp_Or_int_ok hr3) rfl ⟨rfl, ?_⟩)
    refine mN0 (oA (v := (.int _ _)) rfl ⟨rfl, ?_⟩)
    exact m0 (Wk.to (eC rfl eN) mN rfl (prK rfl))
  refine LH.ret ?_
  obtain rfl := Option.some.inj h
  exact retE (congrArg Array.toList Try.results74) (lrT rfl (lr0 ⟨memN mN, rfl, prK rfl, Sub.rfl⟩))

theorem stamp_groups_1_ok {F : Nat} {p0 : Int} {p1 : Int} {c0 : List GStamp} {r : Int} (h : stamp_groups_1 F p0 p1 c0 = some r) : LCall Try.prog 72 [.int .i64 p0, .int .i64 p1, .sptr [.lst 3 (List.map GStamp.lv c0)]] (Mem.of []) (.int .i64 r) (Mem.of []) := by
  unfold stamp_groups_1 at h
  refine bodyT Try.func72 rfl (by rw [Try.ntmps72]; exact Nat.le_of_ble_eq_true rfl) ?_
  refine LH.wk (Wk.to (el := [(0, .int .i64 p0), (1, .int .i64 p1), (2, .sptr [.lst 3 (List.map GStamp.lv c0)])]) (ml := []) (eC rfl (eC rfl (eC rfl eN))) mN rfl (prK rfl)) ?_
  refine LH.seqT [(0, .int .i64 p0), (1, .int .i64 p1), (2, .sptr [.lst 3 (List.map GStamp.lv c0)])] [] rfl ?_ ?_
  · refine sN (oA (v := (.int _ _)) rfl ?_)
    exact s0 (Wk.to (eC rfl (eC rfl (eC rfl eN))) mN rfl (prK rfl))
  obtain ⟨x1, hx1, h⟩ := bindS h
  obtain ⟨x2, hx2, h⟩ := bindS h
  obtain ⟨r3, hr3, h⟩ := bindS h
  obtain ⟨r4, hr4, h⟩ := bindS h
  obtain ⟨r5, hr5, h⟩ := bindS h
  refine LH.seqJM mixed [] [0, 0, 0, 0, 0, 0, 0, 0, 0, 0, 0, 0, 0, 0, 0] [(5, .int .i64 r5)] [] rfl rfl (by kernel_rfl) ?_ ?_
  · refine mN0 (oLd rfl tk78 ta78 ⟨rfl, ?_⟩)
    refine mN0 (oM (v := (.int _ _)) rfl ⟨rfl, ?_⟩)
    refine mN0 (oIx (f := GStamp.lv) te78 tk31 ts31 rfl rfl GStamp.ok hx1 rfl ⟨rfl, ?_⟩)
    refine mN0 (oLdA rfl tk31 ta31 ts31 rfl rfl ⟨rfl, ?_⟩)
    refine mN0 (oLd rfl tk78 ta78 ⟨rfl, ?_⟩)
    refine mN0 (oM (v := (.int _ _)) rfl ⟨rfl, ?_⟩)
    refine mN0 (oIx (f := GStamp.lv) te78 tk31 ts31 rfl rfl GStamp.ok hx2 rfl ⟨rfl, ?_⟩)
    refine mN0 (oLdA rfl tk31 ta31 ts31 rfl rfl ⟨rfl, ?_⟩)
    refine mN0 (oCP (args := [.agg [.int .i64 x1.Time, .int .i64 x1.Source, .int .i64 x1.Seq], .agg [.int .i64 x2.Time, .int .i64 x2.Source, .int .i64 x2.Seq]]) rfl isF74 rfl (sbR (sbR sbN)) (stamp_compareIdentity_ok hr3) rfl ⟨rfl, ?_⟩)
    refine mN0 (oM (v := (.int _ _)) rfl ⟨rfl, ?_⟩)
    refine mN0 (oM (v := (.int _ _)) rfl ⟨rfl, ?_⟩)
    refine mN0 (oCP (args := [.int .i64 p0, .int .i64 p1]) rfl isF56 rfl (sbR (sbR sbN)) (cmp_Compare_int_ok hr4) rfl ⟨rfl, ?_⟩)
    refine mN0 (oBS (f := (LV.int .i64)) (ys := [r3, r4]) te22 tr3 ts3 rfl rfl rfl okI ⟨rfl, ?_⟩)
    refine mN0 (oCP (args := [.lst 1 (List.map (LV.int .i64) [r3, r4])]) rfl isF73 rfl (sbR sbN) (cmp_Or_int_ok hr5) rfl ⟨rfl, ?_⟩)
    refine mN0 (oA (v := (.int _ _)) rfl ⟨rfl, ?_⟩)
    exact m0 (Wk.to (eC rfl eN) mN rfl (prK rfl))
  refine LH.ret ?_
  obtain rfl := Option.some.inj h
  exact retE (congrArg Array.toList Try.results72) (lrT rfl (lr0 ⟨memN mN, rfl, prK rfl, Sub.rfl⟩))

theorem stamp_groups_ok {F : Nat} {p0 : List GStamp} {p1 : List Int} {r : List stamp_group} (h : stamp_groups F p0 p1 = some r) : LCall Try.prog 58 [.lst 3 (List.map GStamp.lv p0), .lst 1 (List.map (LV.int .i64) p1)] (Mem.of []) (.lst 2 (List.map stamp_group.lv r)) (Mem.of []) := by
  unfold stamp_groups at h
  refine bodyT Try.func58 rfl (by rw [Try.ntmps58]; exact Nat.le_of_ble_eq_true rfl) ?_
  refine LH.wk (Wk.to (el := [(0, .lst 3 (List.map GStamp.lv p0)), (1, .lst 1 (List.map (LV.int .i64) p1))]) (ml := []) (eC rfl (eC rfl eN)) mN rfl (prK rfl)) ?_
  refine LH.seqT [(1, .lst 1 (List.map (LV.int .i64) p1)), (2, .sptr [.lst 3 (List.map GStamp.lv p0)])] [] rfl ?_ ?_
  · refine sB (oBxR rfl rfl rfl rfl ?_)
    refine sN (oA (v := .nil) rfl ?_)
    exact s0 (Wk.to (eC rfl (eC rfl eN)) mN rfl (prK rfl))
  refine LH.seqT [(1, .lst 1 (List.map (LV.int .i64) p1)), (2, .sptr [.lst 3 (List.map GStamp.lv p0)]), (5, .nil)] [] rfl ?_ ?_
  · refine sN (oA (v := .nil) rfl ?_)
    exact s0 (Wk.to (eC rfl (eC rfl (eC rfl eN))) mN rfl (prK rfl))
  refine LH.seq ?_
  refine LH.seqT [(1, .lst 1 (List.map (LV.int .i64) p1)), (2, .sptr [.lst 3 (List.map GStamp.lv p0)]), (5, .nil), (13, .lst 3 (List.map GStamp.lv p0)), (14, .int .i64 (p0.length : Int)), (15, .int .i64 0)] [] rfl ?_ ?_
  · refine sN (oLd rfl tk78 ta78 ?_)
    refine sN (oLnL (f := GStamp.lv) te78 rfl ?_)
    refine sN (oM (v := (.int _ _)) rfl ?_)
    exact s0 (Wk.to (eC rfl (eC rfl (eC rfl (eC rfl (eC rfl (eC rfl eN)))))) mN rfl (prK rfl))
  refine LH.block ?_
  refine LH.wk ((Wk.trans (Wk.to (el := [(1, .lst 1 (List.map (LV.int .i64) p1)), (2, .sptr [.lst 3 (List.map GStamp.lv p0)]), (5, .nil), (13, .lst 3 (List.map GStamp.lv p0)), (14, .int .i64 (p0.length : Int)), (15, .int .i64 0)]) (ml := []) (eC rfl (eC rfl (eC rfl (eC rfl (eC rfl (eC rfl eN)))))) mN rfl (prK rfl)) (Wk.trans (Wk.to (el := [(1, .lst 1 (List.map (LV.int .i64) p1)), (2, .sptr [.lst 3 (List.map GStamp.lv p0)]), (5, .nil), (13, .lst 3 (List.map GStamp.lv p0)), (14, .int .i64 (p0.length : Int)), (15, .int .i64 0)]) (ml := []) (eC rfl (eC rfl (eC rfl (eC rfl (eC rfl (eC rfl eN)))))) mN rfl (prK rfl)) (Wk.trans (Wk.ownL (el' := [(1, .lst 1 (List.map (LV.int .i64) p1)), (2, .sptr [.lst 3 (List.map GStamp.lv p0)]), (5, .arr 125 (List.length ([] : List Int))), (13, .lst 3 (List.map GStamp.lv p0)), (14, .int .i64 (p0.length : Int)), (15, .int .i64 0)]) 125 3 1 rfl rfl (wK (wK (wO (wK (wK (wK wN))))))) (Wk.to (el := [(1, .lst 1 (List.map (LV.int .i64) p1)), (2, .sptr [.lst 3 (List.map GStamp.lv p0)]), (5, .arr 125 (List.length ([] : List Int))), (13, .lst 3 (List.map GStamp.lv p0)), (14, .int .i64 (p0.length : Int)), (15, .int .i64 0)]) (ml := [(125, .arr 3 1 (List.map (LV.int .i64) ([] : List Int)))]) (eC rfl (eC rfl (eC rfl (eC rfl (eC rfl (eC rfl eN)))))) (mC rfl mN) rfl (prK rfl)))))) ?_
  refine LH.loop (fun n e m => ∃ (n1 : Int) (l2 : List Int), stamp_groups_L1 F p0 p1 n n1 l2 = some r ∧ e = Env.of [(1, .lst 1 (List.map (LV.int .i64) p1)), (2, .sptr [.lst 3 (List.map GStamp.lv p0)]), (5, .arr 125 (List.length l2)), (13, .lst 3 (List.map GStamp.lv p0)), (14, .int .i64 (p0.length : Int)), (15, .int .i64 n1)] ∧ m = Mem.of [(125, .arr 3 1 (List.map (LV.int .i64) l2))]) F ⟨0, ([] : List Int), h, rfl, rfl⟩ ?_
  clear h
  rintro n e m ⟨n1, l2, h, rfl, rfl⟩
  rcases n with _ | n
  · cases (show Option.none = some _ from h)
  obtain ⟨rec1, hrec1⟩ : ∃ f, f = stamp_groups_L1 F p0 p1 n := ⟨_, rfl⟩
  replace h : stamp_groups_L1_B F p0 p1 rec1 n1 l2 = some r := hrec1 ▸ h
  unfold stamp_groups_L1_B at h
  refine LH.seqT [(1, .lst 1 (List.map (LV.int .i64) p1)), (2, .sptr [.lst 3 (List.map GStamp.lv p0)]), (5, .arr 125 (List.length l2)), (13, .lst 3 (List.map GStamp.lv p0)), (14, .int .i64 (p0.length : Int)), (15, .int .i64 n1), (16, .bool (decide (n1 < (p0.length : Int))))] [(125, .arr 3 1 (List.map (LV.int .i64) l2))] rfl ?_ ?_
  · refine sN (oLt rfl rfl ?_)
    exact s0 (Wk.to (eC rfl (eC rfl (eC rfl (eC rfl (eC rfl (eC rfl (eC rfl eN))))))) (mC rfl mN) rfl (prK rfl))
  refine LH.seq ?_
  refine LH.cond (t := (decide (n1 < (p0.length : Int)))) rfl (fun hc3 => ?_) (fun hc3 => ?_)
  · replace h := iteT h hc3
    refine LH.skip ?_
    refine thenN ?_
    refine LH.wk (Wk.to (el := [(1, .lst 1 (List.map (LV.int .i64) p1)), (2, .sptr [.lst 3 (List.map GStamp.lv p0)]), (5, .arr 125 (List.length l2)), (13, .lst 3 (List.map GStamp.lv p0)), (14, .int .i64 (p0.length : Int)), (15, .int .i64 n1)]) (ml := [(125, .arr 3 1 (List.map (LV.int .i64) l2))]) (eC rfl (eC rfl (eC rfl (eC rfl (eC rfl (eC rfl eN)))))) (mC rfl mN) rfl (prK rfl)) ?_
    refine LH.seq ?_
    refine LH.block ?_
    obtain ⟨x4, hx4, h⟩ := bindS h
    refine LH.seqT [(1, .lst 1 (List.map (LV.int .i64) p1)), (2, .sptr [.lst 3 (List.map GStamp.lv p0)]), (5, .arr 125 (List.length l2)), (6, .int .i64 n1), (7, .sptr [.int .i64 x4.Time, .int .i64 x4.Source, .int .i64 x4.Seq]), (13, .lst 3 (List.map GStamp.lv p0)), (14, .int .i64 (p0.length : Int)), (15, .int .i64 n1)] [(125, .arr 3 1 (List.map (LV.int .i64) l2))] rfl ?_ ?_
    · refine sN (oM (v := (.int _ _)) rfl ?_)
      refine sN (oIx (f := GStamp.lv) te78 tk31 ts31 rfl rfl GStamp.ok hx4 rfl ?_)
      refine sN (oLdA rfl tk31 ta31 ts31 rfl rfl ?_)
      refine sN (oAl (id := 107) rfl tz31 rfl rfl ?_)
      refine sN (oA (v := (.int _ _)) rfl ?_)
      refine s_ (oSt rfl rfl rfl tk31 ts31 rfl rfl rfl ?_)
      exact s0 ((Wk.trans (Wk.to (el := [(1, .lst 1 (List.map (LV.int .i64) p1)), (2, .sptr [.lst 3 (List.map GStamp.lv p0)]), (5, .arr 125 (List.length l2)), (6, .int .i64 n1), (7, .ptr 107 0), (13, .lst 3 (List.map GStamp.lv p0)), (14, .int .i64 (p0.length : Int)), (15, .int .i64 n1)]) (ml := [(107, .box [.int .i64 x4.Time, .int .i64 x4.Source, .int .i64 x4.Seq]), (125, .arr 3 1 (List.map (LV.int .i64) l2))]) (eC rfl (eC rfl (eC rfl (eC rfl (eC rfl (eC rfl (eC rfl (eC rfl eN)))))))) (mC rfl (mC rfl mN)) rfl (prK rfl)) (Wk.trans (Wk.frzB 107 [.int .i64 x4.Time, .int .i64 x4.Source, .int .i64 x4.Seq] rfl rfl rfl (prN rfl)) (Wk.to (eC rfl (eC rfl (eC rfl (eC rfl (eC rfl (eC rfl (eC rfl (eC rfl eN)))))))) (mC rfl mN) rfl (prK rfl)))))
    obtain ⟨r5, hr5, h⟩ := bindS h
    refine LH.seqT [(1, .lst 1 (List.map (LV.int .i64) p1)), (2, .sptr [.lst 3 (List.map GStamp.lv p0)]), (5, .arr 125 (List.length l2)), (6, .int .i64 n1), (13, .lst 3 (List.map GStamp.lv p0)), (14, .int .i64 (p0.length : Int)), (15, .int .i64 n1), (21, .bool r5)] [(125, .arr 3 1 (List.map (LV.int .i64) l2))] rfl ?_ ?_
    · refine sN (oLdA rfl tk31 ta31 ts31 rfl rfl ?_)
      refine sN (oCP (args := [.agg [.int .i64 x4.Time, .int .i64 x4.Source, .int .i64 x4.Seq]]) rfl isF71 rfl (sbR sbN) (stamp_Valid_ok hr5) rfl ?_)
      exact s0 (Wk.to (eC rfl (eC rfl (eC rfl (eC rfl (eC rfl (eC rfl (eC rfl (eC rfl eN)))))))) (mC rfl mN) rfl (prK rfl))
    refine LH.cond (t := r5) rfl (fun hc6 => ?_) (fun hc6 => ?_)
    · replace h := iteT h hc6
      obtain ⟨v7, hv7, h⟩ := bindS h
      refine LH.loneT [(1, .lst 1 (List.map (LV.int .i64) p1)), (2, .sptr [.lst 3 (List.map GStamp.lv p0)]), (5, .arr 125 (List.length v7)), (13, .lst 3 (List.map GStamp.lv p0)), (14, .int .i64 (p0.length : Int)), (15, .int .i64 n1)] [(125, .arr 3 1 (List.map (LV.int .i64) v7))] rfl ?_ ?_
      · refine sN (oM (v := (.arr _ _)) rfl ?_)
        refine sN (oM (v := (.int _ _)) rfl ?_)
        refine sN (oBS (f := (LV.int .i64)) (ys := [n1]) te22 tr3 ts3 rfl rfl rfl okI ?_)
        refine sN (oAp (f := (LV.int .i64)) te22 tr3 ts3 rfl rfl (prN rfl) rfl hv7 ?_)
        refine sN (oA (v := (.arr _ _)) rfl ?_)
        exact s0 (Wk.to (eC rfl (eC rfl (eC rfl (eC rfl (eC rfl (eC rfl eN)))))) (mC rfl mN) rfl (prK rfl))
      refine blockN ?_
      refine thenN ?_
      refine LH.loneT [(1, .lst 1 (List.map (LV.int .i64) p1)), (2, .sptr [.lst 3 (List.map GStamp.lv p0)]), (5, .arr 125 (List.length v7)), (13, .lst 3 (List.map GStamp.lv p0)), (14, .int .i64 (p0.length : Int)), (15, .int .i64 (i64 (n1 + 1)))] [(125, .arr 3 1 (List.map (LV.int .i64) v7))] rfl ?_ ?_
      · refine sN (oAdd rfl rfl ?_)
        refine sN (oM (v := (.int _ _)) rfl ?_)
        exact s0 (Wk.to (eC rfl (eC rfl (eC rfl (eC rfl (eC rfl (eC rfl eN)))))) (mC rfl mN) rfl (prK rfl))
      exact roundN (e' := Env.of [(1, .lst 1 (List.map (LV.int .i64) p1)), (2, .sptr [.lst 3 (List.map GStamp.lv p0)]), (5, .arr 125 (List.length v7)), (13, .lst 3 (List.map GStamp.lv p0)), (14, .int .i64 (p0.length : Int)), (15, .int .i64 (i64 (n1 + 1)))]) (m' := Mem.of [(125, .arr 3 1 (List.map (LV.int .i64) v7))]) (Wk.to (eC rfl (eC rfl (eC rfl (eC rfl (eC rfl (eC rfl eN)))))) (mC rfl mN) rfl (prK rfl)) ⟨(i64 (n1 + 1)), v7, hrec1 ▸ h, rfl, rfl⟩
    replace h := iteF h hc6
    refine LH.skip ?_
    refine blockN ?_
    refine thenN ?_
    refine LH.wk (Wk.to (el := [(1, .lst 1 (List.map (LV.int .i64) p1)), (2, .sptr [.lst 3 (List.map GStamp.lv p0)]), (5, .arr 125 (List.length l2)), (13, .lst 3 (List.map GStamp.lv p0)), (14, .int .i64 (p0.length : Int)), (15, .int .i64 n1)]) (ml := [(125, .arr 3 1 (List.map (LV.int .i64) l2))]) (eC rfl (eC rfl (eC rfl (eC rfl (eC rfl (eC rfl eN)))))) (mC rfl mN) rfl (prK rfl)) ?_
    refine LH.loneT [(1, .lst 1 (List.map (LV.int .i64) p1)), (2, .sptr [.lst 3 (List.map GStamp.lv p0)]), (5, .arr 125 (List.length l2)), (13, .lst 3 (List.map GStamp.lv p0)), (14, .int .i64 (p0.length : Int)), (15, .int .i64 (i64 (n1 + 1)))] [(125, .arr 3 1 (List.map (LV.int .i64) l2))] rfl ?_ ?_
    · refine sN (oAdd rfl rfl ?_)
      refine sN (oM (v := (.int _ _)) rfl ?_)
      exact s0 (Wk.to (eC rfl (eC rfl (eC rfl (eC rfl (eC rfl (eC rfl eN)))))) (mC rfl mN) rfl (prK rfl))
    exact roundN (e' := Env.of [(1, .lst 1 (List.map (LV.int .i64) p1)), (2, .sptr [.lst 3 (List.map GStamp.lv p0)]), (5, .arr 125 (List.length l2)), (13, .lst 3 (List.map GStamp.lv p0)), (14, .int .i64 (p0.length : Int)), (15, .int .i64 (i64 (n1 + 1)))]) (m' := Mem.of [(125, .arr 3 1 (List.map (LV.int .i64) l2))]) (Wk.to (eC rfl (eC rfl (eC rfl (eC rfl (eC rfl (eC rfl eN)))))) (mC rfl mN) rfl (prK rfl)) ⟨(i64 (n1 + 1)), l2, hrec1 ▸ h, rfl, rfl⟩
  replace h := iteF h hc3
  refine LH.exit ?_
  refine thenX ?_
  refine roundX ?_
  refine blockH ?_
  refine thenN ?_
  refine LH.wk (Wk.to (el := [(1, .lst 1 (List.map (LV.int .i64) p1)), (2, .sptr [.lst 3 (List.map GStamp.lv p0)]), (5, .arr 125 (List.length l2))]) (ml := [(125, .arr 3 1 (List.map (LV.int .i64) l2))]) (eC rfl (eC rfl (eC rfl eN))) (mC rfl mN) rfl (prK rfl)) ?_
  obtain ⟨l8, hl8, h⟩ := bindS h
  refine LH.seqT [(1, .lst 1 (List.map (LV.int .i64) p1)), (2, .sptr [.lst 3 (List.map GStamp.lv p0)]), (5, .lst 1 (List.map (LV.int .i64) l8))] [] rfl ?_ ?_
  · refine sN (oM (v := (.arr _ _)) rfl ?_)
    refine sN (oMF (vs := [.sptr [.lst 3 (List.map GStamp.lv p0)]]) rfl ?_)
    refine sN (oCM (args := [.arr 125 (List.length l2), .fn 72 [.sptr [.lst 3 (List.map GStamp.lv p0)]]]) (ml := [(125, .arr 3 1 (List.map (LV.int .i64) l2))]) (ml' := [(125, .arr 3 1 (List.map (LV.int .i64) l8))]) rfl isF59 rfl (sbR (sbR sbN)) (sortI_ok Try.sortL rfl isF72 rfl (fun _ _ _ h => stamp_groups_1_ok h) 125 3 hl8) (mC rfl mN) (newI rfl newN) rfl ?_)
    exact s0 ((Wk.trans (Wk.to (el := [(1, .lst 1 (List.map (LV.int .i64) p1)), (2, .sptr [.lst 3 (List.map GStamp.lv p0)]), (5, .arr 125 (List.length l8))]) (ml := [(125, .arr 3 1 (List.map (LV.int .i64) l8))]) (eC rfl (eC rfl (eC (congrArg (LV.arr 125) (sortF_len hl8)) eN))) (mC rfl mN) rfl (prK rfl)) (Wk.trans (Wk.frzL (f := (LV.int .i64)) (el' := [(1, .lst 1 (List.map (LV.int .i64) p1)), (2, .sptr [.lst 3 (List.map GStamp.lv p0)]), (5, .lst 1 (List.map (LV.int .i64) l8))]) 125 3 1 l8 rfl rfl (prN rfl) (fK rfl (fK rfl (fZ fN)))) (Wk.to (eC rfl (eC rfl (eC rfl eN))) mN rfl (prK rfl)))))
  refine LH.seqT [(1, .lst 1 (List.map (LV.int .i64) p1)), (2, .sptr [.lst 3 (List.map GStamp.lv p0)]), (5, .lst 1 (List.map (LV.int .i64) l8)), (8, .nil)] [] rfl ?_ ?_
  · refine sN (oA (v := .nil) rfl ?_)
    exact s0 (Wk.to (eC rfl (eC rfl (eC rfl (eC rfl eN)))) mN rfl (prK rfl))
  refine LH.seq ?_
  refine LH.seqT [(1, .lst 1 (List.map (LV.int .i64) p1)), (2, .sptr [.lst 3 (List.map GStamp.lv p0)]), (8, .nil), (30, .lst 1 (List.map (LV.int .i64) l8)), (31, .int .i64 (l8.length : Int)), (32, .int .i64 0)] [] rfl ?_ ?_
  · refine sN (oM (v := (.lst _ _)) rfl ?_)
    refine sN (oLnL (f := (LV.int .i64)) te22 rfl ?_)
    refine sN (oM (v := (.int _ _)) rfl ?_)
    exact s0 (Wk.to (eC rfl (eC rfl (eC rfl (eC rfl (eC rfl (eC rfl eN)))))) mN rfl (prK rfl))
  refine LH.block ?_
  refine LH.wk ((Wk.trans (Wk.to (el := [(1, .lst 1 (List.map (LV.int .i64) p1)), (2, .sptr [.lst 3 (List.map GStamp.lv p0)]), (8, .nil), (30, .lst 1 (List.map (LV.int .i64) l8)), (31, .int .i64 (l8.length : Int)), (32, .int .i64 0)]) (ml := []) (eC rfl (eC rfl (eC rfl (eC rfl (eC rfl (eC rfl eN)))))) mN rfl (prK rfl)) (Wk.trans (Wk.to (el := [(1, .lst 1 (List.map (LV.int .i64) p1)), (2, .sptr [.lst 3 (List.map GStamp.lv p0)]), (8, .nil), (30, .lst 1 (List.map (LV.int .i64) l8)), (31, .int .i64 (l8.length : Int)), (32, .int .i64 0)]) (ml := []) (eC rfl (eC rfl (eC rfl (eC rfl (eC rfl (eC rfl eN)))))) mN rfl (prK rfl)) (Wk.trans (Wk.ownL (el' := [(1, .lst 1 (List.map (LV.int .i64) p1)), (2, .sptr [.lst 3 (List.map GStamp.lv p0)]), (8, .arr 161 (List.length ([] : List stamp_group))), (30, .lst 1 (List.map (LV.int .i64) l8)), (31, .int .i64 (l8.length : Int)), (32, .int .i64 0)]) 161 99 2 rfl rfl (wK (wK (wO (wK (wK (wK wN))))))) (Wk.to (el := [(1, .lst 1 (List.map (LV.int .i64) p1)), (2, .sptr [.lst 3 (List.map GStamp.lv p0)]), (8, .arr 161 (List.length ([] : List stamp_group))), (30, .lst 1 (List.map (LV.int .i64) l8)), (31, .int .i64 (l8.length : Int)), (32, .int .i64 0)]) (ml := [(161, .arr 99 2 (List.map stamp_group.lv ([] : List stamp_group)))]) (eC rfl (eC rfl (eC rfl (eC rfl (eC rfl (eC rfl eN)))))) (mC rfl mN) rfl (prK rfl)))))) ?_
  refine LH.loop (fun n e m => ∃ (n9 : Int) (l10 : List stamp_group), stamp_groups_L2 F p0 p1 l8 n n9 l10 = some r ∧ e = Env.of [(1, .lst 1 (List.map (LV.int .i64) p1)), (2, .sptr [.lst 3 (List.map GStamp.lv p0)]), (8, .arr 161 (List.length l10)), (30, .lst 1 (List.map (LV.int .i64) l8)), (31, .int .i64 (l8.length : Int)), (32, .int .i64 n9)] ∧ m = Mem.of [(161, .arr 99 2 (List.map stamp_group.lv l10))]) F ⟨0, ([] : List stamp_group), h, rfl, rfl⟩ ?_
  clear h
  rintro n e m ⟨n9, l10, h, rfl, rfl⟩
  rcases n with _ | n
  · cases (show Option.none = some _ from h)
  obtain ⟨rec2, hrec2⟩ : ∃ f, f = stamp_groups_L2 F p0 p1 l8 n := ⟨_, rfl⟩
  replace h : stamp_groups_L2_B F p0 p1 l8 rec2 n9 l10 = some r := hrec2 ▸ h
  unfold stamp_groups_L2_B at h
  refine LH.seqT [(1, .lst 1 (List.map (LV.int .i64) p1)), (2, .sptr [.lst 3 (List.map GStamp.lv p0)]), (8, .arr 161 (List.length l10)), (30, .lst 1 (List.map (LV.int .i64) l8)), (31, .int .i64 (l8.length : Int)), (32, .int .i64 n9), (33, .bool (decide (n9 < (l8.length : Int))))] [(161, .arr 99 2 (List.map stamp_group.lv l10))] rfl ?_ ?_
  · refine sN (oLt rfl rfl ?_)
    exact s0 (Wk.to (eC rfl (eC rfl (eC rfl (eC rfl (eC rfl (eC rfl (eC rfl eN))))))) (mC rfl mN) rfl (prK rfl))
  refine LH.seq ?_
  refine LH.cond (t := (decide (n9 < (l8.length : Int)))) rfl (fun hc11 => ?_) (fun hc11 => ?_)
  · replace h := iteT h hc11
    refine LH.skip ?_
    refine thenN ?_
    refine LH.wk (Wk.to (el := [(1, .lst 1 (List.map (LV.int .i64) p1)), (2, .sptr [.lst 3 (List.map GStamp.lv p0)]), (8, .arr 161 (List.length l10)), (30, .lst 1 (List.map (LV.int .i64) l8)), (31, .int .i64 (l8.length : Int)), (32, .int .i64 n9)]) (ml := [(161, .arr 99 2 (List.map stamp_group.lv l10))]) (eC rfl (eC rfl (eC rfl (eC rfl (eC rfl (eC rfl eN)))))) (mC rfl mN) rfl (prK rfl)) ?_
    refine LH.seq ?_
    refine LH.block ?_
    obtain ⟨x12, hx12, h⟩ := bindS h
    refine LH.seqT [(1, .lst 1 (List.map (LV.int .i64) p1)), (2, .sptr [.lst 3 (List.map GStamp.lv p0)]), (8, .arr 161 (List.length l10)), (10, .int .i64 x12), (30, .lst 1 (List.map (LV.int .i64) l8)), (31, .int .i64 (l8.length : Int)), (32, .int .i64 n9)] [(161, .arr 99 2 (List.map stamp_group.lv l10))] rfl ?_ ?_
    · refine sN (oIx (f := (LV.int .i64)) te22 tk3 ts3 rfl rfl okI hx12 rfl ?_)
      refine sN (oLd rfl tk3 ta3 ?_)
      refine sN (oA (v := (.int _ _)) rfl ?_)
      exact s0 (Wk.to (eC rfl (eC rfl (eC rfl (eC rfl (eC rfl (eC rfl (eC rfl eN))))))) (mC rfl mN) rfl (prK rfl))
    refine LH.seqT [(1, .lst 1 (List.map (LV.int .i64) p1)), (2, .sptr [.lst 3 (List.map GStamp.lv p0)]), (8, .arr 161 (List.length l10)), (10, .int .i64 x12), (11, .int .i64 (i64 ((l10.length : Int) - 1))), (30, .lst 1 (List.map (LV.int .i64) l8)), (31, .int .i64 (l8.length : Int)), (32, .int .i64 n9)] [(161, .arr 99 2 (List.map stamp_group.lv l10))] rfl ?_ ?_
    · refine sN (oM (v := (.arr _ _)) rfl ?_)
      refine sN (oLnA (f := stamp_group.lv) te96 rfl rfl ?_)
      refine sN (oSub rfl rfl ?_)
      refine sN (oA (v := (.int _ _)) rfl ?_)
      exact s0 (Wk.to (eC rfl (eC rfl (eC rfl (eC rfl (eC rfl (eC rfl (eC rfl (eC rfl eN)))))))) (mC rfl mN) rfl (prK rfl))
    refine LH.seq ?_
    obtain ⟨w14, hv, h⟩ := bindS h
    refine LH.seqJM mixed [] [0, 0, 0, 0, 0, 0, 1, 1, 1, 0, 0, 0, 0, 0, 0, 0, 0, 0] [(1, .lst 1 (List.map (LV.int .i64) p1)), (2, .sptr [.lst 3 (List.map GStamp.lv p0)]), (8, .arr 161 (List.length l10)), (10, .int .i64 x12), (11, .int .i64 (i64 ((l10.length : Int) - 1))), (30, .lst 1 (List.map (LV.int .i64) l8)), (31, .int .i64 (l8.length : Int)), (32, .int .i64 n9), (56, .bool w14)] [(161, .arr 99 2 (List.map stamp_group.lv l10))] rfl rfl (by kernel_rfl) ?_ ?_
    · refine mN0 (oM (v := (.int _ _)) rfl ⟨rfl, ?_⟩)
      refine mN0 (oLt rfl rfl ⟨rfl, ?_⟩)
      refine mN0 (oM (v := (.bool _)) rfl ⟨rfl, ?_⟩)
      by_cases hb15 : (decide ((i64 ((l10.length : Int) - 1)) < 0)) = true
      · replace hv := iteT hv hb15
        refine mF rfl rfl hb15 ?_
        refine mF rfl rfl hb15 ?_
        refine mF rfl rfl hb15 ?_
        refine mF rfl rfl hb15 ?_
        refine mF rfl rfl hb15 ?_
        refine mF rfl rfl hb15 ?_
        refine mF rfl rfl hb15 ?_
        refine mF rfl rfl hb15 ?_
        refine mF rfl rfl hb15 ?_
        refine mF rfl rfl hb15 ?_
        refine mF rfl rfl hb15 ?_
        refine mF rfl rfl hb15 ?_
        refine mF rfl rfl hb15 ?_
        refine mF rfl rfl hb15 ?_
        refine mN0 (oPkT (congrArg LV.bool hb15) (v := (.bool _)) rfl ⟨rfl, ?_⟩)
        obtain rfl := Option.some.inj hv
        exact m0 (Wk.to (eC rfl (eC rfl (eC rfl (eC rfl (eC rfl (eC rfl (eC rfl (eC rfl (eC rfl eN))))))))) (mC rfl mN) rfl (prK rfl))
      · replace hb15 := bF hb15
        replace hv := iteF hv hb15
        refine mT rfl (congrArg LV.bool hb15) (mN0 (oLd rfl tk78 ta78 ⟨rfl, ?_⟩))
        refine mT rfl (congrArg LV.bool hb15) (mN0 (oM (v := (.arr _ _)) rfl ⟨rfl, ?_⟩))
        refine mT rfl (congrArg LV.bool hb15) (mN0 (oM (v := (.int _ _)) rfl ⟨rfl, ?_⟩))
        obtain ⟨x16, hx16, hv⟩ := bindS hv
        refine mT rfl (congrArg LV.bool hb15) (mN1 (oIxA (f := stamp_group.lv) te96 tk99 ts99 rfl rfl rfl hx16 ⟨rfl, ?_⟩))
        refine mT rfl (congrArg LV.bool hb15) (mN1 (oFaE (f := stamp_group.lv) tf99_0 tk3 ts3 rfl rfl rfl ⟨rfl, ?_⟩))
        refine mT rfl (congrArg LV.bool hb15) (mN1 (oLdE (f := stamp_group.lv) rfl rfl (idxOk hx16).2 rfl rfl rfl tk3 ta3 ⟨rfl, ?_⟩))
        obtain ⟨x17, hx17, hv⟩ := bindS hv
        refine mT rfl (congrArg LV.bool hb15) (mN0 (oIx (f := GStamp.lv) te78 tk31 ts31 rfl rfl GStamp.ok hx17 rfl ⟨rfl, ?_⟩))
        refine mT rfl (congrArg LV.bool hb15) (mN0 (oLdA rfl tk31 ta31 ts31 rfl rfl ⟨rfl, ?_⟩))
        refine mT rfl (congrArg LV.bool hb15) (mN0 (oLd rfl tk78 ta78 ⟨rfl, ?_⟩))
        refine mT rfl (congrArg LV.bool hb15) (mN0 (oM (v := (.int _ _)) rfl ⟨rfl, ?_⟩))
        obtain ⟨x18, hx18, hv⟩ := bindS hv
        refine mT rfl (congrArg LV.bool hb15) (mN0 (oIx (f := GStamp.lv) te78 tk31 ts31 rfl rfl GStamp.ok hx18 rfl ⟨rfl, ?_⟩))
        refine mT rfl (congrArg LV.bool hb15) (mN0 (oLdA rfl tk31 ta31 ts31 rfl rfl ⟨rfl, ?_⟩))
        obtain ⟨r19, hr19, hv⟩ := bindS hv
        refine mT rfl (congrArg LV.bool hb15) (mN0 (oCP (args := [.agg [.int .i64 x17.Time, .int .i64 x17.Source, .int .i64 x17.Seq], .agg [.int .i64 x18.Time, .int .i64 x18.Source, .int .i64 x18.Seq]]) rfl isF74 rfl (sbR (sbR sbN)) (stamp_compareIdentity_ok hr19) rfl ⟨rfl, ?_⟩))
        refine mT rfl (congrArg LV.bool hb15) (mN0 (oNe rfl rfl ⟨rfl, ?_⟩))
        refine mN0 (oPkF (congrArg LV.bool hb15) (v := (.bool _)) rfl ⟨rfl, ?_⟩)
        obtain rfl := Option.some.inj hv
        exact m0 (Wk.to (eC rfl (eC rfl (eC rfl (eC rfl (eC rfl (eC rfl (eC rfl (eC rfl (eC rfl eN))))))))) (mC rfl mN) rfl (prK rfl))
    clear hv
    refine LH.cond (t := w14) rfl (fun hc20 => ?_) (fun hc20 => ?_)
    · replace h := iteT h hc20
      obtain ⟨v21, hv21, h⟩ := bindS h
      refine LH.seqT [(1, .lst 1 (List.map (LV.int .i64) p1)), (2, .sptr [.lst 3 (List.map GStamp.lv p0)]), (8, .arr 161 (List.length v21)), (30, .lst 1 (List.map (LV.int .i64) l8)), (31, .int .i64 (l8.length : Int)), (32, .int .i64 n9)] [(161, .arr 99 2 (List.map stamp_group.lv v21))] rfl ?_ ?_
      · refine sN (oM (v := (.arr _ _)) rfl ?_)
        refine sN (oM (v := (.int _ _)) rfl ?_)
        refine sN (oBd (vs := [(0, .int .i64 x12), (1, .bool false)]) tu99 tz99 rfl (lf tf99_0 ts3 tk3 rfl rfl rfl (lf tf99_1 ts4 tk4 rfl rfl rfl lf0)) ?_)
        refine sN (oBS (f := stamp_group.lv) (ys := [(stamp_group.mk x12 false)]) te96 tr99 ts99 rfl rfl rfl stamp_group.ok ?_)
        refine sN (oAp (f := stamp_group.lv) te96 tr99 ts99 rfl rfl (prN rfl) rfl hv21 ?_)
        refine sN (oA (v := (.arr _ _)) rfl ?_)
        exact s0 (Wk.to (eC rfl (eC rfl (eC rfl (eC rfl (eC rfl (eC rfl eN)))))) (mC rfl mN) rfl (prK rfl))
      refine LH.exit ?_
      refine thenX ?_
      refine blockH ?_
      refine thenN ?_
      refine LH.loneT [(1, .lst 1 (List.map (LV.int .i64) p1)), (2, .sptr [.lst 3 (List.map GStamp.lv p0)]), (8, .arr 161 (List.length v21)), (30, .lst 1 (List.map (LV.int .i64) l8)), (31, .int .i64 (l8.length : Int)), (32, .int .i64 (i64 (n9 + 1)))] [(161, .arr 99 2 (List.map stamp_group.lv v21))] rfl ?_ ?_
      · refine sN (oAdd rfl rfl ?_)
        refine sN (oM (v := (.int _ _)) rfl ?_)
        exact s0 (Wk.to (eC rfl (eC rfl (eC rfl (eC rfl (eC rfl (eC rfl eN)))))) (mC rfl mN) rfl (prK rfl))
      exact roundN (e' := Env.of [(1, .lst 1 (List.map (LV.int .i64) p1)), (2, .sptr [.lst 3 (List.map GStamp.lv p0)]), (8, .arr 161 (List.length v21)), (30, .lst 1 (List.map (LV.int .i64) l8)), (31, .int .i64 (l8.length : Int)), (32, .int .i64 (i64 (n9 + 1)))]) (m' := Mem.of [(161, .arr 99 2 (List.map stamp_group.lv v21))]) (Wk.to (eC rfl (eC rfl (eC rfl (eC rfl (eC rfl (eC rfl eN)))))) (mC rfl mN) rfl (prK rfl)) ⟨(i64 (n9 + 1)), v21, hrec2 ▸ h, rfl, rfl⟩
    replace h := iteF h hc20
    refine LH.skip ?_
    refine thenN ?_
    refine LH.wk (Wk.to (el := [(1, .lst 1 (List.map (LV.int .i64) p1)), (2, .sptr [.lst 3 (List.map GStamp.lv p0)]), (8, .arr 161 (List.length l10)), (10, .int .i64 x12), (11, .int .i64 (i64 ((l10.length : Int) - 1))), (30, .lst 1 (List.map (LV.int .i64) l8)), (31, .int .i64 (l8.length : Int)), (32, .int .i64 n9)]) (ml := [(161, .arr 99 2 (List.map stamp_group.lv l10))]) (eC rfl (eC rfl (eC rfl (eC rfl (eC rfl (eC rfl (eC rfl (eC rfl eN)))))))) (mC rfl mN) rfl (prK rfl)) ?_
    obtain ⟨x22, hx22, h⟩ := bindS h
    refine LH.seqT [(1, .lst 1 (List.map (LV.int .i64) p1)), (2, .sptr [.lst 3 (List.map GStamp.lv p0)]), (8, .arr 161 (List.length l10)), (10, .int .i64 x12), (11, .int .i64 (i64 ((l10.length : Int) - 1))), (12, .int .i64 x22.first), (30, .lst 1 (List.map (LV.int .i64) l8)), (31, .int .i64 (l8.length : Int)), (32, .int .i64 n9)] [(161, .arr 99 2 (List.map stamp_group.lv l10))] rfl ?_ ?_
    · refine sN (oM (v := (.arr _ _)) rfl ?_)
      refine sN (oM (v := (.int _ _)) rfl ?_)
      refine sN (oIxA (f := stamp_group.lv) te96 tk99 ts99 rfl rfl rfl hx22 ?_)
      refine sN (oFaE (f := stamp_group.lv) tf99_0 tk3 ts3 rfl rfl rfl ?_)
      refine sN (oLdE (f := stamp_group.lv) rfl rfl (idxOk hx22).2 rfl rfl rfl tk3 ta3 ?_)
      refine sN (oA (v := (.int _ _)) rfl ?_)
      exact s0 (Wk.to (eC rfl (eC rfl (eC rfl (eC rfl (eC rfl (eC rfl (eC rfl (eC rfl (eC rfl eN))))))))) (mC rfl mN) rfl (prK rfl))
    obtain ⟨w24, hv, h⟩ := bindS h
    refine LH.seqJM mixed [] [0, 0, 0, 0, 0, 0, 0, 0, 0, 0, 0, 0, 0, 0, 0, 0, 0, 0, 0, 0] [(1, .lst 1 (List.map (LV.int .i64) p1)), (2, .sptr [.lst 3 (List.map GStamp.lv p0)]), (8, .arr 161 (List.length l10)), (11, .int .i64 (i64 ((l10.length : Int) - 1))), (30, .lst 1 (List.map (LV.int .i64) l8)), (31, .int .i64 (l8.length : Int)), (32, .int .i64 n9), (86, .bool w24)] [(161, .arr 99 2 (List.map stamp_group.lv l10))] rfl rfl (by kernel_rfl) ?_ ?_
    · refine mN0 (oLd rfl tk78 ta78 ⟨rfl, ?_⟩)
      refine mN0 (oM (v := (.int _ _)) rfl ⟨rfl, ?_⟩)
      obtain ⟨x25, hx25, hv⟩ := bindS hv
      refine mN0 (oIx (f := GStamp.lv) te78 tk31 ts31 rfl rfl GStamp.ok hx25 rfl ⟨rfl, ?_⟩)
      refine mN0 (oLdA rfl tk31 ta31 ts31 rfl rfl ⟨rfl, ?_⟩)
      refine mN0 (oLd rfl tk78 ta78 ⟨rfl, ?_⟩)
      refine mN0 (oM (v := (.int _ _)) rfl ⟨rfl, ?_⟩)
      obtain ⟨x26, hx26, hv⟩ := bindS hv
      refine mN0 (oIx (f := GStamp.lv) te78 tk31 ts31 rfl rfl GStamp.ok hx26 rfl ⟨rfl, ?_⟩)
      refine mN0 (oLdA rfl tk31 ta31 ts31 rfl rfl ⟨rfl, ?_⟩)
      refine mN0 (oNeA rfl rfl (ae31 x25 x26) ⟨rfl, ?_⟩)
      refine mN0 (oM (v := (.bool _)) rfl ⟨rfl, ?_⟩)
      by_cases hb27 : (!(decide (x25 = x26))) = true
      · replace hv := iteT hv hb27
        refine mF rfl rfl hb27 ?_
        refine mF rfl rfl hb27 ?_
        refine mF rfl rfl hb27 ?_
        refine mF rfl rfl hb27 ?_
        refine mF rfl rfl hb27 ?_
        refine mF rfl rfl hb27 ?_
        refine mF rfl rfl hb27 ?_
        refine mF rfl rfl hb27 ?_
        refine mF rfl rfl hb27 ?_
        refine mN0 (oPkT (congrArg LV.bool hb27) (v := (.bool _)) rfl ⟨rfl, ?_⟩)
        obtain rfl := Option.some.inj hv
        exact m0 (Wk.to (eC rfl (eC rfl (eC rfl (eC rfl (eC rfl (eC rfl (eC rfl (eC rfl eN)))))))) (mC rfl mN) rfl (prK rfl))
      · replace hb27 := bF hb27
        replace hv := iteF hv hb27
        refine mT rfl (congrArg LV.bool hb27) (mN0 (oM (v := (.lst _ _)) rfl ⟨rfl, ?_⟩))
        refine mT rfl (congrArg LV.bool hb27) (mN0 (oM (v := (.int _ _)) rfl ⟨rfl, ?_⟩))
        obtain ⟨x28, hx28, hv⟩ := bindS hv
        refine mT rfl (congrArg LV.bool hb27) (mN0 (oIx (f := (LV.int .i64)) te22 tk3 ts3 rfl rfl okI hx28 rfl ⟨rfl, ?_⟩))
        refine mT rfl (congrArg LV.bool hb27) (mN0 (oLd rfl tk3 ta3 ⟨rfl, ?_⟩))
        refine mT rfl (congrArg LV.bool hb27) (mN0 (oM (v := (.lst _ _)) rfl ⟨rfl, ?_⟩))
        refine mT rfl (congrArg LV.bool hb27) (mN0 (oM (v := (.int _ _)) rfl ⟨rfl, ?_⟩))
        obtain ⟨x29, hx29, hv⟩ := bindS hv
        refine mT rfl (congrArg LV.bool hb27) (mN0 (oIx (f := (LV.int .i64)) te22 tk3 ts3 rfl rfl okI hx29 rfl ⟨rfl, ?_⟩))
        refine mT rfl (congrArg LV.bool hb27) (mN0 (oLd rfl tk3 ta3 ⟨rfl, ?_⟩))
        refine mT rfl (congrArg LV.bool hb27) (mN0 (oNe rfl rfl ⟨rfl, ?_⟩))
        refine mN0 (oPkF (congrArg LV.bool hb27) (v := (.bool _)) rfl ⟨rfl, ?_⟩)
        obtain rfl := Option.some.inj hv
        exact m0 (Wk.to (eC rfl (eC rfl (eC rfl (eC rfl (eC rfl (eC rfl (eC rfl (eC rfl eN)))))))) (mC rfl mN) rfl (prK rfl))
    clear hv
    refine LH.cond (t := w24) rfl (fun hc30 => ?_) (fun hc30 => ?_)
    · replace h := iteT h hc30
      obtain ⟨x31, hx31, h⟩ := bindS h
      refine LH.loneT [(1, .lst 1 (List.map (LV.int .i64) p1)), (2, .sptr [.lst 3 (List.map GStamp.lv p0)]), (8, .arr 161 (List.length (l10.set ((i64 ((l10.length : Int) - 1)).toNat) (stamp_group.mk x31.first true)))), (30, .lst 1 (List.map (LV.int .i64) l8)), (31, .int .i64 (l8.length : Int)), (32, .int .i64 n9)] [(161, .arr 99 2 (List.map stamp_group.lv (l10.set ((i64 ((l10.length : Int) - 1)).toNat) (stamp_group.mk x31.first true))))] rfl ?_ ?_
      · refine sN (oM (v := (.arr _ _)) rfl ?_)
        refine sN (oM (v := (.int _ _)) rfl ?_)
        refine sN (oIxA (f := stamp_group.lv) te96 tk99 ts99 rfl rfl rfl hx31 ?_)
        refine sN (oFaE (f := stamp_group.lv) tf99_1 tk4 ts4 rfl rfl rfl ?_)
        refine s_ (oStE (f := stamp_group.lv) (z' := (stamp_group.mk x31.first true)) rfl rfl rfl rfl tk4 ts4 rfl (idxOk hx31).2 rfl ?_)
        exact s0 (Wk.to (eC rfl (eC rfl (eC (congrArg (LV.arr 161) (by simp)) (eC rfl (eC rfl (eC rfl eN)))))) (mC rfl mN) rfl (prK rfl))
      refine blockN ?_
      refine thenN ?_
      refine LH.loneT [(1, .lst 1 (List.map (LV.int .i64) p1)), (2, .sptr [.lst 3 (List.map GStamp.lv p0)]), (8, .arr 161 (List.length (l10.set ((i64 ((l10.length : Int) - 1)).toNat) (stamp_group.mk x31.first true)))), (30, .lst 1 (List.map (LV.int .i64) l8)), (31, .int .i64 (l8.length : Int)), (32, .int .i64 (i64 (n9 + 1)))] [(161, .arr 99 2 (List.map stamp_group.lv (l10.set ((i64 ((l10.length : Int) - 1)).toNat) (stamp_group.mk x31.first true))))] rfl ?_ ?_
      · refine sN (oAdd rfl rfl ?_)
        refine sN (oM (v := (.int _ _)) rfl ?_)
        exact s0 (Wk.to (eC rfl (eC rfl (eC rfl (eC rfl (eC rfl (eC rfl eN)))))) (mC rfl mN) rfl (prK rfl))
      exact roundN (e' := Env.of [(1, .lst 1 (List.map (LV.int .i64) p1)), (2, .sptr [.lst 3 (List.map GStamp.lv p0)]), (8, .arr 161 (List.length (l10.set ((i64 ((l10.length : Int) - 1)).toNat) (stamp_group.mk x31.first true)))), (30, .lst 1 (List.map (LV.int .i64) l8)), (31, .int .i64 (l8.length : Int)), (32, .int .i64 (i64 (n9 + 1)))]) (m' := Mem.of [(161, .arr 99 2 (List.map stamp_group.lv (l10.set ((i64 ((l10.length : Int) - 1)).toNat) (stamp_group.mk x31.first true))))]) (Wk.to (eC rfl (eC rfl (eC rfl (eC rfl (eC rfl (eC rfl eN)))))) (mC rfl mN) rfl (prK rfl)) ⟨(i64 (n9 + 1)), (l10.set ((i64 ((l10.length : Int) - 1)).toNat) (stamp_group.mk x31.first true)), hrec2 ▸ h, rfl, rfl⟩
    replace h := iteF h hc30
    refine LH.skip ?_
    refine blockN ?_
    refine thenN ?_
    refine LH.wk (Wk.to (el := [(1, .lst 1 (List.map (LV.int .i64) p1)), (2, .sptr [.lst 3 (List.map GStamp.lv p0)]), (8, .arr 161 (List.length l10)), (30, .lst 1 (List.map (LV.int .i64) l8)), (31, .int .i64 (l8.length : Int)), (32, .int .i64 n9)]) (ml := [(161, .arr 99 2 (List.map stamp_group.lv l10))]) (eC rfl (eC rfl (eC rfl (eC rfl (eC rfl (eC rfl eN)))))) (mC rfl mN) rfl (prK rfl)) ?_
    refine LH.loneT [(1, .lst 1 (List.map (LV.int .i64) p1)), (2, .sptr [.lst 3 (List.map GStamp.lv p0)]), (8, .arr 161 (List.length l10)), (30, .lst 1 (List.map (LV.int .i64) l8)), (31, .int .i64 (l8.length : Int)), (32, .int .i64 (i64 (n9 + 1)))] [(161, .arr 99 2 (List.map stamp_group.lv l10))] rfl ?_ ?_
    · refine sN (oAdd rfl rfl ?_)
      refine sN (oM (v := (.int _ _)) rfl ?_)
      exact s0 (Wk.to (eC rfl (eC rfl (eC rfl (eC rfl (eC rfl (eC rfl eN)))))) (mC rfl mN) rfl (prK rfl))
    exact roundN (e' := Env.of [(1, .lst 1 (List.map (LV.int .i64) p1)), (2, .sptr [.lst 3 (List.map GStamp.lv p0)]), (8, .arr 161 (List.length l10)), (30, .lst 1 (List.map (LV.int .i64) l8)), (31, .int .i64 (l8.length : Int)), (32, .int .i64 (i64 (n9 + 1)))]) (m' := Mem.of [(161, .arr 99 2 (List.map stamp_group.lv l10))]) (Wk.to (eC rfl (eC rfl (eC rfl (eC rfl (eC rfl (eC rfl eN)))))) (mC rfl mN) rfl (prK rfl)) ⟨(i64 (n9 + 1)), l10, hrec2 ▸ h, rfl, rfl⟩
  replace h := iteF h hc11
  refine LH.exit ?_
  refine thenX ?_
  refine roundX ?_
  refine blockH ?_
  refine thenN ?_
  refine LH.wk ((Wk.trans (Wk.to (el := [(8, .arr 161 (List.length l10))]) (ml := [(161, .arr 99 2 (List.map stamp_group.lv l10))]) (eC rfl eN) (mC rfl mN) rfl (prK rfl)) (Wk.trans (Wk.frzL (f := stamp_group.lv) (el' := [(8, .lst 2 (List.map stamp_group.lv l10))]) 161 99 2 l10 rfl rfl (prN rfl) (fZ fN)) (Wk.to (el := [(8, .lst 2 (List.map stamp_group.lv l10))]) (ml := []) (eC rfl eN) mN rfl (prK rfl))))) ?_
  refine LH.seqT [(4, .lst 2 (List.map stamp_group.lv l10))] [] rfl ?_ ?_
  · refine sN (oM (v := (.lst _ _)) rfl ?_)
    refine sN (oA (v := (.lst _ _)) rfl ?_)
    exact s0 (Wk.to (eC rfl eN) mN rfl (prK rfl))
  refine LH.ret ?_
  obtain rfl := Option.some.inj h
  exact retE (congrArg Array.toList Try.results58) (lrT rfl (lr0 ⟨memN mN, rfl, prK rfl, Sub.rfl⟩))

theorem stamp_Compare_ok {F : Nat} {p0 : GStamp} {p1 : GStamp} {r : Int} (h : stamp_Compare F p0 p1 = some r) : LCall Try.prog 61 [.agg [.int .i64 p0.Time, .int .i64 p0.Source, .int .i64 p0.Seq], .agg [.int .i64 p1.Time, .int .i64 p1.Source, .int .i64 p1.Seq]] (Mem.of []) (.int .i64 r) (Mem.of []) := by
  unfold stamp_Compare at h
  refine bodyT Try.func61 rfl (by rw [Try.ntmps61]; exact Nat.le_of_ble_eq_true rfl) ?_
  refine LH.wk (Wk.to (el := [(0, .agg [.int .i64 p0.Time, .int .i64 p0.Source, .int .i64 p0.Seq]), (1, .agg [.int .i64 p1.Time, .int .i64 p1.Source, .int .i64 p1.Seq])]) (ml := []) (eC rfl (eC rfl eN)) mN rfl (prK rfl)) ?_
  refine LH.seqT [(2, .sptr [.int .i64 p0.Time, .int .i64 p0.Source, .int .i64 p0.Seq]), (3, .sptr [.int .i64 p1.Time, .int .i64 p1.Source, .int .i64 p1.Seq])] [] rfl ?_ ?_
  · refine sB (oBxR rfl rfl rfl rfl ?_)
    refine sB (oBxR rfl rfl rfl rfl ?_)
    refine sN (oA (v := (.int _ _)) rfl ?_)
    exact s0 (Wk.to (eC rfl (eC rfl eN)) mN rfl (prK rfl))
  obtain ⟨r1, hr1, h⟩ := bindS h
  obtain ⟨r2, hr2, h⟩ := bindS h
  obtain ⟨r3, hr3, h⟩ := bindS h
  obtain ⟨r4, hr4, h⟩ := bindS h
  refine LH.seqJM mixed [] [0, 0, 0, 0, 0, 0, 0, 0, 0, 0, 0, 0, 0, 0, 0, 0, 0, 0] [(4, .int .i64 r4)] [] rfl rfl (by kernel_rfl) ?_ ?_
  · refine mN0 (oFaS tf31_0 tk3 ts3 rfl rfl rfl ⟨rfl, ?_⟩)
    refine mN0 (oLd rfl tk3 ta3 ⟨rfl, ?_⟩)
    refine mN0 (oFaS tf31_0 tk3 ts3 rfl rfl rfl ⟨rfl, ?_⟩)
    refine mN0 (oLd rfl tk3 ta3 ⟨rfl, ?_⟩)
    refine mN0 (oCP (args := [.int .i64 p0.Time, .int .i64 p1.Time]) rfl isF56 rfl (sbR (sbR sbN)) (cmp_Compare_int_ok hr1) rfl ⟨rfl, ?_⟩)
    refine mN0 (oFaS tf31_1 tk3 ts3 rfl rfl rfl ⟨rfl, ?_⟩)
    refine mN0 (oLd rfl tk3 ta3 ⟨rfl, ?_⟩)
    refine mN0 (oFaS tf31_1 tk3 ts3 rfl rfl rfl ⟨rfl, ?_⟩)
    refine mN0 (oLd rfl tk3 ta3 ⟨rfl, ?_⟩)
    refine mN0 (oCP (args := [.int .i64 p0.Source, .int .i64 p1.Source]) rfl isF56 rfl (sbR (sbR sbN)) (cmp_Compare_int_ok hr2) rfl ⟨rfl, ?_⟩)
    refine mN0 (oFaS tf31_2 tk3 ts3 rfl rfl rfl ⟨rfl, ?_⟩)
    refine mN0 (oLd rfl tk3 ta3 ⟨rfl, ?_⟩)
    refine mN0 (oFaS tf31_2 tk3 ts3 rfl rfl rfl ⟨rfl, ?_⟩)
    refine mN0 (oLd rfl tk3 ta3 ⟨rfl, ?_⟩)
    refine mN0 (oCP (args := [.int .i64 p0.Seq, .int .i64 p1.Seq]) rfl isF56 rfl (sbR (sbR sbN)) (cmp_Compare_int_ok hr3) rfl ⟨rfl, ?_⟩)
    refine mN0 (oBS (f := (LV.int .i64)) (ys := [r1, r2, r3]) te22 tr3 ts3 rfl rfl rfl okI ⟨rfl, ?_⟩)
    refine mN0 (oCP (args := [.lst 1 (List.map (LV.int .i64) [r1, r2, r3])]) rfl isF73 rfl (sbR sbN) (cmp_Or_int_ok hr4) rfl ⟨rfl, ?_⟩)
    refine mN0 (oA (v := (.int _ _)) rfl ⟨rfl, ?_⟩)
    exact m0 (Wk.to (eC rfl eN) mN rfl (prK rfl))
  refine LH.ret ?_
  obtain rfl := Option.some.inj h
  exact retE (congrArg Array.toList Try.results61) (lrT rfl (lr0 ⟨memN mN, rfl, prK rfl, Sub.rfl⟩))

theorem stamp_Canonical_1_ok {F : Nat} {p0 : Int} {p1 : Int} {c0 : List GStamp} {r : Int} (h : stamp_Canonical_1 F p0 p1 c0 = some r) : LCall Try.prog 60 [.int .i64 p0, .int .i64 p1, .sptr [.lst 3 (List.map GStamp.lv c0)]] (Mem.of []) (.int .i64 r) (Mem.of []) := by
  unfold stamp_Canonical_1 at h
  refine bodyT Try.func60 rfl (by rw [Try.ntmps60]; exact Nat.le_of_ble_eq_true rfl) ?_
  refine LH.wk (Wk.to (el := [(0, .int .i64 p0), (1, .int .i64 p1), (2, .sptr [.lst 3 (List.map GStamp.lv c0)])]) (ml := []) (eC rfl (eC rfl (eC rfl eN))) mN rfl (prK rfl)) ?_
  refine LH.seqT [(0, .int .i64 p0), (1, .int .i64 p1), (2, .sptr [.lst 3 (List.map GStamp.lv c0)])] [] rfl ?_ ?_
  · refine sN (oA (v := (.int _ _)) rfl ?_)
    exact s0 (Wk.to (eC rfl (eC rfl (eC rfl eN))) mN rfl (prK rfl))
  obtain ⟨x1, hx1, h⟩ := bindS h
  obtain ⟨x2, hx2, h⟩ := bindS h
  obtain ⟨r3, hr3, h⟩ := bindS h
  refine LH.seqJM mixed [] [0, 0, 0, 0, 0, 0, 0, 0, 0, 0] [(5, .int .i64 r3)] [] rfl rfl (by kernel_rfl) ?_ ?_
  · refine mN0 (oLd rfl tk78 ta78 ⟨rfl, ?_⟩)
    refine mN0 (oM (v := (.int _ _)) rfl ⟨rfl, ?_⟩)
    refine mN0 (oIx (f := GStamp.lv) te78 tk31 ts31 rfl rfl GStamp.ok hx1 rfl ⟨rfl, ?_⟩)
    refine mN0 (oLdA rfl tk31 ta31 ts31 rfl rfl ⟨rfl, ?_⟩)
    refine mN0 (oLd rfl tk78 ta78 ⟨rfl, ?_⟩)
    refine mN0 (oM (v := (.int _ _)) rfl ⟨rfl, ?_⟩)
    refine mN0 (oIx (f := GStamp.lv) te78 tk31 ts31 rfl rfl GStamp.ok hx2 rfl ⟨rfl, ?_⟩)
    refine mN0 (oLdA rfl tk31 ta31 ts31 rfl rfl ⟨rfl, ?_⟩)
    refine mN0 (oCP (args := [.agg [.int .i64 x1.Time, .int .i64 x1.Source, .int .i64 x1.Seq], .agg [.int .i64 x2.Time, .int .i64 x2.Source, .int .i64 x2.Seq]]) rfl isF61 rfl (sbR (sbR sbN)) (stamp_Compare_ok hr3) rfl ⟨rfl, ?_⟩)
    refine mN0 (oA (v := (.int _ _)) rfl ⟨rfl, ?_⟩)
    exact m0 (Wk.to (eC rfl eN) mN rfl (prK rfl))
  refine LH.ret ?_
  obtain rfl := Option.some.inj h
  exact retE (congrArg Array.toList Try.results60) (lrT rfl (lr0 ⟨memN mN, rfl, prK rfl, Sub.rfl⟩))

theorem stamp_Canonical_ok {F : Nat} {p0 : List GStamp} {p1 : List Int} {r : List Int × Int} (h : stamp_Canonical F p0 p1 = some r) : LCall Try.prog 51 [.lst 3 (List.map GStamp.lv p0), .lst 1 (List.map (LV.int .i64) p1)] (Mem.of []) (.tup [.lst 1 (List.map (LV.int .i64) r.1), .int .i64 r.2]) (Mem.of []) := by
  unfold stamp_Canonical at h
  refine bodyT Try.func51 rfl (by rw [Try.ntmps51]; exact Nat.le_of_ble_eq_true rfl) ?_
  refine LH.wk (Wk.to (el := [(0, .lst 3 (List.map GStamp.lv p0)), (1, .lst 1 (List.map (LV.int .i64) p1))]) (ml := []) (eC rfl (eC rfl eN)) mN rfl (prK rfl)) ?_
  refine LH.seqT [(1, .lst 1 (List.map (LV.int .i64) p1)), (2, .sptr [.lst 3 (List.map GStamp.lv p0)])] [] rfl ?_ ?_
  · refine sB (oBxR rfl rfl rfl rfl ?_)
    refine sN (oA (v := .nil) rfl ?_)
    refine sN (oA (v := (.int _ _)) rfl ?_)
    exact s0 (Wk.to (eC rfl (eC rfl eN)) mN rfl (prK rfl))
  refine LH.seq ?_
  refine LH.seqT [(1, .lst 1 (List.map (LV.int .i64) p1)), (2, .sptr [.lst 3 (List.map GStamp.lv p0)]), (13, .bool ((p0.length : Int) != (p1.length : Int)))] [] rfl ?_ ?_
  · refine sN (oLd rfl tk78 ta78 ?_)
    refine sN (oLnL (f := GStamp.lv) te78 rfl ?_)
    refine sN (oM (v := (.lst _ _)) rfl ?_)
    refine sN (oLnL (f := (LV.int .i64)) te22 rfl ?_)
    refine sN (oNe rfl rfl ?_)
    exact s0 (Wk.to (eC rfl (eC rfl (eC rfl eN))) mN rfl (prK rfl))
  refine LH.cond (t := ((p0.length : Int) != (p1.length : Int))) rfl (fun hc1 => ?_) (fun hc1 => ?_)
  · replace h := iteT h hc1
    refine LH.seqT [(4, .nil), (5, .int .i64 1)] [] rfl ?_ ?_
    · refine sN (oA (v := .nil) rfl ?_)
      refine sN (oA (v := (.int _ _)) rfl ?_)
      exact s0 (Wk.to (eC rfl (eC rfl eN)) mN rfl (prK rfl))
    refine LH.ret ?_
    refine thenR ?_
    obtain rfl := Option.some.inj h
    exact retE (congrArg Array.toList Try.results51) (lrT rfl (lrT rfl (lr0 ⟨memN mN, rfl, prK rfl, (Sub.tup (sbL (sbR sbN)))⟩)))
  replace h := iteF h hc1
  refine LH.skip ?_
  refine thenN ?_
  refine LH.wk (Wk.to (el := [(1, .lst 1 (List.map (LV.int .i64) p1)), (2, .sptr [.lst 3 (List.map GStamp.lv p0)])]) (ml := []) (eC rfl (eC rfl eN)) mN rfl (prK rfl)) ?_
  refine LH.seqT [(1, .lst 1 (List.map (LV.int .i64) p1)), (2, .sptr [.lst 3 (List.map GStamp.lv p0)]), (6, .nil)] [] rfl ?_ ?_
  · refine sN (oA (v := .nil) rfl ?_)
    exact s0 (Wk.to (eC rfl (eC rfl (eC rfl eN))) mN rfl (prK rfl))
  refine LH.seq ?_
  obtain ⟨r2, hr2, h⟩ := bindS h
  refine LH.seqT [(2, .sptr [.lst 3 (List.map GStamp.lv p0)]), (6, .nil), (16, .lst 2 (List.map stamp_group.lv r2)), (17, .int .i64 (r2.length : Int)), (18, .int .i64 0)] [] rfl ?_ ?_
  · refine sN (oLd rfl tk78 ta78 ?_)
    refine sN (oM (v := (.lst _ _)) rfl ?_)
    refine sN (oCP (args := [.lst 3 (List.map GStamp.lv p0), .lst 1 (List.map (LV.int .i64) p1)]) rfl isF58 rfl (sbR (sbR sbN)) (stamp_groups_ok hr2) rfl ?_)
    refine sN (oLnL (f := stamp_group.lv) te96 rfl ?_)
    refine sN (oM (v := (.int _ _)) rfl ?_)
    exact s0 (Wk.to (eC rfl (eC rfl (eC rfl (eC rfl (eC rfl eN))))) mN rfl (prK rfl))
  refine LH.block ?_
  refine LH.wk ((Wk.trans (Wk.to (el := [(2, .sptr [.lst 3 (List.map GStamp.lv p0)]), (6, .nil), (16, .lst 2 (List.map stamp_group.lv r2)), (17, .int .i64 (r2.length : Int)), (18, .int .i64 0)]) (ml := []) (eC rfl (eC rfl (eC rfl (eC rfl (eC rfl eN))))) mN rfl (prK rfl)) (Wk.trans (Wk.to (el := [(2, .sptr [.lst 3 (List.map GStamp.lv p0)]), (6, .nil), (16, .lst 2 (List.map stamp_group.lv r2)), (17, .int .i64 (r2.length : Int)), (18, .int .i64 0)]) (ml := []) (eC rfl (eC rfl (eC rfl (eC rfl (eC rfl eN))))) mN rfl (prK rfl)) (Wk.trans (Wk.ownL (el' := [(2, .sptr [.lst 3 (List.map GStamp.lv p0)]), (6, .arr 129 (List.length ([] : List Int))), (16, .lst 2 (List.map stamp_group.lv r2)), (17, .int .i64 (r2.length : Int)), (18, .int .i64 0)]) 129 3 1 rfl rfl (wK (wO (wK (wK (wK wN)))))) (Wk.to (el := [(2, .sptr [.lst 3 (List.map GStamp.lv p0)]), (6, .arr 129 (List.length ([] : List Int))), (16, .lst 2 (List.map stamp_group.lv r2)), (17, .int .i64 (r2.length : Int)), (18, .int .i64 0)]) (ml := [(129, .arr 3 1 (List.map (LV.int .i64) ([] : List Int)))]) (eC rfl (eC rfl (eC rfl (eC rfl (eC rfl eN))))) (mC rfl mN) rfl (prK rfl)))))) ?_
  refine LH.loop (fun n e m => ∃ (n3 : Int) (l4 : List Int), stamp_Canonical_L1 F p0 r2 n n3 l4 = some r ∧ e = Env.of [(2, .sptr [.lst 3 (List.map GStamp.lv p0)]), (6, .arr 129 (List.length l4)), (16, .lst 2 (List.map stamp_group.lv r2)), (17, .int .i64 (r2.length : Int)), (18, .int .i64 n3)] ∧ m = Mem.of [(129, .arr 3 1 (List.map (LV.int .i64) l4))]) F ⟨0, ([] : List Int), h, rfl, rfl⟩ ?_
  clear h
  rintro n e m ⟨n3, l4, h, rfl, rfl⟩
  rcases n with _ | n
  · cases (show Option.none = some _ from h)
  obtain ⟨rec1, hrec1⟩ : ∃ f, f = stamp_Canonical_L1 F p0 r2 n := ⟨_, rfl⟩
  replace h : stamp_Canonical_L1_B F p0 r2 rec1 n3 l4 = some r := hrec1 ▸ h
  unfold stamp_Canonical_L1_B at h
  refine LH.seqT [(2, .sptr [.lst 3 (List.map GStamp.lv p0)]), (6, .arr 129 (List.length l4)), (16, .lst 2 (List.map stamp_group.lv r2)), (17, .int .i64 (r2.length : Int)), (18, .int .i64 n3), (19, .bool (decide (n3 < (r2.length : Int))))] [(129, .arr 3 1 (List.map (LV.int .i64) l4))] rfl ?_ ?_
  · refine sN (oLt rfl rfl ?_)
    exact s0 (Wk.to (eC rfl (eC rfl (eC rfl (eC rfl (eC rfl (eC rfl eN)))))) (mC rfl mN) rfl (prK rfl))
  refine LH.seq ?_
  refine LH.cond (t := (decide (n3 < (r2.length : Int)))) rfl (fun hc5 => ?_) (fun hc5 => ?_)
  · replace h := iteT h hc5
    refine LH.skip ?_
    refine thenN ?_
    refine LH.wk (Wk.to (el := [(2, .sptr [.lst 3 (List.map GStamp.lv p0)]), (6, .arr 129 (List.length l4)), (16, .lst 2 (List.map stamp_group.lv r2)), (17, .int .i64 (r2.length : Int)), (18, .int .i64 n3)]) (ml := [(129, .arr 3 1 (List.map (LV.int .i64) l4))]) (eC rfl (eC rfl (eC rfl (eC rfl (eC rfl eN))))) (mC rfl mN) rfl (prK rfl)) ?_
    refine LH.seq ?_
    refine LH.block ?_
    obtain ⟨x6, hx6, h⟩ := bindS h
    refine LH.seqT [(2, .sptr [.lst 3 (List.map GStamp.lv p0)]), (6, .arr 129 (List.length l4)), (8, .sptr [.int .i64 x6.first, .bool x6.disputed]), (16, .lst 2 (List.map stamp_group.lv r2)), (17, .int .i64 (r2.length : Int)), (18, .int .i64 n3)] [(129, .arr 3 1 (List.map (LV.int .i64) l4))] rfl ?_ ?_
    · refine sN (oIx (f := stamp_group.lv) te96 tk99 ts99 rfl rfl stamp_group.ok hx6 rfl ?_)
      refine sN (oLdA rfl tk99 ta99 ts99 rfl rfl ?_)
      refine sN (oAl (id := 108) rfl tz99 rfl rfl ?_)
      refine s_ (oSt rfl rfl rfl tk99 ts99 rfl rfl rfl ?_)
      exact s0 ((Wk.trans (Wk.to (el := [(2, .sptr [.lst 3 (List.map GStamp.lv p0)]), (6, .arr 129 (List.length l4)), (8, .ptr 108 0), (16, .lst 2 (List.map stamp_group.lv r2)), (17, .int .i64 (r2.length : Int)), (18, .int .i64 n3)]) (ml := [(108, .box [.int .i64 x6.first, .bool x6.disputed]), (129, .arr 3 1 (List.map (LV.int .i64) l4))]) (eC rfl (eC rfl (eC rfl (eC rfl (eC rfl (eC rfl eN)))))) (mC rfl (mC rfl mN)) rfl (prK rfl)) (Wk.trans (Wk.frzB 108 [.int .i64 x6.first, .bool x6.disputed] rfl rfl rfl (prN rfl)) (Wk.to (eC rfl (eC rfl (eC rfl (eC rfl (eC rfl (eC rfl eN)))))) (mC rfl mN) rfl (prK rfl)))))
    refine LH.seqT [(2, .sptr [.lst 3 (List.map GStamp.lv p0)]), (6, .arr 129 (List.length l4)), (8, .sptr [.int .i64 x6.first, .bool x6.disputed]), (16, .lst 2 (List.map stamp_group.lv r2)), (17, .int .i64 (r2.length : Int)), (18, .int .i64 n3), (24, .bool (!x6.disputed))] [(129, .arr 3 1 (List.map (LV.int .i64) l4))] rfl ?_ ?_
    · refine sN (oFaS tf99_1 tk4 ts4 rfl rfl rfl ?_)
      refine sN (oLd rfl tk4 ta4 ?_)
      refine sN (oNot rfl ?_)
      exact s0 (Wk.to (eC rfl (eC rfl (eC rfl (eC rfl (eC rfl (eC rfl (eC rfl eN))))))) (mC rfl mN) rfl (prK rfl))
    refine LH.cond (t := (!x6.disputed)) rfl (fun hc7 => ?_) (fun hc7 => ?_)
    · replace h := iteT h hc7
      obtain ⟨v8, hv8, h⟩ := bindS h
      refine LH.loneT [(2, .sptr [.lst 3 (List.map GStamp.lv p0)]), (6, .arr 129 (List.length v8)), (16, .lst 2 (List.map stamp_group.lv r2)), (17, .int .i64 (r2.length : Int)), (18, .int .i64 n3)] [(129, .arr 3 1 (List.map (LV.int .i64) v8))] rfl ?_ ?_
      · refine sN (oM (v := (.arr _ _)) rfl ?_)
        refine sN (oFaS tf99_0 tk3 ts3 rfl rfl rfl ?_)
        refine sN (oLd rfl tk3 ta3 ?_)
        refine sN (oBS (f := (LV.int .i64)) (ys := [x6.first]) te22 tr3 ts3 rfl rfl rfl okI ?_)
        refine sN (oAp (f := (LV.int .i64)) te22 tr3 ts3 rfl rfl (prN rfl) rfl hv8 ?_)
        refine sN (oA (v := (.arr _ _)) rfl ?_)
        exact s0 (Wk.to (eC rfl (eC rfl (eC rfl (eC rfl (eC rfl eN))))) (mC rfl mN) rfl (prK rfl))
      refine blockN ?_
      refine thenN ?_
      refine LH.loneT [(2, .sptr [.lst 3 (List.map GStamp.lv p0)]), (6, .arr 129 (List.length v8)), (16, .lst 2 (List.map stamp_group.lv r2)), (17, .int .i64 (r2.length : Int)), (18, .int .i64 (i64 (n3 + 1)))] [(129, .arr 3 1 (List.map (LV.int .i64) v8))] rfl ?_ ?_
      · refine sN (oAdd rfl rfl ?_)
        refine sN (oM (v := (.int _ _)) rfl ?_)
        exact s0 (Wk.to (eC rfl (eC rfl (eC rfl (eC rfl (eC rfl eN))))) (mC rfl mN) rfl (prK rfl))
      exact roundN (e' := Env.of [(2, .sptr [.lst 3 (List.map GStamp.lv p0)]), (6, .arr 129 (List.length v8)), (16, .lst 2 (List.map stamp_group.lv r2)), (17, .int .i64 (r2.length : Int)), (18, .int .i64 (i64 (n3 + 1)))]) (m' := Mem.of [(129, .arr 3 1 (List.map (LV.int .i64) v8))]) (Wk.to (eC rfl (eC rfl (eC rfl (eC rfl (eC rfl eN))))) (mC rfl mN) rfl (prK rfl)) ⟨(i64 (n3 + 1)), v8, hrec1 ▸ h, rfl, rfl⟩
    replace h := iteF h hc7
    refine LH.skip ?_
    refine blockN ?_
    refine thenN ?_
    refine LH.wk (Wk.to (el := [(2, .sptr [.lst 3 (List.map GStamp.lv p0)]), (6, .arr 129 (List.length l4)), (16, .lst 2 (List.map stamp_group.lv r2)), (17, .int .i64 (r2.length : Int)), (18, .int .i64 n3)]) (ml := [(129, .arr 3 1 (List.map (LV.int .i64) l4))]) (eC rfl (eC rfl (eC rfl (eC rfl (eC rfl eN))))) (mC rfl mN) rfl (prK rfl)) ?_
    refine LH.loneT [(2, .sptr [.lst 3 (List.map GStamp.lv p0)]), (6, .arr 129 (List.length l4)), (16, .lst 2 (List.map stamp_group.lv r2)), (17, .int .i64 (r2.length : Int)), (18, .int .i64 (i64 (n3 + 1)))] [(129, .arr 3 1 (List.map (LV.int .i64) l4))] rfl ?_ ?_
    · refine sN (oAdd rfl rfl ?_)
      refine sN (oM (v := (.int _ _)) rfl ?_)
      exact s0 (Wk.to (eC rfl (eC rfl (eC rfl (eC rfl (eC rfl eN))))) (mC rfl mN) rfl (prK rfl))
    exact roundN (e' := Env.of [(2, .sptr [.lst 3 (List.map GStamp.lv p0)]), (6, .arr 129 (List.length l4)), (16, .lst 2 (List.map stamp_group.lv r2)), (17, .int .i64 (r2.length : Int)), (18, .int .i64 (i64 (n3 + 1)))]) (m' := Mem.of [(129, .arr 3 1 (List.map (LV.int .i64) l4))]) (Wk.to (eC rfl (eC rfl (eC rfl (eC rfl (eC rfl eN))))) (mC rfl mN) rfl (prK rfl)) ⟨(i64 (n3 + 1)), l4, hrec1 ▸ h, rfl, rfl⟩
  replace h := iteF h hc5
  refine LH.exit ?_
  refine thenX ?_
  refine roundX ?_
  refine blockH ?_
  refine thenN ?_
  refine LH.wk (Wk.to (el := [(2, .sptr [.lst 3 (List.map GStamp.lv p0)]), (6, .arr 129 (List.length l4))]) (ml := [(129, .arr 3 1 (List.map (LV.int .i64) l4))]) (eC rfl (eC rfl eN)) (mC rfl mN) rfl (prK rfl)) ?_
  refine LH.seq ?_
  refine LH.seqT [(2, .sptr [.lst 3 (List.map GStamp.lv p0)]), (6, .arr 129 (List.length l4)), (33, .bool (decide ((l4.length : Int) > 300)))] [(129, .arr 3 1 (List.map (LV.int .i64) l4))] rfl ?_ ?_
  · refine sN (oM (v := (.arr _ _)) rfl ?_)
    refine sN (oLnA (f := (LV.int .i64)) te22 rfl rfl ?_)
    refine sN (oGt rfl rfl ?_)
    exact s0 (Wk.to (eC rfl (eC rfl (eC rfl eN))) (mC rfl mN) rfl (prK rfl))
  refine LH.cond (t := (decide ((l4.length : Int) > 300))) rfl (fun hc9 => ?_) (fun hc9 => ?_)
  · replace h := iteT h hc9
    refine LH.seqT [(4, .nil), (5, .int .i64 3)] [] rfl ?_ ?_
    · refine sN (oA (v := .nil) rfl ?_)
      refine sN (oA (v := (.int _ _)) rfl ?_)
      exact s0 (Wk.to (eC rfl (eC rfl eN)) mN rfl (prK rfl))
    refine LH.ret ?_
    refine thenR ?_
    obtain rfl := Option.some.inj h
    exact retE (congrArg Array.toList Try.results51) (lrT rfl (lrT rfl (lr0 ⟨memN mN, rfl, prK rfl, (Sub.tup (sbL (sbR sbN)))⟩)))
  replace h := iteF h hc9
  refine LH.skip ?_
  refine thenN ?_
  refine LH.wk (Wk.to (el := [(2, .sptr [.lst 3 (List.map GStamp.lv p0)]), (6, .arr 129 (List.length l4))]) (ml := [(129, .arr 3 1 (List.map (LV.int .i64) l4))]) (eC rfl (eC rfl eN)) (mC rfl mN) rfl (prK rfl)) ?_
  obtain ⟨l10, hl10, h⟩ := bindS h
  refine LH.seqT [(6, .lst 1 (List.map (LV.int .i64) l10))] [] rfl ?_ ?_
  · refine sN (oM (v := (.arr _ _)) rfl ?_)
    refine sN (oMF (vs := [.sptr [.lst 3 (List.map GStamp.lv p0)]]) rfl ?_)
    refine sN (oCM (args := [.arr 129 (List.length l4), .fn 60 [.sptr [.lst 3 (List.map GStamp.lv p0)]]]) (ml := [(129, .arr 3 1 (List.map (LV.int .i64) l4))]) (ml' := [(129, .arr 3 1 (List.map (LV.int .i64) l10))]) rfl isF59 rfl (sbR (sbR sbN)) (sortI_ok Try.sortL rfl isF60 rfl (fun _ _ _ h => stamp_Canonical_1_ok h) 129 3 hl10) (mC rfl mN) (newI rfl newN) rfl ?_)
    exact s0 ((Wk.trans (Wk.to (el := [(6, .arr 129 (List.length l10))]) (ml := [(129, .arr 3 1 (List.map (LV.int .i64) l10))]) (eC (congrArg (LV.arr 129) (sortF_len hl10)) eN) (mC rfl mN) rfl (prK rfl)) (Wk.trans (Wk.frzL (f := (LV.int .i64)) (el' := [(6, .lst 1 (List.map (LV.int .i64) l10))]) 129 3 1 l10 rfl rfl (prN rfl) (fZ fN)) (Wk.to (eC rfl eN) mN rfl (prK rfl)))))
  refine LH.seqT [(4, .lst 1 (List.map (LV.int .i64) l10)), (5, .int .i64 0)] [] rfl ?_ ?_
  · refine sN (oM (v := (.lst _ _)) rfl ?_)
    refine sN (oA (v := (.lst _ _)) rfl ?_)
    refine sN (oA (v := (.int _ _)) rfl ?_)
    exact s0 (Wk.to (eC rfl (eC rfl eN)) mN rfl (prK rfl))
  refine LH.ret ?_
  obtain rfl := Option.some.inj h
  exact retE (congrArg Array.toList Try.results51) (lrT rfl (lrT rfl (lr0 ⟨memN mN, rfl, prK rfl, (Sub.tup (sbR (sbR sbN)))⟩)))

theorem copies_Canonical_RegisterEvent_ok {F : Nat} {p0 : List GRegisterEvent} {p1 : (GRegisterEvent → Option GStamp)} {p2 : (GRegisterEvent → GRegisterEvent → Option Bool)} {r : List Int × Int} {p1_f : Nat} {p1_c : List LV} (p1_i : ∃ fn, Try.prog.funcs[p1_f]? = some fn ∧ (fn.name == "runtime.NumGoroutine") = false ∧ fn.body.isNone = false) (p1_q : LV.pureL p1_c = true) (p1_k : ∀ (x0 : GRegisterEvent) (q : GStamp), p1 x0 = some q → LCall Try.prog p1_f ([.agg [.int .i64 x0.Stamp.Time, .int .i64 x0.Stamp.Source, .int .i64 x0.Stamp.Seq, .int .i64 x0.Kind, .int .i64 x0.Candidate, .int .i64 x0.Minutes]] ++ p1_c) (Mem.of []) (.agg [.int .i64 q.Time, .int .i64 q.Source, .int .i64 q.Seq]) (Mem.of [])) {p2_f : Nat} {p2_c : List LV} (p2_i : ∃ fn, Try.prog.funcs[p2_f]? = some fn ∧ (fn.name == "runtime.NumGoroutine") = false ∧ fn.body.isNone = false) (p2_q : LV.pureL p2_c = true) (p2_k : ∀ (x0 : GRegisterEvent) (x1 : GRegisterEvent) (q : Bool), p2 x0 x1 = some q → LCall Try.prog p2_f ([.agg [.int .i64 x0.Stamp.Time, .int .i64 x0.Stamp.Source, .int .i64 x0.Stamp.Seq, .int .i64 x0.Kind, .int .i64 x0.Candidate, .int .i64 x0.Minutes], .agg [.int .i64 x1.Stamp.Time, .int .i64 x1.Stamp.Source, .int .i64 x1.Stamp.Seq, .int .i64 x1.Kind, .int .i64 x1.Candidate, .int .i64 x1.Minutes]] ++ p2_c) (Mem.of []) (.bool q) (Mem.of [])) (h : copies_Canonical_RegisterEvent F p0 p1 p2 = some r) : LCall Try.prog 40 [.lst 6 (List.map GRegisterEvent.lv p0), .fn p1_f p1_c, .fn p2_f p2_c] (Mem.of []) (.tup [.lst 1 (List.map (LV.int .i64) r.1), .int .i64 r.2]) (Mem.of []) := by
  have p2_p : ∀ {l : List LV}, LV.pureL l = true → LV.pureL (l ++ p2_c) = true := pnC p2_q
  have p2_r : LV.refsL p2_c = [] := refsL_pure p2_q
  have p1_p : ∀ {l : List LV}, LV.pureL l = true → LV.pureL (l ++ p1_c) = true := pnC p1_q
  have p1_r : LV.refsL p1_c = [] := refsL_pure p1_q
  unfold copies_Canonical_RegisterEvent at h
  refine bodyT Try.func40 rfl (by rw [Try.ntmps40]; exact Nat.le_of_ble_eq_true rfl) ?_
  refine LH.wk (Wk.to (el := [(0, .lst 6 (List.map GRegisterEvent.lv p0)), (1, .fn p1_f p1_c), (2, .fn p2_f p2_c)]) (ml := []) (eC rfl (eC rfl (eC rfl eN))) mN (by simp [keptRefs, LV.refs, LV.refsL, Env.args, Env.of, Env.put, Env.drop, p1_r, p2_r]) (prK rfl)) ?_
  refine LH.seqT [(0, .lst 6 (List.map GRegisterEvent.lv p0)), (1, .fn p1_f p1_c), (2, .fn p2_f p2_c)] [] rfl ?_ ?_
  · refine sN (oA (v := .nil) rfl ?_)
    refine sN (oA (v := (.int _ _)) rfl ?_)
    exact s0 (Wk.to (eC rfl (eC rfl (eC rfl eN))) mN (by simp [keptRefs, LV.refs, LV.refsL, Env.args, Env.of, Env.put, Env.drop, p1_r, p2_r]) (prK rfl))
  obtain ⟨r1, hr1, h⟩ := bindS h
  refine LH.seqT [(8, .lst 3 (List.map GStamp.lv r1.1)), (9, .lst 1 (List.map (LV.int .i64) r1.2))] [] rfl ?_ ?_
  · refine sN (oM (v := (.lst _ _)) rfl ?_)
    refine sN (oM (v := (.fn _ _)) rfl ?_)
    refine sN (oM (v := (.fn _ _)) rfl ?_)
    refine sN (oCP (args := [.lst 6 (List.map GRegisterEvent.lv p0), .fn p1_f p1_c, .fn p2_f p2_c]) rfl isF50 rfl (sbR (sbR (sbR sbN))) (copies_Split_RegisterEvent_ok p1_i p1_q p1_k p2_i p2_q p2_k hr1) (by simp [LV.pure, LV.pureL, p1_q, p2_q]) ?_)
    refine sN (oM (v := (.tup _)) rfl ?_)
    refine sN (oEx rfl rfl ?_)
    refine sN (oEx rfl rfl ?_)
    refine sN (oA (v := (.lst _ _)) rfl ?_)
    refine sN (oA (v := (.lst _ _)) rfl ?_)
    exact s0 (Wk.to (eC rfl (eC rfl eN)) mN (by simp [keptRefs, LV.refs, LV.refsL, Env.args, Env.of, Env.put, Env.drop, p1_r, p2_r]) (prK rfl))
  obtain ⟨r2, hr2, h⟩ := bindS h
  refine LH.seqT [(6, .lst 1 (List.map (LV.int .i64) r2.1)), (7, .int .i64 r2.2)] [] rfl ?_ ?_
  · refine sN (oM (v := (.lst _ _)) rfl ?_)
    refine sN (oM (v := (.lst _ _)) rfl ?_)
    refine sN (oCP (args := [.lst 3 (List.map GStamp.lv r1.1), .lst 1 (List.map (LV.int .i64) r1.2)]) rfl isF51 rfl (sbR (sbR sbN)) (stamp_Canonical_ok hr2) rfl ?_)
    refine sN (oEx rfl rfl ?_)
    refine sN (oEx rfl rfl ?_)
    refine sN (oA (v := (.lst _ _)) rfl ?_)
    refine sN (oA (v := (.int _ _)) rfl ?_)
    exact s0 (Wk.to (eC rfl (eC rfl eN)) mN (by simp [keptRefs, LV.refs, LV.refsL, Env.args, Env.of, Env.put, Env.drop, p1_r, p2_r]) (prK rfl))
  refine LH.ret ?_
  obtain rfl := Option.some.inj h
  exact retE (congrArg Array.toList Try.results40) (lrT rfl (lrT rfl (lr0 ⟨memN mN, rfl, prK rfl, (Sub.tup (sbR (sbR sbN)))⟩)))

theorem attendance_Canonical_1_ok {p0 : GRegisterEvent} {r : GStamp} (h : attendance_Canonical_1 p0 = some r) : LCall Try.prog 41 [.agg [.int .i64 p0.Stamp.Time, .int .i64 p0.Stamp.Source, .int .i64 p0.Stamp.Seq, .int .i64 p0.Kind, .int .i64 p0.Candidate, .int .i64 p0.Minutes]] (Mem.of []) (.agg [.int .i64 r.Time, .int .i64 r.Source, .int .i64 r.Seq]) (Mem.of []) := by
  unfold attendance_Canonical_1 at h
  refine bodyT Try.func41 rfl (by rw [Try.ntmps41]; exact Nat.le_of_ble_eq_true rfl) ?_
  refine LH.wk (Wk.to (el := [(0, .agg [.int .i64 p0.Stamp.Time, .int .i64 p0.Stamp.Source, .int .i64 p0.Stamp.Seq, .int .i64 p0.Kind, .int .i64 p0.Candidate, .int .i64 p0.Minutes])]) (ml := []) (eC rfl eN) mN rfl (prK rfl)) ?_
  refine LH.seqT [(1, .sptr [.int .i64 p0.Stamp.Time, .int .i64 p0.Stamp.Source, .int .i64 p0.Stamp.Seq, .int .i64 p0.Kind, .int .i64 p0.Candidate, .int .i64 p0.Minutes]), (2, .ptr 102 0)] [(102, .box [.int .i64 0, .int .i64 0, .int .i64 0])] rfl ?_ ?_
  · refine sB (oBxR rfl rfl rfl rfl ?_)
    refine sN (oAl (id := 102) rfl tz31 rfl rfl ?_)
    exact s0 (Wk.to (eC rfl (eC rfl eN)) (mC rfl mN) rfl (prK rfl))
  refine LH.seqT [(2, .sptr [.int .i64 p0.Stamp.Time, .int .i64 p0.Stamp.Source, .int .i64 p0.Stamp.Seq])] [] rfl ?_ ?_
  · refine sN (oFaS tf33_0 tk31 ts31 rfl rfl rfl ?_)
    refine sN (oLdA rfl tk31 ta31 ts31 rfl rfl ?_)
    refine s_ (oSt rfl rfl rfl tk31 ts31 rfl rfl rfl ?_)
    exact s0 ((Wk.trans (Wk.to (el := [(2, .ptr 102 0)]) (ml := [(102, .box [.int .i64 p0.Stamp.Time, .int .i64 p0.Stamp.Source, .int .i64 p0.Stamp.Seq])]) (eC rfl eN) (mC rfl mN) rfl (prK rfl)) (Wk.trans (Wk.frzB 102 [.int .i64 p0.Stamp.Time, .int .i64 p0.Stamp.Source, .int .i64 p0.Stamp.Seq] rfl rfl rfl (prN rfl)) (Wk.to (eC rfl eN) mN rfl (prK rfl)))))
  refine LH.ret ?_
  obtain rfl := Option.some.inj h
  exact retE (congrArg Array.toList Try.results41) (lrSA rfl tk31 ta31 ts31 rfl rfl (lr0 ⟨memN mN, rfl, prK rfl, Sub.rfl⟩))

theorem attendance_Same_ok {p0 : GRegisterEvent} {p1 : GRegisterEvent} {r : Bool} (h : attendance_Same p0 p1 = some r) : LCall Try.prog 16 [.agg [.int .i64 p0.Stamp.Time, .int .i64 p0.Stamp.Source, .int .i64 p0.Stamp.Seq, .int .i64 p0.Kind, .int .i64 p0.Candidate, .int .i64 p0.Minutes], .agg [.int .i64 p1.Stamp.Time, .int .i64 p1.Stamp.Source, .int .i64 p1.Stamp.Seq, .int .i64 p1.Kind, .int .i64 p1.Candidate, .int .i64 p1.Minutes]] (Mem.of []) (.bool r) (Mem.of []) := by
  unfold attendance_Same at h
  refine bodyT Try.func16 rfl (by rw [Try.ntmps16]; exact Nat.le_of_ble_eq_true rfl) ?_
  refine LH.wk (Wk.to (el := [(0, .agg [.int .i64 p0.Stamp.Time, .int .i64 p0.Stamp.Source, .int .i64 p0.Stamp.Seq, .int .i64 p0.Kind, .int .i64 p0.Candidate, .int .i64 p0.Minutes]), (1, .agg [.int .i64 p1.Stamp.Time, .int .i64 p1.Stamp.Source, .int .i64 p1.Stamp.Seq, .int .i64 p1.Kind, .int .i64 p1.Candidate, .int .i64 p1.Minutes])]) (ml := []) (eC rfl (eC rfl eN)) mN rfl (prK rfl)) ?_
  refine LH.seqT [(2, .sptr [.int .i64 p0.Stamp.Time, .int .i64 p0.Stamp.Source, .int .i64 p0.Stamp.Seq, .int .i64 p0.Kind, .int .i64 p0.Candidate, .int .i64 p0.Minutes]), (3, .sptr [.int .i64 p1.Stamp.Time, .int .i64 p1.Stamp.Source, .int .i64 p1.Stamp.Seq, .int .i64 p1.Kind, .int .i64 p1.Candidate, .int .i64 p1.Minutes])] [] rfl ?_ ?_
  · refine sB (oBxR rfl rfl rfl rfl ?_)
    refine sB (oBxR rfl rfl rfl rfl ?_)
    refine sN (oA (v := (.bool _)) rfl ?_)
    exact s0 (Wk.to (eC rfl (eC rfl eN)) mN rfl (prK rfl))
  refine LH.seqT [(4, .bool (decide (p0 = p1)))] [] rfl ?_ ?_
  · refine sN (oLdA rfl tk33 ta33 ts33 rfl rfl ?_)
    refine sN (oLdA rfl tk33 ta33 ts33 rfl rfl ?_)
    refine sN (oEqA rfl rfl (ae33 p0 p1) ?_)
    refine sN (oA (v := (.bool _)) rfl ?_)
    exact s0 (Wk.to (eC rfl eN) mN rfl (prK rfl))
  refine LH.ret ?_
  obtain rfl := Option.some.inj h
  exact retE (congrArg Array.toList Try.results16) (lrT rfl (lr0 ⟨memN mN, rfl, prK rfl, Sub.rfl⟩))

theorem attendance_Canonical_ok {F : Nat} {p0 : List GRegisterEvent} {r : List GRegisterEvent × Int} (h : attendance_Canonical F p0 = some r) : LCall Try.prog 13 [.lst 6 (List.map GRegisterEvent.lv p0)] (Mem.of []) (.tup [.lst 6 (List.map GRegisterEvent.lv r.1), .int .i64 r.2]) (Mem.of []) := by
  unfold attendance_Canonical at h
  refine bodyT Try.func13 rfl (by rw [Try.ntmps13]; exact Nat.le_of_ble_eq_true rfl) ?_
  refine LH.wk (Wk.to (el := [(0, .lst 6 (List.map GRegisterEvent.lv p0))]) (ml := []) (eC rfl eN) mN rfl (prK rfl)) ?_
  refine LH.seqT [(0, .lst 6 (List.map GRegisterEvent.lv p0))] [] rfl ?_ ?_
  · refine sN (oA (v := .nil) rfl ?_)
    refine sN (oA (v := (.int _ _)) rfl ?_)
    exact s0 (Wk.to (eC rfl eN) mN rfl (prK rfl))
  obtain ⟨r1, hr1, h⟩ := bindS h
  refine LH.seqT [(0, .lst 6 (List.map GRegisterEvent.lv p0)), (4, .lst 1 (List.map (LV.int .i64) r1.1)), (5, .int .i64 r1.2)] [] rfl ?_ ?_
  · refine sN (oM (v := (.lst _ _)) rfl ?_)
    refine sN (oCP (args := [.lst 6 (List.map GRegisterEvent.lv p0), .fn 41 [], .fn 16 []]) rfl isF40 rfl (sbR (sbR (sbR sbN))) (copies_Canonical_RegisterEvent_ok (p1_f := 41) (p1_c := []) isF41 rfl (fun _ _ h => attendance_Canonical_1_ok h) (p2_f := 16) (p2_c := []) isF16 rfl (fun _ _ _ h => attendance_Same_ok h) hr1) rfl ?_)
    refine sN (oM (v := (.tup _)) rfl ?_)
    refine sN (oEx rfl rfl ?_)
    refine sN (oEx rfl rfl ?_)
    refine sN (oA (v := (.lst _ _)) rfl ?_)
    refine sN (oA (v := (.int _ _)) rfl ?_)
    exact s0 (Wk.to (eC rfl (eC rfl (eC rfl eN))) mN rfl (prK rfl))
  refine LH.seq ?_
  refine LH.seqT [(0, .lst 6 (List.map GRegisterEvent.lv p0)), (4, .lst 1 (List.map (LV.int .i64) r1.1)), (5, .int .i64 r1.2), (15, .bool (r1.2 != 0))] [] rfl ?_ ?_
  · refine sN (oM (v := (.int _ _)) rfl ?_)
    refine sN (oNe rfl rfl ?_)
    exact s0 (Wk.to (eC rfl (eC rfl (eC rfl (eC rfl eN)))) mN rfl (prK rfl))
  refine LH.cond (t := (r1.2 != 0)) rfl (fun hc2 => ?_) (fun hc2 => ?_)
  · replace h := iteT h hc2
    refine LH.seqT [(2, .nil), (3, .int .i64 r1.2)] [] rfl ?_ ?_
    · refine sN (oM (v := (.int _ _)) rfl ?_)
      refine sN (oA (v := .nil) rfl ?_)
      refine sN (oA (v := (.int _ _)) rfl ?_)
      exact s0 (Wk.to (eC rfl (eC rfl eN)) mN rfl (prK rfl))
    refine LH.ret ?_
    refine thenR ?_
    obtain rfl := Option.some.inj h
    exact retE (congrArg Array.toList Try.results13) (lrT rfl (lrT rfl (lr0 ⟨memN mN, rfl, prK rfl, (Sub.tup (sbL (sbR sbN)))⟩)))
  replace h := iteF h hc2
  refine LH.skip ?_
  refine thenN ?_
  refine LH.wk (Wk.to (el := [(0, .lst 6 (List.map GRegisterEvent.lv p0)), (4, .lst 1 (List.map (LV.int .i64) r1.1))]) (ml := []) (eC rfl (eC rfl eN)) mN rfl (prK rfl)) ?_
  obtain ⟨v3, hv3, h⟩ := bindS h
  refine LH.seqT [(0, .lst 6 (List.map GRegisterEvent.lv p0)), (4, .lst 1 (List.map (LV.int .i64) r1.1)), (6, .arr 119 (List.length v3))] [(119, .arr 33 6 (List.map GRegisterEvent.lv v3))] rfl ?_ ?_
  · refine sN (oM (v := (.lst _ _)) rfl ?_)
    refine sN (oLnL (f := (LV.int .i64)) te22 rfl ?_)
    refine sN (oMk (f := GRegisterEvent.lv) (z := (GRegisterEvent.mk (GStamp.mk 0 0 0) 0 0 0)) (id := 119) rfl te25 tz33 tr33 ts33 rfl rfl rfl hv3 rfl ?_)
    refine sN (oA (v := (.arr _ _)) rfl ?_)
    exact s0 (Wk.to (eC rfl (eC rfl (eC rfl eN))) (mC rfl mN) rfl (prK rfl))
  refine LH.seq ?_
  refine LH.seqT [(0, .lst 6 (List.map GRegisterEvent.lv p0)), (6, .arr 119 (List.length v3)), (20, .lst 1 (List.map (LV.int .i64) r1.1)), (21, .int .i64 (r1.1.length : Int)), (22, .int .i64 0)] [(119, .arr 33 6 (List.map GRegisterEvent.lv v3))] rfl ?_ ?_
  · refine sN (oM (v := (.lst _ _)) rfl ?_)
    refine sN (oLnL (f := (LV.int .i64)) te22 rfl ?_)
    refine sN (oM (v := (.int _ _)) rfl ?_)
    exact s0 (Wk.to (eC rfl (eC rfl (eC rfl (eC rfl (eC rfl eN))))) (mC rfl mN) rfl (prK rfl))
  refine LH.block ?_
  refine LH.loop (fun n e m => ∃ (n4 : Int) (l5 : List GRegisterEvent), attendance_Canonical_L1 p0 r1 n n4 l5 = some r ∧ e = Env.of [(0, .lst 6 (List.map GRegisterEvent.lv p0)), (6, .arr 119 (List.length l5)), (20, .lst 1 (List.map (LV.int .i64) r1.1)), (21, .int .i64 (r1.1.length : Int)), (22, .int .i64 n4)] ∧ m = Mem.of [(119, .arr 33 6 (List.map GRegisterEvent.lv l5))]) F ⟨0, v3, h, rfl, rfl⟩ ?_
  clear h
  rintro n e m ⟨n4, l5, h, rfl, rfl⟩
  rcases n with _ | n
  · cases (show Option.none = some _ from h)
  obtain ⟨rec1, hrec1⟩ : ∃ f, f = attendance_Canonical_L1 p0 r1 n := ⟨_, rfl⟩
  replace h : attendance_Canonical_L1_B p0 r1 rec1 n4 l5 = some r := hrec1 ▸ h
  unfold attendance_Canonical_L1_B at h
  refine LH.seqT [(0, .lst 6 (List.map GRegisterEvent.lv p0)), (6, .arr 119 (List.length l5)), (20, .lst 1 (List.map (LV.int .i64) r1.1)), (21, .int .i64 (r1.1.length : Int)), (22, .int .i64 n4), (23, .bool (decide (n4 < (r1.1.length : Int))))] [(119, .arr 33 6 (List.map GRegisterEvent.lv l5))] rfl ?_ ?_
  · refine sN (oLt rfl rfl ?_)
    exact s0 (Wk.to (eC rfl (eC rfl (eC rfl (eC rfl (eC rfl (eC rfl eN)))))) (mC rfl mN) rfl (prK rfl))
  refine LH.seq ?_
  refine LH.cond (t := (decide (n4 < (r1.1.length : Int)))) rfl (fun hc6 => ?_) (fun hc6 => ?_)
  · replace h := iteT h hc6
    refine LH.skip ?_
    refine thenN ?_
    refine LH.wk (Wk.to (el := [(0, .lst 6 (List.map GRegisterEvent.lv p0)), (6, .arr 119 (List.length l5)), (20, .lst 1 (List.map (LV.int .i64) r1.1)), (21, .int .i64 (r1.1.length : Int)), (22, .int .i64 n4)]) (ml := [(119, .arr 33 6 (List.map GRegisterEvent.lv l5))]) (eC rfl (eC rfl (eC rfl (eC rfl (eC rfl eN))))) (mC rfl mN) rfl (prK rfl)) ?_
    refine LH.seq ?_
    refine LH.block ?_
    obtain ⟨x7, hx7, h⟩ := bindS h
    refine LH.seqT [(0, .lst 6 (List.map GRegisterEvent.lv p0)), (6, .arr 119 (List.length l5)), (7, .int .i64 n4), (8, .int .i64 x7), (20, .lst 1 (List.map (LV.int .i64) r1.1)), (21, .int .i64 (r1.1.length : Int)), (22, .int .i64 n4)] [(119, .arr 33 6 (List.map GRegisterEvent.lv l5))] rfl ?_ ?_
    · refine sN (oM (v := (.int _ _)) rfl ?_)
      refine sN (oIx (f := (LV.int .i64)) te22 tk3 ts3 rfl rfl okI hx7 rfl ?_)
      refine sN (oLd rfl tk3 ta3 ?_)
      refine sN (oA (v := (.int _ _)) rfl ?_)
      refine sN (oA (v := (.int _ _)) rfl ?_)
      exact s0 (Wk.to (eC rfl (eC rfl (eC rfl (eC rfl (eC rfl (eC rfl (eC rfl eN))))))) (mC rfl mN) rfl (prK rfl))
    obtain ⟨x8, hx8, h⟩ := bindS h
    obtain ⟨x9, hx9, h⟩ := bindS h
    refine LH.loneT [(0, .lst 6 (List.map GRegisterEvent.lv p0)), (6, .arr 119 (List.length (l5.set n4.toNat x8))), (20, .lst 1 (List.map (LV.int .i64) r1.1)), (21, .int .i64 (r1.1.length : Int)), (22, .int .i64 n4)] [(119, .arr 33 6 (List.map GRegisterEvent.lv (l5.set n4.toNat x8)))] rfl ?_ ?_
    · refine sN (oM (v := (.arr _ _)) rfl ?_)
      refine sN (oM (v := (.int _ _)) rfl ?_)
      refine sN (oM (v := (.lst _ _)) rfl ?_)
      refine sN (oM (v := (.int _ _)) rfl ?_)
      refine sN (oIx (f := GRegisterEvent.lv) te25 tk33 ts33 rfl rfl GRegisterEvent.ok hx8 rfl ?_)
      refine sN (oLdA rfl tk33 ta33 ts33 rfl rfl ?_)
      refine sN (oIxA (f := GRegisterEvent.lv) te25 tk33 ts33 rfl rfl rfl hx9 ?_)
      refine s_ (oStE (f := GRegisterEvent.lv) (z' := x8) rfl rfl rfl rfl tk33 ts33 rfl (idxOk hx9).2 rfl ?_)
      exact s0 (Wk.to (eC rfl (eC (congrArg (LV.arr 119) (by simp)) (eC rfl (eC rfl (eC rfl eN))))) (mC rfl mN) rfl (prK rfl))
    refine blockN ?_
    refine thenN ?_
    refine LH.loneT [(0, .lst 6 (List.map GRegisterEvent.lv p0)), (6, .arr 119 (List.length (l5.set n4.toNat x8))), (20, .lst 1 (List.map (LV.int .i64) r1.1)), (21, .int .i64 (r1.1.length : Int)), (22, .int .i64 (i64 (n4 + 1)))] [(119, .arr 33 6 (List.map GRegisterEvent.lv (l5.set n4.toNat x8)))] rfl ?_ ?_
    · refine sN (oAdd rfl rfl ?_)
      refine sN (oM (v := (.int _ _)) rfl ?_)
      exact s0 (Wk.to (eC rfl (eC rfl (eC rfl (eC rfl (eC rfl eN))))) (mC rfl mN) rfl (prK rfl))
    exact roundN (e' := Env.of [(0, .lst 6 (List.map GRegisterEvent.lv p0)), (6, .arr 119 (List.length (l5.set n4.toNat x8))), (20, .lst 1 (List.map (LV.int .i64) r1.1)), (21, .int .i64 (r1.1.length : Int)), (22, .int .i64 (i64 (n4 + 1)))]) (m' := Mem.of [(119, .arr 33 6 (List.map GRegisterEvent.lv (l5.set n4.toNat x8)))]) (Wk.to (eC rfl (eC rfl (eC rfl (eC rfl (eC rfl eN))))) (mC rfl mN) rfl (prK rfl)) ⟨(i64 (n4 + 1)), (l5.set n4.toNat x8), hrec1 ▸ h, rfl, rfl⟩
  replace h := iteF h hc6
  refine LH.exit ?_
  refine thenX ?_
  refine roundX ?_
  refine blockH ?_
  refine thenN ?_
  refine LH.wk ((Wk.trans (Wk.to (el := [(6, .arr 119 (List.length l5))]) (ml := [(119, .arr 33 6 (List.map GRegisterEvent.lv l5))]) (eC rfl eN) (mC rfl mN) rfl (prK rfl)) (Wk.trans (Wk.frzL (f := GRegisterEvent.lv) (el' := [(6, .lst 6 (List.map GRegisterEvent.lv l5))]) 119 33 6 l5 rfl rfl (prN rfl) (fZ fN)) (Wk.to (el := [(6, .lst 6 (List.map GRegisterEvent.lv l5))]) (ml := []) (eC rfl eN) mN rfl (prK rfl))))) ?_
  refine LH.seqT [(2, .lst 6 (List.map GRegisterEvent.lv l5)), (3, .int .i64 0)] [] rfl ?_ ?_
  · refine sN (oM (v := (.lst _ _)) rfl ?_)
    refine sN (oA (v := (.lst _ _)) rfl ?_)
    refine sN (oA (v := (.int _ _)) rfl ?_)
    exact s0 (Wk.to (eC rfl (eC rfl eN)) mN rfl (prK rfl))
  refine LH.ret ?_
  obtain rfl := Option.some.inj h
  exact retE (congrArg Array.toList Try.results13) (lrT rfl (lrT rfl (lr0 ⟨memN mN, rfl, prK rfl, (Sub.tup (sbR (sbR sbN)))⟩)))

theorem ref02_Valid_ok {p0 : GStamp} {r : Bool} (h : ref02_Valid p0 = some r) : LCall Try.prog 62 [.agg [.int .i64 p0.Time, .int .i64 p0.Source, .int .i64 p0.Seq]] (Mem.of []) (.bool r) (Mem.of []) := by
  unfold ref02_Valid at h
  refine bodyT Try.func62 rfl (by rw [Try.ntmps62]; exact Nat.le_of_ble_eq_true rfl) ?_
  refine LH.wk (Wk.to (el := [(0, .agg [.int .i64 p0.Time, .int .i64 p0.Source, .int .i64 p0.Seq])]) (ml := []) (eC rfl eN) mN rfl (prK rfl)) ?_
  refine LH.seqT [(1, .sptr [.int .i64 p0.Time, .int .i64 p0.Source, .int .i64 p0.Seq])] [] rfl ?_ ?_
  · refine sB (oBxR rfl rfl rfl rfl ?_)
    refine sN (oA (v := (.bool _)) rfl ?_)
    exact s0 (Wk.to (eC rfl eN) mN rfl (prK rfl))
  refine LH.seqT [(2, .bool ((decide (p0.Time ≥ 0)) && ((decide (p0.Time ≤ 1000000)) && ((decide (p0.Source ≥ 0)) && ((decide (p0.Source ≤ 99)) && ((decide (p0.Seq ≥ 0)) && (decide (p0.Seq ≤ 9999))))))))] [] rfl ?_ ?_
  · refine sN (oFaS tf31_0 tk3 ts3 rfl rfl rfl ?_)
    refine sN (oLd rfl tk3 ta3 ?_)
    refine sN (oGe rfl rfl ?_)
    refine sN (oM (v := (.bool _)) rfl ?_)
    by_cases hb2 : (decide (p0.Time ≥ 0)) = true
    · refine sT rfl (congrArg LV.bool hb2) (oFaS tf31_0 tk3 ts3 rfl rfl rfl ?_)
      refine sT rfl (congrArg LV.bool hb2) (oLd rfl tk3 ta3 ?_)
      refine sT rfl (congrArg LV.bool hb2) (oLe rfl rfl ?_)
      refine sN (oPkT (congrArg LV.bool hb2) (v := (.bool _)) rfl ?_)
      refine sN (oM (v := (.bool _)) rfl ?_)
      by_cases hb3 : (decide (p0.Time ≤ 1000000)) = true
      · refine sT rfl (congrArg LV.bool hb3) (oFaS tf31_1 tk3 ts3 rfl rfl rfl ?_)
        refine sT rfl (congrArg LV.bool hb3) (oLd rfl tk3 ta3 ?_)
        refine sT rfl (congrArg LV.bool hb3) (oGe rfl rfl ?_)
        refine sN (oPkT (congrArg LV.bool hb3) (v := (.bool _)) rfl ?_)
        refine sN (oM (v := (.bool _)) rfl ?_)
        by_cases hb4 : (decide (p0.Source ≥ 0)) = true
        · refine sT rfl (congrArg LV.bool hb4) (oFaS tf31_1 tk3 ts3 rfl rfl rfl ?_)
          refine sT rfl (congrArg LV.bool hb4) (oLd rfl tk3 ta3 ?_)
          refine sT rfl (congrArg LV.bool hb4) (oLe rfl rfl ?_)
          refine sN (oPkT (congrArg LV.bool hb4) (v := (.bool _)) rfl ?_)
          refine sN (oM (v := (.bool _)) rfl ?_)
          by_cases hb5 : (decide (p0.Source ≤ 99)) = true
          · refine sT rfl (congrArg LV.bool hb5) (oFaS tf31_2 tk3 ts3 rfl rfl rfl ?_)
            refine sT rfl (congrArg LV.bool hb5) (oLd rfl tk3 ta3 ?_)
            refine sT rfl (congrArg LV.bool hb5) (oGe rfl rfl ?_)
            refine sN (oPkT (congrArg LV.bool hb5) (v := (.bool _)) rfl ?_)
            refine sN (oM (v := (.bool _)) rfl ?_)
            by_cases hb6 : (decide (p0.Seq ≥ 0)) = true
            · refine sT rfl (congrArg LV.bool hb6) (oFaS tf31_2 tk3 ts3 rfl rfl rfl ?_)
              refine sT rfl (congrArg LV.bool hb6) (oLd rfl tk3 ta3 ?_)
              refine sT rfl (congrArg LV.bool hb6) (oLe rfl rfl ?_)
              refine sN (oPkT (congrArg LV.bool hb6) (v := (.bool _)) rfl ?_)
              refine sN (oA (v := (.bool _)) rfl ?_)
              exact s0 (Wk.to (eC (congrArg LV.bool (Eq.trans (Eq.trans (Eq.trans (Eq.trans (andT hb6) (andT hb5)) (andT hb4)) (andT hb3)) (andT hb2))) eN) mN rfl (prK rfl))
            · replace hb6 := bF hb6
              refine sF rfl rfl hb6 ?_
              refine sF rfl rfl hb6 ?_
              refine sF rfl rfl hb6 ?_
              refine sN (oPkF (congrArg LV.bool hb6) (v := (.bool _)) rfl ?_)
              refine sN (oA (v := (.bool _)) rfl ?_)
              exact s0 (Wk.to (eC (congrArg LV.bool (Eq.trans (Eq.trans (Eq.trans (Eq.trans (andF hb6) (andT hb5)) (andT hb4)) (andT hb3)) (andT hb2))) eN) mN rfl (prK rfl))
          · replace hb5 := bF hb5
            refine sF rfl rfl hb5 ?_
            refine sF rfl rfl hb5 ?_
            refine sF rfl rfl hb5 ?_
            refine sN (oPkF (congrArg LV.bool hb5) (v := (.bool _)) rfl ?_)
            refine sN (oM (v := (.bool _)) rfl ?_)
            refine sF rfl rfl rfl ?_
            refine sF rfl rfl rfl ?_
            refine sF rfl rfl rfl ?_
            refine sN (oPkF rfl (v := (.bool _)) rfl ?_)
            refine sN (oA (v := (.bool _)) rfl ?_)
            exact s0 (Wk.to (eC (congrArg LV.bool (Eq.trans (Eq.trans (Eq.trans (andF hb5) (andT hb4)) (andT hb3)) (andT hb2))) eN) mN rfl (prK rfl))
        · replace hb4 := bF hb4
          refine sF rfl rfl hb4 ?_
          refine sF rfl rfl hb4 ?_
          refine sF rfl rfl hb4 ?_
          refine sN (oPkF (congrArg LV.bool hb4) (v := (.bool _)) rfl ?_)
          refine sN (oM (v := (.bool _)) rfl ?_)
          refine sF rfl rfl rfl ?_
          refine sF rfl rfl rfl ?_
          refine sF rfl rfl rfl ?_
          refine sN (oPkF rfl (v := (.bool _)) rfl ?_)
          refine sN (oM (v := (.bool _)) rfl ?_)
          refine sF rfl rfl rfl ?_
          refine sF rfl rfl rfl ?_
          refine sF rfl rfl rfl ?_
          refine sN (oPkF rfl (v := (.bool _)) rfl ?_)
          refine sN (oA (v := (.bool _)) rfl ?_)
          exact s0 (Wk.to (eC (congrArg LV.bool (Eq.trans (Eq.trans (andF hb4) (andT hb3)) (andT hb2))) eN) mN rfl (prK rfl))
      · replace hb3 := bF hb3
        refine sF rfl rfl hb3 ?_
        refine sF rfl rfl hb3 ?_
        refine sF rfl rfl hb3 ?_
        refine sN (oPkF (congrArg LV.bool hb3) (v := (.bool _)) rfl ?_)
        refine sN (oM (v := (.bool _)) rfl ?_)
        refine sF rfl rfl rfl ?_
        refine sF rfl rfl rfl ?_
        refine sF rfl rfl rfl ?_
        refine sN (oPkF rfl (v := (.bool _)) rfl ?_)
        refine sN (oM (v := (.bool _)) rfl ?_)
        refine sF rfl rfl rfl ?_
        refine sF rfl rfl rfl ?_
        refine sF rfl rfl rfl ?_
        refine sN (oPkF rfl (v := (.bool _)) rfl ?_)
        refine sN (oM (v := (.bool _)) rfl ?_)
        refine sF rfl rfl rfl ?_
        refine sF rfl rfl rfl ?_
        refine sF rfl rfl rfl ?_
        refine sN (oPkF rfl (v := (.bool _)) rfl ?_)
        refine sN (oA (v := (.bool _)) rfl ?_)
        exact s0 (Wk.to (eC (congrArg LV.bool (Eq.trans (andF hb3) (andT hb2))) eN) mN rfl (prK rfl))
    · replace hb2 := bF hb2
      refine sF rfl rfl hb2 ?_
      refine sF rfl rfl hb2 ?_
      refine sF rfl rfl hb2 ?_
      refine sN (oPkF (congrArg LV.bool hb2) (v := (.bool _)) rfl ?_)
      refine sN (oM (v := (.bool _)) rfl ?_)
      refine sF rfl rfl rfl ?_
      refine sF rfl rfl rfl ?_
      refine sF rfl rfl rfl ?_
      refine sN (oPkF rfl (v := (.bool _)) rfl ?_)
      refine sN (oM (v := (.bool _)) rfl ?_)
      refine sF rfl rfl rfl ?_
      refine sF rfl rfl rfl ?_
      refine sF rfl rfl rfl ?_
      refine sN (oPkF rfl (v := (.bool _)) rfl ?_)
      refine sN (oM (v := (.bool _)) rfl ?_)
      refine sF rfl rfl rfl ?_
      refine sF rfl rfl rfl ?_
      refine sF rfl rfl rfl ?_
      refine sN (oPkF rfl (v := (.bool _)) rfl ?_)
      refine sN (oM (v := (.bool _)) rfl ?_)
      refine sF rfl rfl rfl ?_
      refine sF rfl rfl rfl ?_
      refine sF rfl rfl rfl ?_
      refine sN (oPkF rfl (v := (.bool _)) rfl ?_)
      refine sN (oA (v := (.bool _)) rfl ?_)
      exact s0 (Wk.to (eC (congrArg LV.bool (andF hb2)) eN) mN rfl (prK rfl))
  refine LH.ret ?_
  obtain rfl := Option.some.inj h
  exact retE (congrArg Array.toList Try.results62) (lrT rfl (lr0 ⟨memN mN, rfl, prK rfl, Sub.rfl⟩))

theorem ref02_disputes_ok {p0 : GStamp} {p1 : GStamp} {p2 : Int} {p3 : Int} {r : Bool} (h : ref02_disputes p0 p1 p2 p3 = some r) : LCall Try.prog 63 [.agg [.int .i64 p0.Time, .int .i64 p0.Source, .int .i64 p0.Seq], .agg [.int .i64 p1.Time, .int .i64 p1.Source, .int .i64 p1.Seq], .int .i64 p2, .int .i64 p3] (Mem.of []) (.bool r) (Mem.of []) := by
  unfold ref02_disputes at h
  refine bodyT Try.func63 rfl (by rw [Try.ntmps63]; exact Nat.le_of_ble_eq_true rfl) ?_
  refine LH.wk (Wk.to (el := [(0, .agg [.int .i64 p0.Time, .int .i64 p0.Source, .int .i64 p0.Seq]), (1, .agg [.int .i64 p1.Time, .int .i64 p1.Source, .int .i64 p1.Seq]), (2, .int .i64 p2), (3, .int .i64 p3)]) (ml := []) (eC rfl (eC rfl (eC rfl (eC rfl eN)))) mN rfl (prK rfl)) ?_
  refine LH.seqT [(2, .int .i64 p2), (3, .int .i64 p3), (4, .sptr [.int .i64 p0.Time, .int .i64 p0.Source, .int .i64 p0.Seq]), (5, .sptr [.int .i64 p1.Time, .int .i64 p1.Source, .int .i64 p1.Seq])] [] rfl ?_ ?_
  · refine sB (oBxR rfl rfl rfl rfl ?_)
    refine sB (oBxR rfl rfl rfl rfl ?_)
    refine sN (oA (v := (.bool _)) rfl ?_)
    exact s0 (Wk.to (eC rfl (eC rfl (eC rfl (eC rfl eN)))) mN rfl (prK rfl))
  refine LH.seqT [(8, .bool ((p0.Source == p1.Source) && ((p0.Seq == p1.Seq) && ((p0.Time != p1.Time) || (p2 != p3)))))] [] rfl ?_ ?_
  · refine sN (oFaS tf31_1 tk3 ts3 rfl rfl rfl ?_)
    refine sN (oLd rfl tk3 ta3 ?_)
    refine sN (oFaS tf31_1 tk3 ts3 rfl rfl rfl ?_)
    refine sN (oLd rfl tk3 ta3 ?_)
    refine sN (oEq rfl rfl ?_)
    refine sN (oM (v := (.bool _)) rfl ?_)
    by_cases hb2 : (p0.Source == p1.Source) = true
    · refine sT rfl (congrArg LV.bool hb2) (oFaS tf31_2 tk3 ts3 rfl rfl rfl ?_)
      refine sT rfl (congrArg LV.bool hb2) (oLd rfl tk3 ta3 ?_)
      refine sT rfl (congrArg LV.bool hb2) (oFaS tf31_2 tk3 ts3 rfl rfl rfl ?_)
      refine sT rfl (congrArg LV.bool hb2) (oLd rfl tk3 ta3 ?_)
      refine sT rfl (congrArg LV.bool hb2) (oEq rfl rfl ?_)
      refine sN (oPkT (congrArg LV.bool hb2) (v := (.bool _)) rfl ?_)
      refine sN (oM (v := (.bool _)) rfl ?_)
      by_cases hb3 : (p0.Seq == p1.Seq) = true
      · refine sT rfl (congrArg LV.bool hb3) (oFaS tf31_0 tk3 ts3 rfl rfl rfl ?_)
        refine sT rfl (congrArg LV.bool hb3) (oLd rfl tk3 ta3 ?_)
        refine sT rfl (congrArg LV.bool hb3) (oFaS tf31_0 tk3 ts3 rfl rfl rfl ?_)
        refine sT rfl (congrArg LV.bool hb3) (oLd rfl tk3 ta3 ?_)
        refine sT rfl (congrArg LV.bool hb3) (oNe rfl rfl ?_)
        refine sT rfl (congrArg LV.bool hb3) (oM (v := (.bool _)) rfl ?_)
        by_cases hb4 : (p0.Time != p1.Time) = true
        · refine sF rfl rfl hb4 ?_
          refine sF rfl rfl hb4 ?_
          refine sF rfl rfl hb4 ?_
          refine sT rfl (congrArg LV.bool hb3) (oPkT (congrArg LV.bool hb4) (v := (.bool _)) rfl ?_)
          refine sN (oPkT (congrArg LV.bool hb3) (v := (.bool _)) rfl ?_)
          refine sN (oA (v := (.bool _)) rfl ?_)
          exact s0 (Wk.to (eC (congrArg LV.bool (Eq.trans (Eq.trans (orT hb4) (andT hb3)) (andT hb2))) eN) mN rfl (prK rfl))
        · replace hb4 := bF hb4
          refine sT rfl (congrArg LV.bool hb4) (oM (v := (.int _ _)) rfl ?_)
          refine sT rfl (congrArg LV.bool hb4) (oM (v := (.int _ _)) rfl ?_)
          refine sT rfl (congrArg LV.bool hb4) (oNe rfl rfl ?_)
          refine sT rfl (congrArg LV.bool hb3) (oPkF (congrArg LV.bool hb4) (v := (.bool _)) rfl ?_)
          refine sN (oPkT (congrArg LV.bool hb3) (v := (.bool _)) rfl ?_)
          refine sN (oA (v := (.bool _)) rfl ?_)
          exact s0 (Wk.to (eC (congrArg LV.bool (Eq.trans (Eq.trans (orF hb4) (andT hb3)) (andT hb2))) eN) mN rfl (prK rfl))
      · replace hb3 := bF hb3
        refine sF rfl rfl hb3 ?_
        refine sF rfl rfl hb3 ?_
        refine sF rfl rfl hb3 ?_
        refine sF rfl rfl hb3 ?_
        refine sF rfl rfl hb3 ?_
        refine sF rfl rfl hb3 ?_
        refine sU rfl rfl ?_
        refine sU rfl rfl ?_
        refine sU rfl rfl ?_
        refine sF rfl rfl hb3 ?_
        refine sN (oPkF (congrArg LV.bool hb3) (v := (.bool _)) rfl ?_)
        refine sN (oA (v := (.bool _)) rfl ?_)
        exact s0 (Wk.to (eC (congrArg LV.bool (Eq.trans (andF hb3) (andT hb2))) eN) mN rfl (prK rfl))
    · replace hb2 := bF hb2
      refine sF rfl rfl hb2 ?_
      refine sF rfl rfl hb2 ?_
      refine sF rfl rfl hb2 ?_
      refine sF rfl rfl hb2 ?_
      refine sF rfl rfl hb2 ?_
      refine sN (oPkF (congrArg LV.bool hb2) (v := (.bool _)) rfl ?_)
      refine sN (oM (v := (.bool _)) rfl ?_)
      refine sF rfl rfl rfl ?_
      refine sF rfl rfl rfl ?_
      refine sF rfl rfl rfl ?_
      refine sF rfl rfl rfl ?_
      refine sF rfl rfl rfl ?_
      refine sF rfl rfl rfl ?_
      refine sU rfl rfl ?_
      refine sU rfl rfl ?_
      refine sU rfl rfl ?_
      refine sF rfl rfl rfl ?_
      refine sN (oPkF rfl (v := (.bool _)) rfl ?_)
      refine sN (oA (v := (.bool _)) rfl ?_)
      exact s0 (Wk.to (eC (congrArg LV.bool (andF hb2)) eN) mN rfl (prK rfl))
  refine LH.ret ?_
  obtain rfl := Option.some.inj h
  exact retE (congrArg Array.toList Try.results63) (lrT rfl (lr0 ⟨memN mN, rfl, prK rfl, Sub.rfl⟩))

theorem ref02_Counts_ok {F : Nat} {p0 : List GStamp} {p1 : List Int} {p2 : Int} {r : Bool} (h : ref02_Counts F p0 p1 p2 = some r) : LCall Try.prog 52 [.lst 3 (List.map GStamp.lv p0), .lst 1 (List.map (LV.int .i64) p1), .int .i64 p2] (Mem.of []) (.bool r) (Mem.of []) := by
  unfold ref02_Counts at h
  refine bodyT Try.func52 rfl (by rw [Try.ntmps52]; exact Nat.le_of_ble_eq_true rfl) ?_
  refine LH.wk (Wk.to (el := [(0, .lst 3 (List.map GStamp.lv p0)), (1, .lst 1 (List.map (LV.int .i64) p1)), (2, .int .i64 p2)]) (ml := []) (eC rfl (eC rfl (eC rfl eN))) mN rfl (prK rfl)) ?_
  refine LH.seqT [(0, .lst 3 (List.map GStamp.lv p0)), (1, .lst 1 (List.map (LV.int .i64) p1)), (2, .int .i64 p2)] [] rfl ?_ ?_
  · refine sN (oA (v := (.bool _)) rfl ?_)
    exact s0 (Wk.to (eC rfl (eC rfl (eC rfl eN))) mN rfl (prK rfl))
  refine LH.seq ?_
  obtain ⟨x1, hx1, h⟩ := bindS h
  obtain ⟨r2, hr2, h⟩ := bindS h
  refine LH.seqT [(0, .lst 3 (List.map GStamp.lv p0)), (1, .lst 1 (List.map (LV.int .i64) p1)), (2, .int .i64 p2), (13, .bool (!r2))] [] rfl ?_ ?_
  · refine sN (oM (v := (.lst _ _)) rfl ?_)
    refine sN (oM (v := (.int _ _)) rfl ?_)
    refine sN (oIx (f := GStamp.lv) te78 tk31 ts31 rfl rfl GStamp.ok hx1 rfl ?_)
    refine sN (oLdA rfl tk31 ta31 ts31 rfl rfl ?_)
    refine sN (oCP (args := [.agg [.int .i64 x1.Time, .int .i64 x1.Source, .int .i64 x1.Seq]]) rfl isF62 rfl (sbR sbN) (ref02_Valid_ok hr2) rfl ?_)
    refine sN (oNot rfl ?_)
    exact s0 (Wk.to (eC rfl (eC rfl (eC rfl (eC rfl eN)))) mN rfl (prK rfl))
  refine LH.cond (t := (!r2)) rfl (fun hc3 => ?_) (fun hc3 => ?_)
  · replace h := iteT h hc3
    refine LH.seqT [(6, .bool false)] [] rfl ?_ ?_
    · refine sN (oA (v := (.bool _)) rfl ?_)
      exact s0 (Wk.to (eC rfl eN) mN rfl (prK rfl))
    refine LH.ret ?_
    refine thenR ?_
    obtain rfl := Option.some.inj h
    exact retE (congrArg Array.toList Try.results52) (lrT rfl (lr0 ⟨memN mN, rfl, prK rfl, Sub.rfl⟩))
  replace h := iteF h hc3
  refine LH.skip ?_
  refine thenN ?_
  refine LH.wk (Wk.to (el := [(0, .lst 3 (List.map GStamp.lv p0)), (1, .lst 1 (List.map (LV.int .i64) p1)), (2, .int .i64 p2)]) (ml := []) (eC rfl (eC rfl (eC rfl eN))) mN rfl (prK rfl)) ?_
  refine LH.seq ?_
  refine LH.seqT [(0, .lst 3 (List.map GStamp.lv p0)), (1, .lst 1 (List.map (LV.int .i64) p1)), (2, .int .i64 p2), (7, .int .i64 0)] [] rfl ?_ ?_
  · refine sN (oA (v := (.int _ _)) rfl ?_)
    exact s0 (Wk.to (eC rfl (eC rfl (eC rfl (eC rfl eN)))) mN rfl (prK rfl))
  refine LH.block ?_
  refine LH.loop (fun n e m => ∃ (n4 : Int), ref02_Counts_L1 p0 p1 p2 n n4 = some r ∧ e = Env.of [(0, .lst 3 (List.map GStamp.lv p0)), (1, .lst 1 (List.map (LV.int .i64) p1)), (2, .int .i64 p2), (7, .int .i64 n4)] ∧ m = Mem.of []) F ⟨0, h, rfl, rfl⟩ ?_
  clear h
  rintro n e m ⟨n4, h, rfl, rfl⟩
  rcases n with _ | n
  · cases (show Option.none = some _ from h)
  obtain ⟨rec1, hrec1⟩ : ∃ f, f = ref02_Counts_L1 p0 p1 p2 n := ⟨_, rfl⟩
  replace h : ref02_Counts_L1_B p0 p1 p2 rec1 n4 = some r := hrec1 ▸ h
  unfold ref02_Counts_L1_B at h
  refine LH.seq ?_
  refine LH.seqT [(0, .lst 3 (List.map GStamp.lv p0)), (1, .lst 1 (List.map (LV.int .i64) p1)), (2, .int .i64 p2), (7, .int .i64 n4), (17, .bool (decide (n4 < (p0.length : Int))))] [] rfl ?_ ?_
  · refine sN (oM (v := (.int _ _)) rfl ?_)
    refine sN (oM (v := (.lst _ _)) rfl ?_)
    refine sN (oLnL (f := GStamp.lv) te78 rfl ?_)
    refine sN (oLt rfl rfl ?_)
    exact s0 (Wk.to (eC rfl (eC rfl (eC rfl (eC rfl (eC rfl eN))))) mN rfl (prK rfl))
  refine LH.cond (t := (decide (n4 < (p0.length : Int)))) rfl (fun hc5 => ?_) (fun hc5 => ?_)
  · replace h := iteT h hc5
    refine LH.skip ?_
    refine thenN ?_
    refine LH.wk (Wk.to (el := [(0, .lst 3 (List.map GStamp.lv p0)), (1, .lst 1 (List.map (LV.int .i64) p1)), (2, .int .i64 p2), (7, .int .i64 n4)]) (ml := []) (eC rfl (eC rfl (eC rfl (eC rfl eN)))) mN rfl (prK rfl)) ?_
    refine LH.seq ?_
    refine LH.block ?_
    obtain ⟨w7, hv, h⟩ := bindS h
    refine LH.seqJM mixed [] [0, 0, 0, 0, 0, 0, 0, 0, 0, 0, 0, 0, 0, 0, 0, 0, 0, 0, 0, 0, 0, 0, 0, 0, 0, 0, 0, 0, 0, 0, 0, 0, 0, 0, 0, 0, 0, 0, 0, 0] [(0, .lst 3 (List.map GStamp.lv p0)), (1, .lst 1 (List.map (LV.int .i64) p1)), (2, .int .i64 p2), (7, .int .i64 n4), (59, .bool w7)] [] rfl rfl (by kernel_rfl) ?_ ?_
    · refine mN0 (oM (v := (.lst _ _)) rfl ⟨rfl, ?_⟩)
      refine mN0 (oM (v := (.int _ _)) rfl ⟨rfl, ?_⟩)
      obtain ⟨x8, hx8, hv⟩ := bindS hv
      refine mN0 (oIx (f := GStamp.lv) te78 tk31 ts31 rfl rfl GStamp.ok hx8 rfl ⟨rfl, ?_⟩)
      refine mN0 (oLdA rfl tk31 ta31 ts31 rfl rfl ⟨rfl, ?_⟩)
      obtain ⟨r9, hr9, hv⟩ := bindS hv
      refine mN0 (oCP (args := [.agg [.int .i64 x8.Time, .int .i64 x8.Source, .int .i64 x8.Seq]]) rfl isF62 rfl (sbR sbN) (ref02_Valid_ok hr9) rfl ⟨rfl, ?_⟩)
      refine mN0 (oM (v := (.bool _)) rfl ⟨rfl, ?_⟩)
      by_cases hb10 : r9 = true
      · replace hv := iteT hv hb10
        refine mT rfl (congrArg LV.bool hb10) (mN0 (oM (v := (.lst _ _)) rfl ⟨rfl, ?_⟩))
        refine mT rfl (congrArg LV.bool hb10) (mN0 (oM (v := (.int _ _)) rfl ⟨rfl, ?_⟩))
        obtain ⟨x11, hx11, hv⟩ := bindS hv
        refine mT rfl (congrArg LV.bool hb10) (mN0 (oIx (f := GStamp.lv) te78 tk31 ts31 rfl rfl GStamp.ok hx11 rfl ⟨rfl, ?_⟩))
        refine mT rfl (congrArg LV.bool hb10) (mN0 (oLdA rfl tk31 ta31 ts31 rfl rfl ⟨rfl, ?_⟩))
        refine mT rfl (congrArg LV.bool hb10) (mN0 (oM (v := (.lst _ _)) rfl ⟨rfl, ?_⟩))
        refine mT rfl (congrArg LV.bool hb10) (mN0 (oM (v := (.int _ _)) rfl ⟨rfl, ?_⟩))
        obtain ⟨x12, hx12, hv⟩ := bindS hv
        refine mT rfl (congrArg LV.bool hb10) (mN0 (oIx (f := GStamp.lv) te78 tk31 ts31 rfl rfl GStamp.ok hx12 rfl ⟨rfl, ?_⟩))
        refine mT rfl (congrArg LV.bool hb10) (mN0 (oLdA rfl tk31 ta31 ts31 rfl rfl ⟨rfl, ?_⟩))
        refine mT rfl (congrArg LV.bool hb10) (mN0 (oM (v := (.lst _ _)) rfl ⟨rfl, ?_⟩))
        refine mT rfl (congrArg LV.bool hb10) (mN0 (oM (v := (.int _ _)) rfl ⟨rfl, ?_⟩))
        obtain ⟨x13, hx13, hv⟩ := bindS hv
        refine mT rfl (congrArg LV.bool hb10) (mN0 (oIx (f := (LV.int .i64)) te22 tk3 ts3 rfl rfl okI hx13 rfl ⟨rfl, ?_⟩))
        refine mT rfl (congrArg LV.bool hb10) (mN0 (oLd rfl tk3 ta3 ⟨rfl, ?_⟩))
        refine mT rfl (congrArg LV.bool hb10) (mN0 (oM (v := (.lst _ _)) rfl ⟨rfl, ?_⟩))
        refine mT rfl (congrArg LV.bool hb10) (mN0 (oM (v := (.int _ _)) rfl ⟨rfl, ?_⟩))
        obtain ⟨x14, hx14, hv⟩ := bindS hv
        refine mT rfl (congrArg LV.bool hb10) (mN0 (oIx (f := (LV.int .i64)) te22 tk3 ts3 rfl rfl okI hx14 rfl ⟨rfl, ?_⟩))
        refine mT rfl (congrArg LV.bool hb10) (mN0 (oLd rfl tk3 ta3 ⟨rfl, ?_⟩))
        obtain ⟨r15, hr15, hv⟩ := bindS hv
        refine mT rfl (congrArg LV.bool hb10) (mN0 (oCP (args := [.agg [.int .i64 x11.Time, .int .i64 x11.Source, .int .i64 x11.Seq], .agg [.int .i64 x12.Time, .int .i64 x12.Source, .int .i64 x12.Seq], .int .i64 x13, .int .i64 x14]) rfl isF63 rfl (sbR (sbR (sbR (sbR sbN)))) (ref02_disputes_ok hr15) rfl ⟨rfl, ?_⟩))
        refine mT rfl (congrArg LV.bool hb10) (mN0 (oM (v := (.bool _)) rfl ⟨rfl, ?_⟩))
        by_cases hb16 : r15 = true
        · replace hv := iteT hv hb16
          refine mF rfl rfl hb16 ?_
          refine mF rfl rfl hb16 ?_
          refine mF rfl rfl hb16 ?_
          refine mF rfl rfl hb16 ?_
          refine mU rfl rfl ?_
          refine mU rfl rfl ?_
          refine mU rfl rfl ?_
          refine mU rfl rfl ?_
          refine mU rfl rfl ?_
          refine mU rfl rfl ?_
          refine mU rfl rfl ?_
          refine mU rfl rfl ?_
          refine mU rfl rfl ?_
          refine mF rfl rfl hb16 ?_
          refine mT rfl (congrArg LV.bool hb10) (mN0 (oPkT (congrArg LV.bool hb16) (v := (.bool _)) rfl ⟨rfl, ?_⟩))
          refine mN0 (oPkT (congrArg LV.bool hb10) (v := (.bool _)) rfl ⟨rfl, ?_⟩)
          obtain rfl := Option.some.inj hv
          exact m0 (Wk.to (eC rfl (eC rfl (eC rfl (eC rfl (eC rfl eN))))) mN rfl (prK rfl))
        · replace hb16 := bF hb16
          replace hv := iteF hv hb16
          refine mT rfl (congrArg LV.bool hb16) (mN0 (oM (v := (.int _ _)) rfl ⟨rfl, ?_⟩))
          refine mT rfl (congrArg LV.bool hb16) (mN0 (oM (v := (.int _ _)) rfl ⟨rfl, ?_⟩))
          refine mT rfl (congrArg LV.bool hb16) (mN0 (oLt rfl rfl ⟨rfl, ?_⟩))
          refine mT rfl (congrArg LV.bool hb16) (mN0 (oM (v := (.bool _)) rfl ⟨rfl, ?_⟩))
          by_cases hb17 : (decide (n4 < p2)) = true
          · replace hv := iteT hv hb17
            refine mT rfl (congrArg LV.bool hb17) (mN0 (oM (v := (.lst _ _)) rfl ⟨rfl, ?_⟩))
            refine mT rfl (congrArg LV.bool hb17) (mN0 (oM (v := (.int _ _)) rfl ⟨rfl, ?_⟩))
            obtain ⟨x18, hx18, hv⟩ := bindS hv
            refine mT rfl (congrArg LV.bool hb17) (mN0 (oIx (f := GStamp.lv) te78 tk31 ts31 rfl rfl GStamp.ok hx18 rfl ⟨rfl, ?_⟩))
            refine mT rfl (congrArg LV.bool hb17) (mN0 (oLdA rfl tk31 ta31 ts31 rfl rfl ⟨rfl, ?_⟩))
            refine mT rfl (congrArg LV.bool hb17) (mN0 (oM (v := (.lst _ _)) rfl ⟨rfl, ?_⟩))
            refine mT rfl (congrArg LV.bool hb17) (mN0 (oM (v := (.int _ _)) rfl ⟨rfl, ?_⟩))
            obtain ⟨x19, hx19, hv⟩ := bindS hv
            refine mT rfl (congrArg LV.bool hb17) (mN0 (oIx (f := GStamp.lv) te78 tk31 ts31 rfl rfl GStamp.ok hx19 rfl ⟨rfl, ?_⟩))
            refine mT rfl (congrArg LV.bool hb17) (mN0 (oLdA rfl tk31 ta31 ts31 rfl rfl ⟨rfl, ?_⟩))
            refine mT rfl (congrArg LV.bool hb17) (mN0 (oEqA rfl rfl (ae31 x18 x19) ⟨rfl, ?_⟩))
            refine mT rfl (congrArg LV.bool hb16) (mN0 (oPkT (congrArg LV.bool hb17) (v := (.bool _)) rfl ⟨rfl, ?_⟩))
            refine mT rfl (congrArg LV.bool hb10) (mN0 (oPkF (congrArg LV.bool hb16) (v := (.bool _)) rfl ⟨rfl, ?_⟩))
            refine mN0 (oPkT (congrArg LV.bool hb10) (v := (.bool _)) rfl ⟨rfl, ?_⟩)
            obtain rfl := Option.some.inj hv
            exact m0 (Wk.to (eC rfl (eC rfl (eC rfl (eC rfl (eC rfl eN))))) mN rfl (prK rfl))
          · replace hb17 := bF hb17
            replace hv := iteF hv hb17
            refine mF rfl rfl hb17 ?_
            refine mF rfl rfl hb17 ?_
            refine mF rfl rfl hb17 ?_
            refine mF rfl rfl hb17 ?_
            refine mF rfl rfl hb17 ?_
            refine mF rfl rfl hb17 ?_
            refine mF rfl rfl hb17 ?_
            refine mF rfl rfl hb17 ?_
            refine mF rfl rfl hb17 ?_
            refine mT rfl (congrArg LV.bool hb16) (mN0 (oPkF (congrArg LV.bool hb17) (v := (.bool _)) rfl ⟨rfl, ?_⟩))
            refine mT rfl (congrArg LV.bool hb10) (mN0 (oPkF (congrArg LV.bool hb16) (v := (.bool _)) rfl ⟨rfl, ?_⟩))
            refine mN0 (oPkT (congrArg LV.bool hb10) (v := (.bool _)) rfl ⟨rfl, ?_⟩)
            obtain rfl := Option.some.inj hv
            exact m0 (Wk.to (eC rfl (eC rfl (eC rfl (eC rfl (eC rfl eN))))) mN rfl (prK rfl))
      · replace hb10 := bF hb10
        replace hv := iteF hv hb10
        refine mF rfl rfl hb10 ?_
        refine mF rfl rfl hb10 ?_
        refine mF rfl rfl hb10 ?_
        refine mF rfl rfl hb10 ?_
        refine mF rfl rfl hb10 ?_
        refine mF rfl rfl hb10 ?_
        refine mF rfl rfl hb10 ?_
        refine mF rfl rfl hb10 ?_
        refine mF rfl rfl hb10 ?_
        refine mF rfl rfl hb10 ?_
        refine mF rfl rfl hb10 ?_
        refine mF rfl rfl hb10 ?_
        refine mF rfl rfl hb10 ?_
        refine mF rfl rfl hb10 ?_
        refine mF rfl rfl hb10 ?_
        refine mF rfl rfl hb10 ?_
        refine mF rfl rfl hb10 ?_
        refine mF rfl rfl hb10 ?_
        refine mU rfl rfl ?_
        refine mU rfl rfl ?_
        refine mU rfl rfl ?_
        refine mU rfl rfl ?_
        refine mU rfl rfl ?_
        refine mU rfl rfl ?_
        refine mU rfl rfl ?_
        refine mU rfl rfl ?_
        refine mU rfl rfl ?_
        refine mU rfl rfl ?_
        refine mU rfl rfl ?_
        refine mU rfl rfl ?_
        refine mU rfl rfl ?_
        refine mU rfl rfl ?_
        refine mF rfl rfl hb10 ?_
        refine mN0 (oPkF (congrArg LV.bool hb10) (v := (.bool _)) rfl ⟨rfl, ?_⟩)
        obtain rfl := Option.some.inj hv
        exact m0 (Wk.to (eC rfl (eC rfl (eC rfl (eC rfl (eC rfl eN))))) mN rfl (prK rfl))
    clear hv
    refine LH.cond (t := w7) rfl (fun hc20 => ?_) (fun hc20 => ?_)
    · replace h := iteT h hc20
      refine LH.seqT [(6, .bool false)] [] rfl ?_ ?_
      · refine sN (oA (v := (.bool _)) rfl ?_)
        exact s0 (Wk.to (eC rfl eN) mN rfl (prK rfl))
      refine LH.ret ?_
      refine blockR ?_
      refine thenR ?_
      refine roundR ?_
      refine blockR ?_
      refine thenR ?_
      obtain rfl := Option.some.inj h
      exact retE (congrArg Array.toList Try.results52) (lrT rfl (lr0 ⟨memN mN, rfl, prK rfl, Sub.rfl⟩))
    replace h := iteF h hc20
    refine LH.skip ?_
    refine blockN ?_
    refine thenN ?_
    refine LH.wk (Wk.to (el := [(0, .lst 3 (List.map GStamp.lv p0)), (1, .lst 1 (List.map (LV.int .i64) p1)), (2, .int .i64 p2), (7, .int .i64 n4)]) (ml := []) (eC rfl (eC rfl (eC rfl (eC rfl eN)))) mN rfl (prK rfl)) ?_
    refine LH.loneT [(0, .lst 3 (List.map GStamp.lv p0)), (1, .lst 1 (List.map (LV.int .i64) p1)), (2, .int .i64 p2), (7, .int .i64 (i64 (n4 + 1)))] [] rfl ?_ ?_
    · refine sN (oM (v := (.int _ _)) rfl ?_)
      refine sN (oAdd rfl rfl ?_)
      refine sN (oA (v := (.int _ _)) rfl ?_)
      exact s0 (Wk.to (eC rfl (eC rfl (eC rfl (eC rfl eN)))) mN rfl (prK rfl))
    exact roundN (e' := Env.of [(0, .lst 3 (List.map GStamp.lv p0)), (1, .lst 1 (List.map (LV.int .i64) p1)), (2, .int .i64 p2), (7, .int .i64 (i64 (n4 + 1)))]) (m' := Mem.of []) (Wk.to (eC rfl (eC rfl (eC rfl (eC rfl eN)))) mN rfl (prK rfl)) ⟨(i64 (n4 + 1)), hrec1 ▸ h, rfl, rfl⟩
  replace h := iteF h hc5
  refine LH.exit ?_
  refine thenX ?_
  refine roundX ?_
  refine blockH ?_
  refine thenN ?_
  refine LH.wk (Wk.to (el := []) (ml := []) eN mN rfl (prK rfl)) ?_
  refine LH.seqT [(6, .bool true)] [] rfl ?_ ?_
  · refine sN (oA (v := (.bool _)) rfl ?_)
    exact s0 (Wk.to (eC rfl eN) mN rfl (prK rfl))
  refine LH.ret ?_
  obtain rfl := Option.some.inj h
  exact retE (congrArg Array.toList Try.results52) (lrT rfl (lr0 ⟨memN mN, rfl, prK rfl, Sub.rfl⟩))

theorem ref02_order_ok {p0 : Int} {p1 : Int} {r : Int} (h : ref02_order p0 p1 = some r) : LCall Try.prog 64 [.int .i64 p0, .int .i64 p1] (Mem.of []) (.int .i64 r) (Mem.of []) := by
  unfold ref02_order at h
  refine bodyT Try.func64 rfl (by rw [Try.ntmps64]; exact Nat.le_of_ble_eq_true rfl) ?_
  refine LH.wk (Wk.to (el := [(0, .int .i64 p0), (1, .int .i64 p1)]) (ml := []) (eC rfl (eC rfl eN)) mN rfl (prK rfl)) ?_
  refine LH.seqT [(0, .int .i64 p0), (1, .int .i64 p1)] [] rfl ?_ ?_
  · refine sN (oA (v := (.int _ _)) rfl ?_)
    exact s0 (Wk.to (eC rfl (eC rfl eN)) mN rfl (prK rfl))
  refine LH.seq ?_
  refine LH.seqT [(0, .int .i64 p0), (1, .int .i64 p1), (7, .bool (decide (p0 < p1)))] [] rfl ?_ ?_
  · refine sN (oM (v := (.int _ _)) rfl ?_)
    refine sN (oM (v := (.int _ _)) rfl ?_)
    refine sN (oLt rfl rfl ?_)
    exact s0 (Wk.to (eC rfl (eC rfl (eC rfl eN))) mN rfl (prK rfl))
  refine LH.cond (t := (decide (p0 < p1))) rfl (fun hc1 => ?_) (fun hc1 => ?_)
  · replace h := iteT h hc1
    refine LH.seqT [(4, .int .i64 (-1))] [] rfl ?_ ?_
    · refine sN (oA (v := (.int _ _)) rfl ?_)
      exact s0 (Wk.to (eC rfl eN) mN rfl (prK rfl))
    refine LH.ret ?_
    refine thenR ?_
    obtain rfl := Option.some.inj h
    exact retE (congrArg Array.toList Try.results64) (lrT rfl (lr0 ⟨memN mN, rfl, prK rfl, Sub.rfl⟩))
  replace h := iteF h hc1
  refine LH.skip ?_
  refine thenN ?_
  refine LH.wk (Wk.to (el := [(0, .int .i64 p0), (1, .int .i64 p1)]) (ml := []) (eC rfl (eC rfl eN)) mN rfl (prK rfl)) ?_
  refine LH.seq ?_
  refine LH.seqT [(10, .bool (decide (p0 > p1)))] [] rfl ?_ ?_
  · refine sN (oM (v := (.int _ _)) rfl ?_)
    refine sN (oM (v := (.int _ _)) rfl ?_)
    refine sN (oGt rfl rfl ?_)
    exact s0 (Wk.to (eC rfl eN) mN rfl (prK rfl))
  refine LH.cond (t := (decide (p0 > p1))) rfl (fun hc2 => ?_) (fun hc2 => ?_)
  · replace h := iteT h hc2
    refine LH.seqT [(4, .int .i64 1)] [] rfl ?_ ?_
    · refine sN (oA (v := (.int _ _)) rfl ?_)
      exact s0 (Wk.to (eC rfl eN) mN rfl (prK rfl))
    refine LH.ret ?_
    refine thenR ?_
    obtain rfl := Option.some.inj h
    exact retE (congrArg Array.toList Try.results64) (lrT rfl (lr0 ⟨memN mN, rfl, prK rfl, Sub.rfl⟩))
  replace h := iteF h hc2
  refine LH.skip ?_
  refine thenN ?_
  refine LH.wk (Wk.to (el := []) (ml := []) eN mN rfl (prK rfl)) ?_
  refine LH.seqT [(4, .int .i64 0)] [] rfl ?_ ?_
  · refine sN (oA (v := (.int _ _)) rfl ?_)
    exact s0 (Wk.to (eC rfl eN) mN rfl (prK rfl))
  refine LH.ret ?_
  obtain rfl := Option.some.inj h
  exact retE (congrArg Array.toList Try.results64) (lrT rfl (lr0 ⟨memN mN, rfl, prK rfl, Sub.rfl⟩))

theorem ref02_Compare_ok {p0 : GStamp} {p1 : GStamp} {r : Int} (h : ref02_Compare p0 p1 = some r) : LCall Try.prog 53 [.agg [.int .i64 p0.Time, .int .i64 p0.Source, .int .i64 p0.Seq], .agg [.int .i64 p1.Time, .int .i64 p1.Source, .int .i64 p1.Seq]] (Mem.of []) (.int .i64 r) (Mem.of []) := by
  unfold ref02_Compare at h
  refine bodyT Try.func53 rfl (by rw [Try.ntmps53]; exact Nat.le_of_ble_eq_true rfl) ?_
  refine LH.wk (Wk.to (el := [(0, .agg [.int .i64 p0.Time, .int .i64 p0.Source, .int .i64 p0.Seq]), (1, .agg [.int .i64 p1.Time, .int .i64 p1.Source, .int .i64 p1.Seq])]) (ml := []) (eC rfl (eC rfl eN)) mN rfl (prK rfl)) ?_
  refine LH.seqT [(2, .sptr [.int .i64 p0.Time, .int .i64 p0.Source, .int .i64 p0.Seq]), (3, .sptr [.int .i64 p1.Time, .int .i64 p1.Source, .int .i64 p1.Seq])] [] rfl ?_ ?_
  · refine sB (oBxR rfl rfl rfl rfl ?_)
    refine sB (oBxR rfl rfl rfl rfl ?_)
    refine sN (oA (v := (.int _ _)) rfl ?_)
    exact s0 (Wk.to (eC rfl (eC rfl eN)) mN rfl (prK rfl))
  obtain ⟨r1, hr1, h⟩ := bindS h
  refine LH.seqT [(2, .sptr [.int .i64 p0.Time, .int .i64 p0.Source, .int .i64 p0.Seq]), (3, .sptr [.int .i64 p1.Time, .int .i64 p1.Source, .int .i64 p1.Seq]), (5, .int .i64 r1)] [] rfl ?_ ?_
  · refine sN (oFaS tf31_0 tk3 ts3 rfl rfl rfl ?_)
    refine sN (oLd rfl tk3 ta3 ?_)
    refine sN (oFaS tf31_0 tk3 ts3 rfl rfl rfl ?_)
    refine sN (oLd rfl tk3 ta3 ?_)
    refine sN (oCP (args := [.int .i64 p0.Time, .int .i64 p1.Time]) rfl isF64 rfl (sbR (sbR sbN)) (ref02_order_ok hr1) rfl ?_)
    refine sN (oA (v := (.int _ _)) rfl ?_)
    exact s0 (Wk.to (eC rfl (eC rfl (eC rfl eN))) mN rfl (prK rfl))
  refine LH.seq ?_
  refine LH.seqT [(2, .sptr [.int .i64 p0.Time, .int .i64 p0.Source, .int .i64 p0.Seq]), (3, .sptr [.int .i64 p1.Time, .int .i64 p1.Source, .int .i64 p1.Seq]), (5, .int .i64 r1), (12, .bool (r1 == 0))] [] rfl ?_ ?_
  · refine sN (oM (v := (.int _ _)) rfl ?_)
    refine sN (oEq rfl rfl ?_)
    exact s0 (Wk.to (eC rfl (eC rfl (eC rfl (eC rfl eN)))) mN rfl (prK rfl))
  refine LH.cond (t := (r1 == 0)) rfl (fun hc2 => ?_) (fun hc2 => ?_)
  · replace h := iteT h hc2
    obtain ⟨r3, hr3, h⟩ := bindS h
    refine LH.loneT [(2, .sptr [.int .i64 p0.Time, .int .i64 p0.Source, .int .i64 p0.Seq]), (3, .sptr [.int .i64 p1.Time, .int .i64 p1.Source, .int .i64 p1.Seq]), (5, .int .i64 r3)] [] rfl ?_ ?_
    · refine sN (oFaS tf31_1 tk3 ts3 rfl rfl rfl ?_)
      refine sN (oLd rfl tk3 ta3 ?_)
      refine sN (oFaS tf31_1 tk3 ts3 rfl rfl rfl ?_)
      refine sN (oLd rfl tk3 ta3 ?_)
      refine sN (oCP (args := [.int .i64 p0.Source, .int .i64 p1.Source]) rfl isF64 rfl (sbR (sbR sbN)) (ref02_order_ok hr3) rfl ?_)
      refine sN (oA (v := (.int _ _)) rfl ?_)
      exact s0 (Wk.to (eC rfl (eC rfl (eC rfl eN))) mN rfl (prK rfl))
    refine thenN ?_
    refine LH.seq ?_
    refine LH.seqT [(2, .sptr [.int .i64 p0.Time, .int .i64 p0.Source, .int .i64 p0.Seq]), (3, .sptr [.int .i64 p1.Time, .int .i64 p1.Source, .int .i64 p1.Seq]), (5, .int .i64 r3), (19, .bool (r3 == 0))] [] rfl ?_ ?_
    · refine sN (oM (v := (.int _ _)) rfl ?_)
      refine sN (oEq rfl rfl ?_)
      exact s0 (Wk.to (eC rfl (eC rfl (eC rfl (eC rfl eN)))) mN rfl (prK rfl))
    refine LH.cond (t := (r3 == 0)) rfl (fun hc4 => ?_) (fun hc4 => ?_)
    · replace h := iteT h hc4
      obtain ⟨r5, hr5, h⟩ := bindS h
      refine LH.loneT [(5, .int .i64 r5)] [] rfl ?_ ?_
      · refine sN (oFaS tf31_2 tk3 ts3 rfl rfl rfl ?_)
        refine sN (oLd rfl tk3 ta3 ?_)
        refine sN (oFaS tf31_2 tk3 ts3 rfl rfl rfl ?_)
        refine sN (oLd rfl tk3 ta3 ?_)
        refine sN (oCP (args := [.int .i64 p0.Seq, .int .i64 p1.Seq]) rfl isF64 rfl (sbR (sbR sbN)) (ref02_order_ok hr5) rfl ?_)
        refine sN (oA (v := (.int _ _)) rfl ?_)
        exact s0 (Wk.to (eC rfl eN) mN rfl (prK rfl))
      refine thenN ?_
      refine LH.seqT [(4, .int .i64 r5)] [] rfl ?_ ?_
      · refine sN (oM (v := (.int _ _)) rfl ?_)
        refine sN (oA (v := (.int _ _)) rfl ?_)
        exact s0 (Wk.to (eC rfl eN) mN rfl (prK rfl))
      refine LH.ret ?_
      obtain rfl := Option.some.inj h
      exact retE (congrArg Array.toList Try.results53) (lrT rfl (lr0 ⟨memN mN, rfl, prK rfl, Sub.rfl⟩))
    replace h := iteF h hc4
    refine LH.skip ?_
    refine thenN ?_
    refine LH.wk (Wk.to (el := [(5, .int .i64 r3)]) (ml := []) (eC rfl eN) mN rfl (prK rfl)) ?_
    refine LH.seqT [(4, .int .i64 r3)] [] rfl ?_ ?_
    · refine sN (oM (v := (.int _ _)) rfl ?_)
      refine sN (oA (v := (.int _ _)) rfl ?_)
      exact s0 (Wk.to (eC rfl eN) mN rfl (prK rfl))
    refine LH.ret ?_
    obtain rfl := Option.some.inj h
    exact retE (congrArg Array.toList Try.results53) (lrT rfl (lr0 ⟨memN mN, rfl, prK rfl, Sub.rfl⟩))
  replace h := iteF h hc2
  refine LH.skip ?_
  refine thenN ?_
  refine LH.wk (Wk.to (el := [(2, .sptr [.int .i64 p0.Time, .int .i64 p0.Source, .int .i64 p0.Seq]), (3, .sptr [.int .i64 p1.Time, .int .i64 p1.Source, .int .i64 p1.Seq]), (5, .int .i64 r1)]) (ml := []) (eC rfl (eC rfl (eC rfl eN))) mN rfl (prK rfl)) ?_
  refine LH.seq ?_
  refine LH.seqT [(2, .sptr [.int .i64 p0.Time, .int .i64 p0.Source, .int .i64 p0.Seq]), (3, .sptr [.int .i64 p1.Time, .int .i64 p1.Source, .int .i64 p1.Seq]), (5, .int .i64 r1), (19, .bool (r1 == 0))] [] rfl ?_ ?_
  · refine sN (oM (v := (.int _ _)) rfl ?_)
    refine sN (oEq rfl rfl ?_)
    exact s0 (Wk.to (eC rfl (eC rfl (eC rfl (eC rfl eN)))) mN rfl (prK rfl))
  refine LH.cond (t := (r1 == 0)) rfl (fun hc6 => ?_) (fun hc6 => ?_)
  · replace h := iteT h hc6
    obtain ⟨r7, hr7, h⟩ := bindS h
    refine LH.loneT [(5, .int .i64 r7)] [] rfl ?_ ?_
    · refine sN (oFaS tf31_2 tk3 ts3 rfl rfl rfl ?_)
      refine sN (oLd rfl tk3 ta3 ?_)
      refine sN (oFaS tf31_2 tk3 ts3 rfl rfl rfl ?_)
      refine sN (oLd rfl tk3 ta3 ?_)
      refine sN (oCP (args := [.int .i64 p0.Seq, .int .i64 p1.Seq]) rfl isF64 rfl (sbR (sbR sbN)) (ref02_order_ok hr7) rfl ?_)
      refine sN (oA (v := (.int _ _)) rfl ?_)
      exact s0 (Wk.to (eC rfl eN) mN rfl (prK rfl))
    refine thenN ?_
    refine LH.seqT [(4, .int .i64 r7)] [] rfl ?_ ?_
    · refine sN (oM (v := (.int _ _)) rfl ?_)
      refine sN (oA (v := (.int _ _)) rfl ?_)
      exact s0 (Wk.to (eC rfl eN) mN rfl (prK rfl))
    refine LH.ret ?_
    obtain rfl := Option.some.inj h
    exact retE (congrArg Array.toList Try.results53) (lrT rfl (lr0 ⟨memN mN, rfl, prK rfl, Sub.rfl⟩))
  replace h := iteF h hc6
  refine LH.skip ?_
  refine thenN ?_
  refine LH.wk (Wk.to (el := [(5, .int .i64 r1)]) (ml := []) (eC rfl eN) mN rfl (prK rfl)) ?_
  refine LH.seqT [(4, .int .i64 r1)] [] rfl ?_ ?_
  · refine sN (oM (v := (.int _ _)) rfl ?_)
    refine sN (oA (v := (.int _ _)) rfl ?_)
    exact s0 (Wk.to (eC rfl eN) mN rfl (prK rfl))
  refine LH.ret ?_
  obtain rfl := Option.some.inj h
  exact retE (congrArg Array.toList Try.results53) (lrT rfl (lr0 ⟨memN mN, rfl, prK rfl, Sub.rfl⟩))

theorem ref02_Canonical_ok {F : Nat} {p0 : List GStamp} {p1 : List Int} {r : List Int × Int} (h : ref02_Canonical F p0 p1 = some r) : LCall Try.prog 42 [.lst 3 (List.map GStamp.lv p0), .lst 1 (List.map (LV.int .i64) p1)] (Mem.of []) (.tup [.lst 1 (List.map (LV.int .i64) r.1), .int .i64 r.2]) (Mem.of []) := by
  unfold ref02_Canonical at h
  refine bodyT Try.func42 rfl (by rw [Try.ntmps42]; exact Nat.le_of_ble_eq_true rfl) ?_
  refine LH.wk (Wk.to (el := [(0, .lst 3 (List.map GStamp.lv p0)), (1, .lst 1 (List.map (LV.int .i64) p1))]) (ml := []) (eC rfl (eC rfl eN)) mN rfl (prK rfl)) ?_
  refine LH.seqT [(0, .lst 3 (List.map GStamp.lv p0)), (1, .lst 1 (List.map (LV.int .i64) p1))] [] rfl ?_ ?_
  · refine sN (oA (v := .nil) rfl ?_)
    refine sN (oA (v := (.int _ _)) rfl ?_)
    exact s0 (Wk.to (eC rfl (eC rfl eN)) mN rfl (prK rfl))
  refine LH.seq ?_
  refine LH.seqT [(0, .lst 3 (List.map GStamp.lv p0)), (1, .lst 1 (List.map (LV.int .i64) p1)), (14, .bool ((p1.length : Int) != (p0.length : Int)))] [] rfl ?_ ?_
  · refine sN (oM (v := (.lst _ _)) rfl ?_)
    refine sN (oLnL (f := (LV.int .i64)) te22 rfl ?_)
    refine sN (oM (v := (.lst _ _)) rfl ?_)
    refine sN (oLnL (f := GStamp.lv) te78 rfl ?_)
    refine sN (oNe rfl rfl ?_)
    exact s0 (Wk.to (eC rfl (eC rfl (eC rfl eN))) mN rfl (prK rfl))
  refine LH.cond (t := ((p1.length : Int) != (p0.length : Int))) rfl (fun hc1 => ?_) (fun hc1 => ?_)
  · replace h := iteT h hc1
    refine LH.seqT [(4, .nil), (5, .int .i64 1)] [] rfl ?_ ?_
    · refine sN (oA (v := .nil) rfl ?_)
      refine sN (oA (v := (.int _ _)) rfl ?_)
      exact s0 (Wk.to (eC rfl (eC rfl eN)) mN rfl (prK rfl))
    refine LH.ret ?_
    refine thenR ?_
    obtain rfl := Option.some.inj h
    exact retE (congrArg Array.toList Try.results42) (lrT rfl (lrT rfl (lr0 ⟨memN mN, rfl, prK rfl, (Sub.tup (sbL (sbR sbN)))⟩)))
  replace h := iteF h hc1
  refine LH.skip ?_
  refine thenN ?_
  refine LH.wk (Wk.to (el := [(0, .lst 3 (List.map GStamp.lv p0)), (1, .lst 1 (List.map (LV.int .i64) p1))]) (ml := []) (eC rfl (eC rfl eN)) mN rfl (prK rfl)) ?_
  refine LH.seqT [(0, .lst 3 (List.map GStamp.lv p0)), (1, .lst 1 (List.map (LV.int .i64) p1)), (6, .nil)] [] rfl ?_ ?_
  · refine sN (oA (v := .nil) rfl ?_)
    exact s0 (Wk.to (eC rfl (eC rfl (eC rfl eN))) mN rfl (prK rfl))
  refine LH.seq ?_
  refine LH.seqT [(0, .lst 3 (List.map GStamp.lv p0)), (1, .lst 1 (List.map (LV.int .i64) p1)), (6, .nil), (7, .int .i64 0)] [] rfl ?_ ?_
  · refine sN (oA (v := (.int _ _)) rfl ?_)
    exact s0 (Wk.to (eC rfl (eC rfl (eC rfl (eC rfl eN)))) mN rfl (prK rfl))
  refine LH.block ?_
  refine LH.wk (Wk.to (el := [(0, .lst 3 (List.map GStamp.lv p0)), (1, .lst 1 (List.map (LV.int .i64) p1)), (6, .lst 1 (List.map (LV.int .i64) ([] : List Int))), (7, .int .i64 0)]) (ml := []) (eC rfl (eC rfl (eL rfl (eC rfl eN)))) mN rfl (prK rfl)) ?_
  refine LH.loop (fun n e m => ∃ (l2 : List Int) (n3 : Int), ref02_Canonical_L1 F p0 p1 n l2 n3 = some r ∧ e = Env.of [(0, .lst 3 (List.map GStamp.lv p0)), (1, .lst 1 (List.map (LV.int .i64) p1)), (6, .lst 1 (List.map (LV.int .i64) l2)), (7, .int .i64 n3)] ∧ m = Mem.of []) F ⟨([] : List Int), 0, h, rfl, rfl⟩ ?_
  clear h
  rintro n e m ⟨l2, n3, h, rfl, rfl⟩
  rcases n with _ | n
  · cases (show Option.none = some _ from h)
  obtain ⟨rec1, hrec1⟩ : ∃ f, f = ref02_Canonical_L1 F p0 p1 n := ⟨_, rfl⟩
  replace h : ref02_Canonical_L1_B F p0 p1 rec1 l2 n3 = some r := hrec1 ▸ h
  unfold ref02_Canonical_L1_B at h
  refine LH.seq ?_
  refine LH.seqT [(0, .lst 3 (List.map GStamp.lv p0)), (1, .lst 1 (List.map (LV.int .i64) p1)), (6, .lst 1 (List.map (LV.int .i64) l2)), (7, .int .i64 n3), (18, .bool (decide (n3 < (p0.length : Int))))] [] rfl ?_ ?_
  · refine sN (oM (v := (.int _ _)) rfl ?_)
    refine sN (oM (v := (.lst _ _)) rfl ?_)
    refine sN (oLnL (f := GStamp.lv) te78 rfl ?_)
    refine sN (oLt rfl rfl ?_)
    exact s0 (Wk.to (eC rfl (eC rfl (eC rfl (eC rfl (eC rfl eN))))) mN rfl (prK rfl))
  refine LH.cond (t := (decide (n3 < (p0.length : Int)))) rfl (fun hc4 => ?_) (fun hc4 => ?_)
  · replace h := iteT h hc4
    refine LH.skip ?_
    refine thenN ?_
    refine LH.wk (Wk.to (el := [(0, .lst 3 (List.map GStamp.lv p0)), (1, .lst 1 (List.map (LV.int .i64) p1)), (6, .lst 1 (List.map (LV.int .i64) l2)), (7, .int .i64 n3)]) (ml := []) (eC rfl (eC rfl (eC rfl (eC rfl eN)))) mN rfl (prK rfl)) ?_
    refine LH.seq ?_
    refine LH.block ?_
    refine LH.seq ?_
    obtain ⟨r5, hr5, h⟩ := bindS h
    refine LH.seqT [(0, .lst 3 (List.map GStamp.lv p0)), (1, .lst 1 (List.map (LV.int .i64) p1)), (6, .lst 1 (List.map (LV.int .i64) l2)), (7, .int .i64 n3), (25, .bool (!r5))] [] rfl ?_ ?_
    · refine sN (oM (v := (.lst _ _)) rfl ?_)
      refine sN (oM (v := (.lst _ _)) rfl ?_)
      refine sN (oM (v := (.int _ _)) rfl ?_)
      refine sN (oCP (args := [.lst 3 (List.map GStamp.lv p0), .lst 1 (List.map (LV.int .i64) p1), .int .i64 n3]) rfl isF52 rfl (sbR (sbR (sbR sbN))) (ref02_Counts_ok hr5) rfl ?_)
      refine sN (oNot rfl ?_)
      exact s0 (Wk.to (eC rfl (eC rfl (eC rfl (eC rfl (eC rfl eN))))) mN rfl (prK rfl))
    refine LH.cond (t := (!r5)) rfl (fun hc6 => ?_) (fun hc6 => ?_)
    · replace h := iteT h hc6
      refine LH.exit ?_
      refine thenX ?_
      refine blockH ?_
      refine thenN ?_
      refine LH.wk (Wk.to (el := [(0, .lst 3 (List.map GStamp.lv p0)), (1, .lst 1 (List.map (LV.int .i64) p1)), (6, .lst 1 (List.map (LV.int .i64) l2)), (7, .int .i64 n3)]) (ml := []) (eC rfl (eC rfl (eC rfl (eC rfl eN)))) mN rfl (prK rfl)) ?_
      refine LH.loneT [(0, .lst 3 (List.map GStamp.lv p0)), (1, .lst 1 (List.map (LV.int .i64) p1)), (6, .lst 1 (List.map (LV.int .i64) l2)), (7, .int .i64 (i64 (n3 + 1)))] [] rfl ?_ ?_
      · refine sN (oM (v := (.int _ _)) rfl ?_)
        refine sN (oAdd rfl rfl ?_)
        refine sN (oA (v := (.int _ _)) rfl ?_)
        exact s0 (Wk.to (eC rfl (eC rfl (eC rfl (eC rfl eN)))) mN rfl (prK rfl))
      exact roundN (e' := Env.of [(0, .lst 3 (List.map GStamp.lv p0)), (1, .lst 1 (List.map (LV.int .i64) p1)), (6, .lst 1 (List.map (LV.int .i64) l2)), (7, .int .i64 (i64 (n3 + 1)))]) (m' := Mem.of []) (Wk.to (eC rfl (eC rfl (eC rfl (eC rfl eN)))) mN rfl (prK rfl)) ⟨l2, (i64 (n3 + 1)), hrec1 ▸ h, rfl, rfl⟩
    replace h := iteF h hc6
    refine LH.skip ?_
    refine thenN ?_
    refine LH.wk (Wk.to (el := [(0, .lst 3 (List.map GStamp.lv p0)), (1, .lst 1 (List.map (LV.int .i64) p1)), (6, .lst 1 (List.map (LV.int .i64) l2)), (7, .int .i64 n3)]) (ml := []) (eC rfl (eC rfl (eC rfl (eC rfl eN)))) mN rfl (prK rfl)) ?_
    refine LH.seqT [(0, .lst 3 (List.map GStamp.lv p0)), (1, .lst 1 (List.map (LV.int .i64) p1)), (6, .lst 1 (List.map (LV.int .i64) l2)), (7, .int .i64 n3), (8, .int .i64 (l2.length : Int))] [] rfl ?_ ?_
    · refine sN (oM (v := (.lst _ _)) rfl ?_)
      refine sN (oLnL (f := (LV.int .i64)) te22 rfl ?_)
      refine sN (oA (v := (.int _ _)) rfl ?_)
      exact s0 (Wk.to (eC rfl (eC rfl (eC rfl (eC rfl (eC rfl eN))))) mN rfl (prK rfl))
    refine LH.seq ?_
    refine LH.block ?_
    refine LH.loop (fun n e m => ∃ (n7 : Int), ref02_Canonical_L2 rec1 p0 l2 n3 n n7 = some r ∧ e = Env.of [(0, .lst 3 (List.map GStamp.lv p0)), (1, .lst 1 (List.map (LV.int .i64) p1)), (6, .lst 1 (List.map (LV.int .i64) l2)), (7, .int .i64 n3), (8, .int .i64 n7)] ∧ m = Mem.of []) F ⟨(l2.length : Int), h, rfl, rfl⟩ ?_
    clear h
    rintro n e m ⟨n7, h, rfl, rfl⟩
    rcases n with _ | n
    · cases (show Option.none = some _ from h)
    obtain ⟨rec2, hrec2⟩ : ∃ f, f = ref02_Canonical_L2 rec1 p0 l2 n3 n := ⟨_, rfl⟩
    replace h : ref02_Canonical_L2_B rec1 p0 l2 n3 rec2 n7 = some r := hrec2 ▸ h
    unfold ref02_Canonical_L2_B at h
    refine LH.seq ?_
    obtain ⟨w9, hv, h⟩ := bindS h
    refine LH.seqJM mixed [] [0, 0, 0, 0, 0, 0, 0, 0, 0, 0, 0, 0, 0, 0, 0, 0, 0, 0] [(0, .lst 3 (List.map GStamp.lv p0)), (1, .lst 1 (List.map (LV.int .i64) p1)), (6, .lst 1 (List.map (LV.int .i64) l2)), (7, .int .i64 n3), (8, .int .i64 n7), (45, .bool w9)] [] rfl rfl (by kernel_rfl) ?_ ?_
    · refine mN0 (oM (v := (.int _ _)) rfl ⟨rfl, ?_⟩)
      refine mN0 (oGt rfl rfl ⟨rfl, ?_⟩)
      refine mN0 (oM (v := (.bool _)) rfl ⟨rfl, ?_⟩)
      by_cases hb10 : (decide (n7 > 0)) = true
      · replace hv := iteT hv hb10
        refine mT rfl (congrArg LV.bool hb10) (mN0 (oM (v := (.lst _ _)) rfl ⟨rfl, ?_⟩))
        refine mT rfl (congrArg LV.bool hb10) (mN0 (oM (v := (.lst _ _)) rfl ⟨rfl, ?_⟩))
        refine mT rfl (congrArg LV.bool hb10) (mN0 (oM (v := (.int _ _)) rfl ⟨rfl, ?_⟩))
        refine mT rfl (congrArg LV.bool hb10) (mN0 (oSub rfl rfl ⟨rfl, ?_⟩))
        obtain ⟨x11, hx11, hv⟩ := bindS hv
        refine mT rfl (congrArg LV.bool hb10) (mN0 (oIx (f := (LV.int .i64)) te22 tk3 ts3 rfl rfl okI hx11 rfl ⟨rfl, ?_⟩))
        refine mT rfl (congrArg LV.bool hb10) (mN0 (oLd rfl tk3 ta3 ⟨rfl, ?_⟩))
        obtain ⟨x12, hx12, hv⟩ := bindS hv
        refine mT rfl (congrArg LV.bool hb10) (mN0 (oIx (f := GStamp.lv) te78 tk31 ts31 rfl rfl GStamp.ok hx12 rfl ⟨rfl, ?_⟩))
        refine mT rfl (congrArg LV.bool hb10) (mN0 (oLdA rfl tk31 ta31 ts31 rfl rfl ⟨rfl, ?_⟩))
        refine mT rfl (congrArg LV.bool hb10) (mN0 (oM (v := (.lst _ _)) rfl ⟨rfl, ?_⟩))
        refine mT rfl (congrArg LV.bool hb10) (mN0 (oM (v := (.int _ _)) rfl ⟨rfl, ?_⟩))
        obtain ⟨x13, hx13, hv⟩ := bindS hv
        refine mT rfl (congrArg LV.bool hb10) (mN0 (oIx (f := GStamp.lv) te78 tk31 ts31 rfl rfl GStamp.ok hx13 rfl ⟨rfl, ?_⟩))
        refine mT rfl (congrArg LV.bool hb10) (mN0 (oLdA rfl tk31 ta31 ts31 rfl rfl ⟨rfl, ?_⟩))
        obtain ⟨r14, hr14, hv⟩ := bindS hv
        refine mT rfl (congrArg LV.bool hb10) (mN0 (oCP (args := [.agg [.int .i64 x12.Time, .int .i64 x12.Source, .int .i64 x12.Seq], .agg [.int .i64 x13.Time, .int .i64 x13.Source, .int .i64 x13.Seq]]) rfl isF53 rfl (sbR (sbR sbN)) (ref02_Compare_ok hr14) rfl ⟨rfl, ?_⟩))
        refine mT rfl (congrArg LV.bool hb10) (mN0 (oGt rfl rfl ⟨rfl, ?_⟩))
        refine mN0 (oPkT (congrArg LV.bool hb10) (v := (.bool _)) rfl ⟨rfl, ?_⟩)
        obtain rfl := Option.some.inj hv
        exact m0 (Wk.to (eC rfl (eC rfl (eC rfl (eC rfl (eC rfl (eC rfl eN)))))) mN rfl (prK rfl))
      · replace hb10 := bF hb10
        replace hv := iteF hv hb10
        refine mF rfl rfl hb10 ?_
        refine mF rfl rfl hb10 ?_
        refine mF rfl rfl hb10 ?_
        refine mF rfl rfl hb10 ?_
        refine mF rfl rfl hb10 ?_
        refine mF rfl rfl hb10 ?_
        refine mF rfl rfl hb10 ?_
        refine mF rfl rfl hb10 ?_
        refine mF rfl rfl hb10 ?_
        refine mF rfl rfl hb10 ?_
        refine mF rfl rfl hb10 ?_
        refine mF rfl rfl hb10 ?_
        refine mF rfl rfl hb10 ?_
        refine mF rfl rfl hb10 ?_
        refine mN0 (oPkF (congrArg LV.bool hb10) (v := (.bool _)) rfl ⟨rfl, ?_⟩)
        obtain rfl := Option.some.inj hv
        exact m0 (Wk.to (eC rfl (eC rfl (eC rfl (eC rfl (eC rfl (eC rfl eN)))))) mN rfl (prK rfl))
    clear hv
    refine LH.cond (t := w9) rfl (fun hc15 => ?_) (fun hc15 => ?_)
    · replace h := iteT h hc15
      refine LH.skip ?_
      refine thenN ?_
      refine LH.wk (Wk.to (el := [(0, .lst 3 (List.map GStamp.lv p0)), (1, .lst 1 (List.map (LV.int .i64) p1)), (6, .lst 1 (List.map (LV.int .i64) l2)), (7, .int .i64 n3), (8, .int .i64 n7)]) (ml := []) (eC rfl (eC rfl (eC rfl (eC rfl (eC rfl eN))))) mN rfl (prK rfl)) ?_
      refine LH.block ?_
      refine LH.loneT [(0, .lst 3 (List.map GStamp.lv p0)), (1, .lst 1 (List.map (LV.int .i64) p1)), (6, .lst 1 (List.map (LV.int .i64) l2)), (7, .int .i64 n3), (8, .int .i64 (i64 (n7 - 1)))] [] rfl ?_ ?_
      · refine sN (oM (v := (.int _ _)) rfl ?_)
        refine sN (oSub rfl rfl ?_)
        refine sN (oA (v := (.int _ _)) rfl ?_)
        exact s0 (Wk.to (eC rfl (eC rfl (eC rfl (eC rfl (eC rfl eN))))) mN rfl (prK rfl))
      refine blockN ?_
      exact roundN (e' := Env.of [(0, .lst 3 (List.map GStamp.lv p0)), (1, .lst 1 (List.map (LV.int .i64) p1)), (6, .lst 1 (List.map (LV.int .i64) l2)), (7, .int .i64 n3), (8, .int .i64 (i64 (n7 - 1)))]) (m' := Mem.of []) (Wk.to (eC rfl (eC rfl (eC rfl (eC rfl (eC rfl eN))))) mN rfl (prK rfl)) ⟨(i64 (n7 - 1)), hrec2 ▸ h, rfl, rfl⟩
    replace h := iteF h hc15
    refine LH.exit ?_
    refine thenX ?_
    refine roundX ?_
    refine blockH ?_
    refine thenN ?_
    refine LH.wk (Wk.to (el := [(0, .lst 3 (List.map GStamp.lv p0)), (1, .lst 1 (List.map (LV.int .i64) p1)), (6, .lst 1 (List.map (LV.int .i64) l2)), (7, .int .i64 n3), (8, .int .i64 n7)]) (ml := []) (eC rfl (eC rfl (eC rfl (eC rfl (eC rfl eN))))) mN rfl (prK rfl)) ?_
    refine LH.seqT [(0, .lst 3 (List.map GStamp.lv p0)), (1, .lst 1 (List.map (LV.int .i64) p1)), (6, .lst 1 (List.map (LV.int .i64) l2)), (7, .int .i64 n3), (8, .int .i64 n7), (9, .nil)] [] rfl ?_ ?_
    · refine sN (oA (v := .nil) rfl ?_)
      exact s0 (Wk.to (eC rfl (eC rfl (eC rfl (eC rfl (eC rfl (eC rfl eN)))))) mN rfl (prK rfl))
    obtain ⟨v16, hv16, h⟩ := bindS h
    obtain ⟨v17, hv17, h⟩ := bindS h
    refine LH.seqT [(0, .lst 3 (List.map GStamp.lv p0)), (1, .lst 1 (List.map (LV.int .i64) p1)), (6, .lst 1 (List.map (LV.int .i64) l2)), (7, .int .i64 n3), (8, .int .i64 n7), (9, .arr 152 (List.length v17))] [(152, .arr 3 1 (List.map (LV.int .i64) v17))] rfl ?_ ?_
    · refine sN (oM (v := .nil) rfl ?_)
      refine sN (oM (v := (.lst _ _)) rfl ?_)
      refine sN (oM (v := (.int _ _)) rfl ?_)
      refine sN (oSl (f := (LV.int .i64)) te22 tk3 ts3 rfl rfl rfl hv16 ?_)
      refine sN (oApN (f := (LV.int .i64)) (id := 152) rfl te22 tr3 ts3 rfl rfl hv17 rfl ?_)
      refine sN (oA (v := (.arr _ _)) rfl ?_)
      exact s0 (Wk.to (eC rfl (eC rfl (eC rfl (eC rfl (eC rfl (eC rfl eN)))))) (mC rfl mN) rfl (prK rfl))
    obtain ⟨v18, hv18, h⟩ := bindS h
    refine LH.seqT [(0, .lst 3 (List.map GStamp.lv p0)), (1, .lst 1 (List.map (LV.int .i64) p1)), (6, .lst 1 (List.map (LV.int .i64) l2)), (7, .int .i64 n3), (8, .int .i64 n7), (9, .arr 152 (List.length v18))] [(152, .arr 3 1 (List.map (LV.int .i64) v18))] rfl ?_ ?_
    · refine sN (oM (v := (.arr _ _)) rfl ?_)
      refine sN (oM (v := (.int _ _)) rfl ?_)
      refine sN (oBS (f := (LV.int .i64)) (ys := [n3]) te22 tr3 ts3 rfl rfl rfl okI ?_)
      refine sN (oAp (f := (LV.int .i64)) te22 tr3 ts3 rfl rfl (prN rfl) rfl hv18 ?_)
      refine sN (oA (v := (.arr _ _)) rfl ?_)
      exact s0 (Wk.to (eC rfl (eC rfl (eC rfl (eC rfl (eC rfl (eC rfl eN)))))) (mC rfl mN) rfl (prK rfl))
    obtain ⟨v19, hv19, h⟩ := bindS h
    obtain ⟨v20, hv20, h⟩ := bindS h
    refine LH.seqT [(0, .lst 3 (List.map GStamp.lv p0)), (1, .lst 1 (List.map (LV.int .i64) p1)), (7, .int .i64 n3), (9, .lst 1 (List.map (LV.int .i64) v20))] [] rfl ?_ ?_
    · refine sN (oM (v := (.arr _ _)) rfl ?_)
      refine sN (oM (v := (.lst _ _)) rfl ?_)
      refine sN (oM (v := (.int _ _)) rfl ?_)
      refine sN (oSl (f := (LV.int .i64)) te22 tk3 ts3 rfl rfl rfl hv19 ?_)
      refine sN (oAp (f := (LV.int .i64)) te22 tr3 ts3 rfl rfl (prN rfl) rfl hv20 ?_)
      refine sN (oA (v := (.arr _ _)) rfl ?_)
      exact s0 ((Wk.trans (Wk.to (el := [(0, .lst 3 (List.map GStamp.lv p0)), (1, .lst 1 (List.map (LV.int .i64) p1)), (7, .int .i64 n3), (9, .arr 152 (List.length v20))]) (ml := [(152, .arr 3 1 (List.map (LV.int .i64) v20))]) (eC rfl (eC rfl (eC rfl (eC rfl eN)))) (mC rfl mN) rfl (prK rfl)) (Wk.trans (Wk.frzL (f := (LV.int .i64)) (el' := [(0, .lst 3 (List.map GStamp.lv p0)), (1, .lst 1 (List.map (LV.int .i64) p1)), (7, .int .i64 n3), (9, .lst 1 (List.map (LV.int .i64) v20))]) 152 3 1 v20 rfl rfl (prN rfl) (fK rfl (fK rfl (fK rfl (fZ fN))))) (Wk.to (eC rfl (eC rfl (eC rfl (eC rfl eN)))) mN rfl (prK rfl)))))
    refine LH.loneT [(0, .lst 3 (List.map GStamp.lv p0)), (1, .lst 1 (List.map (LV.int .i64) p1)), (6, .lst 1 (List.map (LV.int .i64) v20)), (7, .int .i64 n3)] [] rfl ?_ ?_
    · refine sN (oM (v := (.lst _ _)) rfl ?_)
      refine sN (oA (v := (.lst _ _)) rfl ?_)
      exact s0 (Wk.to (eC rfl (eC rfl (eC rfl (eC rfl eN)))) mN rfl (prK rfl))
    refine blockN ?_
    refine thenN ?_
    refine LH.loneT [(0, .lst 3 (List.map GStamp.lv p0)), (1, .lst 1 (List.map (LV.int .i64) p1)), (6, .lst 1 (List.map (LV.int .i64) v20)), (7, .int .i64 (i64 (n3 + 1)))] [] rfl ?_ ?_
    · refine sN (oM (v := (.int _ _)) rfl ?_)
      refine sN (oAdd rfl rfl ?_)
      refine sN (oA (v := (.int _ _)) rfl ?_)
      exact s0 (Wk.to (eC rfl (eC rfl (eC rfl (eC rfl eN)))) mN rfl (prK rfl))
    exact roundN (e' := Env.of [(0, .lst 3 (List.map GStamp.lv p0)), (1, .lst 1 (List.map (LV.int .i64) p1)), (6, .lst 1 (List.map (LV.int .i64) v20)), (7, .int .i64 (i64 (n3 + 1)))]) (m' := Mem.of []) (Wk.to (eC rfl (eC rfl (eC rfl (eC rfl eN)))) mN rfl (prK rfl)) ⟨v20, (i64 (n3 + 1)), hrec1 ▸ h, rfl, rfl⟩
  replace h := iteF h hc4
  refine LH.exit ?_
  refine thenX ?_
  refine roundX ?_
  refine blockH ?_
  refine thenN ?_
  refine LH.wk (Wk.to (el := [(6, .lst 1 (List.map (LV.int .i64) l2))]) (ml := []) (eC rfl eN) mN rfl (prK rfl)) ?_
  refine LH.seq ?_
  refine LH.seqT [(6, .lst 1 (List.map (LV.int .i64) l2)), (65, .bool (decide ((l2.length : Int) > 300)))] [] rfl ?_ ?_
  · refine sN (oM (v := (.lst _ _)) rfl ?_)
    refine sN (oLnL (f := (LV.int .i64)) te22 rfl ?_)
    refine sN (oGt rfl rfl ?_)
    exact s0 (Wk.to (eC rfl (eC rfl eN)) mN rfl (prK rfl))
  refine LH.cond (t := (decide ((l2.length : Int) > 300))) rfl (fun hc21 => ?_) (fun hc21 => ?_)
  · replace h := iteT h hc21
    refine LH.seqT [(4, .nil), (5, .int .i64 3)] [] rfl ?_ ?_
    · refine sN (oA (v := .nil) rfl ?_)
      refine sN (oA (v := (.int _ _)) rfl ?_)
      exact s0 (Wk.to (eC rfl (eC rfl eN)) mN rfl (prK rfl))
    refine LH.ret ?_
    refine thenR ?_
    obtain rfl := Option.some.inj h
    exact retE (congrArg Array.toList Try.results42) (lrT rfl (lrT rfl (lr0 ⟨memN mN, rfl, prK rfl, (Sub.tup (sbL (sbR sbN)))⟩)))
  replace h := iteF h hc21
  refine LH.skip ?_
  refine thenN ?_
  refine LH.wk (Wk.to (el := [(6, .lst 1 (List.map (LV.int .i64) l2))]) (ml := []) (eC rfl eN) mN rfl (prK rfl)) ?_
  refine LH.seqT [(4, .lst 1 (List.map (LV.int .i64) l2)), (5, .int .i64 0)] [] rfl ?_ ?_
  · refine sN (oM (v := (.lst _ _)) rfl ?_)
    refine sN (oA (v := (.lst _ _)) rfl ?_)
    refine sN (oA (v := (.int _ _)) rfl ?_)
    exact s0 (Wk.to (eC rfl (eC rfl eN)) mN rfl (prK rfl))
  refine LH.ret ?_
  obtain rfl := Option.some.inj h
  exact retE (congrArg Array.toList Try.results42) (lrT rfl (lrT rfl (lr0 ⟨memN mN, rfl, prK rfl, (Sub.tup (sbR (sbR sbN)))⟩)))

end Go.Proofs.Ytapnjifcfljmmaa
