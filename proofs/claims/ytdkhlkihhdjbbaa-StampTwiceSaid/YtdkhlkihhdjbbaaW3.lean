/- Walks, printed by program (gen.py): each function computes its plain function. -/
import Derived.Test.YtdkhlkihhdjbbaaW2
set_option linter.unusedVariables false
set_option linter.unusedSimpArgs false
set_option maxRecDepth 100000
namespace Go.Proofs.Ytdkhlkihhdjbbaa
open Go.L Go.Sh
theorem law02_awake_ok {F : Nat} {r : Bool} (h : law02_awake F = some r) : LCall Try.prog 16 [] (Mem.of []) (.bool r) (Mem.of []) := by
  unfold law02_awake at h
  refine bodyT Try.func16 rfl (by rw [Try.ntmps16]; exact Nat.le_of_ble_eq_true rfl) ?_
  refine LH.wk (Wk.to (el := []) (ml := []) eN mN rfl (prK rfl)) ?_
  refine LH.seqT [] [] rfl ?_ ?_
  · refine sN (oA (v := (.bool _)) rfl ?_)
    exact s0 (Wk.to eN mN rfl (prK rfl))
  refine LH.seqT [(1, .lst 3 (List.map GStamp.lv [(GStamp.mk 5 1 0), (GStamp.mk 3 2 7), (GStamp.mk 5 1 0), (GStamp.mk 4 2 7)]))] [] rfl ?_ ?_
  · refine sN (oBd (vs := [(0, .int .i64 5), (1, .int .i64 1)]) tu23 tz23 rfl (lf tf23_0 ts3 tk3 rfl rfl rfl (lf tf23_1 ts3 tk3 rfl rfl rfl lf0)) ?_)
    refine sN (oBd (vs := [(0, .int .i64 3), (1, .int .i64 2), (2, .int .i64 7)]) tu23 tz23 rfl (lf tf23_0 ts3 tk3 rfl rfl rfl (lf tf23_1 ts3 tk3 rfl rfl rfl (lf tf23_2 ts3 tk3 rfl rfl rfl lf0))) ?_)
    refine sN (oBd (vs := [(0, .int .i64 5), (1, .int .i64 1)]) tu23 tz23 rfl (lf tf23_0 ts3 tk3 rfl rfl rfl (lf tf23_1 ts3 tk3 rfl rfl rfl lf0)) ?_)
    refine sN (oBd (vs := [(0, .int .i64 4), (1, .int .i64 2), (2, .int .i64 7)]) tu23 tz23 rfl (lf tf23_0 ts3 tk3 rfl rfl rfl (lf tf23_1 ts3 tk3 rfl rfl rfl (lf tf23_2 ts3 tk3 rfl rfl rfl lf0))) ?_)
    refine sN (oBS (f := GStamp.lv) (ys := [(GStamp.mk 5 1 0), (GStamp.mk 3 2 7), (GStamp.mk 5 1 0), (GStamp.mk 4 2 7)]) te31 tr23 ts23 rfl rfl rfl GStamp.ok ?_)
    refine sN (oA (v := (.lst _ _)) rfl ?_)
    exact s0 (Wk.to (eC rfl eN) mN rfl (prK rfl))
  obtain ⟨r1, hr1, h⟩ := bindS h
  refine LH.seqT [(1, .lst 3 (List.map GStamp.lv [(GStamp.mk 5 1 0), (GStamp.mk 3 2 7), (GStamp.mk 5 1 0), (GStamp.mk 4 2 7)])), (2, .lst 1 (List.map (LV.int .i64) r1.1)), (3, .int .i64 r1.2)] [] rfl ?_ ?_
  · refine sN (oM (v := (.lst _ _)) rfl ?_)
    refine sN (oBS (f := (LV.int .i64)) (ys := [0, 0, 0, 0]) te28 tr3 ts3 rfl rfl rfl okI ?_)
    refine sN (oCP (args := [.lst 3 (List.map GStamp.lv [(GStamp.mk 5 1 0), (GStamp.mk 3 2 7), (GStamp.mk 5 1 0), (GStamp.mk 4 2 7)]), .lst 1 (List.map (LV.int .i64) [0, 0, 0, 0])]) rfl isF20 rfl (sbR (sbR sbN)) (stamp_Canonical_ok hr1) rfl ?_)
    refine sN (oM (v := (.tup _)) rfl ?_)
    refine sN (oEx rfl rfl ?_)
    refine sN (oEx rfl rfl ?_)
    refine sN (oA (v := (.lst _ _)) rfl ?_)
    refine sN (oA (v := (.int _ _)) rfl ?_)
    exact s0 (Wk.to (eC rfl (eC rfl (eC rfl eN))) mN rfl (prK rfl))
  obtain ⟨r2, hr2, h⟩ := bindS h
  refine LH.seqT [(1, .lst 3 (List.map GStamp.lv [(GStamp.mk 5 1 0), (GStamp.mk 3 2 7), (GStamp.mk 5 1 0), (GStamp.mk 4 2 7)])), (2, .lst 1 (List.map (LV.int .i64) r1.1)), (3, .int .i64 r1.2), (4, .lst 1 (List.map (LV.int .i64) r2.1)), (5, .int .i64 r2.2)] [] rfl ?_ ?_
  · refine sN (oM (v := (.lst _ _)) rfl ?_)
    refine sN (oBS (f := (LV.int .i64)) (ys := [0, 0, 0, 0]) te28 tr3 ts3 rfl rfl rfl okI ?_)
    refine sN (oCP (args := [.lst 3 (List.map GStamp.lv [(GStamp.mk 5 1 0), (GStamp.mk 3 2 7), (GStamp.mk 5 1 0), (GStamp.mk 4 2 7)]), .lst 1 (List.map (LV.int .i64) [0, 0, 0, 0]), .int .i64 3]) rfl isF24 rfl (sbR (sbR (sbR sbN))) (stamp_Known_ok hr2) rfl ?_)
    refine sN (oM (v := (.tup _)) rfl ?_)
    refine sN (oEx rfl rfl ?_)
    refine sN (oEx rfl rfl ?_)
    refine sN (oA (v := (.lst _ _)) rfl ?_)
    refine sN (oA (v := (.int _ _)) rfl ?_)
    exact s0 (Wk.to (eC rfl (eC rfl (eC rfl (eC rfl (eC rfl eN))))) mN rfl (prK rfl))
  obtain ⟨w4, hv, h⟩ := bindS h
  refine LH.seqT [(0, .bool w4)] [] rfl ?_ ?_
  · refine sN (oM (v := (.int _ _)) rfl ?_)
    refine sN (oEq rfl rfl ?_)
    refine sN (oM (v := (.bool _)) rfl ?_)
    by_cases hb5 : (r1.2 == 0) = true
    · replace hv := iteT hv hb5
      refine sT rfl (congrArg LV.bool hb5) (oM (v := (.int _ _)) rfl ?_)
      refine sT rfl (congrArg LV.bool hb5) (oEq rfl rfl ?_)
      refine sN (oPkT (congrArg LV.bool hb5) (v := (.bool _)) rfl ?_)
      refine sN (oM (v := (.bool _)) rfl ?_)
      by_cases hb6 : (r2.2 == 0) = true
      · replace hv := iteT hv hb6
        refine sT rfl (congrArg LV.bool hb6) (oM (v := (.lst _ _)) rfl ?_)
        refine sT rfl (congrArg LV.bool hb6) (oBS (f := (LV.int .i64)) (ys := [0]) te28 tr3 ts3 rfl rfl rfl okI ?_)
        obtain ⟨r7, hr7, hv⟩ := bindS hv
        refine sT rfl (congrArg LV.bool hb6) (oCP (args := [.lst 1 (List.map (LV.int .i64) r1.1), .lst 1 (List.map (LV.int .i64) [0])]) rfl isF22 rfl (sbR (sbR sbN)) (law02_same_ok hr7) rfl ?_)
        refine sN (oPkT (congrArg LV.bool hb6) (v := (.bool _)) rfl ?_)
        refine sN (oM (v := (.bool _)) rfl ?_)
        by_cases hb8 : r7 = true
        · replace hv := iteT hv hb8
          refine sT rfl (congrArg LV.bool hb8) (oM (v := (.lst _ _)) rfl ?_)
          refine sT rfl (congrArg LV.bool hb8) (oBS (f := (LV.int .i64)) (ys := [1, 0]) te28 tr3 ts3 rfl rfl rfl okI ?_)
          obtain ⟨r9, hr9, hv⟩ := bindS hv
          refine sT rfl (congrArg LV.bool hb8) (oCP (args := [.lst 1 (List.map (LV.int .i64) r2.1), .lst 1 (List.map (LV.int .i64) [1, 0])]) rfl isF22 rfl (sbR (sbR sbN)) (law02_same_ok hr9) rfl ?_)
          refine sN (oPkT (congrArg LV.bool hb8) (v := (.bool _)) rfl ?_)
          refine sN (oM (v := (.bool _)) rfl ?_)
          by_cases hb10 : r9 = true
          · replace hv := iteT hv hb10
            refine sT rfl (congrArg LV.bool hb10) (oM (v := (.lst _ _)) rfl ?_)
            obtain ⟨x11, hx11, hv⟩ := bindS hv
            refine sT rfl (congrArg LV.bool hb10) (oIx (f := GStamp.lv) te31 tk23 ts23 rfl rfl GStamp.ok hx11 rfl ?_)
            refine sT rfl (congrArg LV.bool hb10) (oLdA rfl tk23 ta23 ts23 rfl rfl ?_)
            obtain ⟨r12, hr12, hv⟩ := bindS hv
            refine sT rfl (congrArg LV.bool hb10) (oCP (args := [.agg [.int .i64 x11.Time, .int .i64 x11.Source, .int .i64 x11.Seq]]) rfl isF12 rfl (sbR sbN) (stamp_Valid_ok hr12) rfl ?_)
            refine sN (oPkT (congrArg LV.bool hb10) (v := (.bool _)) rfl ?_)
            refine sN (oA (v := (.bool _)) rfl ?_)
            obtain rfl := Option.some.inj hv
            exact s0 (Wk.to (eC rfl eN) mN rfl (prK rfl))
          · replace hb10 := bF hb10
            replace hv := iteF hv hb10
            refine sF rfl rfl hb10 ?_
            refine sF rfl rfl hb10 ?_
            refine sF rfl rfl hb10 ?_
            refine sF rfl rfl hb10 ?_
            refine sN (oPkF (congrArg LV.bool hb10) (v := (.bool _)) rfl ?_)
            refine sN (oA (v := (.bool _)) rfl ?_)
            obtain rfl := Option.some.inj hv
            exact s0 (Wk.to (eC rfl eN) mN rfl (prK rfl))
        · replace hb8 := bF hb8
          replace hv := iteF hv hb8
          refine sF rfl rfl hb8 ?_
          refine sF rfl rfl hb8 ?_
          refine sF rfl rfl hb8 ?_
          refine sN (oPkF (congrArg LV.bool hb8) (v := (.bool _)) rfl ?_)
          refine sN (oM (v := (.bool _)) rfl ?_)
          refine sF rfl rfl rfl ?_
          refine sF rfl rfl rfl ?_
          refine sF rfl rfl rfl ?_
          refine sF rfl rfl rfl ?_
          refine sN (oPkF rfl (v := (.bool _)) rfl ?_)
          refine sN (oA (v := (.bool _)) rfl ?_)
          obtain rfl := Option.some.inj hv
          exact s0 (Wk.to (eC rfl eN) mN rfl (prK rfl))
      · replace hb6 := bF hb6
        replace hv := iteF hv hb6
        refine sF rfl rfl hb6 ?_
        refine sF rfl rfl hb6 ?_
        refine sF rfl rfl hb6 ?_
        refine sN (oPkF (congrArg LV.bool hb6) (v := (.bool _)) rfl ?_)
        refine sN (oM (v := (.bool _)) rfl ?_)
        refine sF rfl rfl rfl ?_
        refine sF rfl rfl rfl ?_
        refine sF rfl rfl rfl ?_
        refine sN (oPkF rfl (v := (.bool _)) rfl ?_)
        refine sN (oM (v := (.bool _)) rfl ?_)
        refine sF rfl rfl rfl ?_
        refine sF rfl rfl rfl ?_
        refine sF rfl rfl rfl ?_
        refine sF rfl rfl rfl ?_
        refine sN (oPkF rfl (v := (.bool _)) rfl ?_)
        refine sN (oA (v := (.bool _)) rfl ?_)
        obtain rfl := Option.some.inj hv
        exact s0 (Wk.to (eC rfl eN) mN rfl (prK rfl))
    · replace hb5 := bF hb5
      replace hv := iteF hv hb5
      refine sF rfl rfl hb5 ?_
      refine sF rfl rfl hb5 ?_
      refine sN (oPkF (congrArg LV.bool hb5) (v := (.bool _)) rfl ?_)
      refine sN (oM (v := (.bool _)) rfl ?_)
      refine sF rfl rfl rfl ?_
      refine sF rfl rfl rfl ?_
      refine sF rfl rfl rfl ?_
      refine sN (oPkF rfl (v := (.bool _)) rfl ?_)
      refine sN (oM (v := (.bool _)) rfl ?_)
      refine sF rfl rfl rfl ?_
      refine sF rfl rfl rfl ?_
      refine sF rfl rfl rfl ?_
      refine sN (oPkF rfl (v := (.bool _)) rfl ?_)
      refine sN (oM (v := (.bool _)) rfl ?_)
      refine sF rfl rfl rfl ?_
      refine sF rfl rfl rfl ?_
      refine sF rfl rfl rfl ?_
      refine sF rfl rfl rfl ?_
      refine sN (oPkF rfl (v := (.bool _)) rfl ?_)
      refine sN (oA (v := (.bool _)) rfl ?_)
      obtain rfl := Option.some.inj hv
      exact s0 (Wk.to (eC rfl eN) mN rfl (prK rfl))
  clear hv
  refine LH.ret ?_
  obtain rfl := Option.some.inj h
  exact retE (congrArg Array.toList Try.results16) (lrT rfl (lr0 ⟨memN mN, rfl, prK rfl, Sub.rfl⟩))

theorem law02_StampCompares_ok {F : Nat} {p0 : Int} {p1 : Int} {p2 : Int} {p3 : Int} {p4 : Int} {p5 : Int} {r : Bool} (h : law02_StampCompares F p0 p1 p2 p3 p4 p5 = some r) : LCall Try.prog 3 [.int .i64 p0, .int .i64 p1, .int .i64 p2, .int .i64 p3, .int .i64 p4, .int .i64 p5] (Mem.of []) (.bool r) (Mem.of []) := by
  unfold law02_StampCompares at h
  refine bodyT Try.func3 rfl (by rw [Try.ntmps3]; exact Nat.le_of_ble_eq_true rfl) ?_
  refine LH.wk (Wk.to (el := [(0, .int .i64 p0), (1, .int .i64 p1), (2, .int .i64 p2), (3, .int .i64 p3), (4, .int .i64 p4), (5, .int .i64 p5)]) (ml := []) (eC rfl (eC rfl (eC rfl (eC rfl (eC rfl (eC rfl eN)))))) mN rfl (prK rfl)) ?_
  refine LH.seqT [(0, .int .i64 p0), (1, .int .i64 p1), (2, .int .i64 p2), (3, .int .i64 p3), (4, .int .i64 p4), (5, .int .i64 p5)] [] rfl ?_ ?_
  · refine sN (oA (v := (.bool _)) rfl ?_)
    exact s0 (Wk.to (eC rfl (eC rfl (eC rfl (eC rfl (eC rfl (eC rfl eN)))))) mN rfl (prK rfl))
  refine LH.seqT [(0, .int .i64 p0), (2, .int .i64 p2), (4, .int .i64 p4), (13, .sptr [.int .i64 p0, .int .i64 p1, .int .i64 p2]), (14, .sptr [.int .i64 p3, .int .i64 p4, .int .i64 p5])] [] rfl ?_ ?_
  · refine sN (oM (v := (.int _ _)) rfl ?_)
    refine sN (oM (v := (.int _ _)) rfl ?_)
    refine sN (oM (v := (.int _ _)) rfl ?_)
    refine sN (oBd (vs := [(0, .int .i64 p0), (1, .int .i64 p1), (2, .int .i64 p2)]) tu23 tz23 rfl (lf tf23_0 ts3 tk3 rfl rfl rfl (lf tf23_1 ts3 tk3 rfl rfl rfl (lf tf23_2 ts3 tk3 rfl rfl rfl lf0))) ?_)
    refine sN (oM (v := (.int _ _)) rfl ?_)
    refine sN (oM (v := (.int _ _)) rfl ?_)
    refine sN (oM (v := (.int _ _)) rfl ?_)
    refine sN (oBd (vs := [(0, .int .i64 p3), (1, .int .i64 p4), (2, .int .i64 p5)]) tu23 tz23 rfl (lf tf23_0 ts3 tk3 rfl rfl rfl (lf tf23_1 ts3 tk3 rfl rfl rfl (lf tf23_2 ts3 tk3 rfl rfl rfl lf0))) ?_)
    refine sN (oAl (id := 113) rfl tz23 rfl rfl ?_)
    refine sN (oAl (id := 114) rfl tz23 rfl rfl ?_)
    refine s_ (oSt rfl rfl rfl tk23 ts23 rfl rfl rfl ?_)
    refine s_ (oSt rfl rfl rfl tk23 ts23 rfl rfl rfl ?_)
    exact s0 ((Wk.trans (Wk.to (el := [(0, .int .i64 p0), (2, .int .i64 p2), (4, .int .i64 p4), (13, .ptr 113 0), (14, .ptr 114 0)]) (ml := [(113, .box [.int .i64 p0, .int .i64 p1, .int .i64 p2]), (114, .box [.int .i64 p3, .int .i64 p4, .int .i64 p5])]) (eC rfl (eC rfl (eC rfl (eC rfl (eC rfl eN))))) (mC rfl (mC rfl mN)) rfl (prK rfl)) (Wk.trans (Wk.frzB 113 [.int .i64 p0, .int .i64 p1, .int .i64 p2] rfl rfl rfl (prN rfl)) (Wk.trans (Wk.frzB 114 [.int .i64 p3, .int .i64 p4, .int .i64 p5] rfl rfl rfl (prN rfl)) (Wk.to (eC rfl (eC rfl (eC rfl (eC rfl (eC rfl eN))))) mN rfl (prK rfl))))))
  refine LH.seqT [(13, .sptr [.int .i64 p0, .int .i64 p1, .int .i64 p2]), (14, .sptr [.int .i64 p3, .int .i64 p4, .int .i64 p5]), (15, .sptr [.int .i64 p0, .int .i64 p4, .int .i64 p2])] [] rfl ?_ ?_
  · refine sN (oM (v := (.int _ _)) rfl ?_)
    refine sN (oM (v := (.int _ _)) rfl ?_)
    refine sN (oM (v := (.int _ _)) rfl ?_)
    refine sN (oBd (vs := [(0, .int .i64 p0), (1, .int .i64 p4), (2, .int .i64 p2)]) tu23 tz23 rfl (lf tf23_0 ts3 tk3 rfl rfl rfl (lf tf23_1 ts3 tk3 rfl rfl rfl (lf tf23_2 ts3 tk3 rfl rfl rfl lf0))) ?_)
    refine sN (oAl (id := 115) rfl tz23 rfl rfl ?_)
    refine s_ (oSt rfl rfl rfl tk23 ts23 rfl rfl rfl ?_)
    exact s0 ((Wk.trans (Wk.to (el := [(13, .sptr [.int .i64 p0, .int .i64 p1, .int .i64 p2]), (14, .sptr [.int .i64 p3, .int .i64 p4, .int .i64 p5]), (15, .ptr 115 0)]) (ml := [(115, .box [.int .i64 p0, .int .i64 p4, .int .i64 p2])]) (eC rfl (eC rfl (eC rfl eN))) (mC rfl mN) rfl (prK rfl)) (Wk.trans (Wk.frzB 115 [.int .i64 p0, .int .i64 p4, .int .i64 p2] rfl rfl rfl (prN rfl)) (Wk.to (eC rfl (eC rfl (eC rfl eN))) mN rfl (prK rfl)))))
  obtain ⟨w2, hv, h⟩ := bindS h
  refine LH.seqJM mixed [] [0, 0, 0, 0, 0, 0, 0, 0, 0, 0, 0, 0, 0, 0, 0, 0, 0, 0, 0, 0, 0, 0, 0, 0, 0, 0, 0, 0, 0, 0, 0, 0, 0] [(12, .bool w2)] [] rfl rfl (by kernel_rfl) ?_ ?_
  · refine mN0 (oLdA rfl tk23 ta23 ts23 rfl rfl ⟨rfl, ?_⟩)
    obtain ⟨r3, hr3, hv⟩ := bindS hv
    refine mN0 (oCP (args := [.agg [.int .i64 p0, .int .i64 p1, .int .i64 p2]]) rfl isF12 rfl (sbR sbN) (stamp_Valid_ok hr3) rfl ⟨rfl, ?_⟩)
    refine mN0 (oLdA rfl tk23 ta23 ts23 rfl rfl ⟨rfl, ?_⟩)
    obtain ⟨r4, hr4, hv⟩ := bindS hv
    refine mN0 (oCP (args := [.agg [.int .i64 p0, .int .i64 p1, .int .i64 p2]]) rfl isF13 rfl (sbR sbN) (ref02_Valid_ok hr4) rfl ⟨rfl, ?_⟩)
    refine mN0 (oEqB rfl rfl tb4 ⟨rfl, ?_⟩)
    refine mN0 (oM (v := (.bool _)) rfl ⟨rfl, ?_⟩)
    by_cases hb5 : (r3 == r4) = true
    · replace hv := iteT hv hb5
      refine mT rfl (congrArg LV.bool hb5) (mN0 (oLdA rfl tk23 ta23 ts23 rfl rfl ⟨rfl, ?_⟩))
      refine mT rfl (congrArg LV.bool hb5) (mN0 (oLdA rfl tk23 ta23 ts23 rfl rfl ⟨rfl, ?_⟩))
      obtain ⟨r6, hr6, hv⟩ := bindS hv
      refine mT rfl (congrArg LV.bool hb5) (mN0 (oCP (args := [.agg [.int .i64 p0, .int .i64 p1, .int .i64 p2], .agg [.int .i64 p3, .int .i64 p4, .int .i64 p5]]) rfl isF14 rfl (sbR (sbR sbN)) (stamp_Compare_ok hr6) rfl ⟨rfl, ?_⟩))
      refine mT rfl (congrArg LV.bool hb5) (mN0 (oLdA rfl tk23 ta23 ts23 rfl rfl ⟨rfl, ?_⟩))
      refine mT rfl (congrArg LV.bool hb5) (mN0 (oLdA rfl tk23 ta23 ts23 rfl rfl ⟨rfl, ?_⟩))
      obtain ⟨r7, hr7, hv⟩ := bindS hv
      refine mT rfl (congrArg LV.bool hb5) (mN0 (oCP (args := [.agg [.int .i64 p0, .int .i64 p1, .int .i64 p2], .agg [.int .i64 p3, .int .i64 p4, .int .i64 p5]]) rfl isF15 rfl (sbR (sbR sbN)) (ref02_Compare_ok hr7) rfl ⟨rfl, ?_⟩))
      refine mT rfl (congrArg LV.bool hb5) (mN0 (oEq rfl rfl ⟨rfl, ?_⟩))
      refine mN0 (oPkT (congrArg LV.bool hb5) (v := (.bool _)) rfl ⟨rfl, ?_⟩)
      refine mN0 (oM (v := (.bool _)) rfl ⟨rfl, ?_⟩)
      by_cases hb8 : (r6 == r7) = true
      · replace hv := iteT hv hb8
        refine mT rfl (congrArg LV.bool hb8) (mN0 (oLdA rfl tk23 ta23 ts23 rfl rfl ⟨rfl, ?_⟩))
        refine mT rfl (congrArg LV.bool hb8) (mN0 (oLdA rfl tk23 ta23 ts23 rfl rfl ⟨rfl, ?_⟩))
        obtain ⟨r9, hr9, hv⟩ := bindS hv
        refine mT rfl (congrArg LV.bool hb8) (mN0 (oCP (args := [.agg [.int .i64 p0, .int .i64 p1, .int .i64 p2], .agg [.int .i64 p0, .int .i64 p4, .int .i64 p2]]) rfl isF14 rfl (sbR (sbR sbN)) (stamp_Compare_ok hr9) rfl ⟨rfl, ?_⟩))
        refine mT rfl (congrArg LV.bool hb8) (mN0 (oLdA rfl tk23 ta23 ts23 rfl rfl ⟨rfl, ?_⟩))
        refine mT rfl (congrArg LV.bool hb8) (mN0 (oLdA rfl tk23 ta23 ts23 rfl rfl ⟨rfl, ?_⟩))
        obtain ⟨r10, hr10, hv⟩ := bindS hv
        refine mT rfl (congrArg LV.bool hb8) (mN0 (oCP (args := [.agg [.int .i64 p0, .int .i64 p1, .int .i64 p2], .agg [.int .i64 p0, .int .i64 p4, .int .i64 p2]]) rfl isF15 rfl (sbR (sbR sbN)) (ref02_Compare_ok hr10) rfl ⟨rfl, ?_⟩))
        refine mT rfl (congrArg LV.bool hb8) (mN0 (oEq rfl rfl ⟨rfl, ?_⟩))
        refine mN0 (oPkT (congrArg LV.bool hb8) (v := (.bool _)) rfl ⟨rfl, ?_⟩)
        refine mN0 (oM (v := (.bool _)) rfl ⟨rfl, ?_⟩)
        by_cases hb11 : (r9 == r10) = true
        · replace hv := iteT hv hb11
          refine mT rfl (congrArg LV.bool hb11) (mN0 (oLdA rfl tk23 ta23 ts23 rfl rfl ⟨rfl, ?_⟩))
          refine mT rfl (congrArg LV.bool hb11) (mN0 (oLdA rfl tk23 ta23 ts23 rfl rfl ⟨rfl, ?_⟩))
          obtain ⟨r12, hr12, hv⟩ := bindS hv
          refine mT rfl (congrArg LV.bool hb11) (mN0 (oCP (args := [.agg [.int .i64 p0, .int .i64 p1, .int .i64 p2], .agg [.int .i64 p0, .int .i64 p1, .int .i64 p2]]) rfl isF14 rfl (sbR (sbR sbN)) (stamp_Compare_ok hr12) rfl ⟨rfl, ?_⟩))
          refine mT rfl (congrArg LV.bool hb11) (mN0 (oEq rfl rfl ⟨rfl, ?_⟩))
          refine mN0 (oPkT (congrArg LV.bool hb11) (v := (.bool _)) rfl ⟨rfl, ?_⟩)
          refine mN0 (oM (v := (.bool _)) rfl ⟨rfl, ?_⟩)
          by_cases hb13 : (r12 == 0) = true
          · replace hv := iteT hv hb13
            obtain ⟨r14, hr14, hv⟩ := bindS hv
            refine mT rfl (congrArg LV.bool hb13) (mN0 (oCP (args := []) rfl isF16 rfl sbN (law02_awake_ok hr14) rfl ⟨rfl, ?_⟩))
            refine mN0 (oPkT (congrArg LV.bool hb13) (v := (.bool _)) rfl ⟨rfl, ?_⟩)
            refine mN0 (oA (v := (.bool _)) rfl ⟨rfl, ?_⟩)
            obtain rfl := Option.some.inj hv
            exact m0 (Wk.to (eC rfl eN) mN rfl (prK rfl))
          · replace hb13 := bF hb13
            replace hv := iteF hv hb13
            refine mF rfl rfl hb13 ?_
            refine mN0 (oPkF (congrArg LV.bool hb13) (v := (.bool _)) rfl ⟨rfl, ?_⟩)
            refine mN0 (oA (v := (.bool _)) rfl ⟨rfl, ?_⟩)
            obtain rfl := Option.some.inj hv
            exact m0 (Wk.to (eC rfl eN) mN rfl (prK rfl))
        · replace hb11 := bF hb11
          replace hv := iteF hv hb11
          refine mF rfl rfl hb11 ?_
          refine mF rfl rfl hb11 ?_
          refine mF rfl rfl hb11 ?_
          refine mF rfl rfl hb11 ?_
          refine mN0 (oPkF (congrArg LV.bool hb11) (v := (.bool _)) rfl ⟨rfl, ?_⟩)
          refine mN0 (oM (v := (.bool _)) rfl ⟨rfl, ?_⟩)
          refine mF rfl rfl rfl ?_
          refine mN0 (oPkF rfl (v := (.bool _)) rfl ⟨rfl, ?_⟩)
          refine mN0 (oA (v := (.bool _)) rfl ⟨rfl, ?_⟩)
          obtain rfl := Option.some.inj hv
          exact m0 (Wk.to (eC rfl eN) mN rfl (prK rfl))
      · replace hb8 := bF hb8
        replace hv := iteF hv hb8
        refine mF rfl rfl hb8 ?_
        refine mF rfl rfl hb8 ?_
        refine mF rfl rfl hb8 ?_
        refine mF rfl rfl hb8 ?_
        refine mF rfl rfl hb8 ?_
        refine mF rfl rfl hb8 ?_
        refine mF rfl rfl hb8 ?_
        refine mN0 (oPkF (congrArg LV.bool hb8) (v := (.bool _)) rfl ⟨rfl, ?_⟩)
        refine mN0 (oM (v := (.bool _)) rfl ⟨rfl, ?_⟩)
        refine mF rfl rfl rfl ?_
        refine mF rfl rfl rfl ?_
        refine mF rfl rfl rfl ?_
        refine mF rfl rfl rfl ?_
        refine mN0 (oPkF rfl (v := (.bool _)) rfl ⟨rfl, ?_⟩)
        refine mN0 (oM (v := (.bool _)) rfl ⟨rfl, ?_⟩)
        refine mF rfl rfl rfl ?_
        refine mN0 (oPkF rfl (v := (.bool _)) rfl ⟨rfl, ?_⟩)
        refine mN0 (oA (v := (.bool _)) rfl ⟨rfl, ?_⟩)
        obtain rfl := Option.some.inj hv
        exact m0 (Wk.to (eC rfl eN) mN rfl (prK rfl))
    · replace hb5 := bF hb5
      replace hv := iteF hv hb5
      refine mF rfl rfl hb5 ?_
      refine mF rfl rfl hb5 ?_
      refine mF rfl rfl hb5 ?_
      refine mF rfl rfl hb5 ?_
      refine mF rfl rfl hb5 ?_
      refine mF rfl rfl hb5 ?_
      refine mF rfl rfl hb5 ?_
      refine mN0 (oPkF (congrArg LV.bool hb5) (v := (.bool _)) rfl ⟨rfl, ?_⟩)
      refine mN0 (oM (v := (.bool _)) rfl ⟨rfl, ?_⟩)
      refine mF rfl rfl rfl ?_
      refine mF rfl rfl rfl ?_
      refine mF rfl rfl rfl ?_
      refine mF rfl rfl rfl ?_
      refine mF rfl rfl rfl ?_
      refine mF rfl rfl rfl ?_
      refine mF rfl rfl rfl ?_
      refine mN0 (oPkF rfl (v := (.bool _)) rfl ⟨rfl, ?_⟩)
      refine mN0 (oM (v := (.bool _)) rfl ⟨rfl, ?_⟩)
      refine mF rfl rfl rfl ?_
      refine mF rfl rfl rfl ?_
      refine mF rfl rfl rfl ?_
      refine mF rfl rfl rfl ?_
      refine mN0 (oPkF rfl (v := (.bool _)) rfl ⟨rfl, ?_⟩)
      refine mN0 (oM (v := (.bool _)) rfl ⟨rfl, ?_⟩)
      refine mF rfl rfl rfl ?_
      refine mN0 (oPkF rfl (v := (.bool _)) rfl ⟨rfl, ?_⟩)
      refine mN0 (oA (v := (.bool _)) rfl ⟨rfl, ?_⟩)
      obtain rfl := Option.some.inj hv
      exact m0 (Wk.to (eC rfl eN) mN rfl (prK rfl))
  clear hv
  refine LH.ret ?_
  obtain rfl := Option.some.inj h
  exact retE (congrArg Array.toList Try.results3) (lrT rfl (lr0 ⟨memN mN, rfl, prK rfl, Sub.rfl⟩))

theorem make_New_ok0 {p0 : List Int} {r : GTape} (h : make_New p0 = some r) : LCall Try.prog 17 [.lst 1 (List.map (LV.int .i64) p0)] (Mem.of []) (.ptr 110 0) (Mem.of [(110, .box [.lst 1 (List.map (LV.int .i64) r.L), .int .i64 r.At])]) := by
  unfold make_New at h
  refine bodyT Try.func17 rfl (by rw [Try.ntmps17]; exact Nat.le_of_ble_eq_true rfl) ?_
  refine LH.wk (Wk.to (el := [(0, .lst 1 (List.map (LV.int .i64) p0))]) (ml := []) (eC rfl eN) mN rfl (prK rfl)) ?_
  refine LH.seqT [(0, .lst 1 (List.map (LV.int .i64) p0))] [] rfl ?_ ?_
  · refine sN (oA (v := .nilp) rfl ?_)
    exact s0 (Wk.to (eC rfl eN) mN rfl (prK rfl))
  refine LH.seq ?_
  refine LH.seqT [(0, .lst 1 (List.map (LV.int .i64) p0)), (5, .bool (decide ((p0.length : Int) > 600)))] [] rfl ?_ ?_
  · refine sN (oM (v := (.lst _ _)) rfl ?_)
    refine sN (oLnL (f := (LV.int .i64)) te28 rfl ?_)
    refine sN (oGt rfl rfl ?_)
    exact s0 (Wk.to (eC rfl (eC rfl eN)) mN rfl (prK rfl))
  refine LH.cond (t := (decide ((p0.length : Int) > 600))) rfl (fun hc1 => ?_) (fun hc1 => ?_)
  · replace h := iteT h hc1
    obtain ⟨v2, hv2, h⟩ := bindS h
    refine LH.loneT [(0, .lst 1 (List.map (LV.int .i64) v2))] [] rfl ?_ ?_
    · refine sN (oM (v := (.lst _ _)) rfl ?_)
      refine sN (oSl (f := (LV.int .i64)) te28 tk3 ts3 rfl rfl rfl hv2 ?_)
      refine sN (oA (v := (.lst _ _)) rfl ?_)
      exact s0 (Wk.to (eC rfl eN) mN rfl (prK rfl))
    refine thenN ?_
    refine LH.seqT [(2, .ptr 110 0)] [(110, .box [.lst 1 (List.map (LV.int .i64) v2), .int .i64 0])] rfl ?_ ?_
    · refine sN (oM (v := (.lst _ _)) rfl ?_)
      refine sN (oBd (vs := [(0, .lst 1 (List.map (LV.int .i64) v2))]) tu53 tz53 rfl (lf tf53_0 ts28 tk28 rfl rfl rfl lf0) ?_)
      refine sN (oBx (id := 110) rfl rfl rfl rfl rfl rfl ?_)
      refine sN (oA (v := (.ptr _ _)) rfl ?_)
      exact s0 (Wk.to (eC rfl eN) (mC rfl mN) rfl (prK rfl))
    refine LH.ret ?_
    obtain rfl := Option.some.inj h
    exact retE (congrArg Array.toList Try.results17) (lrT rfl (lr0 ⟨memN (mC rfl mN), rfl, prK rfl, Sub.rfl⟩))
  replace h := iteF h hc1
  refine LH.skip ?_
  refine thenN ?_
  refine LH.wk (Wk.to (el := [(0, .lst 1 (List.map (LV.int .i64) p0))]) (ml := []) (eC rfl eN) mN rfl (prK rfl)) ?_
  refine LH.seqT [(2, .ptr 110 0)] [(110, .box [.lst 1 (List.map (LV.int .i64) p0), .int .i64 0])] rfl ?_ ?_
  · refine sN (oM (v := (.lst _ _)) rfl ?_)
    refine sN (oBd (vs := [(0, .lst 1 (List.map (LV.int .i64) p0))]) tu53 tz53 rfl (lf tf53_0 ts28 tk28 rfl rfl rfl lf0) ?_)
    refine sN (oBx (id := 110) rfl rfl rfl rfl rfl rfl ?_)
    refine sN (oA (v := (.ptr _ _)) rfl ?_)
    exact s0 (Wk.to (eC rfl eN) (mC rfl mN) rfl (prK rfl))
  refine LH.ret ?_
  obtain rfl := Option.some.inj h
  exact retE (congrArg Array.toList Try.results17) (lrT rfl (lr0 ⟨memN (mC rfl mN), rfl, prK rfl, Sub.rfl⟩))
theorem make_New_ok {p0 : List Int} {r : GTape} (h : make_New p0 = some r) : LCall Try.prog 17 [.lst 1 (List.map (LV.int .i64) p0)] (Mem.of []) (.ptr 7 0) (Mem.of [(7, .box [.lst 1 (List.map (LV.int .i64) r.L), .int .i64 r.At])]) := LCall.renamePtr 7 rfl (make_New_ok0 h)

theorem GTape_Raw_ok {p0 : GTape} {r : Int × GTape} (h : GTape_Raw p0 = some r) : LCall Try.prog 46 [.ptr 7 0] (Mem.of [(7, .box [.lst 1 (List.map (LV.int .i64) p0.L), .int .i64 p0.At])]) (.int .i64 r.1) (Mem.of [(7, .box [.lst 1 (List.map (LV.int .i64) r.2.L), .int .i64 r.2.At])]) := by
  unfold GTape_Raw at h
  refine bodyT Try.func46 rfl (by rw [Try.ntmps46]; exact Nat.le_of_ble_eq_true rfl) ?_
  refine LH.wk (Wk.to (el := [(0, .ptr 7 0)]) (ml := [(7, .box [.lst 1 (List.map (LV.int .i64) p0.L), .int .i64 p0.At])]) (eC rfl eN) (mC rfl mN) rfl (prK rfl)) ?_
  refine LH.seqT [(0, .ptr 7 0)] [(7, .box [.lst 1 (List.map (LV.int .i64) p0.L), .int .i64 p0.At])] rfl ?_ ?_
  · refine sN (oA (v := (.int _ _)) rfl ?_)
    exact s0 (Wk.to (eC rfl eN) (mC rfl mN) rfl (prK rfl))
  refine LH.seq ?_
  refine LH.seqJM mixed [] [0, 0, 0, 1, 0, 0, 0, 1, 0, 0] [(0, .ptr 7 0), (12, .bool (decide (p0.At ≥ (p0.L.length : Int))))] [(7, .box [.lst 1 (List.map (LV.int .i64) p0.L), .int .i64 p0.At])] rfl rfl (by kernel_rfl) ?_ ?_
  · refine mN0 (oM (v := (.ptr _ _)) rfl ⟨rfl, ?_⟩)
    refine mN0 (oNC rfl ⟨rfl, ?_⟩)
    refine mN0 (oFa tf53_1 tk3 ts3 rfl rfl ⟨rfl, ?_⟩)
    refine mN1 (oLdP rfl rfl rfl rfl tk3 ta3 ⟨rfl, ?_⟩)
    refine mN0 (oM (v := (.ptr _ _)) rfl ⟨rfl, ?_⟩)
    refine mN0 (oNC rfl ⟨rfl, ?_⟩)
    refine mN0 (oFa tf53_0 tk28 ts28 rfl rfl ⟨rfl, ?_⟩)
    refine mN1 (oLdP rfl rfl rfl rfl tk28 ta28 ⟨rfl, ?_⟩)
    refine mN0 (oLnL (f := (LV.int .i64)) te28 rfl ⟨rfl, ?_⟩)
    refine mN0 (oGe rfl rfl ⟨rfl, ?_⟩)
    exact m0 (Wk.to (eC rfl (eC rfl eN)) (mC rfl mN) rfl (prK rfl))
  refine LH.cond (t := (decide (p0.At ≥ (p0.L.length : Int)))) rfl (fun hc1 => ?_) (fun hc1 => ?_)
  · replace h := iteT h hc1
    refine LH.seqT [(2, .int .i64 0)] [(7, .box [.lst 1 (List.map (LV.int .i64) p0.L), .int .i64 p0.At])] rfl ?_ ?_
    · refine sN (oA (v := (.int _ _)) rfl ?_)
      exact s0 (Wk.to (eC rfl eN) (mC rfl mN) rfl (prK rfl))
    refine LH.ret ?_
    refine thenR ?_
    obtain rfl := Option.some.inj h
    exact retE (congrArg Array.toList Try.results46) (lrT rfl (lr0 ⟨memN (mC rfl mN), rfl, prK rfl, Sub.rfl⟩))
  replace h := iteF h hc1
  refine LH.skip ?_
  refine thenN ?_
  refine LH.wk (Wk.to (el := [(0, .ptr 7 0)]) (ml := [(7, .box [.lst 1 (List.map (LV.int .i64) p0.L), .int .i64 p0.At])]) (eC rfl eN) (mC rfl mN) rfl (prK rfl)) ?_
  refine LH.seqT [(0, .ptr 7 0)] [(7, .box [.lst 1 (List.map (LV.int .i64) p0.L), .int .i64 (i64 (p0.At + 1))])] rfl ?_ ?_
  · refine sN (oM (v := (.ptr _ _)) rfl ?_)
    refine sN (oNC rfl ?_)
    refine sN (oFa tf53_1 tk3 ts3 rfl rfl ?_)
    refine sN (oLdP rfl rfl rfl rfl tk3 ta3 ?_)
    refine sN (oAdd rfl rfl ?_)
    refine sN (oNC rfl ?_)
    refine sN (oFa tf53_1 tk3 ts3 rfl rfl ?_)
    refine s_ (oSt rfl rfl rfl tk3 ts3 rfl rfl rfl ?_)
    exact s0 (Wk.to (eC rfl eN) (mC rfl mN) rfl (prK rfl))
  obtain ⟨x2, hx2, h⟩ := bindS h
  refine LH.seqJM mixed [] [0, 0, 0, 1, 0, 0, 0, 1, 0, 0, 0, 0] [(2, .int .i64 x2)] [(7, .box [.lst 1 (List.map (LV.int .i64) p0.L), .int .i64 (i64 (p0.At + 1))])] rfl rfl (by kernel_rfl) ?_ ?_
  · refine mN0 (oM (v := (.ptr _ _)) rfl ⟨rfl, ?_⟩)
    refine mN0 (oNC rfl ⟨rfl, ?_⟩)
    refine mN0 (oFa tf53_0 tk28 ts28 rfl rfl ⟨rfl, ?_⟩)
    refine mN1 (oLdP rfl rfl rfl rfl tk28 ta28 ⟨rfl, ?_⟩)
    refine mN0 (oM (v := (.ptr _ _)) rfl ⟨rfl, ?_⟩)
    refine mN0 (oNC rfl ⟨rfl, ?_⟩)
    refine mN0 (oFa tf53_1 tk3 ts3 rfl rfl ⟨rfl, ?_⟩)
    refine mN1 (oLdP rfl rfl rfl rfl tk3 ta3 ⟨rfl, ?_⟩)
    refine mN0 (oSub rfl rfl ⟨rfl, ?_⟩)
    refine mN0 (oIx (f := (LV.int .i64)) te28 tk3 ts3 rfl rfl okI hx2 rfl ⟨rfl, ?_⟩)
    refine mN0 (oLd rfl tk3 ta3 ⟨rfl, ?_⟩)
    refine mN0 (oA (v := (.int _ _)) rfl ⟨rfl, ?_⟩)
    exact m0 (Wk.to (eC rfl eN) (mC rfl mN) rfl (prK rfl))
  refine LH.ret ?_
  obtain rfl := Option.some.inj h
  exact retE (congrArg Array.toList Try.results46) (lrT rfl (lr0 ⟨memN (mC rfl mN), rfl, prK rfl, Sub.rfl⟩))

theorem make_Cut_ok {p0 : Int} {p1 : Int} {r : Int} (h : make_Cut p0 p1 = some r) : LCall Try.prog 26 [.int .i64 p0, .int .i64 p1] (Mem.of []) (.int .i64 r) (Mem.of []) := by
  unfold make_Cut at h
  refine bodyT Try.func26 rfl (by rw [Try.ntmps26]; exact Nat.le_of_ble_eq_true rfl) ?_
  refine LH.wk (Wk.to (el := [(0, .int .i64 p0), (1, .int .i64 p1)]) (ml := []) (eC rfl (eC rfl eN)) mN rfl (prK rfl)) ?_
  refine LH.seqT [(0, .int .i64 p0), (1, .int .i64 p1)] [] rfl ?_ ?_
  · refine sN (oA (v := (.int _ _)) rfl ?_)
    exact s0 (Wk.to (eC rfl (eC rfl eN)) mN rfl (prK rfl))
  refine LH.seq ?_
  refine LH.seqT [(0, .int .i64 p0), (1, .int .i64 p1), (6, .bool (decide (p1 < 1)))] [] rfl ?_ ?_
  · refine sN (oM (v := (.int _ _)) rfl ?_)
    refine sN (oLt rfl rfl ?_)
    exact s0 (Wk.to (eC rfl (eC rfl (eC rfl eN))) mN rfl (prK rfl))
  refine LH.cond (t := (decide (p1 < 1))) rfl (fun hc1 => ?_) (fun hc1 => ?_)
  · replace h := iteT h hc1
    refine LH.seqT [(4, .int .i64 0)] [] rfl ?_ ?_
    · refine sN (oA (v := (.int _ _)) rfl ?_)
      exact s0 (Wk.to (eC rfl eN) mN rfl (prK rfl))
    refine LH.ret ?_
    refine thenR ?_
    obtain rfl := Option.some.inj h
    exact retE (congrArg Array.toList Try.results26) (lrT rfl (lr0 ⟨memN mN, rfl, prK rfl, Sub.rfl⟩))
  replace h := iteF h hc1
  refine LH.skip ?_
  refine thenN ?_
  refine LH.wk (Wk.to (el := [(0, .int .i64 p0), (1, .int .i64 p1)]) (ml := []) (eC rfl (eC rfl eN)) mN rfl (prK rfl)) ?_
  obtain ⟨v2, hv2, h⟩ := bindS h
  refine LH.seqT [(0, .int .i64 v2), (1, .int .i64 p1)] [] rfl ?_ ?_
  · refine sN (oM (v := (.int _ _)) rfl ?_)
    refine sN (oM (v := (.int _ _)) rfl ?_)
    refine sN (oRem rfl rfl hv2 ?_)
    refine sN (oA (v := (.int _ _)) rfl ?_)
    exact s0 (Wk.to (eC rfl (eC rfl eN)) mN rfl (prK rfl))
  refine LH.seq ?_
  refine LH.seqT [(0, .int .i64 v2), (1, .int .i64 p1), (11, .bool (decide (v2 < 0)))] [] rfl ?_ ?_
  · refine sN (oM (v := (.int _ _)) rfl ?_)
    refine sN (oLt rfl rfl ?_)
    exact s0 (Wk.to (eC rfl (eC rfl (eC rfl eN))) mN rfl (prK rfl))
  refine LH.cond (t := (decide (v2 < 0))) rfl (fun hc3 => ?_) (fun hc3 => ?_)
  · replace h := iteT h hc3
    refine LH.loneT [(0, .int .i64 (i64 (v2 + p1)))] [] rfl ?_ ?_
    · refine sN (oM (v := (.int _ _)) rfl ?_)
      refine sN (oM (v := (.int _ _)) rfl ?_)
      refine sN (oAdd rfl rfl ?_)
      refine sN (oA (v := (.int _ _)) rfl ?_)
      exact s0 (Wk.to (eC rfl eN) mN rfl (prK rfl))
    refine thenN ?_
    refine LH.seqT [(4, .int .i64 (i64 (v2 + p1)))] [] rfl ?_ ?_
    · refine sN (oM (v := (.int _ _)) rfl ?_)
      refine sN (oA (v := (.int _ _)) rfl ?_)
      exact s0 (Wk.to (eC rfl eN) mN rfl (prK rfl))
    refine LH.ret ?_
    obtain rfl := Option.some.inj h
    exact retE (congrArg Array.toList Try.results26) (lrT rfl (lr0 ⟨memN mN, rfl, prK rfl, Sub.rfl⟩))
  replace h := iteF h hc3
  refine LH.skip ?_
  refine thenN ?_
  refine LH.wk (Wk.to (el := [(0, .int .i64 v2)]) (ml := []) (eC rfl eN) mN rfl (prK rfl)) ?_
  refine LH.seqT [(4, .int .i64 v2)] [] rfl ?_ ?_
  · refine sN (oM (v := (.int _ _)) rfl ?_)
    refine sN (oA (v := (.int _ _)) rfl ?_)
    exact s0 (Wk.to (eC rfl eN) mN rfl (prK rfl))
  refine LH.ret ?_
  obtain rfl := Option.some.inj h
  exact retE (congrArg Array.toList Try.results26) (lrT rfl (lr0 ⟨memN mN, rfl, prK rfl, Sub.rfl⟩))

theorem GTape_Next_ok {p0 : GTape} {p1 : Int} {r : Int × GTape} (h : GTape_Next p0 p1 = some r) : LCall Try.prog 36 [.ptr 7 0, .int .i64 p1] (Mem.of [(7, .box [.lst 1 (List.map (LV.int .i64) p0.L), .int .i64 p0.At])]) (.int .i64 r.1) (Mem.of [(7, .box [.lst 1 (List.map (LV.int .i64) r.2.L), .int .i64 r.2.At])]) := by
  unfold GTape_Next at h
  refine bodyT Try.func36 rfl (by rw [Try.ntmps36]; exact Nat.le_of_ble_eq_true rfl) ?_
  refine LH.wk (Wk.to (el := [(0, .ptr 7 0), (1, .int .i64 p1)]) (ml := [(7, .box [.lst 1 (List.map (LV.int .i64) p0.L), .int .i64 p0.At])]) (eC rfl (eC rfl eN)) (mC rfl mN) rfl (prK rfl)) ?_
  refine LH.seqT [(0, .ptr 7 0), (1, .int .i64 p1)] [(7, .box [.lst 1 (List.map (LV.int .i64) p0.L), .int .i64 p0.At])] rfl ?_ ?_
  · refine sN (oA (v := (.int _ _)) rfl ?_)
    exact s0 (Wk.to (eC rfl (eC rfl eN)) (mC rfl mN) rfl (prK rfl))
  obtain ⟨r1, hr1, h⟩ := bindS h
  obtain ⟨r2, hr2, h⟩ := bindS h
  refine LH.seqT [(4, .int .i64 r2)] [(7, .box [.lst 1 (List.map (LV.int .i64) r1.2.L), .int .i64 r1.2.At])] rfl ?_ ?_
  · refine sN (oM (v := (.ptr _ _)) rfl ?_)
    refine sN (oCM (args := [.ptr 7 0]) (ml := [(7, .box [.lst 1 (List.map (LV.int .i64) p0.L), .int .i64 p0.At])]) (ml' := [(7, .box [.lst 1 (List.map (LV.int .i64) r1.2.L), .int .i64 r1.2.At])]) rfl isF46 rfl (sbR sbN) (GTape_Raw_ok hr1) (mC rfl mN) (newI rfl newN) rfl ?_)
    refine sN (oM (v := (.int _ _)) rfl ?_)
    refine sN (oCP (args := [.int .i64 r1.1, .int .i64 p1]) rfl isF26 rfl (sbR (sbR sbN)) (make_Cut_ok hr2) rfl ?_)
    refine sN (oA (v := (.int _ _)) rfl ?_)
    exact s0 (Wk.to (eC rfl eN) (mC rfl mN) rfl (prK rfl))
  refine LH.ret ?_
  obtain rfl := Option.some.inj h
  exact retE (congrArg Array.toList Try.results36) (lrT rfl (lr0 ⟨memN (mC rfl mN), rfl, prK rfl, Sub.rfl⟩))

theorem GTape_Range_ok {p0 : GTape} {p1 : Int} {p2 : Int} {r : Int × GTape} (h : GTape_Range p0 p1 p2 = some r) : LCall Try.prog 23 [.ptr 7 0, .int .i64 p1, .int .i64 p2] (Mem.of [(7, .box [.lst 1 (List.map (LV.int .i64) p0.L), .int .i64 p0.At])]) (.int .i64 r.1) (Mem.of [(7, .box [.lst 1 (List.map (LV.int .i64) r.2.L), .int .i64 r.2.At])]) := by
  unfold GTape_Range at h
  refine bodyT Try.func23 rfl (by rw [Try.ntmps23]; exact Nat.le_of_ble_eq_true rfl) ?_
  refine LH.wk (Wk.to (el := [(0, .ptr 7 0), (1, .int .i64 p1), (2, .int .i64 p2)]) (ml := [(7, .box [.lst 1 (List.map (LV.int .i64) p0.L), .int .i64 p0.At])]) (eC rfl (eC rfl (eC rfl eN))) (mC rfl mN) rfl (prK rfl)) ?_
  refine LH.seqT [(0, .ptr 7 0), (1, .int .i64 p1), (2, .int .i64 p2)] [(7, .box [.lst 1 (List.map (LV.int .i64) p0.L), .int .i64 p0.At])] rfl ?_ ?_
  · refine sN (oA (v := (.int _ _)) rfl ?_)
    exact s0 (Wk.to (eC rfl (eC rfl (eC rfl eN))) (mC rfl mN) rfl (prK rfl))
  obtain ⟨r1, hr1, h⟩ := bindS h
  refine LH.seqT [(6, .int .i64 (i64 (p1 + r1.1)))] [(7, .box [.lst 1 (List.map (LV.int .i64) r1.2.L), .int .i64 r1.2.At])] rfl ?_ ?_
  · refine sN (oM (v := (.int _ _)) rfl ?_)
    refine sN (oM (v := (.ptr _ _)) rfl ?_)
    refine sN (oM (v := (.int _ _)) rfl ?_)
    refine sN (oM (v := (.int _ _)) rfl ?_)
    refine sN (oSub rfl rfl ?_)
    refine sN (oAdd rfl rfl ?_)
    refine sN (oCM (args := [.ptr 7 0, .int .i64 (i64 ((i64 (p2 - p1)) + 1))]) (ml := [(7, .box [.lst 1 (List.map (LV.int .i64) p0.L), .int .i64 p0.At])]) (ml' := [(7, .box [.lst 1 (List.map (LV.int .i64) r1.2.L), .int .i64 r1.2.At])]) rfl isF36 rfl (sbR (sbR sbN)) (GTape_Next_ok hr1) (mC rfl mN) (newI rfl newN) rfl ?_)
    refine sN (oAdd rfl rfl ?_)
    refine sN (oA (v := (.int _ _)) rfl ?_)
    exact s0 (Wk.to (eC rfl eN) (mC rfl mN) rfl (prK rfl))
  refine LH.ret ?_
  obtain rfl := Option.some.inj h
  exact retE (congrArg Array.toList Try.results23) (lrT rfl (lr0 ⟨memN (mC rfl mN), rfl, prK rfl, Sub.rfl⟩))

theorem GTape_One_ok {p0 : GTape} {p1 : Int} {r : Bool × GTape} (h : GTape_One p0 p1 = some r) : LCall Try.prog 19 [.ptr 7 0, .int .i64 p1] (Mem.of [(7, .box [.lst 1 (List.map (LV.int .i64) p0.L), .int .i64 p0.At])]) (.bool r.1) (Mem.of [(7, .box [.lst 1 (List.map (LV.int .i64) r.2.L), .int .i64 r.2.At])]) := by
  unfold GTape_One at h
  refine bodyT Try.func19 rfl (by rw [Try.ntmps19]; exact Nat.le_of_ble_eq_true rfl) ?_
  refine LH.wk (Wk.to (el := [(0, .ptr 7 0), (1, .int .i64 p1)]) (ml := [(7, .box [.lst 1 (List.map (LV.int .i64) p0.L), .int .i64 p0.At])]) (eC rfl (eC rfl eN)) (mC rfl mN) rfl (prK rfl)) ?_
  refine LH.seqT [(0, .ptr 7 0), (1, .int .i64 p1)] [(7, .box [.lst 1 (List.map (LV.int .i64) p0.L), .int .i64 p0.At])] rfl ?_ ?_
  · refine sN (oA (v := (.bool _)) rfl ?_)
    exact s0 (Wk.to (eC rfl (eC rfl eN)) (mC rfl mN) rfl (prK rfl))
  obtain ⟨r1, hr1, h⟩ := bindS h
  refine LH.seqT [(4, .bool (r1.1 == (i64 (p1 - 1))))] [(7, .box [.lst 1 (List.map (LV.int .i64) r1.2.L), .int .i64 r1.2.At])] rfl ?_ ?_
  · refine sN (oM (v := (.ptr _ _)) rfl ?_)
    refine sN (oM (v := (.int _ _)) rfl ?_)
    refine sN (oCM (args := [.ptr 7 0, .int .i64 p1]) (ml := [(7, .box [.lst 1 (List.map (LV.int .i64) p0.L), .int .i64 p0.At])]) (ml' := [(7, .box [.lst 1 (List.map (LV.int .i64) r1.2.L), .int .i64 r1.2.At])]) rfl isF36 rfl (sbR (sbR sbN)) (GTape_Next_ok hr1) (mC rfl mN) (newI rfl newN) rfl ?_)
    refine sN (oM (v := (.int _ _)) rfl ?_)
    refine sN (oSub rfl rfl ?_)
    refine sN (oEq rfl rfl ?_)
    refine sN (oA (v := (.bool _)) rfl ?_)
    exact s0 (Wk.to (eC rfl eN) (mC rfl mN) rfl (prK rfl))
  refine LH.ret ?_
  obtain rfl := Option.some.inj h
  exact retE (congrArg Array.toList Try.results19) (lrT rfl (lr0 ⟨memN (mC rfl mN), rfl, prK rfl, Sub.rfl⟩))

theorem GTape_Pick_ok {p0 : GTape} {p1 : List Int} {r : Int × GTape} (h : GTape_Pick p0 p1 = some r) : LCall Try.prog 51 [.ptr 7 0, .lst 1 (List.map (LV.int .i64) p1)] (Mem.of [(7, .box [.lst 1 (List.map (LV.int .i64) p0.L), .int .i64 p0.At])]) (.int .i64 r.1) (Mem.of [(7, .box [.lst 1 (List.map (LV.int .i64) r.2.L), .int .i64 r.2.At])]) := by
  unfold GTape_Pick at h
  refine bodyT Try.func51 rfl (by rw [Try.ntmps51]; exact Nat.le_of_ble_eq_true rfl) ?_
  refine LH.wk (Wk.to (el := [(0, .ptr 7 0), (1, .lst 1 (List.map (LV.int .i64) p1))]) (ml := [(7, .box [.lst 1 (List.map (LV.int .i64) p0.L), .int .i64 p0.At])]) (eC rfl (eC rfl eN)) (mC rfl mN) rfl (prK rfl)) ?_
  refine LH.seqT [(0, .ptr 7 0), (1, .lst 1 (List.map (LV.int .i64) p1))] [(7, .box [.lst 1 (List.map (LV.int .i64) p0.L), .int .i64 p0.At])] rfl ?_ ?_
  · refine sN (oA (v := (.int _ _)) rfl ?_)
    exact s0 (Wk.to (eC rfl (eC rfl eN)) (mC rfl mN) rfl (prK rfl))
  obtain ⟨r1, hr1, h⟩ := bindS h
  obtain ⟨x2, hx2, h⟩ := bindS h
  refine LH.seqT [(4, .int .i64 x2)] [(7, .box [.lst 1 (List.map (LV.int .i64) r1.2.L), .int .i64 r1.2.At])] rfl ?_ ?_
  · refine sN (oM (v := (.lst _ _)) rfl ?_)
    refine sN (oM (v := (.ptr _ _)) rfl ?_)
    refine sN (oM (v := (.lst _ _)) rfl ?_)
    refine sN (oLnL (f := (LV.int .i64)) te28 rfl ?_)
    refine sN (oCM (args := [.ptr 7 0, .int .i64 (p1.length : Int)]) (ml := [(7, .box [.lst 1 (List.map (LV.int .i64) p0.L), .int .i64 p0.At])]) (ml' := [(7, .box [.lst 1 (List.map (LV.int .i64) r1.2.L), .int .i64 r1.2.At])]) rfl isF36 rfl (sbR (sbR sbN)) (GTape_Next_ok hr1) (mC rfl mN) (newI rfl newN) rfl ?_)
    refine sN (oIx (f := (LV.int .i64)) te28 tk3 ts3 rfl rfl okI hx2 rfl ?_)
    refine sN (oLd rfl tk3 ta3 ?_)
    refine sN (oA (v := (.int _ _)) rfl ?_)
    exact s0 (Wk.to (eC rfl eN) (mC rfl mN) rfl (prK rfl))
  refine LH.ret ?_
  obtain rfl := Option.some.inj h
  exact retE (congrArg Array.toList Try.results51) (lrT rfl (lr0 ⟨memN (mC rfl mN), rfl, prK rfl, Sub.rfl⟩))

theorem GTape_Wild_ok {p0 : GTape} {r : Int × GTape} (h : GTape_Wild p0 = some r) : LCall Try.prog 45 [.ptr 7 0] (Mem.of [(7, .box [.lst 1 (List.map (LV.int .i64) p0.L), .int .i64 p0.At])]) (.int .i64 r.1) (Mem.of [(7, .box [.lst 1 (List.map (LV.int .i64) r.2.L), .int .i64 r.2.At])]) := by
  unfold GTape_Wild at h
  refine bodyT Try.func45 rfl (by rw [Try.ntmps45]; exact Nat.le_of_ble_eq_true rfl) ?_
  refine LH.wk (Wk.to (el := [(0, .ptr 7 0)]) (ml := [(7, .box [.lst 1 (List.map (LV.int .i64) p0.L), .int .i64 p0.At])]) (eC rfl eN) (mC rfl mN) rfl (prK rfl)) ?_
  refine LH.seqT [(0, .ptr 7 0)] [(7, .box [.lst 1 (List.map (LV.int .i64) p0.L), .int .i64 p0.At])] rfl ?_ ?_
  · refine sN (oA (v := (.int _ _)) rfl ?_)
    exact s0 (Wk.to (eC rfl eN) (mC rfl mN) rfl (prK rfl))
  obtain ⟨r1, hr1, h⟩ := bindS h
  refine LH.seqT [(2, .int .i64 r1.1)] [(7, .box [.lst 1 (List.map (LV.int .i64) r1.2.L), .int .i64 r1.2.At])] rfl ?_ ?_
  · refine sN (oM (v := (.ptr _ _)) rfl ?_)
    refine sN (oBS (f := (LV.int .i64)) (ys := [(-1), 0, 1, 2, 31, 32, 99, 100, 200, 201, 9999, 10000, 1000000, 1000001, 1152921504606846976, 1152921504606846977, (-1152921504606846976), 9223372036854775807, (-9223372036854775808)]) te28 tr3 ts3 rfl rfl rfl okI ?_)
    refine sN (oCM (args := [.ptr 7 0, .lst 1 (List.map (LV.int .i64) [(-1), 0, 1, 2, 31, 32, 99, 100, 200, 201, 9999, 10000, 1000000, 1000001, 1152921504606846976, 1152921504606846977, (-1152921504606846976), 9223372036854775807, (-9223372036854775808)])]) (ml := [(7, .box [.lst 1 (List.map (LV.int .i64) p0.L), .int .i64 p0.At])]) (ml' := [(7, .box [.lst 1 (List.map (LV.int .i64) r1.2.L), .int .i64 r1.2.At])]) rfl isF51 rfl (sbR (sbR sbN)) (GTape_Pick_ok hr1) (mC rfl mN) (newI rfl newN) rfl ?_)
    refine sN (oA (v := (.int _ _)) rfl ?_)
    exact s0 (Wk.to (eC rfl eN) (mC rfl mN) rfl (prK rfl))
  refine LH.ret ?_
  obtain rfl := Option.some.inj h
  exact retE (congrArg Array.toList Try.results45) (lrT rfl (lr0 ⟨memN (mC rfl mN), rfl, prK rfl, Sub.rfl⟩))

theorem GTape_Stamp_ok {p0 : GTape} {p1 : Int} {r : GStamp × GTape} (h : GTape_Stamp p0 p1 = some r) : LCall Try.prog 35 [.ptr 7 0, .int .i64 p1] (Mem.of [(7, .box [.lst 1 (List.map (LV.int .i64) p0.L), .int .i64 p0.At])]) (.agg [.int .i64 r.1.Time, .int .i64 r.1.Source, .int .i64 r.1.Seq]) (Mem.of [(7, .box [.lst 1 (List.map (LV.int .i64) r.2.L), .int .i64 r.2.At])]) := by
  unfold GTape_Stamp at h
  refine bodyT Try.func35 rfl (by rw [Try.ntmps35]; exact Nat.le_of_ble_eq_true rfl) ?_
  refine LH.wk (Wk.to (el := [(0, .ptr 7 0), (1, .int .i64 p1)]) (ml := [(7, .box [.lst 1 (List.map (LV.int .i64) p0.L), .int .i64 p0.At])]) (eC rfl (eC rfl eN)) (mC rfl mN) rfl (prK rfl)) ?_
  refine LH.seqT [(0, .ptr 7 0), (1, .int .i64 p1), (4, .ptr 104 0)] [(7, .box [.lst 1 (List.map (LV.int .i64) p0.L), .int .i64 p0.At]), (104, .box [.int .i64 0, .int .i64 0, .int .i64 0])] rfl ?_ ?_
  · refine sN (oAl (id := 104) rfl tz23 rfl rfl ?_)
    exact s0 (Wk.to (eC rfl (eC rfl (eC rfl eN))) (mC rfl (mC rfl mN)) rfl (prK rfl))
  obtain ⟨r1, hr1, h⟩ := bindS h
  obtain ⟨r2, hr2, h⟩ := bindS h
  obtain ⟨r3, hr3, h⟩ := bindS h
  refine LH.seqT [(0, .ptr 7 0), (1, .int .i64 p1), (4, .ptr 104 0), (5, .ptr 105 0)] [(7, .box [.lst 1 (List.map (LV.int .i64) r3.2.L), .int .i64 r3.2.At]), (104, .box [.int .i64 0, .int .i64 0, .int .i64 0]), (105, .box [.int .i64 r1.1, .int .i64 r2.1, .int .i64 r3.1])] rfl ?_ ?_
  · refine sN (oM (v := (.ptr _ _)) rfl ?_)
    refine sN (oCM (args := [.ptr 7 0, .int .i64 0, .int .i64 24]) (ml := [(7, .box [.lst 1 (List.map (LV.int .i64) p0.L), .int .i64 p0.At])]) (ml' := [(7, .box [.lst 1 (List.map (LV.int .i64) r1.2.L), .int .i64 r1.2.At])]) rfl isF23 rfl (sbR (sbR (sbR sbN))) (GTape_Range_ok hr1) (mC rfl mN) (newI rfl newN) rfl ?_)
    refine sN (oM (v := (.ptr _ _)) rfl ?_)
    refine sN (oCM (args := [.ptr 7 0, .int .i64 0, .int .i64 3]) (ml := [(7, .box [.lst 1 (List.map (LV.int .i64) r1.2.L), .int .i64 r1.2.At])]) (ml' := [(7, .box [.lst 1 (List.map (LV.int .i64) r2.2.L), .int .i64 r2.2.At])]) rfl isF23 rfl (sbR (sbR (sbR sbN))) (GTape_Range_ok hr2) (mC rfl mN) (newI rfl newN) rfl ?_)
    refine sN (oM (v := (.ptr _ _)) rfl ?_)
    refine sN (oCM (args := [.ptr 7 0, .int .i64 0, .int .i64 9]) (ml := [(7, .box [.lst 1 (List.map (LV.int .i64) r2.2.L), .int .i64 r2.2.At])]) (ml' := [(7, .box [.lst 1 (List.map (LV.int .i64) r3.2.L), .int .i64 r3.2.At])]) rfl isF23 rfl (sbR (sbR (sbR sbN))) (GTape_Range_ok hr3) (mC rfl mN) (newI rfl newN) rfl ?_)
    refine sN (oBd (vs := [(0, .int .i64 r1.1), (1, .int .i64 r2.1), (2, .int .i64 r3.1)]) tu23 tz23 rfl (lf tf23_0 ts3 tk3 rfl rfl rfl (lf tf23_1 ts3 tk3 rfl rfl rfl (lf tf23_2 ts3 tk3 rfl rfl rfl lf0))) ?_)
    refine sN (oAl (id := 105) rfl tz23 rfl rfl ?_)
    refine s_ (oSt rfl rfl rfl tk23 ts23 rfl rfl rfl ?_)
    exact s0 (Wk.to (eC rfl (eC rfl (eC rfl (eC rfl eN)))) (mC rfl (mC rfl (mC rfl mN))) rfl (prK rfl))
  refine LH.seq ?_
  obtain ⟨w7, hv, h⟩ := bindS h
  refine LH.seqT [(0, .ptr 7 0), (4, .ptr 104 0), (5, .ptr 105 0), (19, .bool w7.1)] [(7, .box [.lst 1 (List.map (LV.int .i64) w7.2.1), .int .i64 w7.2.2]), (104, .box [.int .i64 0, .int .i64 0, .int .i64 0]), (105, .box [.int .i64 r1.1, .int .i64 r2.1, .int .i64 r3.1])] rfl ?_ ?_
  · refine sN (oM (v := (.int _ _)) rfl ?_)
    refine sN (oGt rfl rfl ?_)
    refine sN (oM (v := (.bool _)) rfl ?_)
    by_cases hb8 : (decide (p1 > 0)) = true
    · replace hv := iteT hv hb8
      refine sT rfl (congrArg LV.bool hb8) (oM (v := (.ptr _ _)) rfl ?_)
      refine sT rfl (congrArg LV.bool hb8) (oM (v := (.int _ _)) rfl ?_)
      obtain ⟨r9, hr9, hv⟩ := bindS hv
      refine sT rfl (congrArg LV.bool hb8) (oCM (args := [.ptr 7 0, .int .i64 p1]) (ml := [(7, .box [.lst 1 (List.map (LV.int .i64) r3.2.L), .int .i64 r3.2.At])]) (ml' := [(7, .box [.lst 1 (List.map (LV.int .i64) r9.2.L), .int .i64 r9.2.At])]) rfl isF19 rfl (sbR (sbR sbN)) (GTape_One_ok hr9) (mC rfl mN) (newI rfl newN) rfl ?_)
      refine sN (oPkT (congrArg LV.bool hb8) (v := (.bool _)) rfl ?_)
      obtain rfl := Option.some.inj hv
      exact s0 (Wk.to (eC rfl (eC rfl (eC rfl (eC rfl eN)))) (mC rfl (mC rfl (mC rfl mN))) rfl (prK rfl))
    · replace hb8 := bF hb8
      replace hv := iteF hv hb8
      refine sF rfl rfl hb8 ?_
      refine sF rfl rfl hb8 ?_
      refine sF rfl rfl hb8 ?_
      refine sN (oPkF (congrArg LV.bool hb8) (v := (.bool _)) rfl ?_)
      obtain rfl := Option.some.inj hv
      exact s0 (Wk.to (eC rfl (eC rfl (eC rfl (eC rfl eN)))) (mC rfl (mC rfl (mC rfl mN))) rfl (prK rfl))
  clear hv
  refine LH.cond (t := w7.1) rfl (fun hc10 => ?_) (fun hc10 => ?_)
  · replace h := iteT h hc10
    obtain ⟨r11, hr11, h⟩ := bindS h
    refine LH.seqT [(0, .ptr 7 0), (4, .ptr 104 0), (5, .ptr 105 0), (21, .int .i64 r11.1)] [(7, .box [.lst 1 (List.map (LV.int .i64) r11.2.L), .int .i64 r11.2.At]), (104, .box [.int .i64 0, .int .i64 0, .int .i64 0]), (105, .box [.int .i64 r1.1, .int .i64 r2.1, .int .i64 r3.1])] rfl ?_ ?_
    · refine sN (oM (v := (.ptr _ _)) rfl ?_)
      refine sN (oCM (args := [.ptr 7 0, .int .i64 3]) (ml := [(7, .box [.lst 1 (List.map (LV.int .i64) w7.2.1), .int .i64 w7.2.2])]) (ml' := [(7, .box [.lst 1 (List.map (LV.int .i64) r11.2.L), .int .i64 r11.2.At])]) rfl isF36 rfl (sbR (sbR sbN)) (GTape_Next_ok hr11) (mC rfl mN) (newI rfl newN) rfl ?_)
      exact s0 (Wk.to (eC rfl (eC rfl (eC rfl (eC rfl eN)))) (mC rfl (mC rfl (mC rfl mN))) rfl (prK rfl))
    refine LH.block ?_
    refine LH.seqT [(0, .ptr 7 0), (4, .ptr 104 0), (5, .ptr 105 0), (21, .int .i64 r11.1), (25, .bool (r11.1 == 0))] [(7, .box [.lst 1 (List.map (LV.int .i64) r11.2.L), .int .i64 r11.2.At]), (104, .box [.int .i64 0, .int .i64 0, .int .i64 0]), (105, .box [.int .i64 r1.1, .int .i64 r2.1, .int .i64 r3.1])] rfl ?_ ?_
    · refine sN (oEq rfl rfl ?_)
      refine sN (oA (v := (.bool _)) rfl ?_)
      exact s0 (Wk.to (eC rfl (eC rfl (eC rfl (eC rfl (eC rfl eN))))) (mC rfl (mC rfl (mC rfl mN))) rfl (prK rfl))
    refine LH.cond (t := (r11.1 == 0)) rfl (fun hc12 => ?_) (fun hc12 => ?_)
    · replace h := iteT h hc12
      obtain ⟨r13, hr13, h⟩ := bindS h
      refine LH.loneT [(4, .ptr 104 0), (5, .sptr [.int .i64 r13.1, .int .i64 r2.1, .int .i64 r3.1])] [(7, .box [.lst 1 (List.map (LV.int .i64) r13.2.L), .int .i64 r13.2.At]), (104, .box [.int .i64 0, .int .i64 0, .int .i64 0])] rfl ?_ ?_
      · refine sN (oM (v := (.ptr _ _)) rfl ?_)
        refine sN (oCM (args := [.ptr 7 0]) (ml := [(7, .box [.lst 1 (List.map (LV.int .i64) r11.2.L), .int .i64 r11.2.At])]) (ml' := [(7, .box [.lst 1 (List.map (LV.int .i64) r13.2.L), .int .i64 r13.2.At])]) rfl isF45 rfl (sbR sbN) (GTape_Wild_ok hr13) (mC rfl mN) (newI rfl newN) rfl ?_)
        refine sN (oFa tf23_0 tk3 ts3 rfl rfl ?_)
        refine s_ (oSt rfl rfl rfl tk3 ts3 rfl rfl rfl ?_)
        exact s0 ((Wk.trans (Wk.to (el := [(4, .ptr 104 0), (5, .ptr 105 0)]) (ml := [(7, .box [.lst 1 (List.map (LV.int .i64) r13.2.L), .int .i64 r13.2.At]), (104, .box [.int .i64 0, .int .i64 0, .int .i64 0]), (105, .box [.int .i64 r13.1, .int .i64 r2.1, .int .i64 r3.1])]) (eC rfl (eC rfl eN)) (mC rfl (mC rfl (mC rfl mN))) rfl (prK rfl)) (Wk.trans (Wk.frzB 105 [.int .i64 r13.1, .int .i64 r2.1, .int .i64 r3.1] rfl rfl rfl (prN rfl)) (Wk.to (eC rfl (eC rfl eN)) (mC rfl (mC rfl mN)) rfl (prK rfl)))))
      refine blockN ?_
      refine thenN ?_
      refine LH.seqT [(4, .sptr [.int .i64 r13.1, .int .i64 r2.1, .int .i64 r3.1])] [(7, .box [.lst 1 (List.map (LV.int .i64) r13.2.L), .int .i64 r13.2.At])] rfl ?_ ?_
      · refine sN (oLdA rfl tk23 ta23 ts23 rfl rfl ?_)
        refine s_ (oSt rfl rfl rfl tk23 ts23 rfl rfl rfl ?_)
        exact s0 ((Wk.trans (Wk.to (el := [(4, .ptr 104 0)]) (ml := [(7, .box [.lst 1 (List.map (LV.int .i64) r13.2.L), .int .i64 r13.2.At]), (104, .box [.int .i64 r13.1, .int .i64 r2.1, .int .i64 r3.1])]) (eC rfl eN) (mC rfl (mC rfl mN)) rfl (prK rfl)) (Wk.trans (Wk.frzB 104 [.int .i64 r13.1, .int .i64 r2.1, .int .i64 r3.1] rfl rfl rfl (prN rfl)) (Wk.to (eC rfl eN) (mC rfl mN) rfl (prK rfl)))))
      refine LH.ret ?_
      obtain rfl := Option.some.inj h
      exact retE (congrArg Array.toList Try.results35) (lrSA rfl tk23 ta23 ts23 rfl rfl (lr0 ⟨memN (mC rfl mN), rfl, prK rfl, Sub.rfl⟩))
    replace h := iteF h hc12
    refine LH.seqT [(0, .ptr 7 0), (4, .ptr 104 0), (5, .ptr 105 0), (30, .bool (r11.1 == 1))] [(7, .box [.lst 1 (List.map (LV.int .i64) r11.2.L), .int .i64 r11.2.At]), (104, .box [.int .i64 0, .int .i64 0, .int .i64 0]), (105, .box [.int .i64 r1.1, .int .i64 r2.1, .int .i64 r3.1])] rfl ?_ ?_
    · refine sN (oEq rfl rfl ?_)
      refine sN (oA (v := (.bool _)) rfl ?_)
      exact s0 (Wk.to (eC rfl (eC rfl (eC rfl (eC rfl eN)))) (mC rfl (mC rfl (mC rfl mN))) rfl (prK rfl))
    refine LH.cond (t := (r11.1 == 1)) rfl (fun hc14 => ?_) (fun hc14 => ?_)
    · replace h := iteT h hc14
      obtain ⟨r15, hr15, h⟩ := bindS h
      refine LH.loneT [(4, .ptr 104 0), (5, .sptr [.int .i64 r1.1, .int .i64 r15.1, .int .i64 r3.1])] [(7, .box [.lst 1 (List.map (LV.int .i64) r15.2.L), .int .i64 r15.2.At]), (104, .box [.int .i64 0, .int .i64 0, .int .i64 0])] rfl ?_ ?_
      · refine sN (oM (v := (.ptr _ _)) rfl ?_)
        refine sN (oCM (args := [.ptr 7 0]) (ml := [(7, .box [.lst 1 (List.map (LV.int .i64) r11.2.L), .int .i64 r11.2.At])]) (ml' := [(7, .box [.lst 1 (List.map (LV.int .i64) r15.2.L), .int .i64 r15.2.At])]) rfl isF45 rfl (sbR sbN) (GTape_Wild_ok hr15) (mC rfl mN) (newI rfl newN) rfl ?_)
        refine sN (oFa tf23_1 tk3 ts3 rfl rfl ?_)
        refine s_ (oSt rfl rfl rfl tk3 ts3 rfl rfl rfl ?_)
        exact s0 ((Wk.trans (Wk.to (el := [(4, .ptr 104 0), (5, .ptr 105 0)]) (ml := [(7, .box [.lst 1 (List.map (LV.int .i64) r15.2.L), .int .i64 r15.2.At]), (104, .box [.int .i64 0, .int .i64 0, .int .i64 0]), (105, .box [.int .i64 r1.1, .int .i64 r15.1, .int .i64 r3.1])]) (eC rfl (eC rfl eN)) (mC rfl (mC rfl (mC rfl mN))) rfl (prK rfl)) (Wk.trans (Wk.frzB 105 [.int .i64 r1.1, .int .i64 r15.1, .int .i64 r3.1] rfl rfl rfl (prN rfl)) (Wk.to (eC rfl (eC rfl eN)) (mC rfl (mC rfl mN)) rfl (prK rfl)))))
      refine blockN ?_
      refine thenN ?_
      refine LH.seqT [(4, .sptr [.int .i64 r1.1, .int .i64 r15.1, .int .i64 r3.1])] [(7, .box [.lst 1 (List.map (LV.int .i64) r15.2.L), .int .i64 r15.2.At])] rfl ?_ ?_
      · refine sN (oLdA rfl tk23 ta23 ts23 rfl rfl ?_)
        refine s_ (oSt rfl rfl rfl tk23 ts23 rfl rfl rfl ?_)
        exact s0 ((Wk.trans (Wk.to (el := [(4, .ptr 104 0)]) (ml := [(7, .box [.lst 1 (List.map (LV.int .i64) r15.2.L), .int .i64 r15.2.At]), (104, .box [.int .i64 r1.1, .int .i64 r15.1, .int .i64 r3.1])]) (eC rfl eN) (mC rfl (mC rfl mN)) rfl (prK rfl)) (Wk.trans (Wk.frzB 104 [.int .i64 r1.1, .int .i64 r15.1, .int .i64 r3.1] rfl rfl rfl (prN rfl)) (Wk.to (eC rfl eN) (mC rfl mN) rfl (prK rfl)))))
      refine LH.ret ?_
      obtain rfl := Option.some.inj h
      exact retE (congrArg Array.toList Try.results35) (lrSA rfl tk23 ta23 ts23 rfl rfl (lr0 ⟨memN (mC rfl mN), rfl, prK rfl, Sub.rfl⟩))
    replace h := iteF h hc14
    obtain ⟨r16, hr16, h⟩ := bindS h
    refine LH.loneT [(4, .ptr 104 0), (5, .sptr [.int .i64 r1.1, .int .i64 r2.1, .int .i64 r16.1])] [(7, .box [.lst 1 (List.map (LV.int .i64) r16.2.L), .int .i64 r16.2.At]), (104, .box [.int .i64 0, .int .i64 0, .int .i64 0])] rfl ?_ ?_
    · refine sN (oM (v := (.ptr _ _)) rfl ?_)
      refine sN (oCM (args := [.ptr 7 0]) (ml := [(7, .box [.lst 1 (List.map (LV.int .i64) r11.2.L), .int .i64 r11.2.At])]) (ml' := [(7, .box [.lst 1 (List.map (LV.int .i64) r16.2.L), .int .i64 r16.2.At])]) rfl isF45 rfl (sbR sbN) (GTape_Wild_ok hr16) (mC rfl mN) (newI rfl newN) rfl ?_)
      refine sN (oFa tf23_2 tk3 ts3 rfl rfl ?_)
      refine s_ (oSt rfl rfl rfl tk3 ts3 rfl rfl rfl ?_)
      exact s0 ((Wk.trans (Wk.to (el := [(4, .ptr 104 0), (5, .ptr 105 0)]) (ml := [(7, .box [.lst 1 (List.map (LV.int .i64) r16.2.L), .int .i64 r16.2.At]), (104, .box [.int .i64 0, .int .i64 0, .int .i64 0]), (105, .box [.int .i64 r1.1, .int .i64 r2.1, .int .i64 r16.1])]) (eC rfl (eC rfl eN)) (mC rfl (mC rfl (mC rfl mN))) rfl (prK rfl)) (Wk.trans (Wk.frzB 105 [.int .i64 r1.1, .int .i64 r2.1, .int .i64 r16.1] rfl rfl rfl (prN rfl)) (Wk.to (eC rfl (eC rfl eN)) (mC rfl (mC rfl mN)) rfl (prK rfl)))))
    refine blockN ?_
    refine thenN ?_
    refine LH.seqT [(4, .sptr [.int .i64 r1.1, .int .i64 r2.1, .int .i64 r16.1])] [(7, .box [.lst 1 (List.map (LV.int .i64) r16.2.L), .int .i64 r16.2.At])] rfl ?_ ?_
    · refine sN (oLdA rfl tk23 ta23 ts23 rfl rfl ?_)
      refine s_ (oSt rfl rfl rfl tk23 ts23 rfl rfl rfl ?_)
      exact s0 ((Wk.trans (Wk.to (el := [(4, .ptr 104 0)]) (ml := [(7, .box [.lst 1 (List.map (LV.int .i64) r16.2.L), .int .i64 r16.2.At]), (104, .box [.int .i64 r1.1, .int .i64 r2.1, .int .i64 r16.1])]) (eC rfl eN) (mC rfl (mC rfl mN)) rfl (prK rfl)) (Wk.trans (Wk.frzB 104 [.int .i64 r1.1, .int .i64 r2.1, .int .i64 r16.1] rfl rfl rfl (prN rfl)) (Wk.to (eC rfl eN) (mC rfl mN) rfl (prK rfl)))))
    refine LH.ret ?_
    obtain rfl := Option.some.inj h
    exact retE (congrArg Array.toList Try.results35) (lrSA rfl tk23 ta23 ts23 rfl rfl (lr0 ⟨memN (mC rfl mN), rfl, prK rfl, Sub.rfl⟩))
  replace h := iteF h hc10
  refine LH.skip ?_
  refine thenN ?_
  refine LH.wk ((Wk.trans (Wk.to (el := [(4, .ptr 104 0), (5, .ptr 105 0)]) (ml := [(7, .box [.lst 1 (List.map (LV.int .i64) w7.2.1), .int .i64 w7.2.2]), (104, .box [.int .i64 0, .int .i64 0, .int .i64 0]), (105, .box [.int .i64 r1.1, .int .i64 r2.1, .int .i64 r3.1])]) (eC rfl (eC rfl eN)) (mC rfl (mC rfl (mC rfl mN))) rfl (prK rfl)) (Wk.trans (Wk.frzB 105 [.int .i64 r1.1, .int .i64 r2.1, .int .i64 r3.1] rfl rfl rfl (prN rfl)) (Wk.to (el := [(4, .ptr 104 0), (5, .sptr [.int .i64 r1.1, .int .i64 r2.1, .int .i64 r3.1])]) (ml := [(7, .box [.lst 1 (List.map (LV.int .i64) w7.2.1), .int .i64 w7.2.2]), (104, .box [.int .i64 0, .int .i64 0, .int .i64 0])]) (eC rfl (eC rfl eN)) (mC rfl (mC rfl mN)) rfl (prK rfl))))) ?_
  refine LH.seqT [(4, .sptr [.int .i64 r1.1, .int .i64 r2.1, .int .i64 r3.1])] [(7, .box [.lst 1 (List.map (LV.int .i64) w7.2.1), .int .i64 w7.2.2])] rfl ?_ ?_
  · refine sN (oLdA rfl tk23 ta23 ts23 rfl rfl ?_)
    refine s_ (oSt rfl rfl rfl tk23 ts23 rfl rfl rfl ?_)
    exact s0 ((Wk.trans (Wk.to (el := [(4, .ptr 104 0)]) (ml := [(7, .box [.lst 1 (List.map (LV.int .i64) w7.2.1), .int .i64 w7.2.2]), (104, .box [.int .i64 r1.1, .int .i64 r2.1, .int .i64 r3.1])]) (eC rfl eN) (mC rfl (mC rfl mN)) rfl (prK rfl)) (Wk.trans (Wk.frzB 104 [.int .i64 r1.1, .int .i64 r2.1, .int .i64 r3.1] rfl rfl rfl (prN rfl)) (Wk.to (eC rfl eN) (mC rfl mN) rfl (prK rfl)))))
  refine LH.ret ?_
  obtain rfl := Option.some.inj h
  exact retE (congrArg Array.toList Try.results35) (lrSA rfl tk23 ta23 ts23 rfl rfl (lr0 ⟨memN (mC rfl mN), rfl, prK rfl, Sub.rfl⟩))

end Go.Proofs.Ytdkhlkihhdjbbaa
