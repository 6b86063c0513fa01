/- Walks, printed by program (gen.py): each function computes its plain function. -/
import Derived.Test.YtkkhmngmhckgbaaW3
set_option linter.unusedVariables false
set_option linter.unusedSimpArgs false
set_option maxRecDepth 100000
namespace Go.Proofs.Ytkkhmngmhckgbaa
open Go.L Go.Sh
theorem law13_EntryFolds_ok {F : Nat} {p0 : List Int} {p1 : Int} {r : Bool} (h : law13_EntryFolds F p0 p1 = some r) : LCall Try.prog 4 [.lst 1 (List.map (LV.int .i64) p0), .int .i64 p1] (Mem.of []) (.bool r) (Mem.of []) := by
  unfold law13_EntryFolds at h
  refine bodyT Try.func4 rfl (by rw [Try.ntmps4]; exact Nat.le_of_ble_eq_true rfl) ?_
  refine LH.wk (Wk.to (el := [(0, .lst 1 (List.map (LV.int .i64) p0)), (1, .int .i64 p1)]) (ml := []) (eC rfl (eC rfl eN)) mN rfl (prK rfl)) ?_
  refine LH.seqT [(0, .lst 1 (List.map (LV.int .i64) p0)), (1, .int .i64 p1)] [] rfl ?_ ?_
  · refine sN (oA (v := (.bool _)) rfl ?_)
    exact s0 (Wk.to (eC rfl (eC rfl eN)) mN rfl (prK rfl))
  obtain ⟨r1, hr1, h⟩ := bindS h
  refine LH.seqT [(1, .int .i64 p1), (5, .ptr 7 0)] [(7, .box [.lst 1 (List.map (LV.int .i64) r1.L), .int .i64 r1.At])] rfl ?_ ?_
  · refine sN (oM (v := (.lst _ _)) rfl ?_)
    refine sN (oCM (args := [.lst 1 (List.map (LV.int .i64) p0)]) (ml := []) (ml' := [(7, .box [.lst 1 (List.map (LV.int .i64) r1.L), .int .i64 r1.At])]) rfl isF12 rfl (sbR sbN) (make_New_ok hr1) mN (newF rfl newN) rfl ?_)
    refine sN (oA (v := (.ptr _ _)) rfl ?_)
    exact s0 (Wk.to (eC rfl (eC rfl eN)) (mC rfl mN) rfl (prK rfl))
  obtain ⟨r2, hr2, h⟩ := bindS h
  refine LH.seqT [(1, .int .i64 p1), (5, .ptr 7 0), (6, .sptr [.int .i64 r2.1.Close, .int .i64 r2.1.Late])] [(7, .box [.lst 1 (List.map (LV.int .i64) r2.2.L), .int .i64 r2.2.At])] rfl ?_ ?_
  · refine sN (oM (v := (.ptr _ _)) rfl ?_)
    refine sN (oCM (args := [.ptr 7 0, .int .i64 12]) (ml := [(7, .box [.lst 1 (List.map (LV.int .i64) r1.L), .int .i64 r1.At])]) (ml' := [(7, .box [.lst 1 (List.map (LV.int .i64) r2.2.L), .int .i64 r2.2.At])]) rfl isF19 rfl (sbR (sbR sbN)) (GTape_Deadlines_ok hr2) (mC rfl mN) (newI rfl newN) rfl ?_)
    refine sN (oAl (id := 106) rfl tz41 rfl rfl ?_)
    refine s_ (oSt rfl rfl rfl tk41 ts41 rfl rfl rfl ?_)
    exact s0 ((Wk.trans (Wk.to (el := [(1, .int .i64 p1), (5, .ptr 7 0), (6, .ptr 106 0)]) (ml := [(7, .box [.lst 1 (List.map (LV.int .i64) r2.2.L), .int .i64 r2.2.At]), (106, .box [.int .i64 r2.1.Close, .int .i64 r2.1.Late])]) (eC rfl (eC rfl (eC rfl eN))) (mC rfl (mC rfl mN)) rfl (prK rfl)) (Wk.trans (Wk.frzB 106 [.int .i64 r2.1.Close, .int .i64 r2.1.Late] rfl rfl rfl (prN rfl)) (Wk.to (eC rfl (eC rfl (eC rfl eN))) (mC rfl mN) rfl (prK rfl)))))
  obtain ⟨r3, hr3, h⟩ := bindS h
  refine LH.seqT [(1, .int .i64 p1), (5, .ptr 7 0), (6, .sptr [.int .i64 r2.1.Close, .int .i64 r2.1.Late]), (7, .lst 8 (List.map GEntryEvent.lv r3.1))] [(7, .box [.lst 1 (List.map (LV.int .i64) r3.2.L), .int .i64 r3.2.At])] rfl ?_ ?_
  · refine sN (oM (v := (.ptr _ _)) rfl ?_)
    refine sN (oCM (args := [.ptr 7 0, .int .i64 14, .int .i64 5]) (ml := [(7, .box [.lst 1 (List.map (LV.int .i64) r2.2.L), .int .i64 r2.2.At])]) (ml' := [(7, .box [.lst 1 (List.map (LV.int .i64) r3.2.L), .int .i64 r3.2.At])]) rfl isF13 rfl (sbR (sbR (sbR sbN))) (GTape_EntryEvents_ok hr3) (mC rfl mN) (newI rfl newN) rfl ?_)
    refine sN (oA (v := (.lst _ _)) rfl ?_)
    exact s0 (Wk.to (eC rfl (eC rfl (eC rfl (eC rfl eN)))) (mC rfl mN) rfl (prK rfl))
  obtain ⟨r4, hr4, h⟩ := bindS h
  refine LH.seqT [(1, .int .i64 p1), (6, .sptr [.int .i64 r2.1.Close, .int .i64 r2.1.Late]), (7, .lst 8 (List.map GEntryEvent.lv r3.1)), (8, .int .i64 r4.1)] [] rfl ?_ ?_
  · refine sN (oM (v := (.ptr _ _)) rfl ?_)
    refine sN (oCM (args := [.ptr 7 0, .int .i64 0, .int .i64 30]) (ml := [(7, .box [.lst 1 (List.map (LV.int .i64) r3.2.L), .int .i64 r3.2.At])]) (ml' := [(7, .box [.lst 1 (List.map (LV.int .i64) r4.2.L), .int .i64 r4.2.At])]) rfl isF20 rfl (sbR (sbR (sbR sbN))) (GTape_Range_ok hr4) (mC rfl mN) (newI rfl newN) rfl ?_)
    refine sN (oA (v := (.int _ _)) rfl ?_)
    exact s0 (Wk.to (eC rfl (eC rfl (eC rfl (eC rfl eN)))) mN rfl (prK rfl))
  obtain ⟨r5, hr5, h⟩ := bindS h
  refine LH.seqT [(1, .int .i64 p1), (6, .sptr [.int .i64 r2.1.Close, .int .i64 r2.1.Late]), (7, .lst 8 (List.map GEntryEvent.lv r3.1)), (8, .int .i64 r4.1), (9, .lst 4 (List.map GEnrolment.lv r5.1)), (10, .lst 3 (List.map GRefusal.lv r5.2.1)), (11, .int .i64 r5.2.2)] [] rfl ?_ ?_
  · refine sN (oM (v := (.lst _ _)) rfl ?_)
    refine sN (oLdA rfl tk41 ta41 ts41 rfl rfl ?_)
    refine sN (oM (v := (.int _ _)) rfl ?_)
    refine sN (oCP (args := [.lst 8 (List.map GEntryEvent.lv r3.1), .agg [.int .i64 r2.1.Close, .int .i64 r2.1.Late], .int .i64 p1]) rfl isF21 rfl (sbR (sbR (sbR sbN))) (entry_Fold_ok hr5) rfl ?_)
    refine sN (oM (v := (.tup _)) rfl ?_)
    refine sN (oEx rfl rfl ?_)
    refine sN (oEx rfl rfl ?_)
    refine sN (oEx rfl rfl ?_)
    refine sN (oA (v := (.lst _ _)) rfl ?_)
    refine sN (oA (v := (.lst _ _)) rfl ?_)
    refine sN (oA (v := (.int _ _)) rfl ?_)
    exact s0 (Wk.to (eC rfl (eC rfl (eC rfl (eC rfl (eC rfl (eC rfl (eC rfl eN))))))) mN rfl (prK rfl))
  obtain ⟨r6, hr6, h⟩ := bindS h
  refine LH.seqT [(6, .sptr [.int .i64 r2.1.Close, .int .i64 r2.1.Late]), (7, .lst 8 (List.map GEntryEvent.lv r3.1)), (8, .int .i64 r4.1), (9, .lst 4 (List.map GEnrolment.lv r5.1)), (10, .lst 3 (List.map GRefusal.lv r5.2.1)), (11, .int .i64 r5.2.2), (12, .lst 4 (List.map GEnrolment.lv r6.1)), (13, .lst 3 (List.map GRefusal.lv r6.2.1)), (14, .int .i64 r6.2.2)] [] rfl ?_ ?_
  · refine sN (oM (v := (.lst _ _)) rfl ?_)
    refine sN (oLdA rfl tk41 ta41 ts41 rfl rfl ?_)
    refine sN (oM (v := (.int _ _)) rfl ?_)
    refine sN (oCP (args := [.lst 8 (List.map GEntryEvent.lv r3.1), .agg [.int .i64 r2.1.Close, .int .i64 r2.1.Late], .int .i64 p1]) rfl isF22 rfl (sbR (sbR (sbR sbN))) (ref13_Fold_ok hr6) rfl ?_)
    refine sN (oM (v := (.tup _)) rfl ?_)
    refine sN (oEx rfl rfl ?_)
    refine sN (oEx rfl rfl ?_)
    refine sN (oEx rfl rfl ?_)
    refine sN (oA (v := (.lst _ _)) rfl ?_)
    refine sN (oA (v := (.lst _ _)) rfl ?_)
    refine sN (oA (v := (.int _ _)) rfl ?_)
    exact s0 (Wk.to (eC rfl (eC rfl (eC rfl (eC rfl (eC rfl (eC rfl (eC rfl (eC rfl (eC rfl eN))))))))) mN rfl (prK rfl))
  obtain ⟨r7, hr7, h⟩ := bindS h
  refine LH.seqT [(6, .sptr [.int .i64 r2.1.Close, .int .i64 r2.1.Late]), (7, .lst 8 (List.map GEntryEvent.lv r3.1)), (8, .int .i64 r4.1), (9, .lst 4 (List.map GEnrolment.lv r5.1)), (10, .lst 3 (List.map GRefusal.lv r5.2.1)), (11, .int .i64 r5.2.2), (12, .lst 4 (List.map GEnrolment.lv r6.1)), (13, .lst 3 (List.map GRefusal.lv r6.2.1)), (14, .int .i64 r6.2.2), (15, .lst 4 (List.map GEnrolment.lv r7.1)), (16, .lst 3 (List.map GRefusal.lv r7.2.1)), (17, .int .i64 r7.2.2)] [] rfl ?_ ?_
  · refine sN (oM (v := (.lst _ _)) rfl ?_)
    refine sN (oLdA rfl tk41 ta41 ts41 rfl rfl ?_)
    refine sN (oM (v := (.int _ _)) rfl ?_)
    refine sN (oCP (args := [.lst 8 (List.map GEntryEvent.lv r3.1), .agg [.int .i64 r2.1.Close, .int .i64 r2.1.Late], .int .i64 r4.1]) rfl isF21 rfl (sbR (sbR (sbR sbN))) (entry_Fold_ok hr7) rfl ?_)
    refine sN (oM (v := (.tup _)) rfl ?_)
    refine sN (oEx rfl rfl ?_)
    refine sN (oEx rfl rfl ?_)
    refine sN (oEx rfl rfl ?_)
    refine sN (oA (v := (.lst _ _)) rfl ?_)
    refine sN (oA (v := (.lst _ _)) rfl ?_)
    refine sN (oA (v := (.int _ _)) rfl ?_)
    exact s0 (Wk.to (eC rfl (eC rfl (eC rfl (eC rfl (eC rfl (eC rfl (eC rfl (eC rfl (eC rfl (eC rfl (eC rfl (eC rfl eN)))))))))))) mN rfl (prK rfl))
  obtain ⟨r8, hr8, h⟩ := bindS h
  refine LH.seqT [(9, .lst 4 (List.map GEnrolment.lv r5.1)), (10, .lst 3 (List.map GRefusal.lv r5.2.1)), (11, .int .i64 r5.2.2), (12, .lst 4 (List.map GEnrolment.lv r6.1)), (13, .lst 3 (List.map GRefusal.lv r6.2.1)), (14, .int .i64 r6.2.2), (15, .lst 4 (List.map GEnrolment.lv r7.1)), (16, .lst 3 (List.map GRefusal.lv r7.2.1)), (17, .int .i64 r7.2.2), (18, .lst 4 (List.map GEnrolment.lv r8.1)), (19, .lst 3 (List.map GRefusal.lv r8.2.1)), (20, .int .i64 r8.2.2)] [] rfl ?_ ?_
  · refine sN (oM (v := (.lst _ _)) rfl ?_)
    refine sN (oLdA rfl tk41 ta41 ts41 rfl rfl ?_)
    refine sN (oM (v := (.int _ _)) rfl ?_)
    refine sN (oCP (args := [.lst 8 (List.map GEntryEvent.lv r3.1), .agg [.int .i64 r2.1.Close, .int .i64 r2.1.Late], .int .i64 r4.1]) rfl isF22 rfl (sbR (sbR (sbR sbN))) (ref13_Fold_ok hr8) rfl ?_)
    refine sN (oM (v := (.tup _)) rfl ?_)
    refine sN (oEx rfl rfl ?_)
    refine sN (oEx rfl rfl ?_)
    refine sN (oEx rfl rfl ?_)
    refine sN (oA (v := (.lst _ _)) rfl ?_)
    refine sN (oA (v := (.lst _ _)) rfl ?_)
    refine sN (oA (v := (.int _ _)) rfl ?_)
    exact s0 (Wk.to (eC rfl (eC rfl (eC rfl (eC rfl (eC rfl (eC rfl (eC rfl (eC rfl (eC rfl (eC rfl (eC rfl (eC rfl eN)))))))))))) mN rfl (prK rfl))
  obtain ⟨w10, hv, h⟩ := bindS h
  refine LH.seqT [(4, .bool w10)] [] rfl ?_ ?_
  · refine sN (oM (v := (.lst _ _)) rfl ?_)
    refine sN (oM (v := (.lst _ _)) rfl ?_)
    obtain ⟨r11, hr11, hv⟩ := bindS hv
    refine sN (oCP (args := [.lst 4 (List.map GEnrolment.lv r5.1), .lst 4 (List.map GEnrolment.lv r6.1)]) rfl isF23 rfl (sbR (sbR sbN)) (law13_same_ok hr11) rfl ?_)
    refine sN (oM (v := (.bool _)) rfl ?_)
    by_cases hb12 : r11 = true
    · replace hv := iteT hv hb12
      refine sT rfl (congrArg LV.bool hb12) (oM (v := (.lst _ _)) rfl ?_)
      refine sT rfl (congrArg LV.bool hb12) (oM (v := (.lst _ _)) rfl ?_)
      obtain ⟨r13, hr13, hv⟩ := bindS hv
      refine sT rfl (congrArg LV.bool hb12) (oCP (args := [.lst 3 (List.map GRefusal.lv r5.2.1), .lst 3 (List.map GRefusal.lv r6.2.1)]) rfl isF24 rfl (sbR (sbR sbN)) (law13_refusals_ok hr13) rfl ?_)
      refine sN (oPkT (congrArg LV.bool hb12) (v := (.bool _)) rfl ?_)
      refine sN (oM (v := (.bool _)) rfl ?_)
      by_cases hb14 : r13 = true
      · replace hv := iteT hv hb14
        refine sT rfl (congrArg LV.bool hb14) (oM (v := (.int _ _)) rfl ?_)
        refine sT rfl (congrArg LV.bool hb14) (oM (v := (.int _ _)) rfl ?_)
        refine sT rfl (congrArg LV.bool hb14) (oEq rfl rfl ?_)
        refine sN (oPkT (congrArg LV.bool hb14) (v := (.bool _)) rfl ?_)
        refine sN (oM (v := (.bool _)) rfl ?_)
        by_cases hb15 : (r5.2.2 == r6.2.2) = true
        · replace hv := iteT hv hb15
          refine sT rfl (congrArg LV.bool hb15) (oM (v := (.lst _ _)) rfl ?_)
          refine sT rfl (congrArg LV.bool hb15) (oM (v := (.lst _ _)) rfl ?_)
          obtain ⟨r16, hr16, hv⟩ := bindS hv
          refine sT rfl (congrArg LV.bool hb15) (oCP (args := [.lst 4 (List.map GEnrolment.lv r7.1), .lst 4 (List.map GEnrolment.lv r8.1)]) rfl isF23 rfl (sbR (sbR sbN)) (law13_same_ok hr16) rfl ?_)
          refine sN (oPkT (congrArg LV.bool hb15) (v := (.bool _)) rfl ?_)
          refine sN (oM (v := (.bool _)) rfl ?_)
          by_cases hb17 : r16 = true
          · replace hv := iteT hv hb17
            refine sT rfl (congrArg LV.bool hb17) (oM (v := (.lst _ _)) rfl ?_)
            refine sT rfl (congrArg LV.bool hb17) (oM (v := (.lst _ _)) rfl ?_)
            obtain ⟨r18, hr18, hv⟩ := bindS hv
            refine sT rfl (congrArg LV.bool hb17) (oCP (args := [.lst 3 (List.map GRefusal.lv r7.2.1), .lst 3 (List.map GRefusal.lv r8.2.1)]) rfl isF24 rfl (sbR (sbR sbN)) (law13_refusals_ok hr18) rfl ?_)
            refine sN (oPkT (congrArg LV.bool hb17) (v := (.bool _)) rfl ?_)
            refine sN (oM (v := (.bool _)) rfl ?_)
            by_cases hb19 : r18 = true
            · replace hv := iteT hv hb19
              refine sT rfl (congrArg LV.bool hb19) (oM (v := (.int _ _)) rfl ?_)
              refine sT rfl (congrArg LV.bool hb19) (oM (v := (.int _ _)) rfl ?_)
              refine sT rfl (congrArg LV.bool hb19) (oEq rfl rfl ?_)
              refine sN (oPkT (congrArg LV.bool hb19) (v := (.bool _)) rfl ?_)
              refine sN (oM (v := (.bool _)) rfl ?_)
              by_cases hb20 : (r7.2.2 == r8.2.2) = true
              · replace hv := iteT hv hb20
                obtain ⟨r21, hr21, hv⟩ := bindS hv
                refine sT rfl (congrArg LV.bool hb20) (oCP (args := []) rfl isF18 rfl sbN (law13_awake_ok hr21) rfl ?_)
                refine sN (oPkT (congrArg LV.bool hb20) (v := (.bool _)) rfl ?_)
                refine sN (oA (v := (.bool _)) rfl ?_)
                obtain rfl := Option.some.inj hv
                exact s0 (Wk.to (eC rfl eN) mN rfl (prK rfl))
              · replace hb20 := bF hb20
                replace hv := iteF hv hb20
                refine sF rfl rfl hb20 ?_
                refine sN (oPkF (congrArg LV.bool hb20) (v := (.bool _)) rfl ?_)
                refine sN (oA (v := (.bool _)) rfl ?_)
                obtain rfl := Option.some.inj hv
                exact s0 (Wk.to (eC rfl eN) mN rfl (prK rfl))
            · replace hb19 := bF hb19
              replace hv := iteF hv hb19
              refine sF rfl rfl hb19 ?_
              refine sF rfl rfl hb19 ?_
              refine sF rfl rfl hb19 ?_
              refine sN (oPkF (congrArg LV.bool hb19) (v := (.bool _)) rfl ?_)
              refine sN (oM (v := (.bool _)) rfl ?_)
              refine sF rfl rfl rfl ?_
              refine sN (oPkF rfl (v := (.bool _)) rfl ?_)
              refine sN (oA (v := (.bool _)) rfl ?_)
              obtain rfl := Option.some.inj hv
              exact s0 (Wk.to (eC rfl eN) mN rfl (prK rfl))
          · replace hb17 := bF hb17
            replace hv := iteF hv hb17
            refine sF rfl rfl hb17 ?_
            refine sF rfl rfl hb17 ?_
            refine sF rfl rfl hb17 ?_
            refine sN (oPkF (congrArg LV.bool hb17) (v := (.bool _)) rfl ?_)
            refine sN (oM (v := (.bool _)) rfl ?_)
            refine sF rfl rfl rfl ?_
            refine sF rfl rfl rfl ?_
            refine sF rfl rfl rfl ?_
            refine sN (oPkF rfl (v := (.bool _)) rfl ?_)
            refine sN (oM (v := (.bool _)) rfl ?_)
            refine sF rfl rfl rfl ?_
            refine sN (oPkF rfl (v := (.bool _)) rfl ?_)
            refine sN (oA (v := (.bool _)) rfl ?_)
            obtain rfl := Option.some.inj hv
            exact s0 (Wk.to (eC rfl eN) mN rfl (prK rfl))
        · replace hb15 := bF hb15
          replace hv := iteF hv hb15
          refine sF rfl rfl hb15 ?_
          refine sF rfl rfl hb15 ?_
          refine sF rfl rfl hb15 ?_
          refine sN (oPkF (congrArg LV.bool hb15) (v := (.bool _)) rfl ?_)
          refine sN (oM (v := (.bool _)) rfl ?_)
          refine sF rfl rfl rfl ?_
          refine sF rfl rfl rfl ?_
          refine sF rfl rfl rfl ?_
          refine sN (oPkF rfl (v := (.bool _)) rfl ?_)
          refine sN (oM (v := (.bool _)) rfl ?_)
          refine sF rfl rfl rfl ?_
          refine sF rfl rfl rfl ?_
          refine sF rfl rfl rfl ?_
          refine sN (oPkF rfl (v := (.bool _)) rfl ?_)
          refine sN (oM (v := (.bool _)) rfl ?_)
          refine sF rfl rfl rfl ?_
          refine sN (oPkF rfl (v := (.bool _)) rfl ?_)
          refine sN (oA (v := (.bool _)) rfl ?_)
          obtain rfl := Option.some.inj hv
          exact s0 (Wk.to (eC rfl eN) mN rfl (prK rfl))
      · replace hb14 := bF hb14
        replace hv := iteF hv hb14
        refine sF rfl rfl hb14 ?_
        refine sF rfl rfl hb14 ?_
        refine sF rfl rfl hb14 ?_
        refine sN (oPkF (congrArg LV.bool hb14) (v := (.bool _)) rfl ?_)
        refine sN (oM (v := (.bool _)) rfl ?_)
        refine sF rfl rfl rfl ?_
        refine sF rfl rfl rfl ?_
        refine sF rfl rfl rfl ?_
        refine sN (oPkF rfl (v := (.bool _)) rfl ?_)
        refine sN (oM (v := (.bool _)) rfl ?_)
        refine sF rfl rfl rfl ?_
        refine sF rfl rfl rfl ?_
        refine sF rfl rfl rfl ?_
        refine sN (oPkF rfl (v := (.bool _)) rfl ?_)
        refine sN (oM (v := (.bool _)) rfl ?_)
        refine sF rfl rfl rfl ?_
        refine sF rfl rfl rfl ?_
        refine sF rfl rfl rfl ?_
        refine sN (oPkF rfl (v := (.bool _)) rfl ?_)
        refine sN (oM (v := (.bool _)) rfl ?_)
        refine sF rfl rfl rfl ?_
        refine sN (oPkF rfl (v := (.bool _)) rfl ?_)
        refine sN (oA (v := (.bool _)) rfl ?_)
        obtain rfl := Option.some.inj hv
        exact s0 (Wk.to (eC rfl eN) mN rfl (prK rfl))
    · replace hb12 := bF hb12
      replace hv := iteF hv hb12
      refine sF rfl rfl hb12 ?_
      refine sF rfl rfl hb12 ?_
      refine sF rfl rfl hb12 ?_
      refine sN (oPkF (congrArg LV.bool hb12) (v := (.bool _)) rfl ?_)
      refine sN (oM (v := (.bool _)) rfl ?_)
      refine sF rfl rfl rfl ?_
      refine sF rfl rfl rfl ?_
      refine sF rfl rfl rfl ?_
      refine sN (oPkF rfl (v := (.bool _)) rfl ?_)
      refine sN (oM (v := (.bool _)) rfl ?_)
      refine sF rfl rfl rfl ?_
      refine sF rfl rfl rfl ?_
      refine sF rfl rfl rfl ?_
      refine sN (oPkF rfl (v := (.bool _)) rfl ?_)
      refine sN (oM (v := (.bool _)) rfl ?_)
      refine sF rfl rfl rfl ?_
      refine sF rfl rfl rfl ?_
      refine sF rfl rfl rfl ?_
      refine sN (oPkF rfl (v := (.bool _)) rfl ?_)
      refine sN (oM (v := (.bool _)) rfl ?_)
      refine sF rfl rfl rfl ?_
      refine sF rfl rfl rfl ?_
      refine sF rfl rfl rfl ?_
      refine sN (oPkF rfl (v := (.bool _)) rfl ?_)
      refine sN (oM (v := (.bool _)) rfl ?_)
      refine sF rfl rfl rfl ?_
      refine sN (oPkF rfl (v := (.bool _)) rfl ?_)
      refine sN (oA (v := (.bool _)) rfl ?_)
      obtain rfl := Option.some.inj hv
      exact s0 (Wk.to (eC rfl eN) mN rfl (prK rfl))
  clear hv
  refine LH.ret ?_
  obtain rfl := Option.some.inj h
  exact retE (congrArg Array.toList Try.results4) (lrT rfl (lr0 ⟨memN mN, rfl, prK rfl, Sub.rfl⟩))

end Go.Proofs.Ytkkhmngmhckgbaa
