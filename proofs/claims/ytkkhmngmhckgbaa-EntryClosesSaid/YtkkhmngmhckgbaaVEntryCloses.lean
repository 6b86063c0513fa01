/- Walks, printed by program (gen.py): each function computes its plain function. -/
import Derived.Test.YtkkhmngmhckgbaaW3
set_option linter.unusedVariables false
set_option linter.unusedSimpArgs false
set_option maxRecDepth 100000
namespace Go.Proofs.Ytkkhmngmhckgbaa
open Go.L Go.Sh
theorem law13_EntryCloses_ok {F : Nat} {p0 : List Int} {p1 : Int} {r : Bool} (h : law13_EntryCloses F p0 p1 = some r) : LCall Try.prog 6 [.lst 1 (List.map (LV.int .i64) p0), .int .i64 p1] (Mem.of []) (.bool r) (Mem.of []) := by
  unfold law13_EntryCloses at h
  refine bodyT Try.func6 rfl (by rw [Try.ntmps6]; exact Nat.le_of_ble_eq_true rfl) ?_
  refine LH.wk (Wk.to (el := [(0, .lst 1 (List.map (LV.int .i64) p0)), (1, .int .i64 p1)]) (ml := []) (eC rfl (eC rfl eN)) mN rfl (prK rfl)) ?_
  refine LH.seqT [(0, .lst 1 (List.map (LV.int .i64) p0)), (1, .int .i64 p1)] [] rfl ?_ ?_
  · refine sN (oA (v := (.bool _)) rfl ?_)
    exact s0 (Wk.to (eC rfl (eC rfl eN)) mN rfl (prK rfl))
  obtain ⟨r1, hr1, h⟩ := bindS h
  refine LH.seqT [(1, .int .i64 p1), (5, .ptr 7 0)] [(7, .box [.lst 1 (List.map (LV.int .i64) r1.L), .int .i64 r1.At])] rfl ?_ ?_
  · refine sN (oM (v := (.lst _ _)) rfl ?_)
    refine sN (oCM (args := [.lst 1 (List.map (LV.int .i64) p0)]) (ml := []) (ml' := [(7, .box [.lst 1 (List.map (LV.int .i64) r1.L), .int .i64 r1.At])]) rfl isF12 rfl (sbR sbN) (make_New_ok hr1) mN (newF rfl newN) rfl ?_)
    refine sN (oA (v := (.ptr _ _)) rfl ?_)
    exact s0 (Wk.to (eC rfl (eC rfl eN)) (mC rfl mN) rfl (prK rfl))
  obtain ⟨r2, hr2, h⟩ := bindS h
  refine LH.seqT [(1, .int .i64 p1), (5, .ptr 7 0), (6, .sptr [.int .i64 r2.1.Close, .int .i64 r2.1.Late])] [(7, .box [.lst 1 (List.map (LV.int .i64) r2.2.L), .int .i64 r2.2.At])] rfl ?_ ?_
  · refine sN (oM (v := (.ptr _ _)) rfl ?_)
    refine sN (oCM (args := [.ptr 7 0, .int .i64 0]) (ml := [(7, .box [.lst 1 (List.map (LV.int .i64) r1.L), .int .i64 r1.At])]) (ml' := [(7, .box [.lst 1 (List.map (LV.int .i64) r2.2.L), .int .i64 r2.2.At])]) rfl isF19 rfl (sbR (sbR sbN)) (GTape_Deadlines_ok hr2) (mC rfl mN) (newI rfl newN) rfl ?_)
    refine sN (oAl (id := 106) rfl tz41 rfl rfl ?_)
    refine s_ (oSt rfl rfl rfl tk41 ts41 rfl rfl rfl ?_)
    exact s0 ((Wk.trans (Wk.to (el := [(1, .int .i64 p1), (5, .ptr 7 0), (6, .ptr 106 0)]) (ml := [(7, .box [.lst 1 (List.map (LV.int .i64) r2.2.L), .int .i64 r2.2.At]), (106, .box [.int .i64 r2.1.Close, .int .i64 r2.1.Late])]) (eC rfl (eC rfl (eC rfl eN))) (mC rfl (mC rfl mN)) rfl (prK rfl)) (Wk.trans (Wk.frzB 106 [.int .i64 r2.1.Close, .int .i64 r2.1.Late] rfl rfl rfl (prN rfl)) (Wk.to (eC rfl (eC rfl (eC rfl eN))) (mC rfl mN) rfl (prK rfl)))))
  obtain ⟨r3, hr3, h⟩ := bindS h
  refine LH.seqT [(1, .int .i64 p1), (6, .sptr [.int .i64 r2.1.Close, .int .i64 r2.1.Late]), (7, .lst 8 (List.map GEntryEvent.lv r3.1))] [] rfl ?_ ?_
  · refine sN (oM (v := (.ptr _ _)) rfl ?_)
    refine sN (oCM (args := [.ptr 7 0, .int .i64 12, .int .i64 8]) (ml := [(7, .box [.lst 1 (List.map (LV.int .i64) r2.2.L), .int .i64 r2.2.At])]) (ml' := [(7, .box [.lst 1 (List.map (LV.int .i64) r3.2.L), .int .i64 r3.2.At])]) rfl isF13 rfl (sbR (sbR (sbR sbN))) (GTape_EntryEvents_ok hr3) (mC rfl mN) (newI rfl newN) rfl ?_)
    refine sN (oA (v := (.lst _ _)) rfl ?_)
    exact s0 (Wk.to (eC rfl (eC rfl (eC rfl eN))) mN rfl (prK rfl))
  obtain ⟨r4, hr4, h⟩ := bindS h
  refine LH.seqT [(1, .int .i64 p1), (6, .sptr [.int .i64 r2.1.Close, .int .i64 r2.1.Late]), (7, .lst 8 (List.map GEntryEvent.lv r3.1)), (8, .lst 4 (List.map GEnrolment.lv r4.1)), (10, .int .i64 r4.2.2)] [] rfl ?_ ?_
  · refine sN (oM (v := (.lst _ _)) rfl ?_)
    refine sN (oLdA rfl tk41 ta41 ts41 rfl rfl ?_)
    refine sN (oFaS tf41_1 tk3 ts3 rfl rfl rfl ?_)
    refine sN (oLd rfl tk3 ta3 ?_)
    refine sN (oCP (args := [.lst 8 (List.map GEntryEvent.lv r3.1), .agg [.int .i64 r2.1.Close, .int .i64 r2.1.Late], .int .i64 r2.1.Late]) rfl isF21 rfl (sbR (sbR (sbR sbN))) (entry_Fold_ok hr4) rfl ?_)
    refine sN (oM (v := (.tup _)) rfl ?_)
    refine sN (oEx rfl rfl ?_)
    refine sN (oEx rfl rfl ?_)
    refine sN (oEx rfl rfl ?_)
    refine sN (oA (v := (.lst _ _)) rfl ?_)
    refine sN (oA (v := (.lst _ _)) rfl ?_)
    refine sN (oA (v := (.int _ _)) rfl ?_)
    exact s0 (Wk.to (eC rfl (eC rfl (eC rfl (eC rfl (eC rfl eN))))) mN rfl (prK rfl))
  obtain ⟨r5, hr5, h⟩ := bindS h
  obtain ⟨r6, hr6, h⟩ := bindS h
  refine LH.seqJM mixed [] [0, 0, 0, 0, 0, 0, 0, 0, 0, 0, 0, 0, 0, 0, 0] [(6, .sptr [.int .i64 r2.1.Close, .int .i64 r2.1.Late]), (7, .lst 8 (List.map GEntryEvent.lv r3.1)), (8, .lst 4 (List.map GEnrolment.lv r4.1)), (10, .int .i64 r4.2.2), (11, .lst 4 (List.map GEnrolment.lv r6.1)), (13, .int .i64 r6.2.2)] [] rfl rfl (by kernel_rfl) ?_ ?_
  · refine mN0 (oM (v := (.lst _ _)) rfl ⟨rfl, ?_⟩)
    refine mN0 (oLdA rfl tk41 ta41 ts41 rfl rfl ⟨rfl, ?_⟩)
    refine mN0 (oFaS tf41_1 tk3 ts3 rfl rfl rfl ⟨rfl, ?_⟩)
    refine mN0 (oLd rfl tk3 ta3 ⟨rfl, ?_⟩)
    refine mN0 (oM (v := (.int _ _)) rfl ⟨rfl, ?_⟩)
    refine mN0 (oCP (args := [.int .i64 p1, .int .i64 40]) rfl isF26 rfl (sbR (sbR sbN)) (make_Cut_ok hr5) rfl ⟨rfl, ?_⟩)
    refine mN0 (oAdd rfl rfl ⟨rfl, ?_⟩)
    refine mN0 (oCP (args := [.lst 8 (List.map GEntryEvent.lv r3.1), .agg [.int .i64 r2.1.Close, .int .i64 r2.1.Late], .int .i64 (i64 (r2.1.Late + r5))]) rfl isF21 rfl (sbR (sbR (sbR sbN))) (entry_Fold_ok hr6) rfl ⟨rfl, ?_⟩)
    refine mN0 (oM (v := (.tup _)) rfl ⟨rfl, ?_⟩)
    refine mN0 (oEx rfl rfl ⟨rfl, ?_⟩)
    refine mN0 (oEx rfl rfl ⟨rfl, ?_⟩)
    refine mN0 (oEx rfl rfl ⟨rfl, ?_⟩)
    refine mN0 (oA (v := (.lst _ _)) rfl ⟨rfl, ?_⟩)
    refine mN0 (oA (v := (.lst _ _)) rfl ⟨rfl, ?_⟩)
    refine mN0 (oA (v := (.int _ _)) rfl ⟨rfl, ?_⟩)
    exact m0 (Wk.to (eC rfl (eC rfl (eC rfl (eC rfl (eC rfl (eC rfl eN)))))) mN rfl (prK rfl))
  obtain ⟨r7, hr7, h⟩ := bindS h
  refine LH.seqT [(8, .lst 4 (List.map GEnrolment.lv r4.1)), (10, .int .i64 r4.2.2), (11, .lst 4 (List.map GEnrolment.lv r6.1)), (13, .int .i64 r6.2.2), (14, .lst 4 (List.map GEnrolment.lv r7.1)), (16, .int .i64 r7.2.2)] [] rfl ?_ ?_
  · refine sN (oM (v := (.lst _ _)) rfl ?_)
    refine sN (oLdA rfl tk41 ta41 ts41 rfl rfl ?_)
    refine sN (oFaS tf41_0 tk3 ts3 rfl rfl rfl ?_)
    refine sN (oLd rfl tk3 ta3 ?_)
    refine sN (oCP (args := [.lst 8 (List.map GEntryEvent.lv r3.1), .agg [.int .i64 r2.1.Close, .int .i64 r2.1.Late], .int .i64 r2.1.Close]) rfl isF21 rfl (sbR (sbR (sbR sbN))) (entry_Fold_ok hr7) rfl ?_)
    refine sN (oM (v := (.tup _)) rfl ?_)
    refine sN (oEx rfl rfl ?_)
    refine sN (oEx rfl rfl ?_)
    refine sN (oEx rfl rfl ?_)
    refine sN (oA (v := (.lst _ _)) rfl ?_)
    refine sN (oA (v := (.lst _ _)) rfl ?_)
    refine sN (oA (v := (.int _ _)) rfl ?_)
    exact s0 (Wk.to (eC rfl (eC rfl (eC rfl (eC rfl (eC rfl (eC rfl eN)))))) mN rfl (prK rfl))
  refine LH.seq ?_
  refine LH.seqT [(8, .lst 4 (List.map GEnrolment.lv r4.1)), (10, .int .i64 r4.2.2), (11, .lst 4 (List.map GEnrolment.lv r6.1)), (13, .int .i64 r6.2.2), (14, .lst 4 (List.map GEnrolment.lv r7.1)), (16, .int .i64 r7.2.2), (17, .int .i64 0)] [] rfl ?_ ?_
  · refine sN (oA (v := (.int _ _)) rfl ?_)
    exact s0 (Wk.to (eC rfl (eC rfl (eC rfl (eC rfl (eC rfl (eC rfl (eC rfl eN))))))) mN rfl (prK rfl))
  refine LH.block ?_
  refine LH.loop (fun n e m => ∃ (n8 : Int), law13_EntryCloses_L1 F r4 r6 r7 n n8 = some r ∧ e = Env.of [(8, .lst 4 (List.map GEnrolment.lv r4.1)), (10, .int .i64 r4.2.2), (11, .lst 4 (List.map GEnrolment.lv r6.1)), (13, .int .i64 r6.2.2), (14, .lst 4 (List.map GEnrolment.lv r7.1)), (16, .int .i64 r7.2.2), (17, .int .i64 n8)] ∧ m = Mem.of []) F ⟨0, h, rfl, rfl⟩ ?_
  clear h
  rintro n e m ⟨n8, h, rfl, rfl⟩
  rcases n with _ | n
  · cases (show Option.none = some _ from h)
  obtain ⟨rec1, hrec1⟩ : ∃ f, f = law13_EntryCloses_L1 F r4 r6 r7 n := ⟨_, rfl⟩
  replace h : law13_EntryCloses_L1_B F r4 r6 r7 rec1 n8 = some r := hrec1 ▸ h
  unfold law13_EntryCloses_L1_B at h
  refine LH.seq ?_
  refine LH.seqT [(8, .lst 4 (List.map GEnrolment.lv r4.1)), (10, .int .i64 r4.2.2), (11, .lst 4 (List.map GEnrolment.lv r6.1)), (13, .int .i64 r6.2.2), (14, .lst 4 (List.map GEnrolment.lv r7.1)), (16, .int .i64 r7.2.2), (17, .int .i64 n8), (57, .bool (decide (n8 < (r7.1.length : Int))))] [] rfl ?_ ?_
  · refine sN (oM (v := (.int _ _)) rfl ?_)
    refine sN (oM (v := (.lst _ _)) rfl ?_)
    refine sN (oLnL (f := GEnrolment.lv) te44 rfl ?_)
    refine sN (oLt rfl rfl ?_)
    exact s0 (Wk.to (eC rfl (eC rfl (eC rfl (eC rfl (eC rfl (eC rfl (eC rfl (eC rfl eN)))))))) mN rfl (prK rfl))
  refine LH.cond (t := (decide (n8 < (r7.1.length : Int)))) rfl (fun hc9 => ?_) (fun hc9 => ?_)
  · replace h := iteT h hc9
    refine LH.skip ?_
    refine thenN ?_
    refine LH.wk (Wk.to (el := [(8, .lst 4 (List.map GEnrolment.lv r4.1)), (10, .int .i64 r4.2.2), (11, .lst 4 (List.map GEnrolment.lv r6.1)), (13, .int .i64 r6.2.2), (14, .lst 4 (List.map GEnrolment.lv r7.1)), (16, .int .i64 r7.2.2), (17, .int .i64 n8)]) (ml := []) (eC rfl (eC rfl (eC rfl (eC rfl (eC rfl (eC rfl (eC rfl eN))))))) mN rfl (prK rfl)) ?_
    refine LH.seq ?_
    refine LH.block ?_
    obtain ⟨x10, hx10, h⟩ := bindS h
    refine LH.seqT [(8, .lst 4 (List.map GEnrolment.lv r4.1)), (10, .int .i64 r4.2.2), (11, .lst 4 (List.map GEnrolment.lv r6.1)), (13, .int .i64 r6.2.2), (14, .lst 4 (List.map GEnrolment.lv r7.1)), (16, .int .i64 r7.2.2), (17, .int .i64 n8), (64, .bool x10.Late)] [] rfl ?_ ?_
    · refine sN (oM (v := (.lst _ _)) rfl ?_)
      refine sN (oM (v := (.int _ _)) rfl ?_)
      refine sN (oIx (f := GEnrolment.lv) te44 tk53 ts53 rfl rfl GEnrolment.ok hx10 rfl ?_)
      refine sN (oFaS tf53_1 tk4 ts4 rfl rfl rfl ?_)
      refine sN (oLd rfl tk4 ta4 ?_)
      exact s0 (Wk.to (eC rfl (eC rfl (eC rfl (eC rfl (eC rfl (eC rfl (eC rfl (eC rfl eN)))))))) mN rfl (prK rfl))
    refine LH.cond (t := x10.Late) rfl (fun hc11 => ?_) (fun hc11 => ?_)
    · replace h := iteT h hc11
      refine LH.seqT [(4, .bool false)] [] rfl ?_ ?_
      · refine sN (oA (v := (.bool _)) rfl ?_)
        exact s0 (Wk.to (eC rfl eN) mN rfl (prK rfl))
      refine LH.ret ?_
      refine blockR ?_
      refine thenR ?_
      refine roundR ?_
      refine blockR ?_
      refine thenR ?_
      obtain rfl := Option.some.inj h
      exact retE (congrArg Array.toList Try.results6) (lrT rfl (lr0 ⟨memN mN, rfl, prK rfl, Sub.rfl⟩))
    replace h := iteF h hc11
    refine LH.skip ?_
    refine blockN ?_
    refine thenN ?_
    refine LH.wk (Wk.to (el := [(8, .lst 4 (List.map GEnrolment.lv r4.1)), (10, .int .i64 r4.2.2), (11, .lst 4 (List.map GEnrolment.lv r6.1)), (13, .int .i64 r6.2.2), (14, .lst 4 (List.map GEnrolment.lv r7.1)), (16, .int .i64 r7.2.2), (17, .int .i64 n8)]) (ml := []) (eC rfl (eC rfl (eC rfl (eC rfl (eC rfl (eC rfl (eC rfl eN))))))) mN rfl (prK rfl)) ?_
    refine LH.loneT [(8, .lst 4 (List.map GEnrolment.lv r4.1)), (10, .int .i64 r4.2.2), (11, .lst 4 (List.map GEnrolment.lv r6.1)), (13, .int .i64 r6.2.2), (14, .lst 4 (List.map GEnrolment.lv r7.1)), (16, .int .i64 r7.2.2), (17, .int .i64 (i64 (n8 + 1)))] [] rfl ?_ ?_
    · refine sN (oM (v := (.int _ _)) rfl ?_)
      refine sN (oAdd rfl rfl ?_)
      refine sN (oA (v := (.int _ _)) rfl ?_)
      exact s0 (Wk.to (eC rfl (eC rfl (eC rfl (eC rfl (eC rfl (eC rfl (eC rfl eN))))))) mN rfl (prK rfl))
    exact roundN (e' := Env.of [(8, .lst 4 (List.map GEnrolment.lv r4.1)), (10, .int .i64 r4.2.2), (11, .lst 4 (List.map GEnrolment.lv r6.1)), (13, .int .i64 r6.2.2), (14, .lst 4 (List.map GEnrolment.lv r7.1)), (16, .int .i64 r7.2.2), (17, .int .i64 (i64 (n8 + 1)))]) (m' := Mem.of []) (Wk.to (eC rfl (eC rfl (eC rfl (eC rfl (eC rfl (eC rfl (eC rfl eN))))))) mN rfl (prK rfl)) ⟨(i64 (n8 + 1)), hrec1 ▸ h, rfl, rfl⟩
  replace h := iteF h hc9
  refine LH.exit ?_
  refine thenX ?_
  refine roundX ?_
  refine blockH ?_
  refine thenN ?_
  refine LH.wk (Wk.to (el := [(8, .lst 4 (List.map GEnrolment.lv r4.1)), (10, .int .i64 r4.2.2), (11, .lst 4 (List.map GEnrolment.lv r6.1)), (13, .int .i64 r6.2.2), (16, .int .i64 r7.2.2)]) (ml := []) (eC rfl (eC rfl (eC rfl (eC rfl (eC rfl eN))))) mN rfl (prK rfl)) ?_
  obtain ⟨w13, hv, h⟩ := bindS h
  refine LH.seqT [(4, .bool w13)] [] rfl ?_ ?_
  · refine sN (oM (v := (.int _ _)) rfl ?_)
    refine sN (oEq rfl rfl ?_)
    refine sN (oM (v := (.bool _)) rfl ?_)
    by_cases hb14 : (r4.2.2 == 0) = true
    · replace hv := iteT hv hb14
      refine sT rfl (congrArg LV.bool hb14) (oM (v := (.int _ _)) rfl ?_)
      refine sT rfl (congrArg LV.bool hb14) (oEq rfl rfl ?_)
      refine sN (oPkT (congrArg LV.bool hb14) (v := (.bool _)) rfl ?_)
      refine sN (oM (v := (.bool _)) rfl ?_)
      by_cases hb15 : (r6.2.2 == 0) = true
      · replace hv := iteT hv hb15
        refine sT rfl (congrArg LV.bool hb15) (oM (v := (.int _ _)) rfl ?_)
        refine sT rfl (congrArg LV.bool hb15) (oEq rfl rfl ?_)
        refine sN (oPkT (congrArg LV.bool hb15) (v := (.bool _)) rfl ?_)
        refine sN (oM (v := (.bool _)) rfl ?_)
        by_cases hb16 : (r7.2.2 == 0) = true
        · replace hv := iteT hv hb16
          refine sT rfl (congrArg LV.bool hb16) (oM (v := (.lst _ _)) rfl ?_)
          refine sT rfl (congrArg LV.bool hb16) (oM (v := (.lst _ _)) rfl ?_)
          obtain ⟨r17, hr17, hv⟩ := bindS hv
          refine sT rfl (congrArg LV.bool hb16) (oCP (args := [.lst 4 (List.map GEnrolment.lv r4.1), .lst 4 (List.map GEnrolment.lv r6.1)]) rfl isF23 rfl (sbR (sbR sbN)) (law13_same_ok hr17) rfl ?_)
          refine sN (oPkT (congrArg LV.bool hb16) (v := (.bool _)) rfl ?_)
          refine sN (oM (v := (.bool _)) rfl ?_)
          by_cases hb18 : r17 = true
          · replace hv := iteT hv hb18
            obtain ⟨r19, hr19, hv⟩ := bindS hv
            refine sT rfl (congrArg LV.bool hb18) (oCP (args := []) rfl isF18 rfl sbN (law13_awake_ok hr19) rfl ?_)
            refine sN (oPkT (congrArg LV.bool hb18) (v := (.bool _)) rfl ?_)
            refine sN (oA (v := (.bool _)) rfl ?_)
            obtain rfl := Option.some.inj hv
            exact s0 (Wk.to (eC rfl eN) mN rfl (prK rfl))
          · replace hb18 := bF hb18
            replace hv := iteF hv hb18
            refine sF rfl rfl hb18 ?_
            refine sN (oPkF (congrArg LV.bool hb18) (v := (.bool _)) rfl ?_)
            refine sN (oA (v := (.bool _)) rfl ?_)
            obtain rfl := Option.some.inj hv
            exact s0 (Wk.to (eC rfl eN) mN rfl (prK rfl))
        · replace hb16 := bF hb16
          replace hv := iteF hv hb16
          refine sF rfl rfl hb16 ?_
          refine sF rfl rfl hb16 ?_
          refine sF rfl rfl hb16 ?_
          refine sN (oPkF (congrArg LV.bool hb16) (v := (.bool _)) rfl ?_)
          refine sN (oM (v := (.bool _)) rfl ?_)
          refine sF rfl rfl rfl ?_
          refine sN (oPkF rfl (v := (.bool _)) rfl ?_)
          refine sN (oA (v := (.bool _)) rfl ?_)
          obtain rfl := Option.some.inj hv
          exact s0 (Wk.to (eC rfl eN) mN rfl (prK rfl))
      · replace hb15 := bF hb15
        replace hv := iteF hv hb15
        refine sF rfl rfl hb15 ?_
        refine sF rfl rfl hb15 ?_
        refine sN (oPkF (congrArg LV.bool hb15) (v := (.bool _)) rfl ?_)
        refine sN (oM (v := (.bool _)) rfl ?_)
        refine sF rfl rfl rfl ?_
        refine sF rfl rfl rfl ?_
        refine sF rfl rfl rfl ?_
        refine sN (oPkF rfl (v := (.bool _)) rfl ?_)
        refine sN (oM (v := (.bool _)) rfl ?_)
        refine sF rfl rfl rfl ?_
        refine sN (oPkF rfl (v := (.bool _)) rfl ?_)
        refine sN (oA (v := (.bool _)) rfl ?_)
        obtain rfl := Option.some.inj hv
        exact s0 (Wk.to (eC rfl eN) mN rfl (prK rfl))
    · replace hb14 := bF hb14
      replace hv := iteF hv hb14
      refine sF rfl rfl hb14 ?_
      refine sF rfl rfl hb14 ?_
      refine sN (oPkF (congrArg LV.bool hb14) (v := (.bool _)) rfl ?_)
      refine sN (oM (v := (.bool _)) rfl ?_)
      refine sF rfl rfl rfl ?_
      refine sF rfl rfl rfl ?_
      refine sN (oPkF rfl (v := (.bool _)) rfl ?_)
      refine sN (oM (v := (.bool _)) rfl ?_)
      refine sF rfl rfl rfl ?_
      refine sF rfl rfl rfl ?_
      refine sF rfl rfl rfl ?_
      refine sN (oPkF rfl (v := (.bool _)) rfl ?_)
      refine sN (oM (v := (.bool _)) rfl ?_)
      refine sF rfl rfl rfl ?_
      refine sN (oPkF rfl (v := (.bool _)) rfl ?_)
      refine sN (oA (v := (.bool _)) rfl ?_)
      obtain rfl := Option.some.inj hv
      exact s0 (Wk.to (eC rfl eN) mN rfl (prK rfl))
  clear hv
  refine LH.ret ?_
  obtain rfl := Option.some.inj h
  exact retE (congrArg Array.toList Try.results6) (lrT rfl (lr0 ⟨memN mN, rfl, prK rfl, Sub.rfl⟩))

end Go.Proofs.Ytkkhmngmhckgbaa
