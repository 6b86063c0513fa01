/- Walks, printed by program (gen.py): each function computes its plain function. -/
import Derived.Test.YtkkhmngmhckgbaaW3
set_option linter.unusedVariables false
set_option linter.unusedSimpArgs false
set_option maxRecDepth 100000
namespace Go.Proofs.Ytkkhmngmhckgbaa
open Go.L Go.Sh
theorem law13_EntryOnce_ok {F : Nat} {p0 : List Int} {r : Bool} (h : law13_EntryOnce F p0 = some r) : LCall Try.prog 7 [.lst 1 (List.map (LV.int .i64) p0)] (Mem.of []) (.bool r) (Mem.of []) := by
  unfold law13_EntryOnce at h
  refine bodyT Try.func7 rfl (by rw [Try.ntmps7]; exact Nat.le_of_ble_eq_true rfl) ?_
  refine LH.wk (Wk.to (el := [(0, .lst 1 (List.map (LV.int .i64) p0))]) (ml := []) (eC rfl eN) mN rfl (prK rfl)) ?_
  refine LH.seqT [(0, .lst 1 (List.map (LV.int .i64) p0))] [] rfl ?_ ?_
  · refine sN (oA (v := (.bool _)) rfl ?_)
    exact s0 (Wk.to (eC rfl eN) mN rfl (prK rfl))
  obtain ⟨r1, hr1, h⟩ := bindS h
  refine LH.seqT [(3, .ptr 7 0)] [(7, .box [.lst 1 (List.map (LV.int .i64) r1.L), .int .i64 r1.At])] rfl ?_ ?_
  · refine sN (oM (v := (.lst _ _)) rfl ?_)
    refine sN (oCM (args := [.lst 1 (List.map (LV.int .i64) p0)]) (ml := []) (ml' := [(7, .box [.lst 1 (List.map (LV.int .i64) r1.L), .int .i64 r1.At])]) rfl isF12 rfl (sbR sbN) (make_New_ok hr1) mN (newF rfl newN) rfl ?_)
    refine sN (oA (v := (.ptr _ _)) rfl ?_)
    exact s0 (Wk.to (eC rfl eN) (mC rfl mN) rfl (prK rfl))
  obtain ⟨r2, hr2, h⟩ := bindS h
  refine LH.seqT [(3, .ptr 7 0), (4, .sptr [.int .i64 r2.1.Close, .int .i64 r2.1.Late])] [(7, .box [.lst 1 (List.map (LV.int .i64) r2.2.L), .int .i64 r2.2.At])] rfl ?_ ?_
  · refine sN (oM (v := (.ptr _ _)) rfl ?_)
    refine sN (oCM (args := [.ptr 7 0, .int .i64 0]) (ml := [(7, .box [.lst 1 (List.map (LV.int .i64) r1.L), .int .i64 r1.At])]) (ml' := [(7, .box [.lst 1 (List.map (LV.int .i64) r2.2.L), .int .i64 r2.2.At])]) rfl isF19 rfl (sbR (sbR sbN)) (GTape_Deadlines_ok hr2) (mC rfl mN) (newI rfl newN) rfl ?_)
    refine sN (oAl (id := 104) rfl tz41 rfl rfl ?_)
    refine s_ (oSt rfl rfl rfl tk41 ts41 rfl rfl rfl ?_)
    exact s0 ((Wk.trans (Wk.to (el := [(3, .ptr 7 0), (4, .ptr 104 0)]) (ml := [(7, .box [.lst 1 (List.map (LV.int .i64) r2.2.L), .int .i64 r2.2.At]), (104, .box [.int .i64 r2.1.Close, .int .i64 r2.1.Late])]) (eC rfl (eC rfl eN)) (mC rfl (mC rfl mN)) rfl (prK rfl)) (Wk.trans (Wk.frzB 104 [.int .i64 r2.1.Close, .int .i64 r2.1.Late] rfl rfl rfl (prN rfl)) (Wk.to (eC rfl (eC rfl eN)) (mC rfl mN) rfl (prK rfl)))))
  obtain ⟨r3, hr3, h⟩ := bindS h
  obtain ⟨r4, hr4, h⟩ := bindS h
  refine LH.seqJM mixed [] [0, 2, 0, 0, 0, 0, 0, 0, 0, 0, 0] [(5, .lst 4 (List.map GEnrolment.lv r4.1)), (7, .int .i64 r4.2.2)] [] rfl rfl (by kernel_rfl) ?_ ?_
  · refine mN0 (oM (v := (.ptr _ _)) rfl ⟨rfl, ?_⟩)
    refine mN2 (oCM (args := [.ptr 7 0, .int .i64 14, .int .i64 6]) (ml := [(7, .box [.lst 1 (List.map (LV.int .i64) r2.2.L), .int .i64 r2.2.At])]) (ml' := [(7, .box [.lst 1 (List.map (LV.int .i64) r3.2.L), .int .i64 r3.2.At])]) rfl isF13 rfl (sbR (sbR (sbR sbN))) (GTape_EntryEvents_ok hr3) (mC rfl mN) (newI rfl newN) rfl ?_)
    refine mN0 (oLdA rfl tk41 ta41 ts41 rfl rfl ⟨rfl, ?_⟩)
    refine mN0 (oCP (args := [.lst 8 (List.map GEntryEvent.lv r3.1), .agg [.int .i64 r2.1.Close, .int .i64 r2.1.Late], .int .i64 1000000]) rfl isF21 rfl (sbR (sbR (sbR sbN))) (entry_Fold_ok hr4) rfl ⟨rfl, ?_⟩)
    refine mN0 (oM (v := (.tup _)) rfl ⟨rfl, ?_⟩)
    refine mN0 (oEx rfl rfl ⟨rfl, ?_⟩)
    refine mN0 (oEx rfl rfl ⟨rfl, ?_⟩)
    refine mN0 (oEx rfl rfl ⟨rfl, ?_⟩)
    refine mN0 (oA (v := (.lst _ _)) rfl ⟨rfl, ?_⟩)
    refine mN0 (oA (v := (.lst _ _)) rfl ⟨rfl, ?_⟩)
    refine mN0 (oA (v := (.int _ _)) rfl ⟨rfl, ?_⟩)
    exact m0 (Wk.to (eC rfl (eC rfl eN)) mN rfl (prK rfl))
  refine LH.seq ?_
  refine LH.seqT [(5, .lst 4 (List.map GEnrolment.lv r4.1)), (7, .int .i64 r4.2.2), (8, .int .i64 0)] [] rfl ?_ ?_
  · refine sN (oA (v := (.int _ _)) rfl ?_)
    exact s0 (Wk.to (eC rfl (eC rfl (eC rfl eN))) mN rfl (prK rfl))
  refine LH.block ?_
  refine LH.loop (fun n e m => ∃ (n5 : Int), law13_EntryOnce_L1 F r4 n n5 = some r ∧ e = Env.of [(5, .lst 4 (List.map GEnrolment.lv r4.1)), (7, .int .i64 r4.2.2), (8, .int .i64 n5)] ∧ m = Mem.of []) F ⟨0, h, rfl, rfl⟩ ?_
  clear h
  rintro n e m ⟨n5, h, rfl, rfl⟩
  rcases n with _ | n
  · cases (show Option.none = some _ from h)
  obtain ⟨rec1, hrec1⟩ : ∃ f, f = law13_EntryOnce_L1 F r4 n := ⟨_, rfl⟩
  replace h : law13_EntryOnce_L1_B F r4 rec1 n5 = some r := hrec1 ▸ h
  unfold law13_EntryOnce_L1_B at h
  refine LH.seq ?_
  refine LH.seqT [(5, .lst 4 (List.map GEnrolment.lv r4.1)), (7, .int .i64 r4.2.2), (8, .int .i64 n5), (28, .bool (decide (n5 < (r4.1.length : Int))))] [] rfl ?_ ?_
  · refine sN (oM (v := (.int _ _)) rfl ?_)
    refine sN (oM (v := (.lst _ _)) rfl ?_)
    refine sN (oLnL (f := GEnrolment.lv) te44 rfl ?_)
    refine sN (oLt rfl rfl ?_)
    exact s0 (Wk.to (eC rfl (eC rfl (eC rfl (eC rfl eN)))) mN rfl (prK rfl))
  refine LH.cond (t := (decide (n5 < (r4.1.length : Int)))) rfl (fun hc6 => ?_) (fun hc6 => ?_)
  · replace h := iteT h hc6
    refine LH.skip ?_
    refine thenN ?_
    refine LH.wk (Wk.to (el := [(5, .lst 4 (List.map GEnrolment.lv r4.1)), (7, .int .i64 r4.2.2), (8, .int .i64 n5)]) (ml := []) (eC rfl (eC rfl (eC rfl eN))) mN rfl (prK rfl)) ?_
    refine LH.seq ?_
    refine LH.block ?_
    obtain ⟨x7, hx7, h⟩ := bindS h
    obtain ⟨x8, hx8, h⟩ := bindS h
    obtain ⟨r9, hr9, h⟩ := bindS h
    refine LH.seqJM mixed [] [0, 0, 0, 0, 0, 0, 0, 0, 0, 0, 0, 0, 0, 0, 0, 0, 0, 2, 2, 0] [(5, .lst 4 (List.map GEnrolment.lv r4.1)), (7, .int .i64 r4.2.2), (8, .int .i64 n5), (9, .sptr [.int .i64 r9.1.Entry.Candidate, .int .i64 r9.1.Entry.Centre, .int .i64 r9.1.Entry.Paper, .bool r9.1.Late]), (10, .bool r9.2)] [] rfl rfl (by kernel_rfl) ?_ ?_
    · refine mN0 (oM (v := (.lst _ _)) rfl ⟨rfl, ?_⟩)
      refine mN0 (oM (v := (.lst _ _)) rfl ⟨rfl, ?_⟩)
      refine mN0 (oM (v := (.int _ _)) rfl ⟨rfl, ?_⟩)
      refine mN0 (oIx (f := GEnrolment.lv) te44 tk53 ts53 rfl rfl GEnrolment.ok hx7 rfl ⟨rfl, ?_⟩)
      refine mN0 (oFaS tf53_0 tk33 ts33 rfl rfl rfl ⟨rfl, ?_⟩)
      refine mN0 (oFaS tf33_0 tk3 ts3 rfl rfl rfl ⟨rfl, ?_⟩)
      refine mN0 (oLd rfl tk3 ta3 ⟨rfl, ?_⟩)
      refine mN0 (oM (v := (.lst _ _)) rfl ⟨rfl, ?_⟩)
      refine mN0 (oM (v := (.int _ _)) rfl ⟨rfl, ?_⟩)
      refine mN0 (oIx (f := GEnrolment.lv) te44 tk53 ts53 rfl rfl GEnrolment.ok hx8 rfl ⟨rfl, ?_⟩)
      refine mN0 (oFaS tf53_0 tk33 ts33 rfl rfl rfl ⟨rfl, ?_⟩)
      refine mN0 (oFaS tf33_2 tk3 ts3 rfl rfl rfl ⟨rfl, ?_⟩)
      refine mN0 (oLd rfl tk3 ta3 ⟨rfl, ?_⟩)
      refine mN0 (oCP (args := [.lst 4 (List.map GEnrolment.lv r4.1), .int .i64 x7.Entry.Candidate, .int .i64 x8.Entry.Paper]) rfl isF27 rfl (sbR (sbR (sbR sbN))) (entry_Find_ok hr9) rfl ⟨rfl, ?_⟩)
      refine mN0 (oM (v := (.tup _)) rfl ⟨rfl, ?_⟩)
      refine mN0 (oEx rfl rfl ⟨rfl, ?_⟩)
      refine mN0 (oEx rfl rfl ⟨rfl, ?_⟩)
      refine mN2 (oAl (id := 109) rfl tz53 rfl rfl ?_)
      refine m_2 (oSt rfl rfl rfl tk53 ts53 rfl rfl rfl ?_)
      refine mN0 (oA (v := (.bool _)) rfl ⟨rfl, ?_⟩)
      exact m0 ((Wk.trans (Wk.to (el := [(5, .lst 4 (List.map GEnrolment.lv r4.1)), (7, .int .i64 r4.2.2), (8, .int .i64 n5), (9, .ptr 109 0), (10, .bool r9.2)]) (ml := [(109, .box [.int .i64 r9.1.Entry.Candidate, .int .i64 r9.1.Entry.Centre, .int .i64 r9.1.Entry.Paper, .bool r9.1.Late])]) (eC rfl (eC rfl (eC rfl (eC rfl (eC rfl eN))))) (mC rfl mN) rfl (prK rfl)) (Wk.trans (Wk.frzB 109 [.int .i64 r9.1.Entry.Candidate, .int .i64 r9.1.Entry.Centre, .int .i64 r9.1.Entry.Paper, .bool r9.1.Late] rfl rfl rfl (prN rfl)) (Wk.to (eC rfl (eC rfl (eC rfl (eC rfl (eC rfl eN))))) mN rfl (prK rfl)))))
    refine LH.seq ?_
    obtain ⟨w11, hv, h⟩ := bindS h
    refine LH.seqJM mixed [] [0, 0, 0, 0, 0, 0, 0, 0, 0, 0, 0, 0, 0, 0, 0, 0, 0, 0, 0] [(5, .lst 4 (List.map GEnrolment.lv r4.1)), (7, .int .i64 r4.2.2), (8, .int .i64 n5), (66, .bool w11)] [] rfl rfl (by kernel_rfl) ?_ ?_
    · refine mN0 (oM (v := (.bool _)) rfl ⟨rfl, ?_⟩)
      refine mN0 (oNot rfl ⟨rfl, ?_⟩)
      refine mN0 (oM (v := (.bool _)) rfl ⟨rfl, ?_⟩)
      by_cases hb12 : (!r9.2) = true
      · replace hv := iteT hv hb12
        refine mF rfl rfl hb12 ?_
        refine mF rfl rfl hb12 ?_
        refine mF rfl rfl hb12 ?_
        refine mF rfl rfl hb12 ?_
        refine mF rfl rfl hb12 ?_
        refine mF rfl rfl hb12 ?_
        refine mN0 (oPkT (congrArg LV.bool hb12) (v := (.bool _)) rfl ⟨rfl, ?_⟩)
        refine mN0 (oM (v := (.bool _)) rfl ⟨rfl, ?_⟩)
        refine mF rfl rfl rfl ?_
        refine mF rfl rfl rfl ?_
        refine mF rfl rfl rfl ?_
        refine mF rfl rfl rfl ?_
        refine mF rfl rfl rfl ?_
        refine mF rfl rfl rfl ?_
        refine mF rfl rfl rfl ?_
        refine mN0 (oPkT rfl (v := (.bool _)) rfl ⟨rfl, ?_⟩)
        obtain rfl := Option.some.inj hv
        exact m0 (Wk.to (eC rfl (eC rfl (eC rfl (eC rfl eN)))) mN rfl (prK rfl))
      · replace hb12 := bF hb12
        replace hv := iteF hv hb12
        refine mT rfl (congrArg LV.bool hb12) (mN0 (oLdA rfl tk53 ta53 ts53 rfl rfl ⟨rfl, ?_⟩))
        refine mT rfl (congrArg LV.bool hb12) (mN0 (oM (v := (.lst _ _)) rfl ⟨rfl, ?_⟩))
        refine mT rfl (congrArg LV.bool hb12) (mN0 (oM (v := (.int _ _)) rfl ⟨rfl, ?_⟩))
        obtain ⟨x13, hx13, hv⟩ := bindS hv
        refine mT rfl (congrArg LV.bool hb12) (mN0 (oIx (f := GEnrolment.lv) te44 tk53 ts53 rfl rfl GEnrolment.ok hx13 rfl ⟨rfl, ?_⟩))
        refine mT rfl (congrArg LV.bool hb12) (mN0 (oLdA rfl tk53 ta53 ts53 rfl rfl ⟨rfl, ?_⟩))
        refine mT rfl (congrArg LV.bool hb12) (mN0 (oNeA rfl rfl (ae53 r9.1 x13) ⟨rfl, ?_⟩))
        refine mN0 (oPkF (congrArg LV.bool hb12) (v := (.bool _)) rfl ⟨rfl, ?_⟩)
        refine mN0 (oM (v := (.bool _)) rfl ⟨rfl, ?_⟩)
        by_cases hb14 : (!(decide (r9.1 = x13))) = true
        · replace hv := iteT hv hb14
          refine mF rfl rfl hb14 ?_
          refine mF rfl rfl hb14 ?_
          refine mF rfl rfl hb14 ?_
          refine mF rfl rfl hb14 ?_
          refine mF rfl rfl hb14 ?_
          refine mF rfl rfl hb14 ?_
          refine mF rfl rfl hb14 ?_
          refine mN0 (oPkT (congrArg LV.bool hb14) (v := (.bool _)) rfl ⟨rfl, ?_⟩)
          obtain rfl := Option.some.inj hv
          exact m0 (Wk.to (eC rfl (eC rfl (eC rfl (eC rfl eN)))) mN rfl (prK rfl))
        · replace hb14 := bF hb14
          replace hv := iteF hv hb14
          refine mT rfl (congrArg LV.bool hb14) (mN0 (oM (v := (.lst _ _)) rfl ⟨rfl, ?_⟩))
          refine mT rfl (congrArg LV.bool hb14) (mN0 (oM (v := (.int _ _)) rfl ⟨rfl, ?_⟩))
          obtain ⟨x15, hx15, hv⟩ := bindS hv
          refine mT rfl (congrArg LV.bool hb14) (mN0 (oIx (f := GEnrolment.lv) te44 tk53 ts53 rfl rfl GEnrolment.ok hx15 rfl ⟨rfl, ?_⟩))
          refine mT rfl (congrArg LV.bool hb14) (mN0 (oFaS tf53_0 tk33 ts33 rfl rfl rfl ⟨rfl, ?_⟩))
          refine mT rfl (congrArg LV.bool hb14) (mN0 (oLdA rfl tk33 ta33 ts33 rfl rfl ⟨rfl, ?_⟩))
          obtain ⟨r16, hr16, hv⟩ := bindS hv
          refine mT rfl (congrArg LV.bool hb14) (mN0 (oCP (args := [.agg [.int .i64 x15.Entry.Candidate, .int .i64 x15.Entry.Centre, .int .i64 x15.Entry.Paper]]) rfl isF28 rfl (sbR sbN) (ref13_Entry_ok hr16) rfl ⟨rfl, ?_⟩))
          refine mT rfl (congrArg LV.bool hb14) (mN0 (oNot rfl ⟨rfl, ?_⟩))
          refine mN0 (oPkF (congrArg LV.bool hb14) (v := (.bool _)) rfl ⟨rfl, ?_⟩)
          obtain rfl := Option.some.inj hv
          exact m0 (Wk.to (eC rfl (eC rfl (eC rfl (eC rfl eN)))) mN rfl (prK rfl))
    clear hv
    refine LH.cond (t := w11) rfl (fun hc17 => ?_) (fun hc17 => ?_)
    · replace h := iteT h hc17
      refine LH.seqT [(2, .bool false)] [] rfl ?_ ?_
      · refine sN (oA (v := (.bool _)) rfl ?_)
        exact s0 (Wk.to (eC rfl eN) mN rfl (prK rfl))
      refine LH.ret ?_
      refine thenR ?_
      refine blockR ?_
      refine thenR ?_
      refine roundR ?_
      refine blockR ?_
      refine thenR ?_
      obtain rfl := Option.some.inj h
      exact retE (congrArg Array.toList Try.results7) (lrT rfl (lr0 ⟨memN mN, rfl, prK rfl, Sub.rfl⟩))
    replace h := iteF h hc17
    refine LH.skip ?_
    refine thenN ?_
    refine LH.wk (Wk.to (el := [(5, .lst 4 (List.map GEnrolment.lv r4.1)), (7, .int .i64 r4.2.2), (8, .int .i64 n5)]) (ml := []) (eC rfl (eC rfl (eC rfl eN))) mN rfl (prK rfl)) ?_
    refine LH.seqT [(5, .lst 4 (List.map GEnrolment.lv r4.1)), (7, .int .i64 r4.2.2), (8, .int .i64 n5), (68, .bool (decide (n5 > 0)))] [] rfl ?_ ?_
    · refine sN (oM (v := (.int _ _)) rfl ?_)
      refine sN (oGt rfl rfl ?_)
      exact s0 (Wk.to (eC rfl (eC rfl (eC rfl (eC rfl eN)))) mN rfl (prK rfl))
    refine LH.cond (t := (decide (n5 > 0))) rfl (fun hc18 => ?_) (fun hc18 => ?_)
    · replace h := iteT h hc18
      obtain ⟨x19, hx19, h⟩ := bindS h
      obtain ⟨x20, hx20, h⟩ := bindS h
      refine LH.seqJM mixed [] [0, 0, 0, 0, 0, 0, 0, 0, 0, 0, 0, 2, 2, 2, 2] [(5, .lst 4 (List.map GEnrolment.lv r4.1)), (7, .int .i64 r4.2.2), (8, .int .i64 n5), (11, .sptr [.int .i64 x19.Entry.Candidate, .int .i64 x19.Entry.Centre, .int .i64 x19.Entry.Paper]), (12, .sptr [.int .i64 x20.Entry.Candidate, .int .i64 x20.Entry.Centre, .int .i64 x20.Entry.Paper])] [] rfl rfl (by kernel_rfl) ?_ ?_
      · refine mN0 (oM (v := (.lst _ _)) rfl ⟨rfl, ?_⟩)
        refine mN0 (oM (v := (.int _ _)) rfl ⟨rfl, ?_⟩)
        refine mN0 (oSub rfl rfl ⟨rfl, ?_⟩)
        refine mN0 (oIx (f := GEnrolment.lv) te44 tk53 ts53 rfl rfl GEnrolment.ok hx19 rfl ⟨rfl, ?_⟩)
        refine mN0 (oFaS tf53_0 tk33 ts33 rfl rfl rfl ⟨rfl, ?_⟩)
        refine mN0 (oLdA rfl tk33 ta33 ts33 rfl rfl ⟨rfl, ?_⟩)
        refine mN0 (oM (v := (.lst _ _)) rfl ⟨rfl, ?_⟩)
        refine mN0 (oM (v := (.int _ _)) rfl ⟨rfl, ?_⟩)
        refine mN0 (oIx (f := GEnrolment.lv) te44 tk53 ts53 rfl rfl GEnrolment.ok hx20 rfl ⟨rfl, ?_⟩)
        refine mN0 (oFaS tf53_0 tk33 ts33 rfl rfl rfl ⟨rfl, ?_⟩)
        refine mN0 (oLdA rfl tk33 ta33 ts33 rfl rfl ⟨rfl, ?_⟩)
        refine mN2 (oAl (id := 111) rfl tz33 rfl rfl ?_)
        refine mN2 (oAl (id := 112) rfl tz33 rfl rfl ?_)
        refine m_2 (oSt rfl rfl rfl tk33 ts33 rfl rfl rfl ?_)
        refine m_2 (oSt rfl rfl rfl tk33 ts33 rfl rfl rfl ?_)
        exact m0 ((Wk.trans (Wk.to (el := [(5, .lst 4 (List.map GEnrolment.lv r4.1)), (7, .int .i64 r4.2.2), (8, .int .i64 n5), (11, .ptr 111 0), (12, .ptr 112 0)]) (ml := [(111, .box [.int .i64 x19.Entry.Candidate, .int .i64 x19.Entry.Centre, .int .i64 x19.Entry.Paper]), (112, .box [.int .i64 x20.Entry.Candidate, .int .i64 x20.Entry.Centre, .int .i64 x20.Entry.Paper])]) (eC rfl (eC rfl (eC rfl (eC rfl (eC rfl eN))))) (mC rfl (mC rfl mN)) rfl (prK rfl)) (Wk.trans (Wk.frzB 111 [.int .i64 x19.Entry.Candidate, .int .i64 x19.Entry.Centre, .int .i64 x19.Entry.Paper] rfl rfl rfl (prN rfl)) (Wk.trans (Wk.frzB 112 [.int .i64 x20.Entry.Candidate, .int .i64 x20.Entry.Centre, .int .i64 x20.Entry.Paper] rfl rfl rfl (prN rfl)) (Wk.to (eC rfl (eC rfl (eC rfl (eC rfl (eC rfl eN))))) mN rfl (prK rfl))))))
      refine LH.seqT [(5, .lst 4 (List.map GEnrolment.lv r4.1)), (7, .int .i64 r4.2.2), (8, .int .i64 n5), (98, .bool ((decide (x19.Entry.Candidate > x20.Entry.Candidate)) || ((x19.Entry.Candidate == x20.Entry.Candidate) && (decide (x19.Entry.Paper ≥ x20.Entry.Paper)))))] [] rfl ?_ ?_
      · refine sN (oFaS tf33_0 tk3 ts3 rfl rfl rfl ?_)
        refine sN (oLd rfl tk3 ta3 ?_)
        refine sN (oFaS tf33_0 tk3 ts3 rfl rfl rfl ?_)
        refine sN (oLd rfl tk3 ta3 ?_)
        refine sN (oGt rfl rfl ?_)
        refine sN (oM (v := (.bool _)) rfl ?_)
        by_cases hb22 : (decide (x19.Entry.Candidate > x20.Entry.Candidate)) = true
        · refine sF rfl rfl hb22 ?_
          refine sF rfl rfl hb22 ?_
          refine sF rfl rfl hb22 ?_
          refine sF rfl rfl hb22 ?_
          refine sF rfl rfl hb22 ?_
          refine sF rfl rfl hb22 ?_
          refine sU rfl rfl ?_
          refine sU rfl rfl ?_
          refine sU rfl rfl ?_
          refine sU rfl rfl ?_
          refine sU rfl rfl ?_
          refine sF rfl rfl hb22 ?_
          refine sN (oPkT (congrArg LV.bool hb22) (v := (.bool _)) rfl ?_)
          exact s0 (Wk.to (eC rfl (eC rfl (eC rfl (eC (congrArg LV.bool (orT hb22)) eN)))) mN rfl (prK rfl))
        · replace hb22 := bF hb22
          refine sT rfl (congrArg LV.bool hb22) (oFaS tf33_0 tk3 ts3 rfl rfl rfl ?_)
          refine sT rfl (congrArg LV.bool hb22) (oLd rfl tk3 ta3 ?_)
          refine sT rfl (congrArg LV.bool hb22) (oFaS tf33_0 tk3 ts3 rfl rfl rfl ?_)
          refine sT rfl (congrArg LV.bool hb22) (oLd rfl tk3 ta3 ?_)
          refine sT rfl (congrArg LV.bool hb22) (oEq rfl rfl ?_)
          refine sT rfl (congrArg LV.bool hb22) (oM (v := (.bool _)) rfl ?_)
          by_cases hb23 : (x19.Entry.Candidate == x20.Entry.Candidate) = true
          · refine sT rfl (congrArg LV.bool hb23) (oFaS tf33_2 tk3 ts3 rfl rfl rfl ?_)
            refine sT rfl (congrArg LV.bool hb23) (oLd rfl tk3 ta3 ?_)
            refine sT rfl (congrArg LV.bool hb23) (oFaS tf33_2 tk3 ts3 rfl rfl rfl ?_)
            refine sT rfl (congrArg LV.bool hb23) (oLd rfl tk3 ta3 ?_)
            refine sT rfl (congrArg LV.bool hb23) (oGe rfl rfl ?_)
            refine sT rfl (congrArg LV.bool hb22) (oPkT (congrArg LV.bool hb23) (v := (.bool _)) rfl ?_)
            refine sN (oPkF (congrArg LV.bool hb22) (v := (.bool _)) rfl ?_)
            exact s0 (Wk.to (eC rfl (eC rfl (eC rfl (eC (congrArg LV.bool (Eq.trans (andT hb23) (orF hb22))) eN)))) mN rfl (prK rfl))
          · replace hb23 := bF hb23
            refine sF rfl rfl hb23 ?_
            refine sF rfl rfl hb23 ?_
            refine sF rfl rfl hb23 ?_
            refine sF rfl rfl hb23 ?_
            refine sF rfl rfl hb23 ?_
            refine sT rfl (congrArg LV.bool hb22) (oPkF (congrArg LV.bool hb23) (v := (.bool _)) rfl ?_)
            refine sN (oPkF (congrArg LV.bool hb22) (v := (.bool _)) rfl ?_)
            exact s0 (Wk.to (eC rfl (eC rfl (eC rfl (eC (congrArg LV.bool (Eq.trans (andF hb23) (orF hb22))) eN)))) mN rfl (prK rfl))
      refine LH.cond (t := ((decide (x19.Entry.Candidate > x20.Entry.Candidate)) || ((x19.Entry.Candidate == x20.Entry.Candidate) && (decide (x19.Entry.Paper ≥ x20.Entry.Paper))))) rfl (fun hc24 => ?_) (fun hc24 => ?_)
      · replace h := iteT h hc24
        refine LH.seqT [(2, .bool false)] [] rfl ?_ ?_
        · refine sN (oA (v := (.bool _)) rfl ?_)
          exact s0 (Wk.to (eC rfl eN) mN rfl (prK rfl))
        refine LH.ret ?_
        refine blockR ?_
        refine thenR ?_
        refine roundR ?_
        refine blockR ?_
        refine thenR ?_
        obtain rfl := Option.some.inj h
        exact retE (congrArg Array.toList Try.results7) (lrT rfl (lr0 ⟨memN mN, rfl, prK rfl, Sub.rfl⟩))
      replace h := iteF h hc24
      refine LH.skip ?_
      refine blockN ?_
      refine thenN ?_
      refine LH.wk (Wk.to (el := [(5, .lst 4 (List.map GEnrolment.lv r4.1)), (7, .int .i64 r4.2.2), (8, .int .i64 n5)]) (ml := []) (eC rfl (eC rfl (eC rfl eN))) mN rfl (prK rfl)) ?_
      refine LH.loneT [(5, .lst 4 (List.map GEnrolment.lv r4.1)), (7, .int .i64 r4.2.2), (8, .int .i64 (i64 (n5 + 1)))] [] rfl ?_ ?_
      · refine sN (oM (v := (.int _ _)) rfl ?_)
        refine sN (oAdd rfl rfl ?_)
        refine sN (oA (v := (.int _ _)) rfl ?_)
        exact s0 (Wk.to (eC rfl (eC rfl (eC rfl eN))) mN rfl (prK rfl))
      exact roundN (e' := Env.of [(5, .lst 4 (List.map GEnrolment.lv r4.1)), (7, .int .i64 r4.2.2), (8, .int .i64 (i64 (n5 + 1)))]) (m' := Mem.of []) (Wk.to (eC rfl (eC rfl (eC rfl eN))) mN rfl (prK rfl)) ⟨(i64 (n5 + 1)), hrec1 ▸ h, rfl, rfl⟩
    replace h := iteF h hc18
    refine LH.skip ?_
    refine blockN ?_
    refine thenN ?_
    refine LH.wk (Wk.to (el := [(5, .lst 4 (List.map GEnrolment.lv r4.1)), (7, .int .i64 r4.2.2), (8, .int .i64 n5)]) (ml := []) (eC rfl (eC rfl (eC rfl eN))) mN rfl (prK rfl)) ?_
    refine LH.loneT [(5, .lst 4 (List.map GEnrolment.lv r4.1)), (7, .int .i64 r4.2.2), (8, .int .i64 (i64 (n5 + 1)))] [] rfl ?_ ?_
    · refine sN (oM (v := (.int _ _)) rfl ?_)
      refine sN (oAdd rfl rfl ?_)
      refine sN (oA (v := (.int _ _)) rfl ?_)
      exact s0 (Wk.to (eC rfl (eC rfl (eC rfl eN))) mN rfl (prK rfl))
    exact roundN (e' := Env.of [(5, .lst 4 (List.map GEnrolment.lv r4.1)), (7, .int .i64 r4.2.2), (8, .int .i64 (i64 (n5 + 1)))]) (m' := Mem.of []) (Wk.to (eC rfl (eC rfl (eC rfl eN))) mN rfl (prK rfl)) ⟨(i64 (n5 + 1)), hrec1 ▸ h, rfl, rfl⟩
  replace h := iteF h hc6
  refine LH.exit ?_
  refine thenX ?_
  refine roundX ?_
  refine blockH ?_
  refine thenN ?_
  refine LH.wk (Wk.to (el := [(7, .int .i64 r4.2.2)]) (ml := []) (eC rfl eN) mN rfl (prK rfl)) ?_
  obtain ⟨w26, hv, h⟩ := bindS h
  refine LH.seqT [(2, .bool w26)] [] rfl ?_ ?_
  · refine sN (oM (v := (.int _ _)) rfl ?_)
    refine sN (oEq rfl rfl ?_)
    refine sN (oM (v := (.bool _)) rfl ?_)
    by_cases hb27 : (r4.2.2 == 0) = true
    · replace hv := iteT hv hb27
      obtain ⟨r28, hr28, hv⟩ := bindS hv
      refine sT rfl (congrArg LV.bool hb27) (oCP (args := []) rfl isF18 rfl sbN (law13_awake_ok hr28) rfl ?_)
      refine sN (oPkT (congrArg LV.bool hb27) (v := (.bool _)) rfl ?_)
      refine sN (oA (v := (.bool _)) rfl ?_)
      obtain rfl := Option.some.inj hv
      exact s0 (Wk.to (eC rfl eN) mN rfl (prK rfl))
    · replace hb27 := bF hb27
      replace hv := iteF hv hb27
      refine sF rfl rfl hb27 ?_
      refine sN (oPkF (congrArg LV.bool hb27) (v := (.bool _)) rfl ?_)
      refine sN (oA (v := (.bool _)) rfl ?_)
      obtain rfl := Option.some.inj hv
      exact s0 (Wk.to (eC rfl eN) mN rfl (prK rfl))
  clear hv
  refine LH.ret ?_
  obtain rfl := Option.some.inj h
  exact retE (congrArg Array.toList Try.results7) (lrT rfl (lr0 ⟨memN mN, rfl, prK rfl, Sub.rfl⟩))

end Go.Proofs.Ytkkhmngmhckgbaa
