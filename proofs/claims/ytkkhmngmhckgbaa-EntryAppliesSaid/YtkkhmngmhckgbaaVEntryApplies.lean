/- Walks, printed by program (gen.py): each function computes its plain function. -/
import Derived.Test.YtkkhmngmhckgbaaW3
set_option linter.unusedVariables false
set_option linter.unusedSimpArgs false
set_option maxRecDepth 100000
namespace Go.Proofs.Ytkkhmngmhckgbaa
open Go.L Go.Sh
theorem law13_EntryApplies_ok {F : Nat} {p0 : List Int} {r : Bool} (h : law13_EntryApplies F p0 = some r) : LCall Try.prog 8 [.lst 1 (List.map (LV.int .i64) p0)] (Mem.of []) (.bool r) (Mem.of []) := by
  unfold law13_EntryApplies at h
  refine bodyT Try.func8 rfl (by rw [Try.ntmps8]; exact Nat.le_of_ble_eq_true rfl) ?_
  refine LH.wk (Wk.to (el := [(0, .lst 1 (List.map (LV.int .i64) p0))]) (ml := []) (eC rfl eN) mN rfl (prK rfl)) ?_
  refine LH.seqT [(0, .lst 1 (List.map (LV.int .i64) p0))] [] rfl ?_ ?_
  · refine sN (oA (v := (.bool _)) rfl ?_)
    exact s0 (Wk.to (eC rfl eN) mN rfl (prK rfl))
  obtain ⟨r1, hr1, h⟩ := bindS h
  refine LH.seqT [(3, .ptr 7 0)] [(7, .box [.lst 1 (List.map (LV.int .i64) r1.L), .int .i64 r1.At])] rfl ?_ ?_
  · refine sN (oM (v := (.lst _ _)) rfl ?_)
    refine sN (oCM (args := [.lst 1 (List.map (LV.int .i64) p0)]) (ml := []) (ml' := [(7, .box [.lst 1 (List.map (LV.int .i64) r1.L), .int .i64 r1.At])]) rfl isF12 rfl (sbR sbN) (make_New_ok hr1) mN (newF rfl newN) rfl ?_)
    refine sN (oA (v := (.ptr _ _)) rfl ?_)
    exact s0 (Wk.to (eC rfl eN) (mC rfl mN) rfl (prK rfl))
  obtain ⟨r2, hr2, h⟩ := bindS h
  refine LH.seqT [(3, .ptr 7 0), (4, .sptr [.int .i64 r2.1.Close, .int .i64 r2.1.Late])] [(7, .box [.lst 1 (List.map (LV.int .i64) r2.2.L), .int .i64 r2.2.At])] rfl ?_ ?_
  · refine sN (oM (v := (.ptr _ _)) rfl ?_)
    refine sN (oCM (args := [.ptr 7 0, .int .i64 10]) (ml := [(7, .box [.lst 1 (List.map (LV.int .i64) r1.L), .int .i64 r1.At])]) (ml' := [(7, .box [.lst 1 (List.map (LV.int .i64) r2.2.L), .int .i64 r2.2.At])]) rfl isF19 rfl (sbR (sbR sbN)) (GTape_Deadlines_ok hr2) (mC rfl mN) (newI rfl newN) rfl ?_)
    refine sN (oAl (id := 104) rfl tz41 rfl rfl ?_)
    refine s_ (oSt rfl rfl rfl tk41 ts41 rfl rfl rfl ?_)
    exact s0 ((Wk.trans (Wk.to (el := [(3, .ptr 7 0), (4, .ptr 104 0)]) (ml := [(7, .box [.lst 1 (List.map (LV.int .i64) r2.2.L), .int .i64 r2.2.At]), (104, .box [.int .i64 r2.1.Close, .int .i64 r2.1.Late])]) (eC rfl (eC rfl eN)) (mC rfl (mC rfl mN)) rfl (prK rfl)) (Wk.trans (Wk.frzB 104 [.int .i64 r2.1.Close, .int .i64 r2.1.Late] rfl rfl rfl (prN rfl)) (Wk.to (eC rfl (eC rfl eN)) (mC rfl mN) rfl (prK rfl)))))
  obtain ⟨r3, hr3, h⟩ := bindS h
  obtain ⟨r4, hr4, h⟩ := bindS h
  refine LH.seqT [(3, .ptr 7 0), (4, .sptr [.int .i64 r2.1.Close, .int .i64 r2.1.Late]), (5, .arr 900 (List.length r4.1))] [(7, .box [.lst 1 (List.map (LV.int .i64) r3.2.L), .int .i64 r3.2.At]), (900, .arr 53 4 (List.map GEnrolment.lv r4.1))] rfl ?_ ?_
  · refine sN (oM (v := (.ptr _ _)) rfl ?_)
    refine sN (oCM (args := [.ptr 7 0, .int .i64 8, .int .i64 0]) (ml := [(7, .box [.lst 1 (List.map (LV.int .i64) r2.2.L), .int .i64 r2.2.At])]) (ml' := [(7, .box [.lst 1 (List.map (LV.int .i64) r3.2.L), .int .i64 r3.2.At])]) rfl isF13 rfl (sbR (sbR (sbR sbN))) (GTape_EntryEvents_ok hr3) (mC rfl mN) (newI rfl newN) rfl ?_)
    refine sN (oBd (vs := [(0, .int .i64 20), (1, .int .i64 24)]) tu41 tz41 rfl (lf tf41_0 ts3 tk3 rfl rfl rfl (lf tf41_1 ts3 tk3 rfl rfl rfl lf0)) ?_)
    refine sN (oCM (args := [.lst 8 (List.map GEntryEvent.lv r3.1), .agg [.int .i64 20, .int .i64 24], .int .i64 24]) (ml := []) (ml' := [(900, .arr 53 4 (List.map GEnrolment.lv r4.1))]) rfl isF22 rfl (sbR (sbR (sbR sbN))) (ref13_Fold_ok hr4) mN (newF rfl newN) rfl ?_)
    refine sN (oM (v := (.tup _)) rfl ?_)
    refine sN (oEx rfl rfl ?_)
    refine sN (oEx rfl rfl ?_)
    refine sN (oEx rfl rfl ?_)
    refine sN (oA (v := (.arr _ _)) rfl ?_)
    refine sN (oA (v := (.lst _ _)) rfl ?_)
    refine sN (oA (v := (.int _ _)) rfl ?_)
    exact s0 (Wk.to (eC rfl (eC rfl (eC rfl eN))) (mC rfl (mC rfl mN)) rfl (prK rfl))
  refine LH.mid (fun e m => ∃ (l5 : List GEnrolment) (l6 : List Int) (n7 : Int), law13_EntryApplies_J1 F r2 l5 l6 n7 = some r ∧ Wk (fun id => Mem.of [] id ≠ .none) e m (Env.of [(3, .ptr 7 0), (4, .sptr [.int .i64 r2.1.Close, .int .i64 r2.1.Late]), (5, .lst 4 (List.map GEnrolment.lv l5))]) (Mem.of [(7, .box [.lst 1 (List.map (LV.int .i64) l6), .int .i64 n7])])) ?_ ?_
  · obtain ⟨w24, hv, h⟩ := bindS h
    refine LH.seqT [(3, .ptr 7 0), (4, .sptr [.int .i64 r2.1.Close, .int .i64 r2.1.Late]), (5, .arr 900 (List.length r4.1)), (32, .bool w24.1)] [(7, .box [.lst 1 (List.map (LV.int .i64) w24.2.1), .int .i64 w24.2.2]), (900, .arr 53 4 (List.map GEnrolment.lv r4.1))] rfl ?_ ?_
    · refine sN (oM (v := (.arr _ _)) rfl ?_)
      refine sN (oLnA (f := GEnrolment.lv) te44 rfl rfl ?_)
      refine sN (oGt rfl rfl ?_)
      refine sN (oM (v := (.bool _)) rfl ?_)
      by_cases hb25 : (decide ((r4.1.length : Int) > 0)) = true
      · replace hv := iteT hv hb25
        refine sT rfl (congrArg LV.bool hb25) (oM (v := (.ptr _ _)) rfl ?_)
        obtain ⟨r26, hr26, hv⟩ := bindS hv
        refine sT rfl (congrArg LV.bool hb25) (oCM (args := [.ptr 7 0, .int .i64 10]) (ml := [(7, .box [.lst 1 (List.map (LV.int .i64) r3.2.L), .int .i64 r3.2.At])]) (ml' := [(7, .box [.lst 1 (List.map (LV.int .i64) r26.2.L), .int .i64 r26.2.At])]) rfl isF29 rfl (sbR (sbR sbN)) (GTape_One_ok hr26) (mC rfl mN) (newI rfl newN) rfl ?_)
        refine sN (oPkT (congrArg LV.bool hb25) (v := (.bool _)) rfl ?_)
        obtain rfl := Option.some.inj hv
        exact s0 (Wk.to (eC rfl (eC rfl (eC rfl (eC rfl eN)))) (mC rfl (mC rfl mN)) rfl (prK rfl))
      · replace hb25 := bF hb25
        replace hv := iteF hv hb25
        refine sF rfl rfl hb25 ?_
        refine sF rfl rfl hb25 ?_
        refine sN (oPkF (congrArg LV.bool hb25) (v := (.bool _)) rfl ?_)
        obtain rfl := Option.some.inj hv
        exact s0 (Wk.to (eC rfl (eC rfl (eC rfl (eC rfl eN)))) (mC rfl (mC rfl mN)) rfl (prK rfl))
    clear hv
    refine LH.cond (t := w24.1) rfl (fun hc27 => ?_) (fun hc27 => ?_)
    · replace h := iteT h hc27
      obtain ⟨r28, hr28, h⟩ := bindS h
      obtain ⟨x29, hx29, h⟩ := bindS h
      obtain ⟨v30, hv30, h⟩ := bindS h
      refine LH.loneT [(3, .ptr 7 0), (4, .sptr [.int .i64 r2.1.Close, .int .i64 r2.1.Late]), (5, .lst 4 (List.map GEnrolment.lv v30))] [(7, .box [.lst 1 (List.map (LV.int .i64) r28.2.L), .int .i64 r28.2.At])] rfl ?_ ?_
      · refine sN (oM (v := (.arr _ _)) rfl ?_)
        refine sN (oM (v := (.arr _ _)) rfl ?_)
        refine sN (oM (v := (.ptr _ _)) rfl ?_)
        refine sN (oM (v := (.arr _ _)) rfl ?_)
        refine sN (oLnA (f := GEnrolment.lv) te44 rfl rfl ?_)
        refine sN (oCM (args := [.ptr 7 0, .int .i64 (r4.1.length : Int)]) (ml := [(7, .box [.lst 1 (List.map (LV.int .i64) w24.2.1), .int .i64 w24.2.2])]) (ml' := [(7, .box [.lst 1 (List.map (LV.int .i64) r28.2.L), .int .i64 r28.2.At])]) rfl isF16 rfl (sbR (sbR sbN)) (GTape_Next_ok hr28) (mC rfl mN) (newI rfl newN) rfl ?_)
        refine sN (oIxA (f := GEnrolment.lv) te44 tk53 ts53 rfl rfl rfl hx29 ?_)
        refine sN (oLdEA (f := GEnrolment.lv) rfl rfl (idxOk hx29).2 rfl rfl tk53 ta53 ts53 rfl rfl ?_)
        refine sN (oBS (f := GEnrolment.lv) (ys := [x29]) te44 tr53 ts53 rfl rfl rfl GEnrolment.ok ?_)
        refine sN (oAp (f := GEnrolment.lv) te44 tr53 ts53 rfl rfl (prN rfl) rfl hv30 ?_)
        refine sN (oA (v := (.arr _ _)) rfl ?_)
        exact s0 ((Wk.trans (Wk.to (el := [(3, .ptr 7 0), (4, .sptr [.int .i64 r2.1.Close, .int .i64 r2.1.Late]), (5, .arr 900 (List.length v30))]) (ml := [(7, .box [.lst 1 (List.map (LV.int .i64) r28.2.L), .int .i64 r28.2.At]), (900, .arr 53 4 (List.map GEnrolment.lv v30))]) (eC rfl (eC rfl (eC rfl eN))) (mC rfl (mC rfl mN)) rfl (prK rfl)) (Wk.trans (Wk.frzL (f := GEnrolment.lv) (el' := [(3, .ptr 7 0), (4, .sptr [.int .i64 r2.1.Close, .int .i64 r2.1.Late]), (5, .lst 4 (List.map GEnrolment.lv v30))]) 900 53 4 v30 rfl rfl (prN rfl) (fK rfl (fK rfl (fZ fN)))) (Wk.to (eC rfl (eC rfl (eC rfl eN))) (mC rfl mN) rfl (prK rfl)))))
      exact thenN ⟨v30, r28.2.L, r28.2.At, h, Wk.to (eC rfl (eC rfl (eC rfl eN))) (mC rfl mN) rfl (prK rfl)⟩
    replace h := iteF h hc27
    refine LH.skip ?_
    exact thenN ⟨r4.1, w24.2.1, w24.2.2, h, (Wk.trans (Wk.to (el := [(3, .ptr 7 0), (4, .sptr [.int .i64 r2.1.Close, .int .i64 r2.1.Late]), (5, .arr 900 (List.length r4.1))]) (ml := [(7, .box [.lst 1 (List.map (LV.int .i64) w24.2.1), .int .i64 w24.2.2]), (900, .arr 53 4 (List.map GEnrolment.lv r4.1))]) (eC rfl (eC rfl (eC rfl eN))) (mC rfl (mC rfl mN)) rfl (prK rfl)) (Wk.trans (Wk.frzL (f := GEnrolment.lv) (el' := [(3, .ptr 7 0), (4, .sptr [.int .i64 r2.1.Close, .int .i64 r2.1.Late]), (5, .lst 4 (List.map GEnrolment.lv r4.1))]) 900 53 4 r4.1 rfl rfl (prN rfl) (fK rfl (fK rfl (fZ fN)))) (Wk.to (eC rfl (eC rfl (eC rfl eN))) (mC rfl mN) rfl (prK rfl))))⟩
  clear h
  rintro e m ⟨l5, l6, n7, h, hw⟩
  refine LH.wk hw ?_
  clear hw
  unfold law13_EntryApplies_J1 at h
  obtain ⟨r8, hr8, h⟩ := bindS h
  refine LH.seqT [(4, .sptr [.int .i64 r2.1.Close, .int .i64 r2.1.Late]), (5, .lst 4 (List.map GEnrolment.lv l5)), (8, .lst 8 (List.map GEntryEvent.lv r8.1))] [] rfl ?_ ?_
  · refine sN (oM (v := (.ptr _ _)) rfl ?_)
    refine sN (oCM (args := [.ptr 7 0, .int .i64 4, .int .i64 2]) (ml := [(7, .box [.lst 1 (List.map (LV.int .i64) l6), .int .i64 n7])]) (ml' := [(7, .box [.lst 1 (List.map (LV.int .i64) r8.2.L), .int .i64 r8.2.At])]) rfl isF13 rfl (sbR (sbR (sbR sbN))) (GTape_EntryEvents_ok hr8) (mC rfl mN) (newI rfl newN) rfl ?_)
    refine sN (oA (v := (.lst _ _)) rfl ?_)
    exact s0 (Wk.to (eC rfl (eC rfl (eC rfl eN))) mN rfl (prK rfl))
  refine LH.seq ?_
  refine LH.seqT [(4, .sptr [.int .i64 r2.1.Close, .int .i64 r2.1.Late]), (5, .lst 4 (List.map GEnrolment.lv l5)), (8, .lst 8 (List.map GEntryEvent.lv r8.1)), (9, .int .i64 0)] [] rfl ?_ ?_
  · refine sN (oA (v := (.int _ _)) rfl ?_)
    exact s0 (Wk.to (eC rfl (eC rfl (eC rfl (eC rfl eN)))) mN rfl (prK rfl))
  refine LH.block ?_
  refine LH.loop (fun n e m => ∃ (n9 : Int), law13_EntryApplies_L2 F r2 l5 r8 n n9 = some r ∧ e = Env.of [(4, .sptr [.int .i64 r2.1.Close, .int .i64 r2.1.Late]), (5, .lst 4 (List.map GEnrolment.lv l5)), (8, .lst 8 (List.map GEntryEvent.lv r8.1)), (9, .int .i64 n9)] ∧ m = Mem.of []) F ⟨0, h, rfl, rfl⟩ ?_
  clear h
  rintro n e m ⟨n9, h, rfl, rfl⟩
  rcases n with _ | n
  · cases (show Option.none = some _ from h)
  obtain ⟨rec2, hrec2⟩ : ∃ f, f = law13_EntryApplies_L2 F r2 l5 r8 n := ⟨_, rfl⟩
  replace h : law13_EntryApplies_L2_B F r2 l5 r8 rec2 n9 = some r := hrec2 ▸ h
  unfold law13_EntryApplies_L2_B at h
  refine LH.seq ?_
  refine LH.seqT [(4, .sptr [.int .i64 r2.1.Close, .int .i64 r2.1.Late]), (5, .lst 4 (List.map GEnrolment.lv l5)), (8, .lst 8 (List.map GEntryEvent.lv r8.1)), (9, .int .i64 n9), (48, .bool (decide (n9 < (r8.1.length : Int))))] [] rfl ?_ ?_
  · refine sN (oM (v := (.int _ _)) rfl ?_)
    refine sN (oM (v := (.lst _ _)) rfl ?_)
    refine sN (oLnL (f := GEntryEvent.lv) te25 rfl ?_)
    refine sN (oLt rfl rfl ?_)
    exact s0 (Wk.to (eC rfl (eC rfl (eC rfl (eC rfl (eC rfl eN))))) mN rfl (prK rfl))
  refine LH.cond (t := (decide (n9 < (r8.1.length : Int)))) rfl (fun hc10 => ?_) (fun hc10 => ?_)
  · replace h := iteT h hc10
    refine LH.skip ?_
    refine thenN ?_
    refine LH.wk (Wk.to (el := [(4, .sptr [.int .i64 r2.1.Close, .int .i64 r2.1.Late]), (5, .lst 4 (List.map GEnrolment.lv l5)), (8, .lst 8 (List.map GEntryEvent.lv r8.1)), (9, .int .i64 n9)]) (ml := []) (eC rfl (eC rfl (eC rfl (eC rfl eN)))) mN rfl (prK rfl)) ?_
    refine LH.seq ?_
    refine LH.block ?_
    obtain ⟨x11, hx11, h⟩ := bindS h
    obtain ⟨r12, hr12, h⟩ := bindS h
    refine LH.seqJM mixed [] [0, 0, 0, 0, 0, 0, 0, 0, 0, 0, 0, 0] [(4, .sptr [.int .i64 r2.1.Close, .int .i64 r2.1.Late]), (5, .lst 4 (List.map GEnrolment.lv l5)), (8, .lst 8 (List.map GEntryEvent.lv r8.1)), (9, .int .i64 n9), (10, .lst 4 (List.map GEnrolment.lv r12.1)), (11, .int .i64 r12.2)] [] rfl rfl (by kernel_rfl) ?_ ?_
    · refine mN0 (oM (v := (.lst _ _)) rfl ⟨rfl, ?_⟩)
      refine mN0 (oLdA rfl tk41 ta41 ts41 rfl rfl ⟨rfl, ?_⟩)
      refine mN0 (oM (v := (.lst _ _)) rfl ⟨rfl, ?_⟩)
      refine mN0 (oM (v := (.int _ _)) rfl ⟨rfl, ?_⟩)
      refine mN0 (oIx (f := GEntryEvent.lv) te25 tk35 ts35 rfl rfl GEntryEvent.ok hx11 rfl ⟨rfl, ?_⟩)
      refine mN0 (oLdA rfl tk35 ta35 ts35 rfl rfl ⟨rfl, ?_⟩)
      refine mN0 (oCP (args := [.lst 4 (List.map GEnrolment.lv l5), .agg [.int .i64 r2.1.Close, .int .i64 r2.1.Late], .agg [.int .i64 x11.Stamp.Time, .int .i64 x11.Stamp.Source, .int .i64 x11.Stamp.Seq, .int .i64 x11.Kind, .int .i64 x11.Entry.Candidate, .int .i64 x11.Entry.Centre, .int .i64 x11.Entry.Paper, .int .i64 x11.To]]) rfl isF30 rfl (sbR (sbR (sbR sbN))) (entry_Apply_ok hr12) rfl ⟨rfl, ?_⟩)
      refine mN0 (oM (v := (.tup _)) rfl ⟨rfl, ?_⟩)
      refine mN0 (oEx rfl rfl ⟨rfl, ?_⟩)
      refine mN0 (oEx rfl rfl ⟨rfl, ?_⟩)
      refine mN0 (oA (v := (.lst _ _)) rfl ⟨rfl, ?_⟩)
      refine mN0 (oA (v := (.int _ _)) rfl ⟨rfl, ?_⟩)
      exact m0 (Wk.to (eC rfl (eC rfl (eC rfl (eC rfl (eC rfl (eC rfl eN)))))) mN rfl (prK rfl))
    obtain ⟨x13, hx13, h⟩ := bindS h
    obtain ⟨r14, hr14, h⟩ := bindS h
    refine LH.seqJM mixed [] [0, 0, 0, 0, 0, 0, 2, 0, 0, 0, 0, 0] [(4, .sptr [.int .i64 r2.1.Close, .int .i64 r2.1.Late]), (5, .lst 4 (List.map GEnrolment.lv l5)), (8, .lst 8 (List.map GEntryEvent.lv r8.1)), (9, .int .i64 n9), (10, .lst 4 (List.map GEnrolment.lv r12.1)), (11, .int .i64 r12.2), (12, .lst 4 (List.map GEnrolment.lv r14.1)), (13, .int .i64 r14.2)] [] rfl rfl (by kernel_rfl) ?_ ?_
    · refine mN0 (oM (v := (.lst _ _)) rfl ⟨rfl, ?_⟩)
      refine mN0 (oLdA rfl tk41 ta41 ts41 rfl rfl ⟨rfl, ?_⟩)
      refine mN0 (oM (v := (.lst _ _)) rfl ⟨rfl, ?_⟩)
      refine mN0 (oM (v := (.int _ _)) rfl ⟨rfl, ?_⟩)
      refine mN0 (oIx (f := GEntryEvent.lv) te25 tk35 ts35 rfl rfl GEntryEvent.ok hx13 rfl ⟨rfl, ?_⟩)
      refine mN0 (oLdA rfl tk35 ta35 ts35 rfl rfl ⟨rfl, ?_⟩)
      refine mN2 (oCM (args := [.lst 4 (List.map GEnrolment.lv l5), .agg [.int .i64 r2.1.Close, .int .i64 r2.1.Late], .agg [.int .i64 x13.Stamp.Time, .int .i64 x13.Stamp.Source, .int .i64 x13.Stamp.Seq, .int .i64 x13.Kind, .int .i64 x13.Entry.Candidate, .int .i64 x13.Entry.Centre, .int .i64 x13.Entry.Paper, .int .i64 x13.To]]) (ml := []) (ml' := [(900, .arr 53 4 (List.map GEnrolment.lv r14.1))]) rfl isF31 rfl (sbR (sbR (sbR sbN))) (ref13_Apply_ok hr14) mN (newF rfl newN) rfl ?_)
      refine mN0 (oM (v := (.tup _)) rfl ⟨rfl, ?_⟩)
      refine mN0 (oEx rfl rfl ⟨rfl, ?_⟩)
      refine mN0 (oEx rfl rfl ⟨rfl, ?_⟩)
      refine mN0 (oA (v := (.arr _ _)) rfl ⟨rfl, ?_⟩)
      refine mN0 (oA (v := (.int _ _)) rfl ⟨rfl, ?_⟩)
      exact m0 ((Wk.trans (Wk.to (el := [(4, .sptr [.int .i64 r2.1.Close, .int .i64 r2.1.Late]), (5, .lst 4 (List.map GEnrolment.lv l5)), (8, .lst 8 (List.map GEntryEvent.lv r8.1)), (9, .int .i64 n9), (10, .lst 4 (List.map GEnrolment.lv r12.1)), (11, .int .i64 r12.2), (12, .arr 900 (List.length r14.1)), (13, .int .i64 r14.2)]) (ml := [(900, .arr 53 4 (List.map GEnrolment.lv r14.1))]) (eC rfl (eC rfl (eC rfl (eC rfl (eC rfl (eC rfl (eC rfl (eC rfl eN)))))))) (mC rfl mN) rfl (prK rfl)) (Wk.trans (Wk.frzL (f := GEnrolment.lv) (el' := [(4, .sptr [.int .i64 r2.1.Close, .int .i64 r2.1.Late]), (5, .lst 4 (List.map GEnrolment.lv l5)), (8, .lst 8 (List.map GEntryEvent.lv r8.1)), (9, .int .i64 n9), (10, .lst 4 (List.map GEnrolment.lv r12.1)), (11, .int .i64 r12.2), (12, .lst 4 (List.map GEnrolment.lv r14.1)), (13, .int .i64 r14.2)]) 900 53 4 r14.1 rfl rfl (prN rfl) (fK rfl (fK rfl (fK rfl (fK rfl (fK rfl (fK rfl (fZ (fK rfl fN))))))))) (Wk.to (eC rfl (eC rfl (eC rfl (eC rfl (eC rfl (eC rfl (eC rfl (eC rfl eN)))))))) mN rfl (prK rfl)))))
    obtain ⟨w16, hv, h⟩ := bindS h
    refine LH.seqT [(4, .sptr [.int .i64 r2.1.Close, .int .i64 r2.1.Late]), (5, .lst 4 (List.map GEnrolment.lv l5)), (8, .lst 8 (List.map GEntryEvent.lv r8.1)), (9, .int .i64 n9), (79, .bool w16)] [] rfl ?_ ?_
    · refine sN (oM (v := (.lst _ _)) rfl ?_)
      refine sN (oM (v := (.lst _ _)) rfl ?_)
      obtain ⟨r17, hr17, hv⟩ := bindS hv
      refine sN (oCP (args := [.lst 4 (List.map GEnrolment.lv r12.1), .lst 4 (List.map GEnrolment.lv r14.1)]) rfl isF23 rfl (sbR (sbR sbN)) (law13_same_ok hr17) rfl ?_)
      refine sN (oNot rfl ?_)
      refine sN (oM (v := (.bool _)) rfl ?_)
      by_cases hb18 : (!r17) = true
      · replace hv := iteT hv hb18
        refine sF rfl rfl hb18 ?_
        refine sF rfl rfl hb18 ?_
        refine sF rfl rfl hb18 ?_
        refine sN (oPkT (congrArg LV.bool hb18) (v := (.bool _)) rfl ?_)
        obtain rfl := Option.some.inj hv
        exact s0 (Wk.to (eC rfl (eC rfl (eC rfl (eC rfl (eC rfl eN))))) mN rfl (prK rfl))
      · replace hb18 := bF hb18
        replace hv := iteF hv hb18
        refine sT rfl (congrArg LV.bool hb18) (oM (v := (.int _ _)) rfl ?_)
        refine sT rfl (congrArg LV.bool hb18) (oM (v := (.int _ _)) rfl ?_)
        refine sT rfl (congrArg LV.bool hb18) (oNe rfl rfl ?_)
        refine sN (oPkF (congrArg LV.bool hb18) (v := (.bool _)) rfl ?_)
        obtain rfl := Option.some.inj hv
        exact s0 (Wk.to (eC rfl (eC rfl (eC rfl (eC rfl (eC rfl eN))))) mN rfl (prK rfl))
    clear hv
    refine LH.cond (t := w16) rfl (fun hc19 => ?_) (fun hc19 => ?_)
    · replace h := iteT h hc19
      refine LH.seqT [(2, .bool false)] [] rfl ?_ ?_
      · refine sN (oA (v := (.bool _)) rfl ?_)
        exact s0 (Wk.to (eC rfl eN) mN rfl (prK rfl))
      refine LH.ret ?_
      refine blockR ?_
      refine thenR ?_
      refine roundR ?_
      refine blockR ?_
      refine thenR ?_
      obtain rfl := Option.some.inj h
      exact retE (congrArg Array.toList Try.results8) (lrT rfl (lr0 ⟨memN mN, rfl, prK rfl, Sub.rfl⟩))
    replace h := iteF h hc19
    refine LH.skip ?_
    refine blockN ?_
    refine thenN ?_
    refine LH.wk (Wk.to (el := [(4, .sptr [.int .i64 r2.1.Close, .int .i64 r2.1.Late]), (5, .lst 4 (List.map GEnrolment.lv l5)), (8, .lst 8 (List.map GEntryEvent.lv r8.1)), (9, .int .i64 n9)]) (ml := []) (eC rfl (eC rfl (eC rfl (eC rfl eN)))) mN rfl (prK rfl)) ?_
    refine LH.loneT [(4, .sptr [.int .i64 r2.1.Close, .int .i64 r2.1.Late]), (5, .lst 4 (List.map GEnrolment.lv l5)), (8, .lst 8 (List.map GEntryEvent.lv r8.1)), (9, .int .i64 (i64 (n9 + 1)))] [] rfl ?_ ?_
    · refine sN (oM (v := (.int _ _)) rfl ?_)
      refine sN (oAdd rfl rfl ?_)
      refine sN (oA (v := (.int _ _)) rfl ?_)
      exact s0 (Wk.to (eC rfl (eC rfl (eC rfl (eC rfl eN)))) mN rfl (prK rfl))
    exact roundN (e' := Env.of [(4, .sptr [.int .i64 r2.1.Close, .int .i64 r2.1.Late]), (5, .lst 4 (List.map GEnrolment.lv l5)), (8, .lst 8 (List.map GEntryEvent.lv r8.1)), (9, .int .i64 (i64 (n9 + 1)))]) (m' := Mem.of []) (Wk.to (eC rfl (eC rfl (eC rfl (eC rfl eN)))) mN rfl (prK rfl)) ⟨(i64 (n9 + 1)), hrec2 ▸ h, rfl, rfl⟩
  replace h := iteF h hc10
  refine LH.exit ?_
  refine thenX ?_
  refine roundX ?_
  refine blockH ?_
  refine thenN ?_
  refine LH.wk (Wk.to (el := []) (ml := []) eN mN rfl (prK rfl)) ?_
  obtain ⟨r20, hr20, h⟩ := bindS h
  refine LH.seqT [(2, .bool r20)] [] rfl ?_ ?_
  · refine sN (oCP (args := []) rfl isF18 rfl sbN (law13_awake_ok hr20) rfl ?_)
    refine sN (oA (v := (.bool _)) rfl ?_)
    exact s0 (Wk.to (eC rfl eN) mN rfl (prK rfl))
  refine LH.ret ?_
  obtain rfl := Option.some.inj h
  exact retE (congrArg Array.toList Try.results8) (lrT rfl (lr0 ⟨memN mN, rfl, prK rfl, Sub.rfl⟩))

end Go.Proofs.Ytkkhmngmhckgbaa
