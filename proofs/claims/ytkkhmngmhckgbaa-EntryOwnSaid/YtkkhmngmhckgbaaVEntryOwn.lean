/- Walks, printed by program (gen.py): each function computes its plain function. -/
import Derived.Test.YtkkhmngmhckgbaaW3
set_option linter.unusedVariables false
set_option linter.unusedSimpArgs false
set_option maxRecDepth 100000
namespace Go.Proofs.Ytkkhmngmhckgbaa
open Go.L Go.Sh
theorem law13_EntryOwn_ok {F : Nat} {p0 : List Int} {r : Bool} (h : law13_EntryOwn F p0 = some r) : LCall Try.prog 11 [.lst 1 (List.map (LV.int .i64) p0)] (Mem.of []) (.bool r) (Mem.of []) := by
  unfold law13_EntryOwn at h
  refine bodyT Try.func11 rfl (by rw [Try.ntmps11]; exact Nat.le_of_ble_eq_true rfl) ?_
  refine LH.wk (Wk.to (el := [(0, .lst 1 (List.map (LV.int .i64) p0))]) (ml := []) (eC rfl eN) mN rfl (prK rfl)) ?_
  refine LH.seqT [(0, .lst 1 (List.map (LV.int .i64) p0))] [] rfl ?_ ?_
  · refine sN (oA (v := (.bool _)) rfl ?_)
    exact s0 (Wk.to (eC rfl eN) mN rfl (prK rfl))
  obtain ⟨r1, hr1, h⟩ := bindS h
  refine LH.seqT [(3, .ptr 7 0)] [(7, .box [.lst 1 (List.map (LV.int .i64) r1.L), .int .i64 r1.At])] rfl ?_ ?_
  · refine sN (oM (v := (.lst _ _)) rfl ?_)
    refine sN (oCM (args := [.lst 1 (List.map (LV.int .i64) p0)]) (ml := []) (ml' := [(7, .box [.lst 1 (List.map (LV.int .i64) r1.L), .int .i64 r1.At])]) rfl isF12 rfl (sbR sbN) (make_New_ok hr1) mN (newF rfl newN) rfl ?_)
    refine sN (oA (v := (.ptr _ _)) rfl ?_)
    exact s0 (Wk.to (eC rfl eN) (mC rfl mN) rfl (prK rfl))
  obtain ⟨r2, hr2, h⟩ := bindS h
  refine LH.seqT [(3, .ptr 7 0), (4, .sptr [.int .i64 r2.1.Close, .int .i64 r2.1.Late])] [(7, .box [.lst 1 (List.map (LV.int .i64) r2.2.L), .int .i64 r2.2.At])] rfl ?_ ?_
  · refine sN (oM (v := (.ptr _ _)) rfl ?_)
    refine sN (oCM (args := [.ptr 7 0, .int .i64 0]) (ml := [(7, .box [.lst 1 (List.map (LV.int .i64) r1.L), .int .i64 r1.At])]) (ml' := [(7, .box [.lst 1 (List.map (LV.int .i64) r2.2.L), .int .i64 r2.2.At])]) rfl isF19 rfl (sbR (sbR sbN)) (GTape_Deadlines_ok hr2) (mC rfl mN) (newI rfl newN) rfl ?_)
    refine sN (oAl (id := 104) rfl tz41 rfl rfl ?_)
    refine s_ (oSt rfl rfl rfl tk41 ts41 rfl rfl rfl ?_)
    exact s0 ((Wk.trans (Wk.to (el := [(3, .ptr 7 0), (4, .ptr 104 0)]) (ml := [(7, .box [.lst 1 (List.map (LV.int .i64) r2.2.L), .int .i64 r2.2.At]), (104, .box [.int .i64 r2.1.Close, .int .i64 r2.1.Late])]) (eC rfl (eC rfl eN)) (mC rfl (mC rfl mN)) rfl (prK rfl)) (Wk.trans (Wk.frzB 104 [.int .i64 r2.1.Close, .int .i64 r2.1.Late] rfl rfl rfl (prN rfl)) (Wk.to (eC rfl (eC rfl eN)) (mC rfl mN) rfl (prK rfl)))))
  obtain ⟨r3, hr3, h⟩ := bindS h
  obtain ⟨r4, hr4, h⟩ := bindS h
  refine LH.seqJM mixed [] [0, 2, 0, 0, 0, 0, 0, 0, 0, 0, 0] [(3, .ptr 7 0), (4, .sptr [.int .i64 r2.1.Close, .int .i64 r2.1.Late]), (5, .lst 4 (List.map GEnrolment.lv r4.1))] [(7, .box [.lst 1 (List.map (LV.int .i64) r3.2.L), .int .i64 r3.2.At])] rfl rfl (by kernel_rfl) ?_ ?_
  · refine mN0 (oM (v := (.ptr _ _)) rfl ⟨rfl, ?_⟩)
    refine mN2 (oCM (args := [.ptr 7 0, .int .i64 10, .int .i64 0]) (ml := [(7, .box [.lst 1 (List.map (LV.int .i64) r2.2.L), .int .i64 r2.2.At])]) (ml' := [(7, .box [.lst 1 (List.map (LV.int .i64) r3.2.L), .int .i64 r3.2.At])]) rfl isF13 rfl (sbR (sbR (sbR sbN))) (GTape_EntryEvents_ok hr3) (mC rfl mN) (newI rfl newN) rfl ?_)
    refine mN0 (oLdA rfl tk41 ta41 ts41 rfl rfl ⟨rfl, ?_⟩)
    refine mN0 (oCP (args := [.lst 8 (List.map GEntryEvent.lv r3.1), .agg [.int .i64 r2.1.Close, .int .i64 r2.1.Late], .int .i64 1000000]) rfl isF21 rfl (sbR (sbR (sbR sbN))) (entry_Fold_ok hr4) rfl ⟨rfl, ?_⟩)
    refine mN0 (oM (v := (.tup _)) rfl ⟨rfl, ?_⟩)
    refine mN0 (oEx rfl rfl ⟨rfl, ?_⟩)
    refine mN0 (oEx rfl rfl ⟨rfl, ?_⟩)
    refine mN0 (oEx rfl rfl ⟨rfl, ?_⟩)
    refine mN0 (oA (v := (.lst _ _)) rfl ⟨rfl, ?_⟩)
    refine mN0 (oA (v := (.lst _ _)) rfl ⟨rfl, ?_⟩)
    refine mN0 (oA (v := (.int _ _)) rfl ⟨rfl, ?_⟩)
    exact m0 (Wk.to (eC rfl (eC rfl (eC rfl eN))) (mC rfl mN) rfl (prK rfl))
  obtain ⟨r5, hr5, h⟩ := bindS h
  refine LH.seqT [(4, .sptr [.int .i64 r2.1.Close, .int .i64 r2.1.Late]), (5, .lst 4 (List.map GEnrolment.lv r4.1)), (8, .lst 8 (List.map GEntryEvent.lv r5.1))] [] rfl ?_ ?_
  · refine sN (oM (v := (.ptr _ _)) rfl ?_)
    refine sN (oCM (args := [.ptr 7 0, .int .i64 3, .int .i64 5]) (ml := [(7, .box [.lst 1 (List.map (LV.int .i64) r3.2.L), .int .i64 r3.2.At])]) (ml' := [(7, .box [.lst 1 (List.map (LV.int .i64) r5.2.L), .int .i64 r5.2.At])]) rfl isF13 rfl (sbR (sbR (sbR sbN))) (GTape_EntryEvents_ok hr5) (mC rfl mN) (newI rfl newN) rfl ?_)
    refine sN (oA (v := (.lst _ _)) rfl ?_)
    exact s0 (Wk.to (eC rfl (eC rfl (eC rfl eN))) mN rfl (prK rfl))
  refine LH.seq ?_
  refine LH.seqT [(4, .sptr [.int .i64 r2.1.Close, .int .i64 r2.1.Late]), (5, .lst 4 (List.map GEnrolment.lv r4.1)), (8, .lst 8 (List.map GEntryEvent.lv r5.1)), (9, .int .i64 0)] [] rfl ?_ ?_
  · refine sN (oA (v := (.int _ _)) rfl ?_)
    exact s0 (Wk.to (eC rfl (eC rfl (eC rfl (eC rfl eN)))) mN rfl (prK rfl))
  refine LH.block ?_
  refine LH.loop (fun n e m => ∃ (n6 : Int), law13_EntryOwn_L1 F r2 r4 r5 n n6 = some r ∧ e = Env.of [(4, .sptr [.int .i64 r2.1.Close, .int .i64 r2.1.Late]), (5, .lst 4 (List.map GEnrolment.lv r4.1)), (8, .lst 8 (List.map GEntryEvent.lv r5.1)), (9, .int .i64 n6)] ∧ m = Mem.of []) F ⟨0, h, rfl, rfl⟩ ?_
  clear h
  rintro n e m ⟨n6, h, rfl, rfl⟩
  rcases n with _ | n
  · cases (show Option.none = some _ from h)
  obtain ⟨rec1, hrec1⟩ : ∃ f, f = law13_EntryOwn_L1 F r2 r4 r5 n := ⟨_, rfl⟩
  replace h : law13_EntryOwn_L1_B F r2 r4 r5 rec1 n6 = some r := hrec1 ▸ h
  unfold law13_EntryOwn_L1_B at h
  refine LH.seq ?_
  refine LH.seqT [(4, .sptr [.int .i64 r2.1.Close, .int .i64 r2.1.Late]), (5, .lst 4 (List.map GEnrolment.lv r4.1)), (8, .lst 8 (List.map GEntryEvent.lv r5.1)), (9, .int .i64 n6), (39, .bool (decide (n6 < (r5.1.length : Int))))] [] rfl ?_ ?_
  · refine sN (oM (v := (.int _ _)) rfl ?_)
    refine sN (oM (v := (.lst _ _)) rfl ?_)
    refine sN (oLnL (f := GEntryEvent.lv) te25 rfl ?_)
    refine sN (oLt rfl rfl ?_)
    exact s0 (Wk.to (eC rfl (eC rfl (eC rfl (eC rfl (eC rfl eN))))) mN rfl (prK rfl))
  refine LH.cond (t := (decide (n6 < (r5.1.length : Int)))) rfl (fun hc7 => ?_) (fun hc7 => ?_)
  · replace h := iteT h hc7
    refine LH.skip ?_
    refine thenN ?_
    refine LH.wk (Wk.to (el := [(4, .sptr [.int .i64 r2.1.Close, .int .i64 r2.1.Late]), (5, .lst 4 (List.map GEnrolment.lv r4.1)), (8, .lst 8 (List.map GEntryEvent.lv r5.1)), (9, .int .i64 n6)]) (ml := []) (eC rfl (eC rfl (eC rfl (eC rfl eN)))) mN rfl (prK rfl)) ?_
    refine LH.seq ?_
    refine LH.block ?_
    obtain ⟨x8, hx8, h⟩ := bindS h
    obtain ⟨r9, hr9, h⟩ := bindS h
    refine LH.seqJM mixed [] [0, 0, 0, 0, 0, 0, 0, 0, 0, 0, 0, 0] [(4, .sptr [.int .i64 r2.1.Close, .int .i64 r2.1.Late]), (5, .lst 4 (List.map GEnrolment.lv r4.1)), (8, .lst 8 (List.map GEntryEvent.lv r5.1)), (9, .int .i64 n6), (10, .lst 4 (List.map GEnrolment.lv r9.1)), (11, .int .i64 r9.2)] [] rfl rfl (by kernel_rfl) ?_ ?_
    · refine mN0 (oM (v := (.lst _ _)) rfl ⟨rfl, ?_⟩)
      refine mN0 (oLdA rfl tk41 ta41 ts41 rfl rfl ⟨rfl, ?_⟩)
      refine mN0 (oM (v := (.lst _ _)) rfl ⟨rfl, ?_⟩)
      refine mN0 (oM (v := (.int _ _)) rfl ⟨rfl, ?_⟩)
      refine mN0 (oIx (f := GEntryEvent.lv) te25 tk35 ts35 rfl rfl GEntryEvent.ok hx8 rfl ⟨rfl, ?_⟩)
      refine mN0 (oLdA rfl tk35 ta35 ts35 rfl rfl ⟨rfl, ?_⟩)
      refine mN0 (oCP (args := [.lst 4 (List.map GEnrolment.lv r4.1), .agg [.int .i64 r2.1.Close, .int .i64 r2.1.Late], .agg [.int .i64 x8.Stamp.Time, .int .i64 x8.Stamp.Source, .int .i64 x8.Stamp.Seq, .int .i64 x8.Kind, .int .i64 x8.Entry.Candidate, .int .i64 x8.Entry.Centre, .int .i64 x8.Entry.Paper, .int .i64 x8.To]]) rfl isF30 rfl (sbR (sbR (sbR sbN))) (entry_Apply_ok hr9) rfl ⟨rfl, ?_⟩)
      refine mN0 (oM (v := (.tup _)) rfl ⟨rfl, ?_⟩)
      refine mN0 (oEx rfl rfl ⟨rfl, ?_⟩)
      refine mN0 (oEx rfl rfl ⟨rfl, ?_⟩)
      refine mN0 (oA (v := (.lst _ _)) rfl ⟨rfl, ?_⟩)
      refine mN0 (oA (v := (.int _ _)) rfl ⟨rfl, ?_⟩)
      exact m0 (Wk.to (eC rfl (eC rfl (eC rfl (eC rfl (eC rfl (eC rfl eN)))))) mN rfl (prK rfl))
    refine LH.seq ?_
    refine LH.seqT [(4, .sptr [.int .i64 r2.1.Close, .int .i64 r2.1.Late]), (5, .lst 4 (List.map GEnrolment.lv r4.1)), (8, .lst 8 (List.map GEntryEvent.lv r5.1)), (9, .int .i64 n6), (10, .lst 4 (List.map GEnrolment.lv r9.1)), (53, .bool (r9.2 != 0))] [] rfl ?_ ?_
    · refine sN (oM (v := (.int _ _)) rfl ?_)
      refine sN (oNe rfl rfl ?_)
      exact s0 (Wk.to (eC rfl (eC rfl (eC rfl (eC rfl (eC rfl (eC rfl eN)))))) mN rfl (prK rfl))
    refine LH.cond (t := (r9.2 != 0)) rfl (fun hc10 => ?_) (fun hc10 => ?_)
    · replace h := iteT h hc10
      refine LH.exit ?_
      refine thenX ?_
      refine blockH ?_
      refine thenN ?_
      refine LH.wk (Wk.to (el := [(4, .sptr [.int .i64 r2.1.Close, .int .i64 r2.1.Late]), (5, .lst 4 (List.map GEnrolment.lv r4.1)), (8, .lst 8 (List.map GEntryEvent.lv r5.1)), (9, .int .i64 n6)]) (ml := []) (eC rfl (eC rfl (eC rfl (eC rfl eN)))) mN rfl (prK rfl)) ?_
      refine LH.loneT [(4, .sptr [.int .i64 r2.1.Close, .int .i64 r2.1.Late]), (5, .lst 4 (List.map GEnrolment.lv r4.1)), (8, .lst 8 (List.map GEntryEvent.lv r5.1)), (9, .int .i64 (i64 (n6 + 1)))] [] rfl ?_ ?_
      · refine sN (oM (v := (.int _ _)) rfl ?_)
        refine sN (oAdd rfl rfl ?_)
        refine sN (oA (v := (.int _ _)) rfl ?_)
        exact s0 (Wk.to (eC rfl (eC rfl (eC rfl (eC rfl eN)))) mN rfl (prK rfl))
      exact roundN (e' := Env.of [(4, .sptr [.int .i64 r2.1.Close, .int .i64 r2.1.Late]), (5, .lst 4 (List.map GEnrolment.lv r4.1)), (8, .lst 8 (List.map GEntryEvent.lv r5.1)), (9, .int .i64 (i64 (n6 + 1)))]) (m' := Mem.of []) (Wk.to (eC rfl (eC rfl (eC rfl (eC rfl eN)))) mN rfl (prK rfl)) ⟨(i64 (n6 + 1)), hrec1 ▸ h, rfl, rfl⟩
    replace h := iteF h hc10
    refine LH.skip ?_
    refine thenN ?_
    refine LH.wk (Wk.to (el := [(4, .sptr [.int .i64 r2.1.Close, .int .i64 r2.1.Late]), (5, .lst 4 (List.map GEnrolment.lv r4.1)), (8, .lst 8 (List.map GEntryEvent.lv r5.1)), (9, .int .i64 n6), (10, .lst 4 (List.map GEnrolment.lv r9.1))]) (ml := []) (eC rfl (eC rfl (eC rfl (eC rfl (eC rfl eN))))) mN rfl (prK rfl)) ?_
    refine LH.seqT [(4, .sptr [.int .i64 r2.1.Close, .int .i64 r2.1.Late]), (5, .lst 4 (List.map GEnrolment.lv r4.1)), (8, .lst 8 (List.map GEntryEvent.lv r5.1)), (9, .int .i64 n6), (10, .lst 4 (List.map GEnrolment.lv r9.1)), (12, .int .i64 0), (13, .int .i64 0)] [] rfl ?_ ?_
    · refine sN (oA (v := (.int _ _)) rfl ?_)
      refine sN (oA (v := (.int _ _)) rfl ?_)
      exact s0 (Wk.to (eC rfl (eC rfl (eC rfl (eC rfl (eC rfl (eC rfl (eC rfl eN))))))) mN rfl (prK rfl))
    refine LH.seq ?_
    refine LH.seqT [(4, .sptr [.int .i64 r2.1.Close, .int .i64 r2.1.Late]), (5, .lst 4 (List.map GEnrolment.lv r4.1)), (8, .lst 8 (List.map GEntryEvent.lv r5.1)), (9, .int .i64 n6), (10, .lst 4 (List.map GEnrolment.lv r9.1)), (12, .int .i64 0), (13, .int .i64 0), (14, .int .i64 0)] [] rfl ?_ ?_
    · refine sN (oA (v := (.int _ _)) rfl ?_)
      exact s0 (Wk.to (eC rfl (eC rfl (eC rfl (eC rfl (eC rfl (eC rfl (eC rfl (eC rfl eN)))))))) mN rfl (prK rfl))
    refine LH.block ?_
    refine LH.loop (fun n e m => ∃ (n11 : Int) (n12 : Int), law13_EntryOwn_L2 rec1 F r4 r5 n6 r9 n n11 n12 = some r ∧ e = Env.of [(4, .sptr [.int .i64 r2.1.Close, .int .i64 r2.1.Late]), (5, .lst 4 (List.map GEnrolment.lv r4.1)), (8, .lst 8 (List.map GEntryEvent.lv r5.1)), (9, .int .i64 n6), (10, .lst 4 (List.map GEnrolment.lv r9.1)), (12, .int .i64 n11), (13, .int .i64 0), (14, .int .i64 n12)] ∧ m = Mem.of []) F ⟨0, 0, h, rfl, rfl⟩ ?_
    clear h
    rintro n e m ⟨n11, n12, h, rfl, rfl⟩
    rcases n with _ | n
    · cases (show Option.none = some _ from h)
    obtain ⟨rec2, hrec2⟩ : ∃ f, f = law13_EntryOwn_L2 rec1 F r4 r5 n6 r9 n := ⟨_, rfl⟩
    replace h : law13_EntryOwn_L2_B rec1 F r4 r5 n6 r9 rec2 n11 n12 = some r := hrec2 ▸ h
    unfold law13_EntryOwn_L2_B at h
    refine LH.seq ?_
    refine LH.seqT [(4, .sptr [.int .i64 r2.1.Close, .int .i64 r2.1.Late]), (5, .lst 4 (List.map GEnrolment.lv r4.1)), (8, .lst 8 (List.map GEntryEvent.lv r5.1)), (9, .int .i64 n6), (10, .lst 4 (List.map GEnrolment.lv r9.1)), (12, .int .i64 n11), (13, .int .i64 0), (14, .int .i64 n12), (57, .bool (decide (n12 < (r4.1.length : Int))))] [] rfl ?_ ?_
    · refine sN (oM (v := (.int _ _)) rfl ?_)
      refine sN (oM (v := (.lst _ _)) rfl ?_)
      refine sN (oLnL (f := GEnrolment.lv) te44 rfl ?_)
      refine sN (oLt rfl rfl ?_)
      exact s0 (Wk.to (eC rfl (eC rfl (eC rfl (eC rfl (eC rfl (eC rfl (eC rfl (eC rfl (eC rfl eN))))))))) mN rfl (prK rfl))
    refine LH.cond (t := (decide (n12 < (r4.1.length : Int)))) rfl (fun hc13 => ?_) (fun hc13 => ?_)
    · replace h := iteT h hc13
      refine LH.skip ?_
      refine thenN ?_
      refine LH.wk (Wk.to (el := [(4, .sptr [.int .i64 r2.1.Close, .int .i64 r2.1.Late]), (5, .lst 4 (List.map GEnrolment.lv r4.1)), (8, .lst 8 (List.map GEntryEvent.lv r5.1)), (9, .int .i64 n6), (10, .lst 4 (List.map GEnrolment.lv r9.1)), (12, .int .i64 n11), (13, .int .i64 0), (14, .int .i64 n12)]) (ml := []) (eC rfl (eC rfl (eC rfl (eC rfl (eC rfl (eC rfl (eC rfl (eC rfl eN)))))))) mN rfl (prK rfl)) ?_
      refine LH.seq ?_
      refine LH.block ?_
      obtain ⟨x14, hx14, h⟩ := bindS h
      obtain ⟨x15, hx15, h⟩ := bindS h
      obtain ⟨r16, hr16, h⟩ := bindS h
      refine LH.seqJM mixed [] [0, 0, 0, 0, 0, 0, 0, 0, 0, 0, 0, 0, 0, 0, 0, 0, 0, 2, 2, 0] [(4, .sptr [.int .i64 r2.1.Close, .int .i64 r2.1.Late]), (5, .lst 4 (List.map GEnrolment.lv r4.1)), (8, .lst 8 (List.map GEntryEvent.lv r5.1)), (9, .int .i64 n6), (10, .lst 4 (List.map GEnrolment.lv r9.1)), (12, .int .i64 n11), (13, .int .i64 0), (14, .int .i64 n12), (15, .sptr [.int .i64 r16.1.Entry.Candidate, .int .i64 r16.1.Entry.Centre, .int .i64 r16.1.Entry.Paper, .bool r16.1.Late]), (16, .bool r16.2)] [] rfl rfl (by kernel_rfl) ?_ ?_
      · refine mN0 (oM (v := (.lst _ _)) rfl ⟨rfl, ?_⟩)
        refine mN0 (oM (v := (.lst _ _)) rfl ⟨rfl, ?_⟩)
        refine mN0 (oM (v := (.int _ _)) rfl ⟨rfl, ?_⟩)
        refine mN0 (oIx (f := GEnrolment.lv) te44 tk53 ts53 rfl rfl GEnrolment.ok hx14 rfl ⟨rfl, ?_⟩)
        refine mN0 (oFaS tf53_0 tk33 ts33 rfl rfl rfl ⟨rfl, ?_⟩)
        refine mN0 (oFaS tf33_0 tk3 ts3 rfl rfl rfl ⟨rfl, ?_⟩)
        refine mN0 (oLd rfl tk3 ta3 ⟨rfl, ?_⟩)
        refine mN0 (oM (v := (.lst _ _)) rfl ⟨rfl, ?_⟩)
        refine mN0 (oM (v := (.int _ _)) rfl ⟨rfl, ?_⟩)
        refine mN0 (oIx (f := GEnrolment.lv) te44 tk53 ts53 rfl rfl GEnrolment.ok hx15 rfl ⟨rfl, ?_⟩)
        refine mN0 (oFaS tf53_0 tk33 ts33 rfl rfl rfl ⟨rfl, ?_⟩)
        refine mN0 (oFaS tf33_2 tk3 ts3 rfl rfl rfl ⟨rfl, ?_⟩)
        refine mN0 (oLd rfl tk3 ta3 ⟨rfl, ?_⟩)
        refine mN0 (oCP (args := [.lst 4 (List.map GEnrolment.lv r9.1), .int .i64 x14.Entry.Candidate, .int .i64 x15.Entry.Paper]) rfl isF27 rfl (sbR (sbR (sbR sbN))) (entry_Find_ok hr16) rfl ⟨rfl, ?_⟩)
        refine mN0 (oM (v := (.tup _)) rfl ⟨rfl, ?_⟩)
        refine mN0 (oEx rfl rfl ⟨rfl, ?_⟩)
        refine mN0 (oEx rfl rfl ⟨rfl, ?_⟩)
        refine mN2 (oAl (id := 115) rfl tz53 rfl rfl ?_)
        refine m_2 (oSt rfl rfl rfl tk53 ts53 rfl rfl rfl ?_)
        refine mN0 (oA (v := (.bool _)) rfl ⟨rfl, ?_⟩)
        exact m0 ((Wk.trans (Wk.to (el := [(4, .sptr [.int .i64 r2.1.Close, .int .i64 r2.1.Late]), (5, .lst 4 (List.map GEnrolment.lv r4.1)), (8, .lst 8 (List.map GEntryEvent.lv r5.1)), (9, .int .i64 n6), (10, .lst 4 (List.map GEnrolment.lv r9.1)), (12, .int .i64 n11), (13, .int .i64 0), (14, .int .i64 n12), (15, .ptr 115 0), (16, .bool r16.2)]) (ml := [(115, .box [.int .i64 r16.1.Entry.Candidate, .int .i64 r16.1.Entry.Centre, .int .i64 r16.1.Entry.Paper, .bool r16.1.Late])]) (eC rfl (eC rfl (eC rfl (eC rfl (eC rfl (eC rfl (eC rfl (eC rfl (eC rfl (eC rfl eN)))))))))) (mC rfl mN) rfl (prK rfl)) (Wk.trans (Wk.frzB 115 [.int .i64 r16.1.Entry.Candidate, .int .i64 r16.1.Entry.Centre, .int .i64 r16.1.Entry.Paper, .bool r16.1.Late] rfl rfl rfl (prN rfl)) (Wk.to (eC rfl (eC rfl (eC rfl (eC rfl (eC rfl (eC rfl (eC rfl (eC rfl (eC rfl (eC rfl eN)))))))))) mN rfl (prK rfl)))))
      obtain ⟨w18, hv, h⟩ := bindS h
      refine LH.seqJM mixed [] [0, 0, 0, 0, 0, 0, 0, 0, 0, 0] [(4, .sptr [.int .i64 r2.1.Close, .int .i64 r2.1.Late]), (5, .lst 4 (List.map GEnrolment.lv r4.1)), (8, .lst 8 (List.map GEntryEvent.lv r5.1)), (9, .int .i64 n6), (10, .lst 4 (List.map GEnrolment.lv r9.1)), (12, .int .i64 n11), (13, .int .i64 0), (14, .int .i64 n12), (86, .bool w18)] [] rfl rfl (by kernel_rfl) ?_ ?_
      · refine mN0 (oM (v := (.bool _)) rfl ⟨rfl, ?_⟩)
        refine mN0 (oNot rfl ⟨rfl, ?_⟩)
        refine mN0 (oM (v := (.bool _)) rfl ⟨rfl, ?_⟩)
        by_cases hb19 : (!r16.2) = true
        · replace hv := iteT hv hb19
          refine mF rfl rfl hb19 ?_
          refine mF rfl rfl hb19 ?_
          refine mF rfl rfl hb19 ?_
          refine mF rfl rfl hb19 ?_
          refine mF rfl rfl hb19 ?_
          refine mF rfl rfl hb19 ?_
          refine mN0 (oPkT (congrArg LV.bool hb19) (v := (.bool _)) rfl ⟨rfl, ?_⟩)
          obtain rfl := Option.some.inj hv
          exact m0 (Wk.to (eC rfl (eC rfl (eC rfl (eC rfl (eC rfl (eC rfl (eC rfl (eC rfl (eC rfl eN))))))))) mN rfl (prK rfl))
        · replace hb19 := bF hb19
          replace hv := iteF hv hb19
          refine mT rfl (congrArg LV.bool hb19) (mN0 (oLdA rfl tk53 ta53 ts53 rfl rfl ⟨rfl, ?_⟩))
          refine mT rfl (congrArg LV.bool hb19) (mN0 (oM (v := (.lst _ _)) rfl ⟨rfl, ?_⟩))
          refine mT rfl (congrArg LV.bool hb19) (mN0 (oM (v := (.int _ _)) rfl ⟨rfl, ?_⟩))
          obtain ⟨x20, hx20, hv⟩ := bindS hv
          refine mT rfl (congrArg LV.bool hb19) (mN0 (oIx (f := GEnrolment.lv) te44 tk53 ts53 rfl rfl GEnrolment.ok hx20 rfl ⟨rfl, ?_⟩))
          refine mT rfl (congrArg LV.bool hb19) (mN0 (oLdA rfl tk53 ta53 ts53 rfl rfl ⟨rfl, ?_⟩))
          refine mT rfl (congrArg LV.bool hb19) (mN0 (oNeA rfl rfl (ae53 r16.1 x20) ⟨rfl, ?_⟩))
          refine mN0 (oPkF (congrArg LV.bool hb19) (v := (.bool _)) rfl ⟨rfl, ?_⟩)
          obtain rfl := Option.some.inj hv
          exact m0 (Wk.to (eC rfl (eC rfl (eC rfl (eC rfl (eC rfl (eC rfl (eC rfl (eC rfl (eC rfl eN))))))))) mN rfl (prK rfl))
      clear hv
      refine LH.cond (t := w18) rfl (fun hc21 => ?_) (fun hc21 => ?_)
      · replace h := iteT h hc21
        refine LH.seqT [(4, .sptr [.int .i64 r2.1.Close, .int .i64 r2.1.Late]), (5, .lst 4 (List.map GEnrolment.lv r4.1)), (8, .lst 8 (List.map GEntryEvent.lv r5.1)), (9, .int .i64 n6), (10, .lst 4 (List.map GEnrolment.lv r9.1)), (12, .int .i64 (i64 (n11 + 1))), (13, .int .i64 0), (14, .int .i64 n12)] [] rfl ?_ ?_
        · refine sN (oM (v := (.int _ _)) rfl ?_)
          refine sN (oAdd rfl rfl ?_)
          refine sN (oA (v := (.int _ _)) rfl ?_)
          exact s0 (Wk.to (eC rfl (eC rfl (eC rfl (eC rfl (eC rfl (eC rfl (eC rfl (eC rfl eN)))))))) mN rfl (prK rfl))
        obtain ⟨w23, hv, h⟩ := bindS h
        refine LH.seqJM mixed [] [0, 0, 0, 0, 0, 0, 0, 0, 0, 0, 0, 0, 0, 0, 0, 0, 0, 0, 0, 0, 0, 0] [(4, .sptr [.int .i64 r2.1.Close, .int .i64 r2.1.Late]), (5, .lst 4 (List.map GEnrolment.lv r4.1)), (8, .lst 8 (List.map GEntryEvent.lv r5.1)), (9, .int .i64 n6), (10, .lst 4 (List.map GEnrolment.lv r9.1)), (12, .int .i64 (i64 (n11 + 1))), (13, .int .i64 0), (14, .int .i64 n12), (110, .bool w23)] [] rfl rfl (by kernel_rfl) ?_ ?_
        · refine mN0 (oM (v := (.lst _ _)) rfl ⟨rfl, ?_⟩)
          refine mN0 (oM (v := (.int _ _)) rfl ⟨rfl, ?_⟩)
          obtain ⟨x24, hx24, hv⟩ := bindS hv
          refine mN0 (oIx (f := GEntryEvent.lv) te25 tk35 ts35 rfl rfl GEntryEvent.ok hx24 rfl ⟨rfl, ?_⟩)
          refine mN0 (oFaS tf35_0 tk31 ts31 rfl rfl rfl ⟨rfl, ?_⟩)
          refine mN0 (oFaS tf31_1 tk3 ts3 rfl rfl rfl ⟨rfl, ?_⟩)
          refine mN0 (oLd rfl tk3 ta3 ⟨rfl, ?_⟩)
          refine mN0 (oNe rfl rfl ⟨rfl, ?_⟩)
          refine mN0 (oM (v := (.bool _)) rfl ⟨rfl, ?_⟩)
          by_cases hb25 : (x24.Stamp.Source != 0) = true
          · replace hv := iteT hv hb25
            refine mT rfl (congrArg LV.bool hb25) (mN0 (oM (v := (.lst _ _)) rfl ⟨rfl, ?_⟩))
            refine mT rfl (congrArg LV.bool hb25) (mN0 (oM (v := (.int _ _)) rfl ⟨rfl, ?_⟩))
            obtain ⟨x26, hx26, hv⟩ := bindS hv
            refine mT rfl (congrArg LV.bool hb25) (mN0 (oIx (f := GEntryEvent.lv) te25 tk35 ts35 rfl rfl GEntryEvent.ok hx26 rfl ⟨rfl, ?_⟩))
            refine mT rfl (congrArg LV.bool hb25) (mN0 (oFaS tf35_0 tk31 ts31 rfl rfl rfl ⟨rfl, ?_⟩))
            refine mT rfl (congrArg LV.bool hb25) (mN0 (oFaS tf31_1 tk3 ts3 rfl rfl rfl ⟨rfl, ?_⟩))
            refine mT rfl (congrArg LV.bool hb25) (mN0 (oLd rfl tk3 ta3 ⟨rfl, ?_⟩))
            refine mT rfl (congrArg LV.bool hb25) (mN0 (oM (v := (.lst _ _)) rfl ⟨rfl, ?_⟩))
            refine mT rfl (congrArg LV.bool hb25) (mN0 (oM (v := (.int _ _)) rfl ⟨rfl, ?_⟩))
            obtain ⟨x27, hx27, hv⟩ := bindS hv
            refine mT rfl (congrArg LV.bool hb25) (mN0 (oIx (f := GEnrolment.lv) te44 tk53 ts53 rfl rfl GEnrolment.ok hx27 rfl ⟨rfl, ?_⟩))
            refine mT rfl (congrArg LV.bool hb25) (mN0 (oFaS tf53_0 tk33 ts33 rfl rfl rfl ⟨rfl, ?_⟩))
            refine mT rfl (congrArg LV.bool hb25) (mN0 (oFaS tf33_1 tk3 ts3 rfl rfl rfl ⟨rfl, ?_⟩))
            refine mT rfl (congrArg LV.bool hb25) (mN0 (oLd rfl tk3 ta3 ⟨rfl, ?_⟩))
            refine mT rfl (congrArg LV.bool hb25) (mN0 (oNe rfl rfl ⟨rfl, ?_⟩))
            refine mN0 (oPkT (congrArg LV.bool hb25) (v := (.bool _)) rfl ⟨rfl, ?_⟩)
            obtain rfl := Option.some.inj hv
            exact m0 (Wk.to (eC rfl (eC rfl (eC rfl (eC rfl (eC rfl (eC rfl (eC rfl (eC rfl (eC rfl eN))))))))) mN rfl (prK rfl))
          · replace hb25 := bF hb25
            replace hv := iteF hv hb25
            refine mF rfl rfl hb25 ?_
            refine mF rfl rfl hb25 ?_
            refine mF rfl rfl hb25 ?_
            refine mF rfl rfl hb25 ?_
            refine mF rfl rfl hb25 ?_
            refine mF rfl rfl hb25 ?_
            refine mF rfl rfl hb25 ?_
            refine mF rfl rfl hb25 ?_
            refine mF rfl rfl hb25 ?_
            refine mF rfl rfl hb25 ?_
            refine mF rfl rfl hb25 ?_
            refine mF rfl rfl hb25 ?_
            refine mF rfl rfl hb25 ?_
            refine mN0 (oPkF (congrArg LV.bool hb25) (v := (.bool _)) rfl ⟨rfl, ?_⟩)
            obtain rfl := Option.some.inj hv
            exact m0 (Wk.to (eC rfl (eC rfl (eC rfl (eC rfl (eC rfl (eC rfl (eC rfl (eC rfl (eC rfl eN))))))))) mN rfl (prK rfl))
        clear hv
        refine LH.cond (t := w23) rfl (fun hc28 => ?_) (fun hc28 => ?_)
        · replace h := iteT h hc28
          refine LH.seqT [(2, .bool false)] [] rfl ?_ ?_
          · refine sN (oA (v := (.bool _)) rfl ?_)
            exact s0 (Wk.to (eC rfl eN) mN rfl (prK rfl))
          refine LH.ret ?_
          refine blockR ?_
          refine thenR ?_
          refine roundR ?_
          refine blockR ?_
          refine thenR ?_
          refine blockR ?_
          refine thenR ?_
          refine roundR ?_
          refine blockR ?_
          refine thenR ?_
          obtain rfl := Option.some.inj h
          exact retE (congrArg Array.toList Try.results11) (lrT rfl (lr0 ⟨memN mN, rfl, prK rfl, Sub.rfl⟩))
        replace h := iteF h hc28
        refine LH.skip ?_
        refine blockN ?_
        refine thenN ?_
        refine LH.wk (Wk.to (el := [(4, .sptr [.int .i64 r2.1.Close, .int .i64 r2.1.Late]), (5, .lst 4 (List.map GEnrolment.lv r4.1)), (8, .lst 8 (List.map GEntryEvent.lv r5.1)), (9, .int .i64 n6), (10, .lst 4 (List.map GEnrolment.lv r9.1)), (12, .int .i64 (i64 (n11 + 1))), (13, .int .i64 0), (14, .int .i64 n12)]) (ml := []) (eC rfl (eC rfl (eC rfl (eC rfl (eC rfl (eC rfl (eC rfl (eC rfl eN)))))))) mN rfl (prK rfl)) ?_
        refine LH.loneT [(4, .sptr [.int .i64 r2.1.Close, .int .i64 r2.1.Late]), (5, .lst 4 (List.map GEnrolment.lv r4.1)), (8, .lst 8 (List.map GEntryEvent.lv r5.1)), (9, .int .i64 n6), (10, .lst 4 (List.map GEnrolment.lv r9.1)), (12, .int .i64 (i64 (n11 + 1))), (13, .int .i64 0), (14, .int .i64 (i64 (n12 + 1)))] [] rfl ?_ ?_
        · refine sN (oM (v := (.int _ _)) rfl ?_)
          refine sN (oAdd rfl rfl ?_)
          refine sN (oA (v := (.int _ _)) rfl ?_)
          exact s0 (Wk.to (eC rfl (eC rfl (eC rfl (eC rfl (eC rfl (eC rfl (eC rfl (eC rfl eN)))))))) mN rfl (prK rfl))
        exact roundN (e' := Env.of [(4, .sptr [.int .i64 r2.1.Close, .int .i64 r2.1.Late]), (5, .lst 4 (List.map GEnrolment.lv r4.1)), (8, .lst 8 (List.map GEntryEvent.lv r5.1)), (9, .int .i64 n6), (10, .lst 4 (List.map GEnrolment.lv r9.1)), (12, .int .i64 (i64 (n11 + 1))), (13, .int .i64 0), (14, .int .i64 (i64 (n12 + 1)))]) (m' := Mem.of []) (Wk.to (eC rfl (eC rfl (eC rfl (eC rfl (eC rfl (eC rfl (eC rfl (eC rfl eN)))))))) mN rfl (prK rfl)) ⟨(i64 (n11 + 1)), (i64 (n12 + 1)), hrec2 ▸ h, rfl, rfl⟩
      replace h := iteF h hc21
      refine LH.skip ?_
      refine blockN ?_
      refine thenN ?_
      refine LH.wk (Wk.to (el := [(4, .sptr [.int .i64 r2.1.Close, .int .i64 r2.1.Late]), (5, .lst 4 (List.map GEnrolment.lv r4.1)), (8, .lst 8 (List.map GEntryEvent.lv r5.1)), (9, .int .i64 n6), (10, .lst 4 (List.map GEnrolment.lv r9.1)), (12, .int .i64 n11), (13, .int .i64 0), (14, .int .i64 n12)]) (ml := []) (eC rfl (eC rfl (eC rfl (eC rfl (eC rfl (eC rfl (eC rfl (eC rfl eN)))))))) mN rfl (prK rfl)) ?_
      refine LH.loneT [(4, .sptr [.int .i64 r2.1.Close, .int .i64 r2.1.Late]), (5, .lst 4 (List.map GEnrolment.lv r4.1)), (8, .lst 8 (List.map GEntryEvent.lv r5.1)), (9, .int .i64 n6), (10, .lst 4 (List.map GEnrolment.lv r9.1)), (12, .int .i64 n11), (13, .int .i64 0), (14, .int .i64 (i64 (n12 + 1)))] [] rfl ?_ ?_
      · refine sN (oM (v := (.int _ _)) rfl ?_)
        refine sN (oAdd rfl rfl ?_)
        refine sN (oA (v := (.int _ _)) rfl ?_)
        exact s0 (Wk.to (eC rfl (eC rfl (eC rfl (eC rfl (eC rfl (eC rfl (eC rfl (eC rfl eN)))))))) mN rfl (prK rfl))
      exact roundN (e' := Env.of [(4, .sptr [.int .i64 r2.1.Close, .int .i64 r2.1.Late]), (5, .lst 4 (List.map GEnrolment.lv r4.1)), (8, .lst 8 (List.map GEntryEvent.lv r5.1)), (9, .int .i64 n6), (10, .lst 4 (List.map GEnrolment.lv r9.1)), (12, .int .i64 n11), (13, .int .i64 0), (14, .int .i64 (i64 (n12 + 1)))]) (m' := Mem.of []) (Wk.to (eC rfl (eC rfl (eC rfl (eC rfl (eC rfl (eC rfl (eC rfl (eC rfl eN)))))))) mN rfl (prK rfl)) ⟨n11, (i64 (n12 + 1)), hrec2 ▸ h, rfl, rfl⟩
    replace h := iteF h hc13
    refine LH.exit ?_
    refine thenX ?_
    refine roundX ?_
    refine blockH ?_
    refine thenN ?_
    refine LH.wk (Wk.to (el := [(4, .sptr [.int .i64 r2.1.Close, .int .i64 r2.1.Late]), (5, .lst 4 (List.map GEnrolment.lv r4.1)), (8, .lst 8 (List.map GEntryEvent.lv r5.1)), (9, .int .i64 n6), (10, .lst 4 (List.map GEnrolment.lv r9.1)), (12, .int .i64 n11), (13, .int .i64 0)]) (ml := []) (eC rfl (eC rfl (eC rfl (eC rfl (eC rfl (eC rfl (eC rfl eN))))))) mN rfl (prK rfl)) ?_
    refine LH.seq ?_
    refine LH.seqT [(4, .sptr [.int .i64 r2.1.Close, .int .i64 r2.1.Late]), (5, .lst 4 (List.map GEnrolment.lv r4.1)), (8, .lst 8 (List.map GEntryEvent.lv r5.1)), (9, .int .i64 n6), (10, .lst 4 (List.map GEnrolment.lv r9.1)), (12, .int .i64 n11), (13, .int .i64 0), (17, .int .i64 0)] [] rfl ?_ ?_
    · refine sN (oA (v := (.int _ _)) rfl ?_)
      exact s0 (Wk.to (eC rfl (eC rfl (eC rfl (eC rfl (eC rfl (eC rfl (eC rfl (eC rfl eN)))))))) mN rfl (prK rfl))
    refine LH.block ?_
    refine LH.loop (fun n e m => ∃ (n29 : Int) (n30 : Int), law13_EntryOwn_L3 rec1 F r4 r5 n6 r9 n11 n n29 n30 = some r ∧ e = Env.of [(4, .sptr [.int .i64 r2.1.Close, .int .i64 r2.1.Late]), (5, .lst 4 (List.map GEnrolment.lv r4.1)), (8, .lst 8 (List.map GEntryEvent.lv r5.1)), (9, .int .i64 n6), (10, .lst 4 (List.map GEnrolment.lv r9.1)), (12, .int .i64 n11), (13, .int .i64 n29), (17, .int .i64 n30)] ∧ m = Mem.of []) F ⟨0, 0, h, rfl, rfl⟩ ?_
    clear h
    rintro n e m ⟨n29, n30, h, rfl, rfl⟩
    rcases n with _ | n
    · cases (show Option.none = some _ from h)
    obtain ⟨rec3, hrec3⟩ : ∃ f, f = law13_EntryOwn_L3 rec1 F r4 r5 n6 r9 n11 n := ⟨_, rfl⟩
    replace h : law13_EntryOwn_L3_B rec1 F r4 r5 n6 r9 n11 rec3 n29 n30 = some r := hrec3 ▸ h
    unfold law13_EntryOwn_L3_B at h
    refine LH.seq ?_
    refine LH.seqT [(4, .sptr [.int .i64 r2.1.Close, .int .i64 r2.1.Late]), (5, .lst 4 (List.map GEnrolment.lv r4.1)), (8, .lst 8 (List.map GEntryEvent.lv r5.1)), (9, .int .i64 n6), (10, .lst 4 (List.map GEnrolment.lv r9.1)), (12, .int .i64 n11), (13, .int .i64 n29), (17, .int .i64 n30), (114, .bool (decide (n30 < (r9.1.length : Int))))] [] rfl ?_ ?_
    · refine sN (oM (v := (.int _ _)) rfl ?_)
      refine sN (oM (v := (.lst _ _)) rfl ?_)
      refine sN (oLnL (f := GEnrolment.lv) te44 rfl ?_)
      refine sN (oLt rfl rfl ?_)
      exact s0 (Wk.to (eC rfl (eC rfl (eC rfl (eC rfl (eC rfl (eC rfl (eC rfl (eC rfl (eC rfl eN))))))))) mN rfl (prK rfl))
    refine LH.cond (t := (decide (n30 < (r9.1.length : Int)))) rfl (fun hc31 => ?_) (fun hc31 => ?_)
    · replace h := iteT h hc31
      refine LH.skip ?_
      refine thenN ?_
      refine LH.wk (Wk.to (el := [(4, .sptr [.int .i64 r2.1.Close, .int .i64 r2.1.Late]), (5, .lst 4 (List.map GEnrolment.lv r4.1)), (8, .lst 8 (List.map GEntryEvent.lv r5.1)), (9, .int .i64 n6), (10, .lst 4 (List.map GEnrolment.lv r9.1)), (12, .int .i64 n11), (13, .int .i64 n29), (17, .int .i64 n30)]) (ml := []) (eC rfl (eC rfl (eC rfl (eC rfl (eC rfl (eC rfl (eC rfl (eC rfl eN)))))))) mN rfl (prK rfl)) ?_
      refine LH.seq ?_
      refine LH.block ?_
      obtain ⟨x32, hx32, h⟩ := bindS h
      obtain ⟨x33, hx33, h⟩ := bindS h
      obtain ⟨r34, hr34, h⟩ := bindS h
      refine LH.seqJM mixed [] [0, 0, 0, 0, 0, 0, 0, 0, 0, 0, 0, 0, 0, 0, 0, 0, 0, 2, 2, 0] [(4, .sptr [.int .i64 r2.1.Close, .int .i64 r2.1.Late]), (5, .lst 4 (List.map GEnrolment.lv r4.1)), (8, .lst 8 (List.map GEntryEvent.lv r5.1)), (9, .int .i64 n6), (10, .lst 4 (List.map GEnrolment.lv r9.1)), (12, .int .i64 n11), (13, .int .i64 n29), (17, .int .i64 n30), (18, .sptr [.int .i64 r34.1.Entry.Candidate, .int .i64 r34.1.Entry.Centre, .int .i64 r34.1.Entry.Paper, .bool r34.1.Late]), (19, .bool r34.2)] [] rfl rfl (by kernel_rfl) ?_ ?_
      · refine mN0 (oM (v := (.lst _ _)) rfl ⟨rfl, ?_⟩)
        refine mN0 (oM (v := (.lst _ _)) rfl ⟨rfl, ?_⟩)
        refine mN0 (oM (v := (.int _ _)) rfl ⟨rfl, ?_⟩)
        refine mN0 (oIx (f := GEnrolment.lv) te44 tk53 ts53 rfl rfl GEnrolment.ok hx32 rfl ⟨rfl, ?_⟩)
        refine mN0 (oFaS tf53_0 tk33 ts33 rfl rfl rfl ⟨rfl, ?_⟩)
        refine mN0 (oFaS tf33_0 tk3 ts3 rfl rfl rfl ⟨rfl, ?_⟩)
        refine mN0 (oLd rfl tk3 ta3 ⟨rfl, ?_⟩)
        refine mN0 (oM (v := (.lst _ _)) rfl ⟨rfl, ?_⟩)
        refine mN0 (oM (v := (.int _ _)) rfl ⟨rfl, ?_⟩)
        refine mN0 (oIx (f := GEnrolment.lv) te44 tk53 ts53 rfl rfl GEnrolment.ok hx33 rfl ⟨rfl, ?_⟩)
        refine mN0 (oFaS tf53_0 tk33 ts33 rfl rfl rfl ⟨rfl, ?_⟩)
        refine mN0 (oFaS tf33_2 tk3 ts3 rfl rfl rfl ⟨rfl, ?_⟩)
        refine mN0 (oLd rfl tk3 ta3 ⟨rfl, ?_⟩)
        refine mN0 (oCP (args := [.lst 4 (List.map GEnrolment.lv r4.1), .int .i64 x32.Entry.Candidate, .int .i64 x33.Entry.Paper]) rfl isF27 rfl (sbR (sbR (sbR sbN))) (entry_Find_ok hr34) rfl ⟨rfl, ?_⟩)
        refine mN0 (oM (v := (.tup _)) rfl ⟨rfl, ?_⟩)
        refine mN0 (oEx rfl rfl ⟨rfl, ?_⟩)
        refine mN0 (oEx rfl rfl ⟨rfl, ?_⟩)
        refine mN2 (oAl (id := 118) rfl tz53 rfl rfl ?_)
        refine m_2 (oSt rfl rfl rfl tk53 ts53 rfl rfl rfl ?_)
        refine mN0 (oA (v := (.bool _)) rfl ⟨rfl, ?_⟩)
        exact m0 ((Wk.trans (Wk.to (el := [(4, .sptr [.int .i64 r2.1.Close, .int .i64 r2.1.Late]), (5, .lst 4 (List.map GEnrolment.lv r4.1)), (8, .lst 8 (List.map GEntryEvent.lv r5.1)), (9, .int .i64 n6), (10, .lst 4 (List.map GEnrolment.lv r9.1)), (12, .int .i64 n11), (13, .int .i64 n29), (17, .int .i64 n30), (18, .ptr 118 0), (19, .bool r34.2)]) (ml := [(118, .box [.int .i64 r34.1.Entry.Candidate, .int .i64 r34.1.Entry.Centre, .int .i64 r34.1.Entry.Paper, .bool r34.1.Late])]) (eC rfl (eC rfl (eC rfl (eC rfl (eC rfl (eC rfl (eC rfl (eC rfl (eC rfl (eC rfl eN)))))))))) (mC rfl mN) rfl (prK rfl)) (Wk.trans (Wk.frzB 118 [.int .i64 r34.1.Entry.Candidate, .int .i64 r34.1.Entry.Centre, .int .i64 r34.1.Entry.Paper, .bool r34.1.Late] rfl rfl rfl (prN rfl)) (Wk.to (eC rfl (eC rfl (eC rfl (eC rfl (eC rfl (eC rfl (eC rfl (eC rfl (eC rfl (eC rfl eN)))))))))) mN rfl (prK rfl)))))
      obtain ⟨w36, hv, h⟩ := bindS h
      refine LH.seqJM mixed [] [0, 0, 0, 0, 0, 0, 0, 0, 0, 0] [(4, .sptr [.int .i64 r2.1.Close, .int .i64 r2.1.Late]), (5, .lst 4 (List.map GEnrolment.lv r4.1)), (8, .lst 8 (List.map GEntryEvent.lv r5.1)), (9, .int .i64 n6), (10, .lst 4 (List.map GEnrolment.lv r9.1)), (12, .int .i64 n11), (13, .int .i64 n29), (17, .int .i64 n30), (143, .bool w36)] [] rfl rfl (by kernel_rfl) ?_ ?_
      · refine mN0 (oM (v := (.bool _)) rfl ⟨rfl, ?_⟩)
        refine mN0 (oNot rfl ⟨rfl, ?_⟩)
        refine mN0 (oM (v := (.bool _)) rfl ⟨rfl, ?_⟩)
        by_cases hb37 : (!r34.2) = true
        · replace hv := iteT hv hb37
          refine mF rfl rfl hb37 ?_
          refine mF rfl rfl hb37 ?_
          refine mF rfl rfl hb37 ?_
          refine mF rfl rfl hb37 ?_
          refine mF rfl rfl hb37 ?_
          refine mF rfl rfl hb37 ?_
          refine mN0 (oPkT (congrArg LV.bool hb37) (v := (.bool _)) rfl ⟨rfl, ?_⟩)
          obtain rfl := Option.some.inj hv
          exact m0 (Wk.to (eC rfl (eC rfl (eC rfl (eC rfl (eC rfl (eC rfl (eC rfl (eC rfl (eC rfl eN))))))))) mN rfl (prK rfl))
        · replace hb37 := bF hb37
          replace hv := iteF hv hb37
          refine mT rfl (congrArg LV.bool hb37) (mN0 (oLdA rfl tk53 ta53 ts53 rfl rfl ⟨rfl, ?_⟩))
          refine mT rfl (congrArg LV.bool hb37) (mN0 (oM (v := (.lst _ _)) rfl ⟨rfl, ?_⟩))
          refine mT rfl (congrArg LV.bool hb37) (mN0 (oM (v := (.int _ _)) rfl ⟨rfl, ?_⟩))
          obtain ⟨x38, hx38, hv⟩ := bindS hv
          refine mT rfl (congrArg LV.bool hb37) (mN0 (oIx (f := GEnrolment.lv) te44 tk53 ts53 rfl rfl GEnrolment.ok hx38 rfl ⟨rfl, ?_⟩))
          refine mT rfl (congrArg LV.bool hb37) (mN0 (oLdA rfl tk53 ta53 ts53 rfl rfl ⟨rfl, ?_⟩))
          refine mT rfl (congrArg LV.bool hb37) (mN0 (oNeA rfl rfl (ae53 r34.1 x38) ⟨rfl, ?_⟩))
          refine mN0 (oPkF (congrArg LV.bool hb37) (v := (.bool _)) rfl ⟨rfl, ?_⟩)
          obtain rfl := Option.some.inj hv
          exact m0 (Wk.to (eC rfl (eC rfl (eC rfl (eC rfl (eC rfl (eC rfl (eC rfl (eC rfl (eC rfl eN))))))))) mN rfl (prK rfl))
      clear hv
      refine LH.cond (t := w36) rfl (fun hc39 => ?_) (fun hc39 => ?_)
      · replace h := iteT h hc39
        refine LH.loneT [(4, .sptr [.int .i64 r2.1.Close, .int .i64 r2.1.Late]), (5, .lst 4 (List.map GEnrolment.lv r4.1)), (8, .lst 8 (List.map GEntryEvent.lv r5.1)), (9, .int .i64 n6), (10, .lst 4 (List.map GEnrolment.lv r9.1)), (12, .int .i64 n11), (13, .int .i64 (i64 (n29 + 1))), (17, .int .i64 n30)] [] rfl ?_ ?_
        · refine sN (oM (v := (.int _ _)) rfl ?_)
          refine sN (oAdd rfl rfl ?_)
          refine sN (oA (v := (.int _ _)) rfl ?_)
          exact s0 (Wk.to (eC rfl (eC rfl (eC rfl (eC rfl (eC rfl (eC rfl (eC rfl (eC rfl eN)))))))) mN rfl (prK rfl))
        refine blockN ?_
        refine thenN ?_
        refine LH.loneT [(4, .sptr [.int .i64 r2.1.Close, .int .i64 r2.1.Late]), (5, .lst 4 (List.map GEnrolment.lv r4.1)), (8, .lst 8 (List.map GEntryEvent.lv r5.1)), (9, .int .i64 n6), (10, .lst 4 (List.map GEnrolment.lv r9.1)), (12, .int .i64 n11), (13, .int .i64 (i64 (n29 + 1))), (17, .int .i64 (i64 (n30 + 1)))] [] rfl ?_ ?_
        · refine sN (oM (v := (.int _ _)) rfl ?_)
          refine sN (oAdd rfl rfl ?_)
          refine sN (oA (v := (.int _ _)) rfl ?_)
          exact s0 (Wk.to (eC rfl (eC rfl (eC rfl (eC rfl (eC rfl (eC rfl (eC rfl (eC rfl eN)))))))) mN rfl (prK rfl))
        exact roundN (e' := Env.of [(4, .sptr [.int .i64 r2.1.Close, .int .i64 r2.1.Late]), (5, .lst 4 (List.map GEnrolment.lv r4.1)), (8, .lst 8 (List.map GEntryEvent.lv r5.1)), (9, .int .i64 n6), (10, .lst 4 (List.map GEnrolment.lv r9.1)), (12, .int .i64 n11), (13, .int .i64 (i64 (n29 + 1))), (17, .int .i64 (i64 (n30 + 1)))]) (m' := Mem.of []) (Wk.to (eC rfl (eC rfl (eC rfl (eC rfl (eC rfl (eC rfl (eC rfl (eC rfl eN)))))))) mN rfl (prK rfl)) ⟨(i64 (n29 + 1)), (i64 (n30 + 1)), hrec3 ▸ h, rfl, rfl⟩
      replace h := iteF h hc39
      refine LH.skip ?_
      refine blockN ?_
      refine thenN ?_
      refine LH.wk (Wk.to (el := [(4, .sptr [.int .i64 r2.1.Close, .int .i64 r2.1.Late]), (5, .lst 4 (List.map GEnrolment.lv r4.1)), (8, .lst 8 (List.map GEntryEvent.lv r5.1)), (9, .int .i64 n6), (10, .lst 4 (List.map GEnrolment.lv r9.1)), (12, .int .i64 n11), (13, .int .i64 n29), (17, .int .i64 n30)]) (ml := []) (eC rfl (eC rfl (eC rfl (eC rfl (eC rfl (eC rfl (eC rfl (eC rfl eN)))))))) mN rfl (prK rfl)) ?_
      refine LH.loneT [(4, .sptr [.int .i64 r2.1.Close, .int .i64 r2.1.Late]), (5, .lst 4 (List.map GEnrolment.lv r4.1)), (8, .lst 8 (List.map GEntryEvent.lv r5.1)), (9, .int .i64 n6), (10, .lst 4 (List.map GEnrolment.lv r9.1)), (12, .int .i64 n11), (13, .int .i64 n29), (17, .int .i64 (i64 (n30 + 1)))] [] rfl ?_ ?_
      · refine sN (oM (v := (.int _ _)) rfl ?_)
        refine sN (oAdd rfl rfl ?_)
        refine sN (oA (v := (.int _ _)) rfl ?_)
        exact s0 (Wk.to (eC rfl (eC rfl (eC rfl (eC rfl (eC rfl (eC rfl (eC rfl (eC rfl eN)))))))) mN rfl (prK rfl))
      exact roundN (e' := Env.of [(4, .sptr [.int .i64 r2.1.Close, .int .i64 r2.1.Late]), (5, .lst 4 (List.map GEnrolment.lv r4.1)), (8, .lst 8 (List.map GEntryEvent.lv r5.1)), (9, .int .i64 n6), (10, .lst 4 (List.map GEnrolment.lv r9.1)), (12, .int .i64 n11), (13, .int .i64 n29), (17, .int .i64 (i64 (n30 + 1)))]) (m' := Mem.of []) (Wk.to (eC rfl (eC rfl (eC rfl (eC rfl (eC rfl (eC rfl (eC rfl (eC rfl eN)))))))) mN rfl (prK rfl)) ⟨n29, (i64 (n30 + 1)), hrec3 ▸ h, rfl, rfl⟩
    replace h := iteF h hc31
    refine LH.exit ?_
    refine thenX ?_
    refine roundX ?_
    refine blockH ?_
    refine thenN ?_
    refine LH.wk (Wk.to (el := [(4, .sptr [.int .i64 r2.1.Close, .int .i64 r2.1.Late]), (5, .lst 4 (List.map GEnrolment.lv r4.1)), (8, .lst 8 (List.map GEntryEvent.lv r5.1)), (9, .int .i64 n6), (12, .int .i64 n11), (13, .int .i64 n29)]) (ml := []) (eC rfl (eC rfl (eC rfl (eC rfl (eC rfl (eC rfl eN)))))) mN rfl (prK rfl)) ?_
    refine LH.seqT [(4, .sptr [.int .i64 r2.1.Close, .int .i64 r2.1.Late]), (5, .lst 4 (List.map GEnrolment.lv r4.1)), (8, .lst 8 (List.map GEntryEvent.lv r5.1)), (9, .int .i64 n6), (12, .int .i64 n11), (13, .int .i64 n29), (20, .sptr [.int .i64 0, .int .i64 0, .int .i64 1, .int .i64 1])] [] rfl ?_ ?_
    · refine sX (ok_buildA (xs := [.int .i64 0, .int .i64 0, .int .i64 1, .int .i64 1]) ty62 rfl rfl rfl) ?_
      refine sN (oAl (id := 120) rfl tz62 rfl rfl ?_)
      refine s_ (oSt rfl rfl rfl tk62 ts62 rfl rfl rfl ?_)
      exact s0 ((Wk.trans (Wk.to (el := [(4, .sptr [.int .i64 r2.1.Close, .int .i64 r2.1.Late]), (5, .lst 4 (List.map GEnrolment.lv r4.1)), (8, .lst 8 (List.map GEntryEvent.lv r5.1)), (9, .int .i64 n6), (12, .int .i64 n11), (13, .int .i64 n29), (20, .ptr 120 0)]) (ml := [(120, .box [.int .i64 0, .int .i64 0, .int .i64 1, .int .i64 1])]) (eC rfl (eC rfl (eC rfl (eC rfl (eC rfl (eC rfl (eC rfl eN))))))) (mC rfl mN) rfl (prK rfl)) (Wk.trans (Wk.frzB 120 [.int .i64 0, .int .i64 0, .int .i64 1, .int .i64 1] rfl rfl rfl (prN rfl)) (Wk.to (eC rfl (eC rfl (eC rfl (eC rfl (eC rfl (eC rfl (eC rfl eN))))))) mN rfl (prK rfl)))))
    refine LH.seqT [(4, .sptr [.int .i64 r2.1.Close, .int .i64 r2.1.Late]), (5, .lst 4 (List.map GEnrolment.lv r4.1)), (8, .lst 8 (List.map GEntryEvent.lv r5.1)), (9, .int .i64 n6), (12, .int .i64 n11), (13, .int .i64 n29), (20, .sptr [.int .i64 0, .int .i64 0, .int .i64 1, .int .i64 1]), (21, .sptr [.int .i64 0, .int .i64 1, .int .i64 0, .int .i64 1])] [] rfl ?_ ?_
    · refine sX (ok_buildA (xs := [.int .i64 0, .int .i64 1, .int .i64 0, .int .i64 1]) ty62 rfl rfl rfl) ?_
      refine sN (oAl (id := 121) rfl tz62 rfl rfl ?_)
      refine s_ (oSt rfl rfl rfl tk62 ts62 rfl rfl rfl ?_)
      exact s0 ((Wk.trans (Wk.to (el := [(4, .sptr [.int .i64 r2.1.Close, .int .i64 r2.1.Late]), (5, .lst 4 (List.map GEnrolment.lv r4.1)), (8, .lst 8 (List.map GEntryEvent.lv r5.1)), (9, .int .i64 n6), (12, .int .i64 n11), (13, .int .i64 n29), (20, .sptr [.int .i64 0, .int .i64 0, .int .i64 1, .int .i64 1]), (21, .ptr 121 0)]) (ml := [(121, .box [.int .i64 0, .int .i64 1, .int .i64 0, .int .i64 1])]) (eC rfl (eC rfl (eC rfl (eC rfl (eC rfl (eC rfl (eC rfl (eC rfl eN)))))))) (mC rfl mN) rfl (prK rfl)) (Wk.trans (Wk.frzB 121 [.int .i64 0, .int .i64 1, .int .i64 0, .int .i64 1] rfl rfl rfl (prN rfl)) (Wk.to (eC rfl (eC rfl (eC rfl (eC rfl (eC rfl (eC rfl (eC rfl (eC rfl eN)))))))) mN rfl (prK rfl)))))
    obtain ⟨w41, hv, h⟩ := bindS h
    refine LH.seqT [(4, .sptr [.int .i64 r2.1.Close, .int .i64 r2.1.Late]), (5, .lst 4 (List.map GEnrolment.lv r4.1)), (8, .lst 8 (List.map GEntryEvent.lv r5.1)), (9, .int .i64 n6), (183, .bool w41)] [] rfl ?_ ?_
    · refine sN (oM (v := (.lst _ _)) rfl ?_)
      refine sN (oM (v := (.int _ _)) rfl ?_)
      obtain ⟨x42, hx42, hv⟩ := bindS hv
      refine sN (oIx (f := GEntryEvent.lv) te25 tk35 ts35 rfl rfl GEntryEvent.ok hx42 rfl ?_)
      refine sN (oFaS tf35_1 tk3 ts3 rfl rfl rfl ?_)
      refine sN (oLd rfl tk3 ta3 ?_)
      refine sN (oLt rfl rfl ?_)
      refine sN (oM (v := (.bool _)) rfl ?_)
      by_cases hb43 : (decide (x42.Kind < 1)) = true
      · replace hv := iteT hv hb43
        refine sF rfl rfl hb43 ?_
        refine sF rfl rfl hb43 ?_
        refine sF rfl rfl hb43 ?_
        refine sF rfl rfl hb43 ?_
        refine sF rfl rfl hb43 ?_
        refine sF rfl rfl hb43 ?_
        refine sN (oPkT (congrArg LV.bool hb43) (v := (.bool _)) rfl ?_)
        refine sN (oM (v := (.bool _)) rfl ?_)
        refine sF rfl rfl rfl ?_
        refine sF rfl rfl rfl ?_
        refine sF rfl rfl rfl ?_
        refine sF rfl rfl rfl ?_
        refine sF rfl rfl rfl ?_
        refine sF rfl rfl rfl ?_
        refine sF rfl rfl rfl ?_
        refine sF rfl rfl rfl ?_
        refine sF rfl rfl rfl ?_
        refine sN (oPkT rfl (v := (.bool _)) rfl ?_)
        refine sN (oM (v := (.bool _)) rfl ?_)
        refine sF rfl rfl rfl ?_
        refine sF rfl rfl rfl ?_
        refine sF rfl rfl rfl ?_
        refine sF rfl rfl rfl ?_
        refine sF rfl rfl rfl ?_
        refine sF rfl rfl rfl ?_
        refine sF rfl rfl rfl ?_
        refine sF rfl rfl rfl ?_
        refine sF rfl rfl rfl ?_
        refine sN (oPkT rfl (v := (.bool _)) rfl ?_)
        obtain rfl := Option.some.inj hv
        exact s0 (Wk.to (eC rfl (eC rfl (eC rfl (eC rfl (eC rfl eN))))) mN rfl (prK rfl))
      · replace hb43 := bF hb43
        replace hv := iteF hv hb43
        refine sT rfl (congrArg LV.bool hb43) (oM (v := (.lst _ _)) rfl ?_)
        refine sT rfl (congrArg LV.bool hb43) (oM (v := (.int _ _)) rfl ?_)
        obtain ⟨x44, hx44, hv⟩ := bindS hv
        refine sT rfl (congrArg LV.bool hb43) (oIx (f := GEntryEvent.lv) te25 tk35 ts35 rfl rfl GEntryEvent.ok hx44 rfl ?_)
        refine sT rfl (congrArg LV.bool hb43) (oFaS tf35_1 tk3 ts3 rfl rfl rfl ?_)
        refine sT rfl (congrArg LV.bool hb43) (oLd rfl tk3 ta3 ?_)
        refine sT rfl (congrArg LV.bool hb43) (oGt rfl rfl ?_)
        refine sN (oPkF (congrArg LV.bool hb43) (v := (.bool _)) rfl ?_)
        refine sN (oM (v := (.bool _)) rfl ?_)
        by_cases hb45 : (decide (x44.Kind > 3)) = true
        · replace hv := iteT hv hb45
          refine sF rfl rfl hb45 ?_
          refine sF rfl rfl hb45 ?_
          refine sF rfl rfl hb45 ?_
          refine sF rfl rfl hb45 ?_
          refine sF rfl rfl hb45 ?_
          refine sF rfl rfl hb45 ?_
          refine sF rfl rfl hb45 ?_
          refine sF rfl rfl hb45 ?_
          refine sF rfl rfl hb45 ?_
          refine sN (oPkT (congrArg LV.bool hb45) (v := (.bool _)) rfl ?_)
          refine sN (oM (v := (.bool _)) rfl ?_)
          refine sF rfl rfl rfl ?_
          refine sF rfl rfl rfl ?_
          refine sF rfl rfl rfl ?_
          refine sF rfl rfl rfl ?_
          refine sF rfl rfl rfl ?_
          refine sF rfl rfl rfl ?_
          refine sF rfl rfl rfl ?_
          refine sF rfl rfl rfl ?_
          refine sF rfl rfl rfl ?_
          refine sN (oPkT rfl (v := (.bool _)) rfl ?_)
          obtain rfl := Option.some.inj hv
          exact s0 (Wk.to (eC rfl (eC rfl (eC rfl (eC rfl (eC rfl eN))))) mN rfl (prK rfl))
        · replace hb45 := bF hb45
          replace hv := iteF hv hb45
          refine sT rfl (congrArg LV.bool hb45) (oM (v := (.int _ _)) rfl ?_)
          refine sT rfl (congrArg LV.bool hb45) (oM (v := (.lst _ _)) rfl ?_)
          refine sT rfl (congrArg LV.bool hb45) (oM (v := (.int _ _)) rfl ?_)
          obtain ⟨x46, hx46, hv⟩ := bindS hv
          refine sT rfl (congrArg LV.bool hb45) (oIx (f := GEntryEvent.lv) te25 tk35 ts35 rfl rfl GEntryEvent.ok hx46 rfl ?_)
          refine sT rfl (congrArg LV.bool hb45) (oFaS tf35_1 tk3 ts3 rfl rfl rfl ?_)
          refine sT rfl (congrArg LV.bool hb45) (oLd rfl tk3 ta3 ?_)
          obtain ⟨x47, hx47, hv⟩ := bindS hv
          refine sXT rfl (congrArg LV.bool hb45) (ok_ixS (f := (LV.int .i64)) (ys := [0, 0, 1, 1]) ty62 rfl rfl rfl rfl hx47) ?_
          refine sT rfl (congrArg LV.bool hb45) (oLd rfl tk3 ta3 ?_)
          refine sT rfl (congrArg LV.bool hb45) (oNe rfl rfl ?_)
          refine sN (oPkF (congrArg LV.bool hb45) (v := (.bool _)) rfl ?_)
          refine sN (oM (v := (.bool _)) rfl ?_)
          by_cases hb48 : (n11 != x47) = true
          · replace hv := iteT hv hb48
            refine sF rfl rfl hb48 ?_
            refine sF rfl rfl hb48 ?_
            refine sF rfl rfl hb48 ?_
            refine sF rfl rfl hb48 ?_
            refine sF rfl rfl hb48 ?_
            refine sF rfl rfl hb48 ?_
            refine sF rfl rfl hb48 ?_
            refine sF rfl rfl hb48 ?_
            refine sF rfl rfl hb48 ?_
            refine sN (oPkT (congrArg LV.bool hb48) (v := (.bool _)) rfl ?_)
            obtain rfl := Option.some.inj hv
            exact s0 (Wk.to (eC rfl (eC rfl (eC rfl (eC rfl (eC rfl eN))))) mN rfl (prK rfl))
          · replace hb48 := bF hb48
            replace hv := iteF hv hb48
            refine sT rfl (congrArg LV.bool hb48) (oM (v := (.int _ _)) rfl ?_)
            refine sT rfl (congrArg LV.bool hb48) (oM (v := (.lst _ _)) rfl ?_)
            refine sT rfl (congrArg LV.bool hb48) (oM (v := (.int _ _)) rfl ?_)
            obtain ⟨x49, hx49, hv⟩ := bindS hv
            refine sT rfl (congrArg LV.bool hb48) (oIx (f := GEntryEvent.lv) te25 tk35 ts35 rfl rfl GEntryEvent.ok hx49 rfl ?_)
            refine sT rfl (congrArg LV.bool hb48) (oFaS tf35_1 tk3 ts3 rfl rfl rfl ?_)
            refine sT rfl (congrArg LV.bool hb48) (oLd rfl tk3 ta3 ?_)
            obtain ⟨x50, hx50, hv⟩ := bindS hv
            refine sXT rfl (congrArg LV.bool hb48) (ok_ixS (f := (LV.int .i64)) (ys := [0, 1, 0, 1]) ty62 rfl rfl rfl rfl hx50) ?_
            refine sT rfl (congrArg LV.bool hb48) (oLd rfl tk3 ta3 ?_)
            refine sT rfl (congrArg LV.bool hb48) (oNe rfl rfl ?_)
            refine sN (oPkF (congrArg LV.bool hb48) (v := (.bool _)) rfl ?_)
            obtain rfl := Option.some.inj hv
            exact s0 (Wk.to (eC rfl (eC rfl (eC rfl (eC rfl (eC rfl eN))))) mN rfl (prK rfl))
    clear hv
    refine LH.cond (t := w41) rfl (fun hc51 => ?_) (fun hc51 => ?_)
    · replace h := iteT h hc51
      refine LH.seqT [(2, .bool false)] [] rfl ?_ ?_
      · refine sN (oA (v := (.bool _)) rfl ?_)
        exact s0 (Wk.to (eC rfl eN) mN rfl (prK rfl))
      refine LH.ret ?_
      refine blockR ?_
      refine thenR ?_
      refine roundR ?_
      refine blockR ?_
      refine thenR ?_
      obtain rfl := Option.some.inj h
      exact retE (congrArg Array.toList Try.results11) (lrT rfl (lr0 ⟨memN mN, rfl, prK rfl, Sub.rfl⟩))
    replace h := iteF h hc51
    refine LH.skip ?_
    refine blockN ?_
    refine thenN ?_
    refine LH.wk (Wk.to (el := [(4, .sptr [.int .i64 r2.1.Close, .int .i64 r2.1.Late]), (5, .lst 4 (List.map GEnrolment.lv r4.1)), (8, .lst 8 (List.map GEntryEvent.lv r5.1)), (9, .int .i64 n6)]) (ml := []) (eC rfl (eC rfl (eC rfl (eC rfl eN)))) mN rfl (prK rfl)) ?_
    refine LH.loneT [(4, .sptr [.int .i64 r2.1.Close, .int .i64 r2.1.Late]), (5, .lst 4 (List.map GEnrolment.lv r4.1)), (8, .lst 8 (List.map GEntryEvent.lv r5.1)), (9, .int .i64 (i64 (n6 + 1)))] [] rfl ?_ ?_
    · refine sN (oM (v := (.int _ _)) rfl ?_)
      refine sN (oAdd rfl rfl ?_)
      refine sN (oA (v := (.int _ _)) rfl ?_)
      exact s0 (Wk.to (eC rfl (eC rfl (eC rfl (eC rfl eN)))) mN rfl (prK rfl))
    exact roundN (e' := Env.of [(4, .sptr [.int .i64 r2.1.Close, .int .i64 r2.1.Late]), (5, .lst 4 (List.map GEnrolment.lv r4.1)), (8, .lst 8 (List.map GEntryEvent.lv r5.1)), (9, .int .i64 (i64 (n6 + 1)))]) (m' := Mem.of []) (Wk.to (eC rfl (eC rfl (eC rfl (eC rfl eN)))) mN rfl (prK rfl)) ⟨(i64 (n6 + 1)), hrec1 ▸ h, rfl, rfl⟩
  replace h := iteF h hc7
  refine LH.exit ?_
  refine thenX ?_
  refine roundX ?_
  refine blockH ?_
  refine thenN ?_
  refine LH.wk (Wk.to (el := []) (ml := []) eN mN rfl (prK rfl)) ?_
  obtain ⟨r52, hr52, h⟩ := bindS h
  refine LH.seqT [(2, .bool r52)] [] rfl ?_ ?_
  · refine sN (oCP (args := []) rfl isF18 rfl sbN (law13_awake_ok hr52) rfl ?_)
    refine sN (oA (v := (.bool _)) rfl ?_)
    exact s0 (Wk.to (eC rfl eN) mN rfl (prK rfl))
  refine LH.ret ?_
  obtain rfl := Option.some.inj h
  exact retE (congrArg Array.toList Try.results11) (lrT rfl (lr0 ⟨memN mN, rfl, prK rfl, Sub.rfl⟩))

end Go.Proofs.Ytkkhmngmhckgbaa
