/- Walks, printed by program (gen.py): each function computes its plain function. -/
import Derived.Test.YtapnjifcfljmmaaW3
set_option linter.unusedVariables false
set_option linter.unusedSimpArgs false
set_option maxRecDepth 100000
namespace Go.Proofs.Ytapnjifcfljmmaa
open Go.L Go.Sh
theorem law16_refused_ok {F : Nat} {p0 : List GRefusal} {p1 : GRegisterEvent} {r : Bool} (h : law16_refused F p0 p1 = some r) : LCall Try.prog 28 [.lst 3 (List.map GRefusal.lv p0), .agg [.int .i64 p1.Stamp.Time, .int .i64 p1.Stamp.Source, .int .i64 p1.Stamp.Seq, .int .i64 p1.Kind, .int .i64 p1.Candidate, .int .i64 p1.Minutes]] (Mem.of []) (.bool r) (Mem.of []) := by
  unfold law16_refused at h
  refine bodyT Try.func28 rfl (by rw [Try.ntmps28]; exact Nat.le_of_ble_eq_true rfl) ?_
  refine LH.wk (Wk.to (el := [(0, .lst 3 (List.map GRefusal.lv p0)), (1, .agg [.int .i64 p1.Stamp.Time, .int .i64 p1.Stamp.Source, .int .i64 p1.Stamp.Seq, .int .i64 p1.Kind, .int .i64 p1.Candidate, .int .i64 p1.Minutes])]) (ml := []) (eC rfl (eC rfl eN)) mN rfl (prK rfl)) ?_
  refine LH.seqT [(0, .lst 3 (List.map GRefusal.lv p0)), (3, .sptr [.int .i64 p1.Stamp.Time, .int .i64 p1.Stamp.Source, .int .i64 p1.Stamp.Seq, .int .i64 p1.Kind, .int .i64 p1.Candidate, .int .i64 p1.Minutes])] [] rfl ?_ ?_
  · refine sB (oBxR rfl rfl rfl rfl ?_)
    refine sN (oA (v := (.bool _)) rfl ?_)
    exact s0 (Wk.to (eC rfl (eC rfl eN)) mN rfl (prK rfl))
  refine LH.seq ?_
  refine LH.seqT [(0, .lst 3 (List.map GRefusal.lv p0)), (3, .sptr [.int .i64 p1.Stamp.Time, .int .i64 p1.Stamp.Source, .int .i64 p1.Stamp.Seq, .int .i64 p1.Kind, .int .i64 p1.Candidate, .int .i64 p1.Minutes]), (5, .int .i64 0)] [] rfl ?_ ?_
  · refine sN (oA (v := (.int _ _)) rfl ?_)
    exact s0 (Wk.to (eC rfl (eC rfl (eC rfl eN))) mN rfl (prK rfl))
  refine LH.block ?_
  refine LH.loop (fun n e m => ∃ (n1 : Int), law16_refused_L1 p0 p1 n n1 = some r ∧ e = Env.of [(0, .lst 3 (List.map GRefusal.lv p0)), (3, .sptr [.int .i64 p1.Stamp.Time, .int .i64 p1.Stamp.Source, .int .i64 p1.Stamp.Seq, .int .i64 p1.Kind, .int .i64 p1.Candidate, .int .i64 p1.Minutes]), (5, .int .i64 n1)] ∧ m = Mem.of []) F ⟨0, h, rfl, rfl⟩ ?_
  clear h
  rintro n e m ⟨n1, h, rfl, rfl⟩
  rcases n with _ | n
  · cases (show Option.none = some _ from h)
  obtain ⟨rec1, hrec1⟩ : ∃ f, f = law16_refused_L1 p0 p1 n := ⟨_, rfl⟩
  replace h : law16_refused_L1_B p0 p1 rec1 n1 = some r := hrec1 ▸ h
  unfold law16_refused_L1_B at h
  refine LH.seq ?_
  refine LH.seqT [(0, .lst 3 (List.map GRefusal.lv p0)), (3, .sptr [.int .i64 p1.Stamp.Time, .int .i64 p1.Stamp.Source, .int .i64 p1.Stamp.Seq, .int .i64 p1.Kind, .int .i64 p1.Candidate, .int .i64 p1.Minutes]), (5, .int .i64 n1), (9, .bool (decide (n1 < (p0.length : Int))))] [] rfl ?_ ?_
  · refine sN (oM (v := (.int _ _)) rfl ?_)
    refine sN (oM (v := (.lst _ _)) rfl ?_)
    refine sN (oLnL (f := GRefusal.lv) te48 rfl ?_)
    refine sN (oLt rfl rfl ?_)
    exact s0 (Wk.to (eC rfl (eC rfl (eC rfl (eC rfl eN)))) mN rfl (prK rfl))
  refine LH.cond (t := (decide (n1 < (p0.length : Int)))) rfl (fun hc2 => ?_) (fun hc2 => ?_)
  · replace h := iteT h hc2
    refine LH.skip ?_
    refine thenN ?_
    refine LH.wk (Wk.to (el := [(0, .lst 3 (List.map GRefusal.lv p0)), (3, .sptr [.int .i64 p1.Stamp.Time, .int .i64 p1.Stamp.Source, .int .i64 p1.Stamp.Seq, .int .i64 p1.Kind, .int .i64 p1.Candidate, .int .i64 p1.Minutes]), (5, .int .i64 n1)]) (ml := []) (eC rfl (eC rfl (eC rfl eN))) mN rfl (prK rfl)) ?_
    refine LH.seq ?_
    refine LH.block ?_
    obtain ⟨x3, hx3, h⟩ := bindS h
    refine LH.seqJM mixed [] [0, 0, 0, 0, 0, 0, 0, 0, 0, 0, 0, 0, 0] [(0, .lst 3 (List.map GRefusal.lv p0)), (3, .sptr [.int .i64 p1.Stamp.Time, .int .i64 p1.Stamp.Source, .int .i64 p1.Stamp.Seq, .int .i64 p1.Kind, .int .i64 p1.Candidate, .int .i64 p1.Minutes]), (5, .int .i64 n1), (24, .bool (decide (x3.Event = (GIdentity.mk p1.Stamp.Source p1.Stamp.Seq))))] [] rfl rfl (by kernel_rfl) ?_ ?_
    · refine mN0 (oM (v := (.lst _ _)) rfl ⟨rfl, ?_⟩)
      refine mN0 (oM (v := (.int _ _)) rfl ⟨rfl, ?_⟩)
      refine mN0 (oIx (f := GRefusal.lv) te48 tk58 ts58 rfl rfl GRefusal.ok hx3 rfl ⟨rfl, ?_⟩)
      refine mN0 (oFaS tf58_0 tk56 ts56 rfl rfl rfl ⟨rfl, ?_⟩)
      refine mN0 (oLdA rfl tk56 ta56 ts56 rfl rfl ⟨rfl, ?_⟩)
      refine mN0 (oFaS tf33_0 tk31 ts31 rfl rfl rfl ⟨rfl, ?_⟩)
      refine mN0 (oFaS tf31_1 tk3 ts3 rfl rfl rfl ⟨rfl, ?_⟩)
      refine mN0 (oLd rfl tk3 ta3 ⟨rfl, ?_⟩)
      refine mN0 (oFaS tf33_0 tk31 ts31 rfl rfl rfl ⟨rfl, ?_⟩)
      refine mN0 (oFaS tf31_2 tk3 ts3 rfl rfl rfl ⟨rfl, ?_⟩)
      refine mN0 (oLd rfl tk3 ta3 ⟨rfl, ?_⟩)
      refine mN0 (oBd (vs := [(0, .int .i64 p1.Stamp.Source), (1, .int .i64 p1.Stamp.Seq)]) tu56 tz56 rfl (lf tf56_0 ts3 tk3 rfl rfl rfl (lf tf56_1 ts3 tk3 rfl rfl rfl lf0)) ⟨rfl, ?_⟩)
      refine mN0 (oEqA rfl rfl (ae56 x3.Event (GIdentity.mk p1.Stamp.Source p1.Stamp.Seq)) ⟨rfl, ?_⟩)
      exact m0 (Wk.to (eC rfl (eC rfl (eC rfl (eC rfl eN)))) mN rfl (prK rfl))
    refine LH.cond (t := (decide (x3.Event = (GIdentity.mk p1.Stamp.Source p1.Stamp.Seq)))) rfl (fun hc4 => ?_) (fun hc4 => ?_)
    · replace h := iteT h hc4
      refine LH.seqT [(4, .bool true)] [] rfl ?_ ?_
      · refine sN (oA (v := (.bool _)) rfl ?_)
        exact s0 (Wk.to (eC rfl eN) mN rfl (prK rfl))
      refine LH.ret ?_
      refine blockR ?_
      refine thenR ?_
      refine roundR ?_
      refine blockR ?_
      refine thenR ?_
      obtain rfl := Option.some.inj h
      exact retE (congrArg Array.toList Try.results28) (lrT rfl (lr0 ⟨memN mN, rfl, prK rfl, Sub.rfl⟩))
    replace h := iteF h hc4
    refine LH.skip ?_
    refine blockN ?_
    refine thenN ?_
    refine LH.wk (Wk.to (el := [(0, .lst 3 (List.map GRefusal.lv p0)), (3, .sptr [.int .i64 p1.Stamp.Time, .int .i64 p1.Stamp.Source, .int .i64 p1.Stamp.Seq, .int .i64 p1.Kind, .int .i64 p1.Candidate, .int .i64 p1.Minutes]), (5, .int .i64 n1)]) (ml := []) (eC rfl (eC rfl (eC rfl eN))) mN rfl (prK rfl)) ?_
    refine LH.loneT [(0, .lst 3 (List.map GRefusal.lv p0)), (3, .sptr [.int .i64 p1.Stamp.Time, .int .i64 p1.Stamp.Source, .int .i64 p1.Stamp.Seq, .int .i64 p1.Kind, .int .i64 p1.Candidate, .int .i64 p1.Minutes]), (5, .int .i64 (i64 (n1 + 1)))] [] rfl ?_ ?_
    · refine sN (oM (v := (.int _ _)) rfl ?_)
      refine sN (oAdd rfl rfl ?_)
      refine sN (oA (v := (.int _ _)) rfl ?_)
      exact s0 (Wk.to (eC rfl (eC rfl (eC rfl eN))) mN rfl (prK rfl))
    exact roundN (e' := Env.of [(0, .lst 3 (List.map GRefusal.lv p0)), (3, .sptr [.int .i64 p1.Stamp.Time, .int .i64 p1.Stamp.Source, .int .i64 p1.Stamp.Seq, .int .i64 p1.Kind, .int .i64 p1.Candidate, .int .i64 p1.Minutes]), (5, .int .i64 (i64 (n1 + 1)))]) (m' := Mem.of []) (Wk.to (eC rfl (eC rfl (eC rfl eN))) mN rfl (prK rfl)) ⟨(i64 (n1 + 1)), hrec1 ▸ h, rfl, rfl⟩
  replace h := iteF h hc2
  refine LH.exit ?_
  refine thenX ?_
  refine roundX ?_
  refine blockH ?_
  refine thenN ?_
  refine LH.wk (Wk.to (el := []) (ml := []) eN mN rfl (prK rfl)) ?_
  refine LH.seqT [(4, .bool false)] [] rfl ?_ ?_
  · refine sN (oA (v := (.bool _)) rfl ?_)
    exact s0 (Wk.to (eC rfl eN) mN rfl (prK rfl))
  refine LH.ret ?_
  obtain rfl := Option.some.inj h
  exact retE (congrArg Array.toList Try.results28) (lrT rfl (lr0 ⟨memN mN, rfl, prK rfl, Sub.rfl⟩))

theorem law16_AttendanceLast_ok {F : Nat} {p0 : List Int} {r : Bool} (h : law16_AttendanceLast F p0 = some r) : LCall Try.prog 8 [.lst 1 (List.map (LV.int .i64) p0)] (Mem.of []) (.bool r) (Mem.of []) := by
  unfold law16_AttendanceLast at h
  refine bodyT Try.func8 rfl (by rw [Try.ntmps8]; exact Nat.le_of_ble_eq_true rfl) ?_
  refine LH.wk (Wk.to (el := [(0, .lst 1 (List.map (LV.int .i64) p0))]) (ml := []) (eC rfl eN) mN rfl (prK rfl)) ?_
  refine LH.seqT [(0, .lst 1 (List.map (LV.int .i64) p0))] [] rfl ?_ ?_
  · refine sN (oA (v := (.bool _)) rfl ?_)
    exact s0 (Wk.to (eC rfl eN) mN rfl (prK rfl))
  obtain ⟨r1, hr1, h⟩ := bindS h
  refine LH.seqT [(3, .ptr 7 0)] [(7, .box [.lst 1 (List.map (LV.int .i64) r1.L), .int .i64 r1.At])] rfl ?_ ?_
  · refine sN (oM (v := (.lst _ _)) rfl ?_)
    refine sN (oCM (args := [.lst 1 (List.map (LV.int .i64) p0)]) (ml := []) (ml' := [(7, .box [.lst 1 (List.map (LV.int .i64) r1.L), .int .i64 r1.At])]) rfl isF11 rfl (sbR sbN) (make_New_ok hr1) mN (newF rfl newN) rfl ?_)
    refine sN (oA (v := (.ptr _ _)) rfl ?_)
    exact s0 (Wk.to (eC rfl eN) (mC rfl mN) rfl (prK rfl))
  obtain ⟨r2, hr2, h⟩ := bindS h
  refine LH.seqT [(3, .ptr 7 0), (4, .lst 4 (List.map GEnrolment.lv r2.1))] [(7, .box [.lst 1 (List.map (LV.int .i64) r2.2.L), .int .i64 r2.2.At])] rfl ?_ ?_
  · refine sN (oM (v := (.ptr _ _)) rfl ?_)
    refine sN (oCM (args := [.ptr 7 0, .int .i64 0]) (ml := [(7, .box [.lst 1 (List.map (LV.int .i64) r1.L), .int .i64 r1.At])]) (ml' := [(7, .box [.lst 1 (List.map (LV.int .i64) r2.2.L), .int .i64 r2.2.At])]) rfl isF18 rfl (sbR (sbR sbN)) (GTape_Enrolled_ok hr2) (mC rfl mN) (newI rfl newN) rfl ?_)
    refine sN (oA (v := (.lst _ _)) rfl ?_)
    exact s0 (Wk.to (eC rfl (eC rfl eN)) (mC rfl mN) rfl (prK rfl))
  obtain ⟨r3, hr3, h⟩ := bindS h
  refine LH.seqT [(4, .lst 4 (List.map GEnrolment.lv r2.1)), (5, .lst 6 (List.map GRegisterEvent.lv r3.1))] [] rfl ?_ ?_
  · refine sN (oM (v := (.ptr _ _)) rfl ?_)
    refine sN (oCM (args := [.ptr 7 0, .int .i64 14, .int .i64 6]) (ml := [(7, .box [.lst 1 (List.map (LV.int .i64) r2.2.L), .int .i64 r2.2.At])]) (ml' := [(7, .box [.lst 1 (List.map (LV.int .i64) r3.2.L), .int .i64 r3.2.At])]) rfl isF12 rfl (sbR (sbR (sbR sbN))) (GTape_RegisterEvents_ok hr3) (mC rfl mN) (newI rfl newN) rfl ?_)
    refine sN (oA (v := (.lst _ _)) rfl ?_)
    exact s0 (Wk.to (eC rfl (eC rfl eN)) mN rfl (prK rfl))
  obtain ⟨r4, hr4, h⟩ := bindS h
  refine LH.seqT [(4, .lst 4 (List.map GEnrolment.lv r2.1)), (5, .lst 6 (List.map GRegisterEvent.lv r3.1)), (6, .lst 5 (List.map GAttendance.lv r4.1)), (7, .lst 3 (List.map GRefusal.lv r4.2.1)), (8, .int .i64 r4.2.2)] [] rfl ?_ ?_
  · refine sN (oM (v := (.lst _ _)) rfl ?_)
    refine sN (oM (v := (.lst _ _)) rfl ?_)
    refine sN (oCP (args := [.lst 4 (List.map GEnrolment.lv r2.1), .lst 6 (List.map GRegisterEvent.lv r3.1), .int .i64 1000000]) rfl isF22 rfl (sbR (sbR (sbR sbN))) (attendance_Fold_ok hr4) rfl ?_)
    refine sN (oM (v := (.tup _)) rfl ?_)
    refine sN (oEx rfl rfl ?_)
    refine sN (oEx rfl rfl ?_)
    refine sN (oEx rfl rfl ?_)
    refine sN (oA (v := (.lst _ _)) rfl ?_)
    refine sN (oA (v := (.lst _ _)) rfl ?_)
    refine sN (oA (v := (.int _ _)) rfl ?_)
    exact s0 (Wk.to (eC rfl (eC rfl (eC rfl (eC rfl (eC rfl eN))))) mN rfl (prK rfl))
  obtain ⟨r5, hr5, h⟩ := bindS h
  refine LH.seqT [(4, .lst 4 (List.map GEnrolment.lv r2.1)), (6, .lst 5 (List.map GAttendance.lv r4.1)), (7, .lst 3 (List.map GRefusal.lv r4.2.1)), (8, .int .i64 r4.2.2), (9, .lst 6 (List.map GRegisterEvent.lv r5.1)), (10, .int .i64 r5.2)] [] rfl ?_ ?_
  · refine sN (oM (v := (.lst _ _)) rfl ?_)
    refine sN (oCP (args := [.lst 6 (List.map GRegisterEvent.lv r3.1)]) rfl isF13 rfl (sbR sbN) (attendance_Canonical_ok hr5) rfl ?_)
    refine sN (oM (v := (.tup _)) rfl ?_)
    refine sN (oEx rfl rfl ?_)
    refine sN (oEx rfl rfl ?_)
    refine sN (oA (v := (.lst _ _)) rfl ?_)
    refine sN (oA (v := (.int _ _)) rfl ?_)
    exact s0 (Wk.to (eC rfl (eC rfl (eC rfl (eC rfl (eC rfl (eC rfl eN)))))) mN rfl (prK rfl))
  refine LH.seq ?_
  refine LH.seqT [(6, .lst 5 (List.map GAttendance.lv r4.1)), (7, .lst 3 (List.map GRefusal.lv r4.2.1)), (9, .lst 6 (List.map GRegisterEvent.lv r5.1)), (44, .bool ((r4.2.2 != 0) || ((r5.2 != 0) || ((r4.1.length : Int) != (r2.1.length : Int)))))] [] rfl ?_ ?_
  · refine sN (oM (v := (.int _ _)) rfl ?_)
    refine sN (oNe rfl rfl ?_)
    refine sN (oM (v := (.bool _)) rfl ?_)
    by_cases hb7 : (r4.2.2 != 0) = true
    · refine sF rfl rfl hb7 ?_
      refine sF rfl rfl hb7 ?_
      refine sN (oPkT (congrArg LV.bool hb7) (v := (.bool _)) rfl ?_)
      refine sN (oM (v := (.bool _)) rfl ?_)
      refine sF rfl rfl rfl ?_
      refine sF rfl rfl rfl ?_
      refine sF rfl rfl rfl ?_
      refine sF rfl rfl rfl ?_
      refine sF rfl rfl rfl ?_
      refine sN (oPkT rfl (v := (.bool _)) rfl ?_)
      exact s0 (Wk.to (eC rfl (eC rfl (eC rfl (eC (congrArg LV.bool (orT hb7)) eN)))) mN rfl (prK rfl))
    · replace hb7 := bF hb7
      refine sT rfl (congrArg LV.bool hb7) (oM (v := (.int _ _)) rfl ?_)
      refine sT rfl (congrArg LV.bool hb7) (oNe rfl rfl ?_)
      refine sN (oPkF (congrArg LV.bool hb7) (v := (.bool _)) rfl ?_)
      refine sN (oM (v := (.bool _)) rfl ?_)
      by_cases hb8 : (r5.2 != 0) = true
      · refine sF rfl rfl hb8 ?_
        refine sF rfl rfl hb8 ?_
        refine sF rfl rfl hb8 ?_
        refine sF rfl rfl hb8 ?_
        refine sF rfl rfl hb8 ?_
        refine sN (oPkT (congrArg LV.bool hb8) (v := (.bool _)) rfl ?_)
        exact s0 (Wk.to (eC rfl (eC rfl (eC rfl (eC (congrArg LV.bool (Eq.trans (orT hb8) (orF hb7))) eN)))) mN rfl (prK rfl))
      · replace hb8 := bF hb8
        refine sT rfl (congrArg LV.bool hb8) (oM (v := (.lst _ _)) rfl ?_)
        refine sT rfl (congrArg LV.bool hb8) (oLnL (f := GAttendance.lv) te47 rfl ?_)
        refine sT rfl (congrArg LV.bool hb8) (oM (v := (.lst _ _)) rfl ?_)
        refine sT rfl (congrArg LV.bool hb8) (oLnL (f := GEnrolment.lv) te38 rfl ?_)
        refine sT rfl (congrArg LV.bool hb8) (oNe rfl rfl ?_)
        refine sN (oPkF (congrArg LV.bool hb8) (v := (.bool _)) rfl ?_)
        exact s0 (Wk.to (eC rfl (eC rfl (eC rfl (eC (congrArg LV.bool (Eq.trans (orF hb8) (orF hb7))) eN)))) mN rfl (prK rfl))
  refine LH.cond (t := ((r4.2.2 != 0) || ((r5.2 != 0) || ((r4.1.length : Int) != (r2.1.length : Int))))) rfl (fun hc9 => ?_) (fun hc9 => ?_)
  · replace h := iteT h hc9
    refine LH.seqT [(2, .bool false)] [] rfl ?_ ?_
    · refine sN (oA (v := (.bool _)) rfl ?_)
      exact s0 (Wk.to (eC rfl eN) mN rfl (prK rfl))
    refine LH.ret ?_
    refine thenR ?_
    obtain rfl := Option.some.inj h
    exact retE (congrArg Array.toList Try.results8) (lrT rfl (lr0 ⟨memN mN, rfl, prK rfl, Sub.rfl⟩))
  replace h := iteF h hc9
  refine LH.skip ?_
  refine thenN ?_
  refine LH.wk (Wk.to (el := [(6, .lst 5 (List.map GAttendance.lv r4.1)), (7, .lst 3 (List.map GRefusal.lv r4.2.1)), (9, .lst 6 (List.map GRegisterEvent.lv r5.1))]) (ml := []) (eC rfl (eC rfl (eC rfl eN))) mN rfl (prK rfl)) ?_
  refine LH.seq ?_
  refine LH.seqT [(6, .lst 5 (List.map GAttendance.lv r4.1)), (7, .lst 3 (List.map GRefusal.lv r4.2.1)), (9, .lst 6 (List.map GRegisterEvent.lv r5.1)), (11, .int .i64 0)] [] rfl ?_ ?_
  · refine sN (oA (v := (.int _ _)) rfl ?_)
    exact s0 (Wk.to (eC rfl (eC rfl (eC rfl (eC rfl eN)))) mN rfl (prK rfl))
  refine LH.block ?_
  refine LH.loop (fun n e m => ∃ (n10 : Int), law16_AttendanceLast_L1 F r4 r5 n n10 = some r ∧ e = Env.of [(6, .lst 5 (List.map GAttendance.lv r4.1)), (7, .lst 3 (List.map GRefusal.lv r4.2.1)), (9, .lst 6 (List.map GRegisterEvent.lv r5.1)), (11, .int .i64 n10)] ∧ m = Mem.of []) F ⟨0, h, rfl, rfl⟩ ?_
  clear h
  rintro n e m ⟨n10, h, rfl, rfl⟩
  rcases n with _ | n
  · cases (show Option.none = some _ from h)
  obtain ⟨rec1, hrec1⟩ : ∃ f, f = law16_AttendanceLast_L1 F r4 r5 n := ⟨_, rfl⟩
  replace h : law16_AttendanceLast_L1_B F r4 r5 rec1 n10 = some r := hrec1 ▸ h
  unfold law16_AttendanceLast_L1_B at h
  refine LH.seq ?_
  refine LH.seqT [(6, .lst 5 (List.map GAttendance.lv r4.1)), (7, .lst 3 (List.map GRefusal.lv r4.2.1)), (9, .lst 6 (List.map GRegisterEvent.lv r5.1)), (11, .int .i64 n10), (48, .bool (decide (n10 < (r4.1.length : Int))))] [] rfl ?_ ?_
  · refine sN (oM (v := (.int _ _)) rfl ?_)
    refine sN (oM (v := (.lst _ _)) rfl ?_)
    refine sN (oLnL (f := GAttendance.lv) te47 rfl ?_)
    refine sN (oLt rfl rfl ?_)
    exact s0 (Wk.to (eC rfl (eC rfl (eC rfl (eC rfl (eC rfl eN))))) mN rfl (prK rfl))
  refine LH.cond (t := (decide (n10 < (r4.1.length : Int)))) rfl (fun hc11 => ?_) (fun hc11 => ?_)
  · replace h := iteT h hc11
    refine LH.skip ?_
    refine thenN ?_
    refine LH.wk (Wk.to (el := [(6, .lst 5 (List.map GAttendance.lv r4.1)), (7, .lst 3 (List.map GRefusal.lv r4.2.1)), (9, .lst 6 (List.map GRegisterEvent.lv r5.1)), (11, .int .i64 n10)]) (ml := []) (eC rfl (eC rfl (eC rfl (eC rfl eN)))) mN rfl (prK rfl)) ?_
    refine LH.seq ?_
    refine LH.block ?_
    refine LH.seqT [(6, .lst 5 (List.map GAttendance.lv r4.1)), (7, .lst 3 (List.map GRefusal.lv r4.2.1)), (9, .lst 6 (List.map GRegisterEvent.lv r5.1)), (11, .int .i64 n10), (12, .int .i64 0)] [] rfl ?_ ?_
    · refine sN (oA (v := (.int _ _)) rfl ?_)
      exact s0 (Wk.to (eC rfl (eC rfl (eC rfl (eC rfl (eC rfl eN))))) mN rfl (prK rfl))
    refine LH.seq ?_
    refine LH.seqT [(6, .lst 5 (List.map GAttendance.lv r4.1)), (7, .lst 3 (List.map GRefusal.lv r4.2.1)), (9, .lst 6 (List.map GRegisterEvent.lv r5.1)), (11, .int .i64 n10), (12, .int .i64 0), (13, .int .i64 0)] [] rfl ?_ ?_
    · refine sN (oA (v := (.int _ _)) rfl ?_)
      exact s0 (Wk.to (eC rfl (eC rfl (eC rfl (eC rfl (eC rfl (eC rfl eN)))))) mN rfl (prK rfl))
    refine LH.block ?_
    refine LH.loop (fun n e m => ∃ (n12 : Int) (n13 : Int), law16_AttendanceLast_L2 rec1 F r4 r5 n10 n n12 n13 = some r ∧ e = Env.of [(6, .lst 5 (List.map GAttendance.lv r4.1)), (7, .lst 3 (List.map GRefusal.lv r4.2.1)), (9, .lst 6 (List.map GRegisterEvent.lv r5.1)), (11, .int .i64 n10), (12, .int .i64 n12), (13, .int .i64 n13)] ∧ m = Mem.of []) F ⟨0, 0, h, rfl, rfl⟩ ?_
    clear h
    rintro n e m ⟨n12, n13, h, rfl, rfl⟩
    rcases n with _ | n
    · cases (show Option.none = some _ from h)
    obtain ⟨rec2, hrec2⟩ : ∃ f, f = law16_AttendanceLast_L2 rec1 F r4 r5 n10 n := ⟨_, rfl⟩
    replace h : law16_AttendanceLast_L2_B rec1 F r4 r5 n10 rec2 n12 n13 = some r := hrec2 ▸ h
    unfold law16_AttendanceLast_L2_B at h
    refine LH.seq ?_
    refine LH.seqT [(6, .lst 5 (List.map GAttendance.lv r4.1)), (7, .lst 3 (List.map GRefusal.lv r4.2.1)), (9, .lst 6 (List.map GRegisterEvent.lv r5.1)), (11, .int .i64 n10), (12, .int .i64 n12), (13, .int .i64 n13), (54, .bool (decide (n13 < (r5.1.length : Int))))] [] rfl ?_ ?_
    · refine sN (oM (v := (.int _ _)) rfl ?_)
      refine sN (oM (v := (.lst _ _)) rfl ?_)
      refine sN (oLnL (f := GRegisterEvent.lv) te25 rfl ?_)
      refine sN (oLt rfl rfl ?_)
      exact s0 (Wk.to (eC rfl (eC rfl (eC rfl (eC rfl (eC rfl (eC rfl (eC rfl eN))))))) mN rfl (prK rfl))
    refine LH.cond (t := (decide (n13 < (r5.1.length : Int)))) rfl (fun hc14 => ?_) (fun hc14 => ?_)
    · replace h := iteT h hc14
      refine LH.skip ?_
      refine thenN ?_
      refine LH.wk (Wk.to (el := [(6, .lst 5 (List.map GAttendance.lv r4.1)), (7, .lst 3 (List.map GRefusal.lv r4.2.1)), (9, .lst 6 (List.map GRegisterEvent.lv r5.1)), (11, .int .i64 n10), (12, .int .i64 n12), (13, .int .i64 n13)]) (ml := []) (eC rfl (eC rfl (eC rfl (eC rfl (eC rfl (eC rfl eN)))))) mN rfl (prK rfl)) ?_
      refine LH.seq ?_
      refine LH.block ?_
      refine LH.seq ?_
      obtain ⟨w16, hv, h⟩ := bindS h
      refine LH.seqJM mixed [] [0, 0, 0, 0, 0, 0, 0, 0, 0, 0, 0, 0, 0, 0, 0, 0, 0, 0, 0] [(6, .lst 5 (List.map GAttendance.lv r4.1)), (7, .lst 3 (List.map GRefusal.lv r4.2.1)), (9, .lst 6 (List.map GRegisterEvent.lv r5.1)), (11, .int .i64 n10), (12, .int .i64 n12), (13, .int .i64 n13), (75, .bool w16)] [] rfl rfl (by kernel_rfl) ?_ ?_
      · refine mN0 (oM (v := (.lst _ _)) rfl ⟨rfl, ?_⟩)
        refine mN0 (oM (v := (.int _ _)) rfl ⟨rfl, ?_⟩)
        obtain ⟨x17, hx17, hv⟩ := bindS hv
        refine mN0 (oIx (f := GRegisterEvent.lv) te25 tk33 ts33 rfl rfl GRegisterEvent.ok hx17 rfl ⟨rfl, ?_⟩)
        refine mN0 (oFaS tf33_2 tk3 ts3 rfl rfl rfl ⟨rfl, ?_⟩)
        refine mN0 (oLd rfl tk3 ta3 ⟨rfl, ?_⟩)
        refine mN0 (oM (v := (.lst _ _)) rfl ⟨rfl, ?_⟩)
        refine mN0 (oM (v := (.int _ _)) rfl ⟨rfl, ?_⟩)
        obtain ⟨x18, hx18, hv⟩ := bindS hv
        refine mN0 (oIx (f := GAttendance.lv) te47 tk54 ts54 rfl rfl GAttendance.ok hx18 rfl ⟨rfl, ?_⟩)
        refine mN0 (oFaS tf54_0 tk3 ts3 rfl rfl rfl ⟨rfl, ?_⟩)
        refine mN0 (oLd rfl tk3 ta3 ⟨rfl, ?_⟩)
        refine mN0 (oNe rfl rfl ⟨rfl, ?_⟩)
        refine mN0 (oM (v := (.bool _)) rfl ⟨rfl, ?_⟩)
        by_cases hb19 : (x17.Candidate != x18.Candidate) = true
        · replace hv := iteT hv hb19
          refine mF rfl rfl hb19 ?_
          refine mF rfl rfl hb19 ?_
          refine mF rfl rfl hb19 ?_
          refine mF rfl rfl hb19 ?_
          refine mF rfl rfl hb19 ?_
          refine mF rfl rfl hb19 ?_
          refine mN0 (oPkT (congrArg LV.bool hb19) (v := (.bool _)) rfl ⟨rfl, ?_⟩)
          obtain rfl := Option.some.inj hv
          exact m0 (Wk.to (eC rfl (eC rfl (eC rfl (eC rfl (eC rfl (eC rfl (eC rfl eN))))))) mN rfl (prK rfl))
        · replace hb19 := bF hb19
          replace hv := iteF hv hb19
          refine mT rfl (congrArg LV.bool hb19) (mN0 (oM (v := (.lst _ _)) rfl ⟨rfl, ?_⟩))
          refine mT rfl (congrArg LV.bool hb19) (mN0 (oM (v := (.lst _ _)) rfl ⟨rfl, ?_⟩))
          refine mT rfl (congrArg LV.bool hb19) (mN0 (oM (v := (.int _ _)) rfl ⟨rfl, ?_⟩))
          obtain ⟨x20, hx20, hv⟩ := bindS hv
          refine mT rfl (congrArg LV.bool hb19) (mN0 (oIx (f := GRegisterEvent.lv) te25 tk33 ts33 rfl rfl GRegisterEvent.ok hx20 rfl ⟨rfl, ?_⟩))
          refine mT rfl (congrArg LV.bool hb19) (mN0 (oLdA rfl tk33 ta33 ts33 rfl rfl ⟨rfl, ?_⟩))
          obtain ⟨r21, hr21, hv⟩ := bindS hv
          refine mT rfl (congrArg LV.bool hb19) (mN0 (oCP (args := [.lst 3 (List.map GRefusal.lv r4.2.1), .agg [.int .i64 x20.Stamp.Time, .int .i64 x20.Stamp.Source, .int .i64 x20.Stamp.Seq, .int .i64 x20.Kind, .int .i64 x20.Candidate, .int .i64 x20.Minutes]]) rfl isF28 rfl (sbR (sbR sbN)) (law16_refused_ok hr21) rfl ⟨rfl, ?_⟩))
          refine mN0 (oPkF (congrArg LV.bool hb19) (v := (.bool _)) rfl ⟨rfl, ?_⟩)
          obtain rfl := Option.some.inj hv
          exact m0 (Wk.to (eC rfl (eC rfl (eC rfl (eC rfl (eC rfl (eC rfl (eC rfl eN))))))) mN rfl (prK rfl))
      clear hv
      refine LH.cond (t := w16) rfl (fun hc22 => ?_) (fun hc22 => ?_)
      · replace h := iteT h hc22
        refine LH.exit ?_
        refine thenX ?_
        refine blockH ?_
        refine thenN ?_
        refine LH.wk (Wk.to (el := [(6, .lst 5 (List.map GAttendance.lv r4.1)), (7, .lst 3 (List.map GRefusal.lv r4.2.1)), (9, .lst 6 (List.map GRegisterEvent.lv r5.1)), (11, .int .i64 n10), (12, .int .i64 n12), (13, .int .i64 n13)]) (ml := []) (eC rfl (eC rfl (eC rfl (eC rfl (eC rfl (eC rfl eN)))))) mN rfl (prK rfl)) ?_
        refine LH.loneT [(6, .lst 5 (List.map GAttendance.lv r4.1)), (7, .lst 3 (List.map GRefusal.lv r4.2.1)), (9, .lst 6 (List.map GRegisterEvent.lv r5.1)), (11, .int .i64 n10), (12, .int .i64 n12), (13, .int .i64 (i64 (n13 + 1)))] [] rfl ?_ ?_
        · refine sN (oM (v := (.int _ _)) rfl ?_)
          refine sN (oAdd rfl rfl ?_)
          refine sN (oA (v := (.int _ _)) rfl ?_)
          exact s0 (Wk.to (eC rfl (eC rfl (eC rfl (eC rfl (eC rfl (eC rfl eN)))))) mN rfl (prK rfl))
        exact roundN (e' := Env.of [(6, .lst 5 (List.map GAttendance.lv r4.1)), (7, .lst 3 (List.map GRefusal.lv r4.2.1)), (9, .lst 6 (List.map GRegisterEvent.lv r5.1)), (11, .int .i64 n10), (12, .int .i64 n12), (13, .int .i64 (i64 (n13 + 1)))]) (m' := Mem.of []) (Wk.to (eC rfl (eC rfl (eC rfl (eC rfl (eC rfl (eC rfl eN)))))) mN rfl (prK rfl)) ⟨n12, (i64 (n13 + 1)), hrec2 ▸ h, rfl, rfl⟩
      replace h := iteF h hc22
      refine LH.skip ?_
      refine thenN ?_
      refine LH.wk (Wk.to (el := [(6, .lst 5 (List.map GAttendance.lv r4.1)), (7, .lst 3 (List.map GRefusal.lv r4.2.1)), (9, .lst 6 (List.map GRegisterEvent.lv r5.1)), (11, .int .i64 n10), (12, .int .i64 n12), (13, .int .i64 n13)]) (ml := []) (eC rfl (eC rfl (eC rfl (eC rfl (eC rfl (eC rfl eN)))))) mN rfl (prK rfl)) ?_
      refine LH.seq ?_
      obtain ⟨w24, hv, h⟩ := bindS h
      refine LH.seqT [(6, .lst 5 (List.map GAttendance.lv r4.1)), (7, .lst 3 (List.map GRefusal.lv r4.2.1)), (9, .lst 6 (List.map GRegisterEvent.lv r5.1)), (11, .int .i64 n10), (12, .int .i64 n12), (13, .int .i64 n13), (89, .bool w24)] [] rfl ?_ ?_
      · refine sN (oM (v := (.lst _ _)) rfl ?_)
        refine sN (oM (v := (.int _ _)) rfl ?_)
        obtain ⟨x25, hx25, hv⟩ := bindS hv
        refine sN (oIx (f := GRegisterEvent.lv) te25 tk33 ts33 rfl rfl GRegisterEvent.ok hx25 rfl ?_)
        refine sN (oFaS tf33_1 tk3 ts3 rfl rfl rfl ?_)
        refine sN (oLd rfl tk3 ta3 ?_)
        refine sN (oEq rfl rfl ?_)
        refine sN (oM (v := (.bool _)) rfl ?_)
        by_cases hb26 : (x25.Kind == 1) = true
        · replace hv := iteT hv hb26
          refine sF rfl rfl hb26 ?_
          refine sF rfl rfl hb26 ?_
          refine sF rfl rfl hb26 ?_
          refine sF rfl rfl hb26 ?_
          refine sF rfl rfl hb26 ?_
          refine sF rfl rfl hb26 ?_
          refine sN (oPkT (congrArg LV.bool hb26) (v := (.bool _)) rfl ?_)
          obtain rfl := Option.some.inj hv
          exact s0 (Wk.to (eC rfl (eC rfl (eC rfl (eC rfl (eC rfl (eC rfl (eC rfl eN))))))) mN rfl (prK rfl))
        · replace hb26 := bF hb26
          replace hv := iteF hv hb26
          refine sT rfl (congrArg LV.bool hb26) (oM (v := (.lst _ _)) rfl ?_)
          refine sT rfl (congrArg LV.bool hb26) (oM (v := (.int _ _)) rfl ?_)
          obtain ⟨x27, hx27, hv⟩ := bindS hv
          refine sT rfl (congrArg LV.bool hb26) (oIx (f := GRegisterEvent.lv) te25 tk33 ts33 rfl rfl GRegisterEvent.ok hx27 rfl ?_)
          refine sT rfl (congrArg LV.bool hb26) (oFaS tf33_1 tk3 ts3 rfl rfl rfl ?_)
          refine sT rfl (congrArg LV.bool hb26) (oLd rfl tk3 ta3 ?_)
          refine sT rfl (congrArg LV.bool hb26) (oEq rfl rfl ?_)
          refine sN (oPkF (congrArg LV.bool hb26) (v := (.bool _)) rfl ?_)
          obtain rfl := Option.some.inj hv
          exact s0 (Wk.to (eC rfl (eC rfl (eC rfl (eC rfl (eC rfl (eC rfl (eC rfl eN))))))) mN rfl (prK rfl))
      clear hv
      refine LH.cond (t := w24) rfl (fun hc28 => ?_) (fun hc28 => ?_)
      · replace h := iteT h hc28
        refine LH.loneT [(6, .lst 5 (List.map GAttendance.lv r4.1)), (7, .lst 3 (List.map GRefusal.lv r4.2.1)), (9, .lst 6 (List.map GRegisterEvent.lv r5.1)), (11, .int .i64 n10), (12, .int .i64 1), (13, .int .i64 n13)] [] rfl ?_ ?_
        · refine sN (oA (v := (.int _ _)) rfl ?_)
          exact s0 (Wk.to (eC rfl (eC rfl (eC rfl (eC rfl (eC rfl (eC rfl eN)))))) mN rfl (prK rfl))
        refine thenN ?_
        obtain ⟨x29, hx29, h⟩ := bindS h
        refine LH.seqT [(6, .lst 5 (List.map GAttendance.lv r4.1)), (7, .lst 3 (List.map GRefusal.lv r4.2.1)), (9, .lst 6 (List.map GRegisterEvent.lv r5.1)), (11, .int .i64 n10), (12, .int .i64 1), (13, .int .i64 n13), (95, .bool (x29.Kind == 2))] [] rfl ?_ ?_
        · refine sN (oM (v := (.lst _ _)) rfl ?_)
          refine sN (oM (v := (.int _ _)) rfl ?_)
          refine sN (oIx (f := GRegisterEvent.lv) te25 tk33 ts33 rfl rfl GRegisterEvent.ok hx29 rfl ?_)
          refine sN (oFaS tf33_1 tk3 ts3 rfl rfl rfl ?_)
          refine sN (oLd rfl tk3 ta3 ?_)
          refine sN (oEq rfl rfl ?_)
          exact s0 (Wk.to (eC rfl (eC rfl (eC rfl (eC rfl (eC rfl (eC rfl (eC rfl eN))))))) mN rfl (prK rfl))
        refine LH.cond (t := (x29.Kind == 2)) rfl (fun hc30 => ?_) (fun hc30 => ?_)
        · replace h := iteT h hc30
          refine LH.loneT [(6, .lst 5 (List.map GAttendance.lv r4.1)), (7, .lst 3 (List.map GRefusal.lv r4.2.1)), (9, .lst 6 (List.map GRegisterEvent.lv r5.1)), (11, .int .i64 n10), (12, .int .i64 2), (13, .int .i64 n13)] [] rfl ?_ ?_
          · refine sN (oA (v := (.int _ _)) rfl ?_)
            exact s0 (Wk.to (eC rfl (eC rfl (eC rfl (eC rfl (eC rfl (eC rfl eN)))))) mN rfl (prK rfl))
          refine blockN ?_
          refine thenN ?_
          refine LH.loneT [(6, .lst 5 (List.map GAttendance.lv r4.1)), (7, .lst 3 (List.map GRefusal.lv r4.2.1)), (9, .lst 6 (List.map GRegisterEvent.lv r5.1)), (11, .int .i64 n10), (12, .int .i64 2), (13, .int .i64 (i64 (n13 + 1)))] [] rfl ?_ ?_
          · refine sN (oM (v := (.int _ _)) rfl ?_)
            refine sN (oAdd rfl rfl ?_)
            refine sN (oA (v := (.int _ _)) rfl ?_)
            exact s0 (Wk.to (eC rfl (eC rfl (eC rfl (eC rfl (eC rfl (eC rfl eN)))))) mN rfl (prK rfl))
          exact roundN (e' := Env.of [(6, .lst 5 (List.map GAttendance.lv r4.1)), (7, .lst 3 (List.map GRefusal.lv r4.2.1)), (9, .lst 6 (List.map GRegisterEvent.lv r5.1)), (11, .int .i64 n10), (12, .int .i64 2), (13, .int .i64 (i64 (n13 + 1)))]) (m' := Mem.of []) (Wk.to (eC rfl (eC rfl (eC rfl (eC rfl (eC rfl (eC rfl eN)))))) mN rfl (prK rfl)) ⟨2, (i64 (n13 + 1)), hrec2 ▸ h, rfl, rfl⟩
        replace h := iteF h hc30
        refine LH.skip ?_
        refine blockN ?_
        refine thenN ?_
        refine LH.wk (Wk.to (el := [(6, .lst 5 (List.map GAttendance.lv r4.1)), (7, .lst 3 (List.map GRefusal.lv r4.2.1)), (9, .lst 6 (List.map GRegisterEvent.lv r5.1)), (11, .int .i64 n10), (12, .int .i64 1), (13, .int .i64 n13)]) (ml := []) (eC rfl (eC rfl (eC rfl (eC rfl (eC rfl (eC rfl eN)))))) mN rfl (prK rfl)) ?_
        refine LH.loneT [(6, .lst 5 (List.map GAttendance.lv r4.1)), (7, .lst 3 (List.map GRefusal.lv r4.2.1)), (9, .lst 6 (List.map GRegisterEvent.lv r5.1)), (11, .int .i64 n10), (12, .int .i64 1), (13, .int .i64 (i64 (n13 + 1)))] [] rfl ?_ ?_
        · refine sN (oM (v := (.int _ _)) rfl ?_)
          refine sN (oAdd rfl rfl ?_)
          refine sN (oA (v := (.int _ _)) rfl ?_)
          exact s0 (Wk.to (eC rfl (eC rfl (eC rfl (eC rfl (eC rfl (eC rfl eN)))))) mN rfl (prK rfl))
        exact roundN (e' := Env.of [(6, .lst 5 (List.map GAttendance.lv r4.1)), (7, .lst 3 (List.map GRefusal.lv r4.2.1)), (9, .lst 6 (List.map GRegisterEvent.lv r5.1)), (11, .int .i64 n10), (12, .int .i64 1), (13, .int .i64 (i64 (n13 + 1)))]) (m' := Mem.of []) (Wk.to (eC rfl (eC rfl (eC rfl (eC rfl (eC rfl (eC rfl eN)))))) mN rfl (prK rfl)) ⟨1, (i64 (n13 + 1)), hrec2 ▸ h, rfl, rfl⟩
      replace h := iteF h hc28
      refine LH.skip ?_
      refine thenN ?_
      refine LH.wk (Wk.to (el := [(6, .lst 5 (List.map GAttendance.lv r4.1)), (7, .lst 3 (List.map GRefusal.lv r4.2.1)), (9, .lst 6 (List.map GRegisterEvent.lv r5.1)), (11, .int .i64 n10), (12, .int .i64 n12), (13, .int .i64 n13)]) (ml := []) (eC rfl (eC rfl (eC rfl (eC rfl (eC rfl (eC rfl eN)))))) mN rfl (prK rfl)) ?_
      obtain ⟨x31, hx31, h⟩ := bindS h
      refine LH.seqT [(6, .lst 5 (List.map GAttendance.lv r4.1)), (7, .lst 3 (List.map GRefusal.lv r4.2.1)), (9, .lst 6 (List.map GRegisterEvent.lv r5.1)), (11, .int .i64 n10), (12, .int .i64 n12), (13, .int .i64 n13), (95, .bool (x31.Kind == 2))] [] rfl ?_ ?_
      · refine sN (oM (v := (.lst _ _)) rfl ?_)
        refine sN (oM (v := (.int _ _)) rfl ?_)
        refine sN (oIx (f := GRegisterEvent.lv) te25 tk33 ts33 rfl rfl GRegisterEvent.ok hx31 rfl ?_)
        refine sN (oFaS tf33_1 tk3 ts3 rfl rfl rfl ?_)
        refine sN (oLd rfl tk3 ta3 ?_)
        refine sN (oEq rfl rfl ?_)
        exact s0 (Wk.to (eC rfl (eC rfl (eC rfl (eC rfl (eC rfl (eC rfl (eC rfl eN))))))) mN rfl (prK rfl))
      refine LH.cond (t := (x31.Kind == 2)) rfl (fun hc32 => ?_) (fun hc32 => ?_)
      · replace h := iteT h hc32
        refine LH.loneT [(6, .lst 5 (List.map GAttendance.lv r4.1)), (7, .lst 3 (List.map GRefusal.lv r4.2.1)), (9, .lst 6 (List.map GRegisterEvent.lv r5.1)), (11, .int .i64 n10), (12, .int .i64 2), (13, .int .i64 n13)] [] rfl ?_ ?_
        · refine sN (oA (v := (.int _ _)) rfl ?_)
          exact s0 (Wk.to (eC rfl (eC rfl (eC rfl (eC rfl (eC rfl (eC rfl eN)))))) mN rfl (prK rfl))
        refine blockN ?_
        refine thenN ?_
        refine LH.loneT [(6, .lst 5 (List.map GAttendance.lv r4.1)), (7, .lst 3 (List.map GRefusal.lv r4.2.1)), (9, .lst 6 (List.map GRegisterEvent.lv r5.1)), (11, .int .i64 n10), (12, .int .i64 2), (13, .int .i64 (i64 (n13 + 1)))] [] rfl ?_ ?_
        · refine sN (oM (v := (.int _ _)) rfl ?_)
          refine sN (oAdd rfl rfl ?_)
          refine sN (oA (v := (.int _ _)) rfl ?_)
          exact s0 (Wk.to (eC rfl (eC rfl (eC rfl (eC rfl (eC rfl (eC rfl eN)))))) mN rfl (prK rfl))
        exact roundN (e' := Env.of [(6, .lst 5 (List.map GAttendance.lv r4.1)), (7, .lst 3 (List.map GRefusal.lv r4.2.1)), (9, .lst 6 (List.map GRegisterEvent.lv r5.1)), (11, .int .i64 n10), (12, .int .i64 2), (13, .int .i64 (i64 (n13 + 1)))]) (m' := Mem.of []) (Wk.to (eC rfl (eC rfl (eC rfl (eC rfl (eC rfl (eC rfl eN)))))) mN rfl (prK rfl)) ⟨2, (i64 (n13 + 1)), hrec2 ▸ h, rfl, rfl⟩
      replace h := iteF h hc32
      refine LH.skip ?_
      refine blockN ?_
      refine thenN ?_
      refine LH.wk (Wk.to (el := [(6, .lst 5 (List.map GAttendance.lv r4.1)), (7, .lst 3 (List.map GRefusal.lv r4.2.1)), (9, .lst 6 (List.map GRegisterEvent.lv r5.1)), (11, .int .i64 n10), (12, .int .i64 n12), (13, .int .i64 n13)]) (ml := []) (eC rfl (eC rfl (eC rfl (eC rfl (eC rfl (eC rfl eN)))))) mN rfl (prK rfl)) ?_
      refine LH.loneT [(6, .lst 5 (List.map GAttendance.lv r4.1)), (7, .lst 3 (List.map GRefusal.lv r4.2.1)), (9, .lst 6 (List.map GRegisterEvent.lv r5.1)), (11, .int .i64 n10), (12, .int .i64 n12), (13, .int .i64 (i64 (n13 + 1)))] [] rfl ?_ ?_
      · refine sN (oM (v := (.int _ _)) rfl ?_)
        refine sN (oAdd rfl rfl ?_)
        refine sN (oA (v := (.int _ _)) rfl ?_)
        exact s0 (Wk.to (eC rfl (eC rfl (eC rfl (eC rfl (eC rfl (eC rfl eN)))))) mN rfl (prK rfl))
      exact roundN (e' := Env.of [(6, .lst 5 (List.map GAttendance.lv r4.1)), (7, .lst 3 (List.map GRefusal.lv r4.2.1)), (9, .lst 6 (List.map GRegisterEvent.lv r5.1)), (11, .int .i64 n10), (12, .int .i64 n12), (13, .int .i64 (i64 (n13 + 1)))]) (m' := Mem.of []) (Wk.to (eC rfl (eC rfl (eC rfl (eC rfl (eC rfl (eC rfl eN)))))) mN rfl (prK rfl)) ⟨n12, (i64 (n13 + 1)), hrec2 ▸ h, rfl, rfl⟩
    replace h := iteF h hc14
    refine LH.exit ?_
    refine thenX ?_
    refine roundX ?_
    refine blockH ?_
    refine thenN ?_
    refine LH.wk (Wk.to (el := [(6, .lst 5 (List.map GAttendance.lv r4.1)), (7, .lst 3 (List.map GRefusal.lv r4.2.1)), (9, .lst 6 (List.map GRegisterEvent.lv r5.1)), (11, .int .i64 n10), (12, .int .i64 n12)]) (ml := []) (eC rfl (eC rfl (eC rfl (eC rfl (eC rfl eN))))) mN rfl (prK rfl)) ?_
    obtain ⟨w34, hv, h⟩ := bindS h
    refine LH.seqT [(6, .lst 5 (List.map GAttendance.lv r4.1)), (7, .lst 3 (List.map GRefusal.lv r4.2.1)), (9, .lst 6 (List.map GRegisterEvent.lv r5.1)), (11, .int .i64 n10), (122, .bool w34)] [] rfl ?_ ?_
    · refine sN (oM (v := (.lst _ _)) rfl ?_)
      refine sN (oM (v := (.int _ _)) rfl ?_)
      obtain ⟨x35, hx35, hv⟩ := bindS hv
      refine sN (oIx (f := GAttendance.lv) te47 tk54 ts54 rfl rfl GAttendance.ok hx35 rfl ?_)
      refine sN (oFaS tf54_1 tk3 ts3 rfl rfl rfl ?_)
      refine sN (oLd rfl tk3 ta3 ?_)
      refine sN (oM (v := (.int _ _)) rfl ?_)
      refine sN (oNe rfl rfl ?_)
      refine sN (oM (v := (.bool _)) rfl ?_)
      by_cases hb36 : (x35.State != n12) = true
      · replace hv := iteT hv hb36
        refine sF rfl rfl hb36 ?_
        refine sF rfl rfl hb36 ?_
        refine sF rfl rfl hb36 ?_
        refine sU rfl rfl ?_
        refine sU rfl rfl ?_
        refine sU rfl rfl ?_
        refine sU rfl rfl ?_
        refine sU rfl rfl ?_
        refine sU rfl rfl ?_
        refine sU rfl rfl ?_
        refine sU rfl rfl ?_
        refine sU rfl rfl ?_
        refine sU rfl rfl ?_
        refine sU rfl rfl ?_
        refine sU rfl rfl ?_
        refine sU rfl rfl ?_
        refine sU rfl rfl ?_
        refine sF rfl rfl hb36 ?_
        refine sN (oPkT (congrArg LV.bool hb36) (v := (.bool _)) rfl ?_)
        obtain rfl := Option.some.inj hv
        exact s0 (Wk.to (eC rfl (eC rfl (eC rfl (eC rfl (eC rfl eN))))) mN rfl (prK rfl))
      · replace hb36 := bF hb36
        replace hv := iteF hv hb36
        refine sT rfl (congrArg LV.bool hb36) (oM (v := (.int _ _)) rfl ?_)
        refine sT rfl (congrArg LV.bool hb36) (oNe rfl rfl ?_)
        refine sT rfl (congrArg LV.bool hb36) (oM (v := (.bool _)) rfl ?_)
        by_cases hb37 : (n12 != 1) = true
        · replace hv := iteT hv hb37
          refine sT rfl (congrArg LV.bool hb37) (oM (v := (.lst _ _)) rfl ?_)
          refine sT rfl (congrArg LV.bool hb37) (oM (v := (.int _ _)) rfl ?_)
          obtain ⟨x38, hx38, hv⟩ := bindS hv
          refine sT rfl (congrArg LV.bool hb37) (oIx (f := GAttendance.lv) te47 tk54 ts54 rfl rfl GAttendance.ok hx38 rfl ?_)
          refine sT rfl (congrArg LV.bool hb37) (oFaS tf54_3 tk3 ts3 rfl rfl rfl ?_)
          refine sT rfl (congrArg LV.bool hb37) (oLd rfl tk3 ta3 ?_)
          refine sT rfl (congrArg LV.bool hb37) (oNe rfl rfl ?_)
          refine sT rfl (congrArg LV.bool hb37) (oM (v := (.bool _)) rfl ?_)
          by_cases hb39 : (x38.Left != (-1)) = true
          · replace hv := iteT hv hb39
            refine sF rfl rfl hb39 ?_
            refine sF rfl rfl hb39 ?_
            refine sF rfl rfl hb39 ?_
            refine sF rfl rfl hb39 ?_
            refine sF rfl rfl hb39 ?_
            refine sF rfl rfl hb39 ?_
            refine sT rfl (congrArg LV.bool hb37) (oPkT (congrArg LV.bool hb39) (v := (.bool _)) rfl ?_)
            refine sT rfl (congrArg LV.bool hb36) (oPkT (congrArg LV.bool hb37) (v := (.bool _)) rfl ?_)
            refine sN (oPkF (congrArg LV.bool hb36) (v := (.bool _)) rfl ?_)
            obtain rfl := Option.some.inj hv
            exact s0 (Wk.to (eC rfl (eC rfl (eC rfl (eC rfl (eC rfl eN))))) mN rfl (prK rfl))
          · replace hb39 := bF hb39
            replace hv := iteF hv hb39
            refine sT rfl (congrArg LV.bool hb39) (oM (v := (.lst _ _)) rfl ?_)
            refine sT rfl (congrArg LV.bool hb39) (oM (v := (.int _ _)) rfl ?_)
            obtain ⟨x40, hx40, hv⟩ := bindS hv
            refine sT rfl (congrArg LV.bool hb39) (oIx (f := GAttendance.lv) te47 tk54 ts54 rfl rfl GAttendance.ok hx40 rfl ?_)
            refine sT rfl (congrArg LV.bool hb39) (oFaS tf54_2 tk3 ts3 rfl rfl rfl ?_)
            refine sT rfl (congrArg LV.bool hb39) (oLd rfl tk3 ta3 ?_)
            refine sT rfl (congrArg LV.bool hb39) (oNe rfl rfl ?_)
            refine sT rfl (congrArg LV.bool hb37) (oPkF (congrArg LV.bool hb39) (v := (.bool _)) rfl ?_)
            refine sT rfl (congrArg LV.bool hb36) (oPkT (congrArg LV.bool hb37) (v := (.bool _)) rfl ?_)
            refine sN (oPkF (congrArg LV.bool hb36) (v := (.bool _)) rfl ?_)
            obtain rfl := Option.some.inj hv
            exact s0 (Wk.to (eC rfl (eC rfl (eC rfl (eC rfl (eC rfl eN))))) mN rfl (prK rfl))
        · replace hb37 := bF hb37
          replace hv := iteF hv hb37
          refine sF rfl rfl hb37 ?_
          refine sF rfl rfl hb37 ?_
          refine sF rfl rfl hb37 ?_
          refine sF rfl rfl hb37 ?_
          refine sF rfl rfl hb37 ?_
          refine sF rfl rfl hb37 ?_
          refine sF rfl rfl hb37 ?_
          refine sU rfl rfl ?_
          refine sU rfl rfl ?_
          refine sU rfl rfl ?_
          refine sU rfl rfl ?_
          refine sU rfl rfl ?_
          refine sU rfl rfl ?_
          refine sF rfl rfl hb37 ?_
          refine sT rfl (congrArg LV.bool hb36) (oPkF (congrArg LV.bool hb37) (v := (.bool _)) rfl ?_)
          refine sN (oPkF (congrArg LV.bool hb36) (v := (.bool _)) rfl ?_)
          obtain rfl := Option.some.inj hv
          exact s0 (Wk.to (eC rfl (eC rfl (eC rfl (eC rfl (eC rfl eN))))) mN rfl (prK rfl))
    clear hv
    refine LH.cond (t := w34) rfl (fun hc41 => ?_) (fun hc41 => ?_)
    · replace h := iteT h hc41
      refine LH.seqT [(2, .bool false)] [] rfl ?_ ?_
      · refine sN (oA (v := (.bool _)) rfl ?_)
        exact s0 (Wk.to (eC rfl eN) mN rfl (prK rfl))
      refine LH.ret ?_
      refine blockR ?_
      refine thenR ?_
      refine roundR ?_
      refine blockR ?_
      refine thenR ?_
      obtain rfl := Option.some.inj h
      exact retE (congrArg Array.toList Try.results8) (lrT rfl (lr0 ⟨memN mN, rfl, prK rfl, Sub.rfl⟩))
    replace h := iteF h hc41
    refine LH.skip ?_
    refine blockN ?_
    refine thenN ?_
    refine LH.wk (Wk.to (el := [(6, .lst 5 (List.map GAttendance.lv r4.1)), (7, .lst 3 (List.map GRefusal.lv r4.2.1)), (9, .lst 6 (List.map GRegisterEvent.lv r5.1)), (11, .int .i64 n10)]) (ml := []) (eC rfl (eC rfl (eC rfl (eC rfl eN)))) mN rfl (prK rfl)) ?_
    refine LH.loneT [(6, .lst 5 (List.map GAttendance.lv r4.1)), (7, .lst 3 (List.map GRefusal.lv r4.2.1)), (9, .lst 6 (List.map GRegisterEvent.lv r5.1)), (11, .int .i64 (i64 (n10 + 1)))] [] rfl ?_ ?_
    · refine sN (oM (v := (.int _ _)) rfl ?_)
      refine sN (oAdd rfl rfl ?_)
      refine sN (oA (v := (.int _ _)) rfl ?_)
      exact s0 (Wk.to (eC rfl (eC rfl (eC rfl (eC rfl eN)))) mN rfl (prK rfl))
    exact roundN (e' := Env.of [(6, .lst 5 (List.map GAttendance.lv r4.1)), (7, .lst 3 (List.map GRefusal.lv r4.2.1)), (9, .lst 6 (List.map GRegisterEvent.lv r5.1)), (11, .int .i64 (i64 (n10 + 1)))]) (m' := Mem.of []) (Wk.to (eC rfl (eC rfl (eC rfl (eC rfl eN)))) mN rfl (prK rfl)) ⟨(i64 (n10 + 1)), hrec1 ▸ h, rfl, rfl⟩
  replace h := iteF h hc11
  refine LH.exit ?_
  refine thenX ?_
  refine roundX ?_
  refine blockH ?_
  refine thenN ?_
  refine LH.wk (Wk.to (el := []) (ml := []) eN mN rfl (prK rfl)) ?_
  obtain ⟨r42, hr42, h⟩ := bindS h
  refine LH.seqT [(2, .bool r42)] [] rfl ?_ ?_
  · refine sN (oCP (args := []) rfl isF17 rfl sbN (law16_awake_ok hr42) rfl ?_)
    refine sN (oA (v := (.bool _)) rfl ?_)
    exact s0 (Wk.to (eC rfl eN) mN rfl (prK rfl))
  refine LH.ret ?_
  obtain rfl := Option.some.inj h
  exact retE (congrArg Array.toList Try.results8) (lrT rfl (lr0 ⟨memN mN, rfl, prK rfl, Sub.rfl⟩))

end Go.Proofs.Ytapnjifcfljmmaa
