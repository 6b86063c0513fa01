/- Walks, printed by program (gen.py): each function computes its plain function. -/
import Derived.Test.YtapnjifcfljmmaaW3
set_option linter.unusedVariables false
set_option linter.unusedSimpArgs false
set_option maxRecDepth 100000
namespace Go.Proofs.Ytapnjifcfljmmaa
open Go.L Go.Sh
theorem law16_AttendanceChecks_ok {F : Nat} {p0 : List Int} {p1 : Int} {r : Bool} (h : law16_AttendanceChecks F p0 p1 = some r) : LCall Try.prog 4 [.lst 1 (List.map (LV.int .i64) p0), .int .i64 p1] (Mem.of []) (.bool r) (Mem.of []) := by
  unfold law16_AttendanceChecks at h
  refine bodyT Try.func4 rfl (by rw [Try.ntmps4]; exact Nat.le_of_ble_eq_true rfl) ?_
  refine LH.wk (Wk.to (el := [(0, .lst 1 (List.map (LV.int .i64) p0)), (1, .int .i64 p1)]) (ml := []) (eC rfl (eC rfl eN)) mN rfl (prK rfl)) ?_
  refine LH.seqT [(0, .lst 1 (List.map (LV.int .i64) p0)), (1, .int .i64 p1)] [] rfl ?_ ?_
  · refine sN (oA (v := (.bool _)) rfl ?_)
    exact s0 (Wk.to (eC rfl (eC rfl eN)) mN rfl (prK rfl))
  obtain ⟨r1, hr1, h⟩ := bindS h
  obtain ⟨r2, hr2, h⟩ := bindS h
  refine LH.seqT [(1, .int .i64 p1), (5, .lst 4 (List.map GEnrolment.lv r2.1))] [] rfl ?_ ?_
  · refine sN (oM (v := (.lst _ _)) rfl ?_)
    refine sN (oCM (args := [.lst 1 (List.map (LV.int .i64) p0)]) (ml := []) (ml' := [(7, .box [.lst 1 (List.map (LV.int .i64) r1.L), .int .i64 r1.At])]) rfl isF11 rfl (sbR sbN) (make_New_ok hr1) mN (newF rfl newN) rfl ?_)
    refine sN (oCM (args := [.ptr 7 0, .int .i64 2]) (ml := [(7, .box [.lst 1 (List.map (LV.int .i64) r1.L), .int .i64 r1.At])]) (ml' := [(7, .box [.lst 1 (List.map (LV.int .i64) r2.2.L), .int .i64 r2.2.At])]) rfl isF18 rfl (sbR (sbR sbN)) (GTape_Enrolled_ok hr2) (mC rfl mN) (newI rfl newN) rfl ?_)
    refine sN (oA (v := (.lst _ _)) rfl ?_)
    exact s0 (Wk.to (eC rfl (eC rfl eN)) mN rfl (prK rfl))
  refine LH.seqT [(1, .int .i64 p1), (5, .lst 4 (List.map GEnrolment.lv r2.1)), (6, .nil)] [] rfl ?_ ?_
  · refine sN (oA (v := .nil) rfl ?_)
    exact s0 (Wk.to (eC rfl (eC rfl (eC rfl eN))) mN rfl (prK rfl))
  refine LH.seq ?_
  refine LH.seqT [(1, .int .i64 p1), (5, .lst 4 (List.map GEnrolment.lv r2.1)), (6, .nil), (7, .int .i64 0)] [] rfl ?_ ?_
  · refine sN (oA (v := (.int _ _)) rfl ?_)
    exact s0 (Wk.to (eC rfl (eC rfl (eC rfl (eC rfl eN)))) mN rfl (prK rfl))
  refine LH.block ?_
  refine LH.wk ((Wk.trans (Wk.to (el := [(1, .int .i64 p1), (5, .lst 4 (List.map GEnrolment.lv r2.1)), (6, .nil), (7, .int .i64 0)]) (ml := []) (eC rfl (eC rfl (eC rfl (eC rfl eN)))) mN rfl (prK rfl)) (Wk.trans (Wk.to (el := [(1, .int .i64 p1), (5, .lst 4 (List.map GEnrolment.lv r2.1)), (6, .nil), (7, .int .i64 0)]) (ml := []) (eC rfl (eC rfl (eC rfl (eC rfl eN)))) mN rfl (prK rfl)) (Wk.trans (Wk.ownL (el' := [(1, .int .i64 p1), (5, .lst 4 (List.map GEnrolment.lv r2.1)), (6, .arr 123 (List.length ([] : List GEnrolment))), (7, .int .i64 0)]) 123 44 4 rfl rfl (wK (wK (wO (wK wN))))) (Wk.to (el := [(1, .int .i64 p1), (5, .lst 4 (List.map GEnrolment.lv r2.1)), (6, .arr 123 (List.length ([] : List GEnrolment))), (7, .int .i64 0)]) (ml := [(123, .arr 44 4 (List.map GEnrolment.lv ([] : List GEnrolment)))]) (eC rfl (eC rfl (eC rfl (eC rfl eN)))) (mC rfl mN) rfl (prK rfl)))))) ?_
  refine LH.loop (fun n e m => ∃ (n3 : Int) (l4 : List GEnrolment), law16_AttendanceChecks_L1 F p1 r2 n n3 l4 = some r ∧ e = Env.of [(1, .int .i64 p1), (5, .lst 4 (List.map GEnrolment.lv r2.1)), (6, .arr 123 (List.length l4)), (7, .int .i64 n3)] ∧ m = Mem.of [(123, .arr 44 4 (List.map GEnrolment.lv l4))]) F ⟨0, ([] : List GEnrolment), h, rfl, rfl⟩ ?_
  clear h
  rintro n e m ⟨n3, l4, h, rfl, rfl⟩
  rcases n with _ | n
  · cases (show Option.none = some _ from h)
  obtain ⟨rec1, hrec1⟩ : ∃ f, f = law16_AttendanceChecks_L1 F p1 r2 n := ⟨_, rfl⟩
  replace h : law16_AttendanceChecks_L1_B F p1 r2 rec1 n3 l4 = some r := hrec1 ▸ h
  unfold law16_AttendanceChecks_L1_B at h
  refine LH.seq ?_
  obtain ⟨r5, hr5, h⟩ := bindS h
  refine LH.seqT [(1, .int .i64 p1), (5, .lst 4 (List.map GEnrolment.lv r2.1)), (6, .arr 123 (List.length l4)), (7, .int .i64 n3), (15, .bool (decide (n3 < (i64 (58 + r5)))))] [(123, .arr 44 4 (List.map GEnrolment.lv l4))] rfl ?_ ?_
  · refine sN (oM (v := (.int _ _)) rfl ?_)
    refine sN (oM (v := (.int _ _)) rfl ?_)
    refine sN (oCP (args := [.int .i64 p1, .int .i64 6]) rfl isF19 rfl (sbR (sbR sbN)) (make_Cut_ok hr5) rfl ?_)
    refine sN (oAdd rfl rfl ?_)
    refine sN (oLt rfl rfl ?_)
    exact s0 (Wk.to (eC rfl (eC rfl (eC rfl (eC rfl (eC rfl eN))))) (mC rfl mN) rfl (prK rfl))
  refine LH.cond (t := (decide (n3 < (i64 (58 + r5))))) rfl (fun hc6 => ?_) (fun hc6 => ?_)
  · replace h := iteT h hc6
    refine LH.skip ?_
    refine thenN ?_
    refine LH.wk (Wk.to (el := [(1, .int .i64 p1), (5, .lst 4 (List.map GEnrolment.lv r2.1)), (6, .arr 123 (List.length l4)), (7, .int .i64 n3)]) (ml := [(123, .arr 44 4 (List.map GEnrolment.lv l4))]) (eC rfl (eC rfl (eC rfl (eC rfl eN)))) (mC rfl mN) rfl (prK rfl)) ?_
    refine LH.seq ?_
    refine LH.block ?_
    obtain ⟨v7, hv7, h⟩ := bindS h
    refine LH.loneT [(1, .int .i64 p1), (5, .lst 4 (List.map GEnrolment.lv r2.1)), (6, .arr 123 (List.length v7)), (7, .int .i64 n3)] [(123, .arr 44 4 (List.map GEnrolment.lv v7))] rfl ?_ ?_
    · refine sN (oM (v := (.arr _ _)) rfl ?_)
      refine sN (oM (v := (.int _ _)) rfl ?_)
      refine sN (oBd (vs := [(0, .int .i64 n3), (1, .int .i64 1)]) tu42 tz42 rfl (lf tf42_0 ts3 tk3 rfl rfl rfl (lf tf42_1 ts3 tk3 rfl rfl rfl lf0)) ?_)
      refine sN (oBd (vs := [(0, .agg [.int .i64 n3, .int .i64 1, .int .i64 0])]) tu44 tz44 rfl (lf tf44_0 ts42 tk42 rfl rfl rfl lf0) ?_)
      refine sN (oBS (f := GEnrolment.lv) (ys := [(GEnrolment.mk (GEntry.mk n3 1 0) false)]) te38 tr44 ts44 rfl rfl rfl GEnrolment.ok ?_)
      refine sN (oAp (f := GEnrolment.lv) te38 tr44 ts44 rfl rfl (prN rfl) rfl hv7 ?_)
      refine sN (oA (v := (.arr _ _)) rfl ?_)
      exact s0 (Wk.to (eC rfl (eC rfl (eC rfl (eC rfl eN)))) (mC rfl mN) rfl (prK rfl))
    refine blockN ?_
    refine thenN ?_
    refine LH.loneT [(1, .int .i64 p1), (5, .lst 4 (List.map GEnrolment.lv r2.1)), (6, .arr 123 (List.length v7)), (7, .int .i64 (i64 (n3 + 1)))] [(123, .arr 44 4 (List.map GEnrolment.lv v7))] rfl ?_ ?_
    · refine sN (oM (v := (.int _ _)) rfl ?_)
      refine sN (oAdd rfl rfl ?_)
      refine sN (oA (v := (.int _ _)) rfl ?_)
      exact s0 (Wk.to (eC rfl (eC rfl (eC rfl (eC rfl eN)))) (mC rfl mN) rfl (prK rfl))
    exact roundN (e' := Env.of [(1, .int .i64 p1), (5, .lst 4 (List.map GEnrolment.lv r2.1)), (6, .arr 123 (List.length v7)), (7, .int .i64 (i64 (n3 + 1)))]) (m' := Mem.of [(123, .arr 44 4 (List.map GEnrolment.lv v7))]) (Wk.to (eC rfl (eC rfl (eC rfl (eC rfl eN)))) (mC rfl mN) rfl (prK rfl)) ⟨(i64 (n3 + 1)), v7, hrec1 ▸ h, rfl, rfl⟩
  replace h := iteF h hc6
  refine LH.exit ?_
  refine thenX ?_
  refine roundX ?_
  refine blockH ?_
  refine thenN ?_
  refine LH.wk ((Wk.trans (Wk.to (el := [(5, .lst 4 (List.map GEnrolment.lv r2.1)), (6, .arr 123 (List.length l4))]) (ml := [(123, .arr 44 4 (List.map GEnrolment.lv l4))]) (eC rfl (eC rfl eN)) (mC rfl mN) rfl (prK rfl)) (Wk.trans (Wk.frzL (f := GEnrolment.lv) (el' := [(5, .lst 4 (List.map GEnrolment.lv r2.1)), (6, .lst 4 (List.map GEnrolment.lv l4))]) 123 44 4 l4 rfl rfl (prN rfl) (fK rfl (fZ fN))) (Wk.to (el := [(5, .lst 4 (List.map GEnrolment.lv r2.1)), (6, .lst 4 (List.map GEnrolment.lv l4))]) (ml := []) (eC rfl (eC rfl eN)) mN rfl (prK rfl))))) ?_
  obtain ⟨w9, hv, h⟩ := bindS h
  refine LH.seqT [(4, .bool w9)] [] rfl ?_ ?_
  · refine sN (oM (v := (.lst _ _)) rfl ?_)
    obtain ⟨r10, hr10, hv⟩ := bindS hv
    refine sN (oCP (args := [.lst 4 (List.map GEnrolment.lv r2.1)]) rfl isF20 rfl (sbR sbN) (attendance_Check_ok hr10) rfl ?_)
    refine sN (oM (v := (.lst _ _)) rfl ?_)
    obtain ⟨r11, hr11, hv⟩ := bindS hv
    refine sN (oCP (args := [.lst 4 (List.map GEnrolment.lv r2.1)]) rfl isF21 rfl (sbR sbN) (ref16_Check_ok hr11) rfl ?_)
    refine sN (oEq rfl rfl ?_)
    refine sN (oM (v := (.bool _)) rfl ?_)
    by_cases hb12 : (r10 == r11) = true
    · replace hv := iteT hv hb12
      refine sT rfl (congrArg LV.bool hb12) (oM (v := (.lst _ _)) rfl ?_)
      obtain ⟨r13, hr13, hv⟩ := bindS hv
      refine sT rfl (congrArg LV.bool hb12) (oCP (args := [.lst 4 (List.map GEnrolment.lv l4)]) rfl isF20 rfl (sbR sbN) (attendance_Check_ok hr13) rfl ?_)
      refine sT rfl (congrArg LV.bool hb12) (oM (v := (.lst _ _)) rfl ?_)
      obtain ⟨r14, hr14, hv⟩ := bindS hv
      refine sT rfl (congrArg LV.bool hb12) (oCP (args := [.lst 4 (List.map GEnrolment.lv l4)]) rfl isF21 rfl (sbR sbN) (ref16_Check_ok hr14) rfl ?_)
      refine sT rfl (congrArg LV.bool hb12) (oEq rfl rfl ?_)
      refine sN (oPkT (congrArg LV.bool hb12) (v := (.bool _)) rfl ?_)
      refine sN (oM (v := (.bool _)) rfl ?_)
      by_cases hb15 : (r13 == r14) = true
      · replace hv := iteT hv hb15
        obtain ⟨r16, hr16, hv⟩ := bindS hv
        refine sT rfl (congrArg LV.bool hb15) (oCP (args := []) rfl isF17 rfl sbN (law16_awake_ok hr16) rfl ?_)
        refine sN (oPkT (congrArg LV.bool hb15) (v := (.bool _)) rfl ?_)
        refine sN (oA (v := (.bool _)) rfl ?_)
        obtain rfl := Option.some.inj hv
        exact s0 (Wk.to (eC rfl eN) mN rfl (prK rfl))
      · replace hb15 := bF hb15
        replace hv := iteF hv hb15
        refine sF rfl rfl hb15 ?_
        refine sN (oPkF (congrArg LV.bool hb15) (v := (.bool _)) rfl ?_)
        refine sN (oA (v := (.bool _)) rfl ?_)
        obtain rfl := Option.some.inj hv
        exact s0 (Wk.to (eC rfl eN) mN rfl (prK rfl))
    · replace hb12 := bF hb12
      replace hv := iteF hv hb12
      refine sF rfl rfl hb12 ?_
      refine sF rfl rfl hb12 ?_
      refine sF rfl rfl hb12 ?_
      refine sF rfl rfl hb12 ?_
      refine sF rfl rfl hb12 ?_
      refine sN (oPkF (congrArg LV.bool hb12) (v := (.bool _)) rfl ?_)
      refine sN (oM (v := (.bool _)) rfl ?_)
      refine sF rfl rfl rfl ?_
      refine sN (oPkF rfl (v := (.bool _)) rfl ?_)
      refine sN (oA (v := (.bool _)) rfl ?_)
      obtain rfl := Option.some.inj hv
      exact s0 (Wk.to (eC rfl eN) mN rfl (prK rfl))
  clear hv
  refine LH.ret ?_
  obtain rfl := Option.some.inj h
  exact retE (congrArg Array.toList Try.results4) (lrT rfl (lr0 ⟨memN mN, rfl, prK rfl, Sub.rfl⟩))

end Go.Proofs.Ytapnjifcfljmmaa
