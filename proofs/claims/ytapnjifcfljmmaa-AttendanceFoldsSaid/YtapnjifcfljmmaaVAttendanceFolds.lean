/- Walks, printed by program (gen.py): each function computes its plain function. -/
import Derived.Test.YtapnjifcfljmmaaW3
set_option linter.unusedVariables false
set_option linter.unusedSimpArgs false
set_option maxRecDepth 100000
namespace Go.Proofs.Ytapnjifcfljmmaa
open Go.L Go.Sh
theorem law16_AttendanceFolds_ok {F : Nat} {p0 : List Int} {p1 : Int} {r : Bool} (h : law16_AttendanceFolds F p0 p1 = some r) : LCall Try.prog 5 [.lst 1 (List.map (LV.int .i64) p0), .int .i64 p1] (Mem.of []) (.bool r) (Mem.of []) := by
  unfold law16_AttendanceFolds at h
  refine bodyT Try.func5 rfl (by rw [Try.ntmps5]; exact Nat.le_of_ble_eq_true rfl) ?_
  refine LH.wk (Wk.to (el := [(0, .lst 1 (List.map (LV.int .i64) p0)), (1, .int .i64 p1)]) (ml := []) (eC rfl (eC rfl eN)) mN rfl (prK rfl)) ?_
  refine LH.seqT [(0, .lst 1 (List.map (LV.int .i64) p0)), (1, .int .i64 p1)] [] rfl ?_ ?_
  · refine sN (oA (v := (.bool _)) rfl ?_)
    exact s0 (Wk.to (eC rfl (eC rfl eN)) mN rfl (prK rfl))
  obtain ⟨r1, hr1, h⟩ := bindS h
  refine LH.seqT [(1, .int .i64 p1), (5, .ptr 7 0)] [(7, .box [.lst 1 (List.map (LV.int .i64) r1.L), .int .i64 r1.At])] rfl ?_ ?_
  · refine sN (oM (v := (.lst _ _)) rfl ?_)
    refine sN (oCM (args := [.lst 1 (List.map (LV.int .i64) p0)]) (ml := []) (ml' := [(7, .box [.lst 1 (List.map (LV.int .i64) r1.L), .int .i64 r1.At])]) rfl isF11 rfl (sbR sbN) (make_New_ok hr1) mN (newF rfl newN) rfl ?_)
    refine sN (oA (v := (.ptr _ _)) rfl ?_)
    exact s0 (Wk.to (eC rfl (eC rfl eN)) (mC rfl mN) rfl (prK rfl))
  obtain ⟨r2, hr2, h⟩ := bindS h
  refine LH.seqT [(1, .int .i64 p1), (5, .ptr 7 0), (6, .lst 4 (List.map GEnrolment.lv r2.1))] [(7, .box [.lst 1 (List.map (LV.int .i64) r2.2.L), .int .i64 r2.2.At])] rfl ?_ ?_
  · refine sN (oM (v := (.ptr _ _)) rfl ?_)
    refine sN (oCM (args := [.ptr 7 0, .int .i64 10]) (ml := [(7, .box [.lst 1 (List.map (LV.int .i64) r1.L), .int .i64 r1.At])]) (ml' := [(7, .box [.lst 1 (List.map (LV.int .i64) r2.2.L), .int .i64 r2.2.At])]) rfl isF18 rfl (sbR (sbR sbN)) (GTape_Enrolled_ok hr2) (mC rfl mN) (newI rfl newN) rfl ?_)
    refine sN (oA (v := (.lst _ _)) rfl ?_)
    exact s0 (Wk.to (eC rfl (eC rfl (eC rfl eN))) (mC rfl mN) rfl (prK rfl))
  obtain ⟨r3, hr3, h⟩ := bindS h
  refine LH.seqT [(1, .int .i64 p1), (5, .ptr 7 0), (6, .lst 4 (List.map GEnrolment.lv r2.1)), (7, .lst 6 (List.map GRegisterEvent.lv r3.1))] [(7, .box [.lst 1 (List.map (LV.int .i64) r3.2.L), .int .i64 r3.2.At])] rfl ?_ ?_
  · refine sN (oM (v := (.ptr _ _)) rfl ?_)
    refine sN (oCM (args := [.ptr 7 0, .int .i64 14, .int .i64 5]) (ml := [(7, .box [.lst 1 (List.map (LV.int .i64) r2.2.L), .int .i64 r2.2.At])]) (ml' := [(7, .box [.lst 1 (List.map (LV.int .i64) r3.2.L), .int .i64 r3.2.At])]) rfl isF12 rfl (sbR (sbR (sbR sbN))) (GTape_RegisterEvents_ok hr3) (mC rfl mN) (newI rfl newN) rfl ?_)
    refine sN (oA (v := (.lst _ _)) rfl ?_)
    exact s0 (Wk.to (eC rfl (eC rfl (eC rfl (eC rfl eN)))) (mC rfl mN) rfl (prK rfl))
  refine LH.seq ?_
  refine LH.seqT [(1, .int .i64 p1), (5, .ptr 7 0), (6, .lst 4 (List.map GEnrolment.lv r2.1)), (7, .lst 6 (List.map GRegisterEvent.lv r3.1)), (8, .int .i64 0)] [(7, .box [.lst 1 (List.map (LV.int .i64) r3.2.L), .int .i64 r3.2.At])] rfl ?_ ?_
  · refine sN (oA (v := (.int _ _)) rfl ?_)
    exact s0 (Wk.to (eC rfl (eC rfl (eC rfl (eC rfl (eC rfl eN))))) (mC rfl mN) rfl (prK rfl))
  refine LH.block ?_
  refine LH.loop (fun n e m => ∃ (n4 : Int) (n5 : Int) (l6 : List Int) (n7 : Int), law16_AttendanceFolds_L1 F r2 r3 n n4 n5 l6 n7 = some r ∧ e = Env.of [(1, .int .i64 n4), (5, .ptr 7 0), (6, .lst 4 (List.map GEnrolment.lv r2.1)), (7, .lst 6 (List.map GRegisterEvent.lv r3.1)), (8, .int .i64 n5)] ∧ m = Mem.of [(7, .box [.lst 1 (List.map (LV.int .i64) l6), .int .i64 n7])]) F ⟨p1, 0, r3.2.L, r3.2.At, h, rfl, rfl⟩ ?_
  clear h
  rintro n e m ⟨n4, n5, l6, n7, h, rfl, rfl⟩
  rcases n with _ | n
  · cases (show Option.none = some _ from h)
  obtain ⟨rec1, hrec1⟩ : ∃ f, f = law16_AttendanceFolds_L1 F r2 r3 n := ⟨_, rfl⟩
  replace h : law16_AttendanceFolds_L1_B F r2 r3 rec1 n4 n5 l6 n7 = some r := hrec1 ▸ h
  unfold law16_AttendanceFolds_L1_B at h
  refine LH.seq ?_
  refine LH.seqT [(1, .int .i64 n4), (5, .ptr 7 0), (6, .lst 4 (List.map GEnrolment.lv r2.1)), (7, .lst 6 (List.map GRegisterEvent.lv r3.1)), (8, .int .i64 n5), (22, .bool (decide (n5 < 2)))] [(7, .box [.lst 1 (List.map (LV.int .i64) l6), .int .i64 n7])] rfl ?_ ?_
  · refine sN (oM (v := (.int _ _)) rfl ?_)
    refine sN (oLt rfl rfl ?_)
    exact s0 (Wk.to (eC rfl (eC rfl (eC rfl (eC rfl (eC rfl (eC rfl eN)))))) (mC rfl mN) rfl (prK rfl))
  refine LH.cond (t := (decide (n5 < 2))) rfl (fun hc8 => ?_) (fun hc8 => ?_)
  · replace h := iteT h hc8
    refine LH.skip ?_
    refine thenN ?_
    refine LH.wk (Wk.to (el := [(1, .int .i64 n4), (5, .ptr 7 0), (6, .lst 4 (List.map GEnrolment.lv r2.1)), (7, .lst 6 (List.map GRegisterEvent.lv r3.1)), (8, .int .i64 n5)]) (ml := [(7, .box [.lst 1 (List.map (LV.int .i64) l6), .int .i64 n7])]) (eC rfl (eC rfl (eC rfl (eC rfl (eC rfl eN))))) (mC rfl mN) rfl (prK rfl)) ?_
    refine LH.seq ?_
    refine LH.block ?_
    obtain ⟨r9, hr9, h⟩ := bindS h
    refine LH.seqT [(1, .int .i64 n4), (5, .ptr 7 0), (6, .lst 4 (List.map GEnrolment.lv r2.1)), (7, .lst 6 (List.map GRegisterEvent.lv r3.1)), (8, .int .i64 n5), (9, .lst 5 (List.map GAttendance.lv r9.1)), (10, .lst 3 (List.map GRefusal.lv r9.2.1)), (11, .int .i64 r9.2.2)] [(7, .box [.lst 1 (List.map (LV.int .i64) l6), .int .i64 n7])] rfl ?_ ?_
    · refine sN (oM (v := (.lst _ _)) rfl ?_)
      refine sN (oM (v := (.lst _ _)) rfl ?_)
      refine sN (oM (v := (.int _ _)) rfl ?_)
      refine sN (oCP (args := [.lst 4 (List.map GEnrolment.lv r2.1), .lst 6 (List.map GRegisterEvent.lv r3.1), .int .i64 n4]) rfl isF22 rfl (sbR (sbR (sbR sbN))) (attendance_Fold_ok hr9) rfl ?_)
      refine sN (oM (v := (.tup _)) rfl ?_)
      refine sN (oEx rfl rfl ?_)
      refine sN (oEx rfl rfl ?_)
      refine sN (oEx rfl rfl ?_)
      refine sN (oA (v := (.lst _ _)) rfl ?_)
      refine sN (oA (v := (.lst _ _)) rfl ?_)
      refine sN (oA (v := (.int _ _)) rfl ?_)
      exact s0 (Wk.to (eC rfl (eC rfl (eC rfl (eC rfl (eC rfl (eC rfl (eC rfl (eC rfl eN)))))))) (mC rfl mN) rfl (prK rfl))
    obtain ⟨r10, hr10, h⟩ := bindS h
    refine LH.seqT [(5, .ptr 7 0), (6, .lst 4 (List.map GEnrolment.lv r2.1)), (7, .lst 6 (List.map GRegisterEvent.lv r3.1)), (8, .int .i64 n5), (9, .lst 5 (List.map GAttendance.lv r9.1)), (10, .lst 3 (List.map GRefusal.lv r9.2.1)), (11, .int .i64 r9.2.2), (12, .lst 5 (List.map GAttendance.lv r10.1)), (13, .lst 3 (List.map GRefusal.lv r10.2.1)), (14, .int .i64 r10.2.2)] [(7, .box [.lst 1 (List.map (LV.int .i64) l6), .int .i64 n7])] rfl ?_ ?_
    · refine sN (oM (v := (.lst _ _)) rfl ?_)
      refine sN (oM (v := (.lst _ _)) rfl ?_)
      refine sN (oM (v := (.int _ _)) rfl ?_)
      refine sN (oCP (args := [.lst 4 (List.map GEnrolment.lv r2.1), .lst 6 (List.map GRegisterEvent.lv r3.1), .int .i64 n4]) rfl isF23 rfl (sbR (sbR (sbR sbN))) (ref16_Fold_ok hr10) rfl ?_)
      refine sN (oM (v := (.tup _)) rfl ?_)
      refine sN (oEx rfl rfl ?_)
      refine sN (oEx rfl rfl ?_)
      refine sN (oEx rfl rfl ?_)
      refine sN (oA (v := (.lst _ _)) rfl ?_)
      refine sN (oA (v := (.lst _ _)) rfl ?_)
      refine sN (oA (v := (.int _ _)) rfl ?_)
      exact s0 (Wk.to (eC rfl (eC rfl (eC rfl (eC rfl (eC rfl (eC rfl (eC rfl (eC rfl (eC rfl (eC rfl eN)))))))))) (mC rfl mN) rfl (prK rfl))
    refine LH.seq ?_
    obtain ⟨w12, hv, h⟩ := bindS h
    refine LH.seqT [(5, .ptr 7 0), (6, .lst 4 (List.map GEnrolment.lv r2.1)), (7, .lst 6 (List.map GRegisterEvent.lv r3.1)), (8, .int .i64 n5), (55, .bool w12)] [(7, .box [.lst 1 (List.map (LV.int .i64) l6), .int .i64 n7])] rfl ?_ ?_
    · refine sN (oM (v := (.lst _ _)) rfl ?_)
      refine sN (oM (v := (.lst _ _)) rfl ?_)
      obtain ⟨r13, hr13, hv⟩ := bindS hv
      refine sN (oCP (args := [.lst 5 (List.map GAttendance.lv r9.1), .lst 5 (List.map GAttendance.lv r10.1)]) rfl isF24 rfl (sbR (sbR sbN)) (law16_same_ok hr13) rfl ?_)
      refine sN (oNot rfl ?_)
      refine sN (oM (v := (.bool _)) rfl ?_)
      by_cases hb14 : (!r13) = true
      · replace hv := iteT hv hb14
        refine sF rfl rfl hb14 ?_
        refine sF rfl rfl hb14 ?_
        refine sF rfl rfl hb14 ?_
        refine sF rfl rfl hb14 ?_
        refine sN (oPkT (congrArg LV.bool hb14) (v := (.bool _)) rfl ?_)
        refine sN (oM (v := (.bool _)) rfl ?_)
        refine sF rfl rfl rfl ?_
        refine sF rfl rfl rfl ?_
        refine sF rfl rfl rfl ?_
        refine sN (oPkT rfl (v := (.bool _)) rfl ?_)
        obtain rfl := Option.some.inj hv
        exact s0 (Wk.to (eC rfl (eC rfl (eC rfl (eC rfl (eC rfl eN))))) (mC rfl mN) rfl (prK rfl))
      · replace hb14 := bF hb14
        replace hv := iteF hv hb14
        refine sT rfl (congrArg LV.bool hb14) (oM (v := (.lst _ _)) rfl ?_)
        refine sT rfl (congrArg LV.bool hb14) (oM (v := (.lst _ _)) rfl ?_)
        obtain ⟨r15, hr15, hv⟩ := bindS hv
        refine sT rfl (congrArg LV.bool hb14) (oCP (args := [.lst 3 (List.map GRefusal.lv r9.2.1), .lst 3 (List.map GRefusal.lv r10.2.1)]) rfl isF25 rfl (sbR (sbR sbN)) (law16_refusals_ok hr15) rfl ?_)
        refine sT rfl (congrArg LV.bool hb14) (oNot rfl ?_)
        refine sN (oPkF (congrArg LV.bool hb14) (v := (.bool _)) rfl ?_)
        refine sN (oM (v := (.bool _)) rfl ?_)
        by_cases hb16 : (!r15) = true
        · replace hv := iteT hv hb16
          refine sF rfl rfl hb16 ?_
          refine sF rfl rfl hb16 ?_
          refine sF rfl rfl hb16 ?_
          refine sN (oPkT (congrArg LV.bool hb16) (v := (.bool _)) rfl ?_)
          obtain rfl := Option.some.inj hv
          exact s0 (Wk.to (eC rfl (eC rfl (eC rfl (eC rfl (eC rfl eN))))) (mC rfl mN) rfl (prK rfl))
        · replace hb16 := bF hb16
          replace hv := iteF hv hb16
          refine sT rfl (congrArg LV.bool hb16) (oM (v := (.int _ _)) rfl ?_)
          refine sT rfl (congrArg LV.bool hb16) (oM (v := (.int _ _)) rfl ?_)
          refine sT rfl (congrArg LV.bool hb16) (oNe rfl rfl ?_)
          refine sN (oPkF (congrArg LV.bool hb16) (v := (.bool _)) rfl ?_)
          obtain rfl := Option.some.inj hv
          exact s0 (Wk.to (eC rfl (eC rfl (eC rfl (eC rfl (eC rfl eN))))) (mC rfl mN) rfl (prK rfl))
    clear hv
    refine LH.cond (t := w12) rfl (fun hc17 => ?_) (fun hc17 => ?_)
    · replace h := iteT h hc17
      refine LH.seqT [(4, .bool false)] [] rfl ?_ ?_
      · refine sN (oA (v := (.bool _)) rfl ?_)
        exact s0 (Wk.to (eC rfl eN) mN rfl (prK rfl))
      refine LH.ret ?_
      refine thenR ?_
      refine blockR ?_
      refine thenR ?_
      refine roundR ?_
      refine blockR ?_
      refine thenR ?_
      obtain rfl := Option.some.inj h
      exact retE (congrArg Array.toList Try.results5) (lrT rfl (lr0 ⟨memN mN, rfl, prK rfl, Sub.rfl⟩))
    replace h := iteF h hc17
    refine LH.skip ?_
    refine thenN ?_
    refine LH.wk (Wk.to (el := [(5, .ptr 7 0), (6, .lst 4 (List.map GEnrolment.lv r2.1)), (7, .lst 6 (List.map GRegisterEvent.lv r3.1)), (8, .int .i64 n5)]) (ml := [(7, .box [.lst 1 (List.map (LV.int .i64) l6), .int .i64 n7])]) (eC rfl (eC rfl (eC rfl (eC rfl eN)))) (mC rfl mN) rfl (prK rfl)) ?_
    obtain ⟨r18, hr18, h⟩ := bindS h
    refine LH.loneT [(1, .int .i64 r18.1), (5, .ptr 7 0), (6, .lst 4 (List.map GEnrolment.lv r2.1)), (7, .lst 6 (List.map GRegisterEvent.lv r3.1)), (8, .int .i64 n5)] [(7, .box [.lst 1 (List.map (LV.int .i64) r18.2.L), .int .i64 r18.2.At])] rfl ?_ ?_
    · refine sN (oM (v := (.ptr _ _)) rfl ?_)
      refine sN (oCM (args := [.ptr 7 0, .int .i64 0, .int .i64 30]) (ml := [(7, .box [.lst 1 (List.map (LV.int .i64) l6), .int .i64 n7])]) (ml' := [(7, .box [.lst 1 (List.map (LV.int .i64) r18.2.L), .int .i64 r18.2.At])]) rfl isF26 rfl (sbR (sbR (sbR sbN))) (GTape_Range_ok hr18) (mC rfl mN) (newI rfl newN) rfl ?_)
      refine sN (oA (v := (.int _ _)) rfl ?_)
      exact s0 (Wk.to (eC rfl (eC rfl (eC rfl (eC rfl (eC rfl eN))))) (mC rfl mN) rfl (prK rfl))
    refine blockN ?_
    refine thenN ?_
    refine LH.loneT [(1, .int .i64 r18.1), (5, .ptr 7 0), (6, .lst 4 (List.map GEnrolment.lv r2.1)), (7, .lst 6 (List.map GRegisterEvent.lv r3.1)), (8, .int .i64 (i64 (n5 + 1)))] [(7, .box [.lst 1 (List.map (LV.int .i64) r18.2.L), .int .i64 r18.2.At])] rfl ?_ ?_
    · refine sN (oM (v := (.int _ _)) rfl ?_)
      refine sN (oAdd rfl rfl ?_)
      refine sN (oA (v := (.int _ _)) rfl ?_)
      exact s0 (Wk.to (eC rfl (eC rfl (eC rfl (eC rfl (eC rfl eN))))) (mC rfl mN) rfl (prK rfl))
    exact roundN (e' := Env.of [(1, .int .i64 r18.1), (5, .ptr 7 0), (6, .lst 4 (List.map GEnrolment.lv r2.1)), (7, .lst 6 (List.map GRegisterEvent.lv r3.1)), (8, .int .i64 (i64 (n5 + 1)))]) (m' := Mem.of [(7, .box [.lst 1 (List.map (LV.int .i64) r18.2.L), .int .i64 r18.2.At])]) (Wk.to (eC rfl (eC rfl (eC rfl (eC rfl (eC rfl eN))))) (mC rfl mN) rfl (prK rfl)) ⟨r18.1, (i64 (n5 + 1)), r18.2.L, r18.2.At, hrec1 ▸ h, rfl, rfl⟩
  replace h := iteF h hc8
  refine LH.exit ?_
  refine thenX ?_
  refine roundX ?_
  refine blockH ?_
  refine thenN ?_
  refine LH.wk (Wk.to (el := []) (ml := []) eN mN rfl (prK rfl)) ?_
  obtain ⟨r19, hr19, h⟩ := bindS h
  refine LH.seqT [(4, .bool r19)] [] rfl ?_ ?_
  · refine sN (oCP (args := []) rfl isF17 rfl sbN (law16_awake_ok hr19) rfl ?_)
    refine sN (oA (v := (.bool _)) rfl ?_)
    exact s0 (Wk.to (eC rfl eN) mN rfl (prK rfl))
  refine LH.ret ?_
  obtain rfl := Option.some.inj h
  exact retE (congrArg Array.toList Try.results5) (lrT rfl (lr0 ⟨memN mN, rfl, prK rfl, Sub.rfl⟩))

end Go.Proofs.Ytapnjifcfljmmaa
