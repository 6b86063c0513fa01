/- Walks, printed by program (gen.py): each function computes its plain function. -/
import Derived.Test.YtapnjifcfljmmaaW3
set_option linter.unusedVariables false
set_option linter.unusedSimpArgs false
set_option maxRecDepth 100000
namespace Go.Proofs.Ytapnjifcfljmmaa
open Go.L Go.Sh
theorem law16_AttendanceOwn_ok {F : Nat} {p0 : List Int} {p1 : Int} {r : Bool} (h : law16_AttendanceOwn F p0 p1 = some r) : LCall Try.prog 9 [.lst 1 (List.map (LV.int .i64) p0), .int .i64 p1] (Mem.of []) (.bool r) (Mem.of []) := by
  unfold law16_AttendanceOwn at h
  refine bodyT Try.func9 rfl (by rw [Try.ntmps9]; exact Nat.le_of_ble_eq_true rfl) ?_
  refine LH.wk (Wk.to (el := [(0, .lst 1 (List.map (LV.int .i64) p0)), (1, .int .i64 p1)]) (ml := []) (eC rfl (eC rfl eN)) mN rfl (prK rfl)) ?_
  refine LH.seqT [(0, .lst 1 (List.map (LV.int .i64) p0)), (1, .int .i64 p1)] [] rfl ?_ ?_
  · refine sN (oA (v := (.bool _)) rfl ?_)
    exact s0 (Wk.to (eC rfl (eC rfl eN)) mN rfl (prK rfl))
  obtain ⟨r1, hr1, h⟩ := bindS h
  refine LH.seqT [(1, .int .i64 p1), (5, .ptr 7 0)] [(7, .box [.lst 1 (List.map (LV.int .i64) r1.L), .int .i64 r1.At])] rfl ?_ ?_
  · refine sN (oM (v := (.lst _ _)) rfl ?_)
    refine sN (oCM (args := [.lst 1 (List.map (LV.int .i64) p0)]) (ml := []) (ml' := [(7, .box [.lst 1 (List.map (LV.int .i64) r1.L), .int .i64 r1.At])]) rfl isF11 rfl (sbR sbN) (make_New_ok hr1) mN (newF rfl newN) rfl ?_)
    refine sN (oA (v := (.ptr _ _)) rfl ?_)
    exact s0 (Wk.to (eC rfl (eC rfl eN)) (mC rfl mN) rfl (prK rfl))
  obtain ⟨r2, hr2, h⟩ := bindS h
  refine LH.seqT [(1, .int .i64 p1), (5, .ptr 7 0), (6, .lst 4 (List.map GEnrolment.lv r2.1))] [(7, .box [.lst 1 (List.map (LV.int .i64) r2.2.L), .int .i64 r2.2.At])] rfl ?_ ?_
  · refine sN (oM (v := (.ptr _ _)) rfl ?_)
    refine sN (oCM (args := [.ptr 7 0, .int .i64 0]) (ml := [(7, .box [.lst 1 (List.map (LV.int .i64) r1.L), .int .i64 r1.At])]) (ml' := [(7, .box [.lst 1 (List.map (LV.int .i64) r2.2.L), .int .i64 r2.2.At])]) rfl isF18 rfl (sbR (sbR sbN)) (GTape_Enrolled_ok hr2) (mC rfl mN) (newI rfl newN) rfl ?_)
    refine sN (oA (v := (.lst _ _)) rfl ?_)
    exact s0 (Wk.to (eC rfl (eC rfl (eC rfl eN))) (mC rfl mN) rfl (prK rfl))
  obtain ⟨r3, hr3, h⟩ := bindS h
  refine LH.seqT [(1, .int .i64 p1), (6, .lst 4 (List.map GEnrolment.lv r2.1)), (7, .lst 6 (List.map GRegisterEvent.lv r3.1))] [] rfl ?_ ?_
  · refine sN (oM (v := (.ptr _ _)) rfl ?_)
    refine sN (oCM (args := [.ptr 7 0, .int .i64 12, .int .i64 8]) (ml := [(7, .box [.lst 1 (List.map (LV.int .i64) r2.2.L), .int .i64 r2.2.At])]) (ml' := [(7, .box [.lst 1 (List.map (LV.int .i64) r3.2.L), .int .i64 r3.2.At])]) rfl isF12 rfl (sbR (sbR (sbR sbN))) (GTape_RegisterEvents_ok hr3) (mC rfl mN) (newI rfl newN) rfl ?_)
    refine sN (oA (v := (.lst _ _)) rfl ?_)
    exact s0 (Wk.to (eC rfl (eC rfl (eC rfl eN))) mN rfl (prK rfl))
  obtain ⟨r4, hr4, h⟩ := bindS h
  refine LH.seqT [(1, .int .i64 (i64 (1 + r4))), (6, .lst 4 (List.map GEnrolment.lv r2.1)), (7, .lst 6 (List.map GRegisterEvent.lv r3.1))] [] rfl ?_ ?_
  · refine sN (oM (v := (.int _ _)) rfl ?_)
    refine sN (oCP (args := [.int .i64 p1, .int .i64 3]) rfl isF19 rfl (sbR (sbR sbN)) (make_Cut_ok hr4) rfl ?_)
    refine sN (oAdd rfl rfl ?_)
    refine sN (oA (v := (.int _ _)) rfl ?_)
    exact s0 (Wk.to (eC rfl (eC rfl (eC rfl eN))) mN rfl (prK rfl))
  obtain ⟨r5, hr5, h⟩ := bindS h
  refine LH.seqT [(1, .int .i64 (i64 (1 + r4))), (6, .lst 4 (List.map GEnrolment.lv r2.1)), (7, .lst 6 (List.map GRegisterEvent.lv r3.1)), (8, .lst 6 (List.map GRegisterEvent.lv r5.1)), (9, .int .i64 r5.2)] [] rfl ?_ ?_
  · refine sN (oM (v := (.lst _ _)) rfl ?_)
    refine sN (oCP (args := [.lst 6 (List.map GRegisterEvent.lv r3.1)]) rfl isF13 rfl (sbR sbN) (attendance_Canonical_ok hr5) rfl ?_)
    refine sN (oM (v := (.tup _)) rfl ?_)
    refine sN (oEx rfl rfl ?_)
    refine sN (oEx rfl rfl ?_)
    refine sN (oA (v := (.lst _ _)) rfl ?_)
    refine sN (oA (v := (.int _ _)) rfl ?_)
    exact s0 (Wk.to (eC rfl (eC rfl (eC rfl (eC rfl (eC rfl eN))))) mN rfl (prK rfl))
  refine LH.seqT [(1, .int .i64 (i64 (1 + r4))), (6, .lst 4 (List.map GEnrolment.lv r2.1)), (7, .lst 6 (List.map GRegisterEvent.lv r3.1)), (8, .lst 6 (List.map GRegisterEvent.lv r5.1)), (9, .int .i64 r5.2), (10, .nil)] [] rfl ?_ ?_
  · refine sN (oA (v := .nil) rfl ?_)
    exact s0 (Wk.to (eC rfl (eC rfl (eC rfl (eC rfl (eC rfl (eC rfl eN)))))) mN rfl (prK rfl))
  refine LH.seq ?_
  refine LH.seqT [(1, .int .i64 (i64 (1 + r4))), (6, .lst 4 (List.map GEnrolment.lv r2.1)), (7, .lst 6 (List.map GRegisterEvent.lv r3.1)), (8, .lst 6 (List.map GRegisterEvent.lv r5.1)), (9, .int .i64 r5.2), (10, .nil), (11, .int .i64 0)] [] rfl ?_ ?_
  · refine sN (oA (v := (.int _ _)) rfl ?_)
    exact s0 (Wk.to (eC rfl (eC rfl (eC rfl (eC rfl (eC rfl (eC rfl (eC rfl eN))))))) mN rfl (prK rfl))
  refine LH.block ?_
  refine LH.wk ((Wk.trans (Wk.to (el := [(1, .int .i64 (i64 (1 + r4))), (6, .lst 4 (List.map GEnrolment.lv r2.1)), (7, .lst 6 (List.map GRegisterEvent.lv r3.1)), (8, .lst 6 (List.map GRegisterEvent.lv r5.1)), (9, .int .i64 r5.2), (10, .nil), (11, .int .i64 0)]) (ml := []) (eC rfl (eC rfl (eC rfl (eC rfl (eC rfl (eC rfl (eC rfl eN))))))) mN rfl (prK rfl)) (Wk.trans (Wk.to (el := [(1, .int .i64 (i64 (1 + r4))), (6, .lst 4 (List.map GEnrolment.lv r2.1)), (7, .lst 6 (List.map GRegisterEvent.lv r3.1)), (8, .lst 6 (List.map GRegisterEvent.lv r5.1)), (9, .int .i64 r5.2), (10, .nil), (11, .int .i64 0)]) (ml := []) (eC rfl (eC rfl (eC rfl (eC rfl (eC rfl (eC rfl (eC rfl eN))))))) mN rfl (prK rfl)) (Wk.trans (Wk.ownL (el' := [(1, .int .i64 (i64 (1 + r4))), (6, .lst 4 (List.map GEnrolment.lv r2.1)), (7, .lst 6 (List.map GRegisterEvent.lv r3.1)), (8, .lst 6 (List.map GRegisterEvent.lv r5.1)), (9, .int .i64 r5.2), (10, .arr 153 (List.length ([] : List GRegisterEvent))), (11, .int .i64 0)]) 153 33 6 rfl rfl (wK (wK (wK (wK (wK (wO (wK wN)))))))) (Wk.to (el := [(1, .int .i64 (i64 (1 + r4))), (6, .lst 4 (List.map GEnrolment.lv r2.1)), (7, .lst 6 (List.map GRegisterEvent.lv r3.1)), (8, .lst 6 (List.map GRegisterEvent.lv r5.1)), (9, .int .i64 r5.2), (10, .arr 153 (List.length ([] : List GRegisterEvent))), (11, .int .i64 0)]) (ml := [(153, .arr 33 6 (List.map GRegisterEvent.lv ([] : List GRegisterEvent)))]) (eC rfl (eC rfl (eC rfl (eC rfl (eC rfl (eC rfl (eC rfl eN))))))) (mC rfl mN) rfl (prK rfl)))))) ?_
  refine LH.loop (fun n e m => ∃ (n6 : Int) (l7 : List GRegisterEvent), law16_AttendanceOwn_L1 F r2 r3 r4 r5 n n6 l7 = some r ∧ e = Env.of [(1, .int .i64 (i64 (1 + r4))), (6, .lst 4 (List.map GEnrolment.lv r2.1)), (7, .lst 6 (List.map GRegisterEvent.lv r3.1)), (8, .lst 6 (List.map GRegisterEvent.lv r5.1)), (9, .int .i64 r5.2), (10, .arr 153 (List.length l7)), (11, .int .i64 n6)] ∧ m = Mem.of [(153, .arr 33 6 (List.map GRegisterEvent.lv l7))]) F ⟨0, ([] : List GRegisterEvent), h, rfl, rfl⟩ ?_
  clear h
  rintro n e m ⟨n6, l7, h, rfl, rfl⟩
  rcases n with _ | n
  · cases (show Option.none = some _ from h)
  obtain ⟨rec1, hrec1⟩ : ∃ f, f = law16_AttendanceOwn_L1 F r2 r3 r4 r5 n := ⟨_, rfl⟩
  replace h : law16_AttendanceOwn_L1_B F r2 r3 r4 r5 rec1 n6 l7 = some r := hrec1 ▸ h
  unfold law16_AttendanceOwn_L1_B at h
  refine LH.seq ?_
  refine LH.seqT [(1, .int .i64 (i64 (1 + r4))), (6, .lst 4 (List.map GEnrolment.lv r2.1)), (7, .lst 6 (List.map GRegisterEvent.lv r3.1)), (8, .lst 6 (List.map GRegisterEvent.lv r5.1)), (9, .int .i64 r5.2), (10, .arr 153 (List.length l7)), (11, .int .i64 n6), (36, .bool (decide (n6 < (r5.1.length : Int))))] [(153, .arr 33 6 (List.map GRegisterEvent.lv l7))] rfl ?_ ?_
  · refine sN (oM (v := (.int _ _)) rfl ?_)
    refine sN (oM (v := (.lst _ _)) rfl ?_)
    refine sN (oLnL (f := GRegisterEvent.lv) te25 rfl ?_)
    refine sN (oLt rfl rfl ?_)
    exact s0 (Wk.to (eC rfl (eC rfl (eC rfl (eC rfl (eC rfl (eC rfl (eC rfl (eC rfl eN)))))))) (mC rfl mN) rfl (prK rfl))
  refine LH.cond (t := (decide (n6 < (r5.1.length : Int)))) rfl (fun hc8 => ?_) (fun hc8 => ?_)
  · replace h := iteT h hc8
    refine LH.skip ?_
    refine thenN ?_
    refine LH.wk (Wk.to (el := [(1, .int .i64 (i64 (1 + r4))), (6, .lst 4 (List.map GEnrolment.lv r2.1)), (7, .lst 6 (List.map GRegisterEvent.lv r3.1)), (8, .lst 6 (List.map GRegisterEvent.lv r5.1)), (9, .int .i64 r5.2), (10, .arr 153 (List.length l7)), (11, .int .i64 n6)]) (ml := [(153, .arr 33 6 (List.map GRegisterEvent.lv l7))]) (eC rfl (eC rfl (eC rfl (eC rfl (eC rfl (eC rfl (eC rfl eN))))))) (mC rfl mN) rfl (prK rfl)) ?_
    refine LH.seq ?_
    refine LH.block ?_
    obtain ⟨x9, hx9, h⟩ := bindS h
    refine LH.seqT [(1, .int .i64 (i64 (1 + r4))), (6, .lst 4 (List.map GEnrolment.lv r2.1)), (7, .lst 6 (List.map GRegisterEvent.lv r3.1)), (8, .lst 6 (List.map GRegisterEvent.lv r5.1)), (9, .int .i64 r5.2), (10, .arr 153 (List.length l7)), (11, .int .i64 n6), (46, .bool (x9.Stamp.Source != (i64 (1 + r4))))] [(153, .arr 33 6 (List.map GRegisterEvent.lv l7))] rfl ?_ ?_
    · refine sN (oM (v := (.lst _ _)) rfl ?_)
      refine sN (oM (v := (.int _ _)) rfl ?_)
      refine sN (oIx (f := GRegisterEvent.lv) te25 tk33 ts33 rfl rfl GRegisterEvent.ok hx9 rfl ?_)
      refine sN (oFaS tf33_0 tk31 ts31 rfl rfl rfl ?_)
      refine sN (oFaS tf31_1 tk3 ts3 rfl rfl rfl ?_)
      refine sN (oLd rfl tk3 ta3 ?_)
      refine sN (oM (v := (.int _ _)) rfl ?_)
      refine sN (oNe rfl rfl ?_)
      exact s0 (Wk.to (eC rfl (eC rfl (eC rfl (eC rfl (eC rfl (eC rfl (eC rfl (eC rfl eN)))))))) (mC rfl mN) rfl (prK rfl))
    refine LH.cond (t := (x9.Stamp.Source != (i64 (1 + r4)))) rfl (fun hc10 => ?_) (fun hc10 => ?_)
    · replace h := iteT h hc10
      obtain ⟨x11, hx11, h⟩ := bindS h
      obtain ⟨v12, hv12, h⟩ := bindS h
      refine LH.loneT [(1, .int .i64 (i64 (1 + r4))), (6, .lst 4 (List.map GEnrolment.lv r2.1)), (7, .lst 6 (List.map GRegisterEvent.lv r3.1)), (8, .lst 6 (List.map GRegisterEvent.lv r5.1)), (9, .int .i64 r5.2), (10, .arr 153 (List.length v12)), (11, .int .i64 n6)] [(153, .arr 33 6 (List.map GRegisterEvent.lv v12))] rfl ?_ ?_
      · refine sN (oM (v := (.arr _ _)) rfl ?_)
        refine sN (oM (v := (.lst _ _)) rfl ?_)
        refine sN (oM (v := (.int _ _)) rfl ?_)
        refine sN (oIx (f := GRegisterEvent.lv) te25 tk33 ts33 rfl rfl GRegisterEvent.ok hx11 rfl ?_)
        refine sN (oLdA rfl tk33 ta33 ts33 rfl rfl ?_)
        refine sN (oBS (f := GRegisterEvent.lv) (ys := [x11]) te25 tr33 ts33 rfl rfl rfl GRegisterEvent.ok ?_)
        refine sN (oAp (f := GRegisterEvent.lv) te25 tr33 ts33 rfl rfl (prN rfl) rfl hv12 ?_)
        refine sN (oA (v := (.arr _ _)) rfl ?_)
        exact s0 (Wk.to (eC rfl (eC rfl (eC rfl (eC rfl (eC rfl (eC rfl (eC rfl eN))))))) (mC rfl mN) rfl (prK rfl))
      refine blockN ?_
      refine thenN ?_
      refine LH.loneT [(1, .int .i64 (i64 (1 + r4))), (6, .lst 4 (List.map GEnrolment.lv r2.1)), (7, .lst 6 (List.map GRegisterEvent.lv r3.1)), (8, .lst 6 (List.map GRegisterEvent.lv r5.1)), (9, .int .i64 r5.2), (10, .arr 153 (List.length v12)), (11, .int .i64 (i64 (n6 + 1)))] [(153, .arr 33 6 (List.map GRegisterEvent.lv v12))] rfl ?_ ?_
      · refine sN (oM (v := (.int _ _)) rfl ?_)
        refine sN (oAdd rfl rfl ?_)
        refine sN (oA (v := (.int _ _)) rfl ?_)
        exact s0 (Wk.to (eC rfl (eC rfl (eC rfl (eC rfl (eC rfl (eC rfl (eC rfl eN))))))) (mC rfl mN) rfl (prK rfl))
      exact roundN (e' := Env.of [(1, .int .i64 (i64 (1 + r4))), (6, .lst 4 (List.map GEnrolment.lv r2.1)), (7, .lst 6 (List.map GRegisterEvent.lv r3.1)), (8, .lst 6 (List.map GRegisterEvent.lv r5.1)), (9, .int .i64 r5.2), (10, .arr 153 (List.length v12)), (11, .int .i64 (i64 (n6 + 1)))]) (m' := Mem.of [(153, .arr 33 6 (List.map GRegisterEvent.lv v12))]) (Wk.to (eC rfl (eC rfl (eC rfl (eC rfl (eC rfl (eC rfl (eC rfl eN))))))) (mC rfl mN) rfl (prK rfl)) ⟨(i64 (n6 + 1)), v12, hrec1 ▸ h, rfl, rfl⟩
    replace h := iteF h hc10
    refine LH.skip ?_
    refine blockN ?_
    refine thenN ?_
    refine LH.wk (Wk.to (el := [(1, .int .i64 (i64 (1 + r4))), (6, .lst 4 (List.map GEnrolment.lv r2.1)), (7, .lst 6 (List.map GRegisterEvent.lv r3.1)), (8, .lst 6 (List.map GRegisterEvent.lv r5.1)), (9, .int .i64 r5.2), (10, .arr 153 (List.length l7)), (11, .int .i64 n6)]) (ml := [(153, .arr 33 6 (List.map GRegisterEvent.lv l7))]) (eC rfl (eC rfl (eC rfl (eC rfl (eC rfl (eC rfl (eC rfl eN))))))) (mC rfl mN) rfl (prK rfl)) ?_
    refine LH.loneT [(1, .int .i64 (i64 (1 + r4))), (6, .lst 4 (List.map GEnrolment.lv r2.1)), (7, .lst 6 (List.map GRegisterEvent.lv r3.1)), (8, .lst 6 (List.map GRegisterEvent.lv r5.1)), (9, .int .i64 r5.2), (10, .arr 153 (List.length l7)), (11, .int .i64 (i64 (n6 + 1)))] [(153, .arr 33 6 (List.map GRegisterEvent.lv l7))] rfl ?_ ?_
    · refine sN (oM (v := (.int _ _)) rfl ?_)
      refine sN (oAdd rfl rfl ?_)
      refine sN (oA (v := (.int _ _)) rfl ?_)
      exact s0 (Wk.to (eC rfl (eC rfl (eC rfl (eC rfl (eC rfl (eC rfl (eC rfl eN))))))) (mC rfl mN) rfl (prK rfl))
    exact roundN (e' := Env.of [(1, .int .i64 (i64 (1 + r4))), (6, .lst 4 (List.map GEnrolment.lv r2.1)), (7, .lst 6 (List.map GRegisterEvent.lv r3.1)), (8, .lst 6 (List.map GRegisterEvent.lv r5.1)), (9, .int .i64 r5.2), (10, .arr 153 (List.length l7)), (11, .int .i64 (i64 (n6 + 1)))]) (m' := Mem.of [(153, .arr 33 6 (List.map GRegisterEvent.lv l7))]) (Wk.to (eC rfl (eC rfl (eC rfl (eC rfl (eC rfl (eC rfl (eC rfl eN))))))) (mC rfl mN) rfl (prK rfl)) ⟨(i64 (n6 + 1)), l7, hrec1 ▸ h, rfl, rfl⟩
  replace h := iteF h hc8
  refine LH.exit ?_
  refine thenX ?_
  refine roundX ?_
  refine blockH ?_
  refine thenN ?_
  refine LH.wk ((Wk.trans (Wk.to (el := [(1, .int .i64 (i64 (1 + r4))), (6, .lst 4 (List.map GEnrolment.lv r2.1)), (7, .lst 6 (List.map GRegisterEvent.lv r3.1)), (9, .int .i64 r5.2), (10, .arr 153 (List.length l7))]) (ml := [(153, .arr 33 6 (List.map GRegisterEvent.lv l7))]) (eC rfl (eC rfl (eC rfl (eC rfl (eC rfl eN))))) (mC rfl mN) rfl (prK rfl)) (Wk.trans (Wk.frzL (f := GRegisterEvent.lv) (el' := [(1, .int .i64 (i64 (1 + r4))), (6, .lst 4 (List.map GEnrolment.lv r2.1)), (7, .lst 6 (List.map GRegisterEvent.lv r3.1)), (9, .int .i64 r5.2), (10, .lst 6 (List.map GRegisterEvent.lv l7))]) 153 33 6 l7 rfl rfl (prN rfl) (fK rfl (fK rfl (fK rfl (fK rfl (fZ fN)))))) (Wk.to (el := [(1, .int .i64 (i64 (1 + r4))), (6, .lst 4 (List.map GEnrolment.lv r2.1)), (7, .lst 6 (List.map GRegisterEvent.lv r3.1)), (9, .int .i64 r5.2), (10, .lst 6 (List.map GRegisterEvent.lv l7))]) (ml := []) (eC rfl (eC rfl (eC rfl (eC rfl (eC rfl eN))))) mN rfl (prK rfl))))) ?_
  obtain ⟨r13, hr13, h⟩ := bindS h
  refine LH.seqT [(1, .int .i64 (i64 (1 + r4))), (6, .lst 4 (List.map GEnrolment.lv r2.1)), (9, .int .i64 r5.2), (10, .lst 6 (List.map GRegisterEvent.lv l7)), (12, .lst 5 (List.map GAttendance.lv r13.1)), (14, .int .i64 r13.2.2)] [] rfl ?_ ?_
  · refine sN (oM (v := (.lst _ _)) rfl ?_)
    refine sN (oM (v := (.lst _ _)) rfl ?_)
    refine sN (oCP (args := [.lst 4 (List.map GEnrolment.lv r2.1), .lst 6 (List.map GRegisterEvent.lv r3.1), .int .i64 1000000]) rfl isF22 rfl (sbR (sbR (sbR sbN))) (attendance_Fold_ok hr13) rfl ?_)
    refine sN (oM (v := (.tup _)) rfl ?_)
    refine sN (oEx rfl rfl ?_)
    refine sN (oEx rfl rfl ?_)
    refine sN (oEx rfl rfl ?_)
    refine sN (oA (v := (.lst _ _)) rfl ?_)
    refine sN (oA (v := (.lst _ _)) rfl ?_)
    refine sN (oA (v := (.int _ _)) rfl ?_)
    exact s0 (Wk.to (eC rfl (eC rfl (eC rfl (eC rfl (eC rfl (eC rfl eN)))))) mN rfl (prK rfl))
  obtain ⟨r14, hr14, h⟩ := bindS h
  refine LH.seqT [(1, .int .i64 (i64 (1 + r4))), (6, .lst 4 (List.map GEnrolment.lv r2.1)), (9, .int .i64 r5.2), (12, .lst 5 (List.map GAttendance.lv r13.1)), (14, .int .i64 r13.2.2), (15, .lst 5 (List.map GAttendance.lv r14.1)), (17, .int .i64 r14.2.2)] [] rfl ?_ ?_
  · refine sN (oM (v := (.lst _ _)) rfl ?_)
    refine sN (oM (v := (.lst _ _)) rfl ?_)
    refine sN (oCP (args := [.lst 4 (List.map GEnrolment.lv r2.1), .lst 6 (List.map GRegisterEvent.lv l7), .int .i64 1000000]) rfl isF22 rfl (sbR (sbR (sbR sbN))) (attendance_Fold_ok hr14) rfl ?_)
    refine sN (oM (v := (.tup _)) rfl ?_)
    refine sN (oEx rfl rfl ?_)
    refine sN (oEx rfl rfl ?_)
    refine sN (oEx rfl rfl ?_)
    refine sN (oA (v := (.lst _ _)) rfl ?_)
    refine sN (oA (v := (.lst _ _)) rfl ?_)
    refine sN (oA (v := (.int _ _)) rfl ?_)
    exact s0 (Wk.to (eC rfl (eC rfl (eC rfl (eC rfl (eC rfl (eC rfl (eC rfl eN))))))) mN rfl (prK rfl))
  refine LH.seq ?_
  refine LH.seqT [(1, .int .i64 (i64 (1 + r4))), (6, .lst 4 (List.map GEnrolment.lv r2.1)), (12, .lst 5 (List.map GAttendance.lv r13.1)), (15, .lst 5 (List.map GAttendance.lv r14.1)), (91, .bool ((r13.2.2 != 0) || ((r5.2 != 0) || ((r14.2.2 != 0) || (((r13.1.length : Int) != (r2.1.length : Int)) || ((r14.1.length : Int) != (r2.1.length : Int)))))))] [] rfl ?_ ?_
  · refine sN (oM (v := (.int _ _)) rfl ?_)
    refine sN (oNe rfl rfl ?_)
    refine sN (oM (v := (.bool _)) rfl ?_)
    by_cases hb16 : (r13.2.2 != 0) = true
    · refine sF rfl rfl hb16 ?_
      refine sF rfl rfl hb16 ?_
      refine sN (oPkT (congrArg LV.bool hb16) (v := (.bool _)) rfl ?_)
      refine sN (oM (v := (.bool _)) rfl ?_)
      refine sF rfl rfl rfl ?_
      refine sF rfl rfl rfl ?_
      refine sN (oPkT rfl (v := (.bool _)) rfl ?_)
      refine sN (oM (v := (.bool _)) rfl ?_)
      refine sF rfl rfl rfl ?_
      refine sF rfl rfl rfl ?_
      refine sF rfl rfl rfl ?_
      refine sF rfl rfl rfl ?_
      refine sF rfl rfl rfl ?_
      refine sN (oPkT rfl (v := (.bool _)) rfl ?_)
      refine sN (oM (v := (.bool _)) rfl ?_)
      refine sF rfl rfl rfl ?_
      refine sF rfl rfl rfl ?_
      refine sF rfl rfl rfl ?_
      refine sF rfl rfl rfl ?_
      refine sF rfl rfl rfl ?_
      refine sN (oPkT rfl (v := (.bool _)) rfl ?_)
      exact s0 (Wk.to (eC rfl (eC rfl (eC rfl (eC rfl (eC (congrArg LV.bool (orT hb16)) eN))))) mN rfl (prK rfl))
    · replace hb16 := bF hb16
      refine sT rfl (congrArg LV.bool hb16) (oM (v := (.int _ _)) rfl ?_)
      refine sT rfl (congrArg LV.bool hb16) (oNe rfl rfl ?_)
      refine sN (oPkF (congrArg LV.bool hb16) (v := (.bool _)) rfl ?_)
      refine sN (oM (v := (.bool _)) rfl ?_)
      by_cases hb17 : (r5.2 != 0) = true
      · refine sF rfl rfl hb17 ?_
        refine sF rfl rfl hb17 ?_
        refine sN (oPkT (congrArg LV.bool hb17) (v := (.bool _)) rfl ?_)
        refine sN (oM (v := (.bool _)) rfl ?_)
        refine sF rfl rfl rfl ?_
        refine sF rfl rfl rfl ?_
        refine sF rfl rfl rfl ?_
        refine sF rfl rfl rfl ?_
        refine sF rfl rfl rfl ?_
        refine sN (oPkT rfl (v := (.bool _)) rfl ?_)
        refine sN (oM (v := (.bool _)) rfl ?_)
        refine sF rfl rfl rfl ?_
        refine sF rfl rfl rfl ?_
        refine sF rfl rfl rfl ?_
        refine sF rfl rfl rfl ?_
        refine sF rfl rfl rfl ?_
        refine sN (oPkT rfl (v := (.bool _)) rfl ?_)
        exact s0 (Wk.to (eC rfl (eC rfl (eC rfl (eC rfl (eC (congrArg LV.bool (Eq.trans (orT hb17) (orF hb16))) eN))))) mN rfl (prK rfl))
      · replace hb17 := bF hb17
        refine sT rfl (congrArg LV.bool hb17) (oM (v := (.int _ _)) rfl ?_)
        refine sT rfl (congrArg LV.bool hb17) (oNe rfl rfl ?_)
        refine sN (oPkF (congrArg LV.bool hb17) (v := (.bool _)) rfl ?_)
        refine sN (oM (v := (.bool _)) rfl ?_)
        by_cases hb18 : (r14.2.2 != 0) = true
        · refine sF rfl rfl hb18 ?_
          refine sF rfl rfl hb18 ?_
          refine sF rfl rfl hb18 ?_
          refine sF rfl rfl hb18 ?_
          refine sF rfl rfl hb18 ?_
          refine sN (oPkT (congrArg LV.bool hb18) (v := (.bool _)) rfl ?_)
          refine sN (oM (v := (.bool _)) rfl ?_)
          refine sF rfl rfl rfl ?_
          refine sF rfl rfl rfl ?_
          refine sF rfl rfl rfl ?_
          refine sF rfl rfl rfl ?_
          refine sF rfl rfl rfl ?_
          refine sN (oPkT rfl (v := (.bool _)) rfl ?_)
          exact s0 (Wk.to (eC rfl (eC rfl (eC rfl (eC rfl (eC (congrArg LV.bool (Eq.trans (Eq.trans (orT hb18) (orF hb17)) (orF hb16))) eN))))) mN rfl (prK rfl))
        · replace hb18 := bF hb18
          refine sT rfl (congrArg LV.bool hb18) (oM (v := (.lst _ _)) rfl ?_)
          refine sT rfl (congrArg LV.bool hb18) (oLnL (f := GAttendance.lv) te47 rfl ?_)
          refine sT rfl (congrArg LV.bool hb18) (oM (v := (.lst _ _)) rfl ?_)
          refine sT rfl (congrArg LV.bool hb18) (oLnL (f := GEnrolment.lv) te38 rfl ?_)
          refine sT rfl (congrArg LV.bool hb18) (oNe rfl rfl ?_)
          refine sN (oPkF (congrArg LV.bool hb18) (v := (.bool _)) rfl ?_)
          refine sN (oM (v := (.bool _)) rfl ?_)
          by_cases hb19 : ((r13.1.length : Int) != (r2.1.length : Int)) = true
          · refine sF rfl rfl hb19 ?_
            refine sF rfl rfl hb19 ?_
            refine sF rfl rfl hb19 ?_
            refine sF rfl rfl hb19 ?_
            refine sF rfl rfl hb19 ?_
            refine sN (oPkT (congrArg LV.bool hb19) (v := (.bool _)) rfl ?_)
            exact s0 (Wk.to (eC rfl (eC rfl (eC rfl (eC rfl (eC (congrArg LV.bool (Eq.trans (Eq.trans (Eq.trans (orT hb19) (orF hb18)) (orF hb17)) (orF hb16))) eN))))) mN rfl (prK rfl))
          · replace hb19 := bF hb19
            refine sT rfl (congrArg LV.bool hb19) (oM (v := (.lst _ _)) rfl ?_)
            refine sT rfl (congrArg LV.bool hb19) (oLnL (f := GAttendance.lv) te47 rfl ?_)
            refine sT rfl (congrArg LV.bool hb19) (oM (v := (.lst _ _)) rfl ?_)
            refine sT rfl (congrArg LV.bool hb19) (oLnL (f := GEnrolment.lv) te38 rfl ?_)
            refine sT rfl (congrArg LV.bool hb19) (oNe rfl rfl ?_)
            refine sN (oPkF (congrArg LV.bool hb19) (v := (.bool _)) rfl ?_)
            exact s0 (Wk.to (eC rfl (eC rfl (eC rfl (eC rfl (eC (congrArg LV.bool (Eq.trans (Eq.trans (Eq.trans (orF hb19) (orF hb18)) (orF hb17)) (orF hb16))) eN))))) mN rfl (prK rfl))
  refine LH.cond (t := ((r13.2.2 != 0) || ((r5.2 != 0) || ((r14.2.2 != 0) || (((r13.1.length : Int) != (r2.1.length : Int)) || ((r14.1.length : Int) != (r2.1.length : Int))))))) rfl (fun hc20 => ?_) (fun hc20 => ?_)
  · replace h := iteT h hc20
    refine LH.seqT [(4, .bool false)] [] rfl ?_ ?_
    · refine sN (oA (v := (.bool _)) rfl ?_)
      exact s0 (Wk.to (eC rfl eN) mN rfl (prK rfl))
    refine LH.ret ?_
    refine thenR ?_
    obtain rfl := Option.some.inj h
    exact retE (congrArg Array.toList Try.results9) (lrT rfl (lr0 ⟨memN mN, rfl, prK rfl, Sub.rfl⟩))
  replace h := iteF h hc20
  refine LH.skip ?_
  refine thenN ?_
  refine LH.wk (Wk.to (el := [(1, .int .i64 (i64 (1 + r4))), (6, .lst 4 (List.map GEnrolment.lv r2.1)), (12, .lst 5 (List.map GAttendance.lv r13.1)), (15, .lst 5 (List.map GAttendance.lv r14.1))]) (ml := []) (eC rfl (eC rfl (eC rfl (eC rfl eN)))) mN rfl (prK rfl)) ?_
  refine LH.seq ?_
  refine LH.seqT [(1, .int .i64 (i64 (1 + r4))), (6, .lst 4 (List.map GEnrolment.lv r2.1)), (12, .lst 5 (List.map GAttendance.lv r13.1)), (15, .lst 5 (List.map GAttendance.lv r14.1)), (18, .int .i64 0)] [] rfl ?_ ?_
  · refine sN (oA (v := (.int _ _)) rfl ?_)
    exact s0 (Wk.to (eC rfl (eC rfl (eC rfl (eC rfl (eC rfl eN))))) mN rfl (prK rfl))
  refine LH.block ?_
  refine LH.loop (fun n e m => ∃ (n21 : Int), law16_AttendanceOwn_L2 F r2 r4 r13 r14 n n21 = some r ∧ e = Env.of [(1, .int .i64 (i64 (1 + r4))), (6, .lst 4 (List.map GEnrolment.lv r2.1)), (12, .lst 5 (List.map GAttendance.lv r13.1)), (15, .lst 5 (List.map GAttendance.lv r14.1)), (18, .int .i64 n21)] ∧ m = Mem.of []) F ⟨0, h, rfl, rfl⟩ ?_
  clear h
  rintro n e m ⟨n21, h, rfl, rfl⟩
  rcases n with _ | n
  · cases (show Option.none = some _ from h)
  obtain ⟨rec2, hrec2⟩ : ∃ f, f = law16_AttendanceOwn_L2 F r2 r4 r13 r14 n := ⟨_, rfl⟩
  replace h : law16_AttendanceOwn_L2_B F r2 r4 r13 r14 rec2 n21 = some r := hrec2 ▸ h
  unfold law16_AttendanceOwn_L2_B at h
  refine LH.seq ?_
  refine LH.seqT [(1, .int .i64 (i64 (1 + r4))), (6, .lst 4 (List.map GEnrolment.lv r2.1)), (12, .lst 5 (List.map GAttendance.lv r13.1)), (15, .lst 5 (List.map GAttendance.lv r14.1)), (18, .int .i64 n21), (95, .bool (decide (n21 < (r2.1.length : Int))))] [] rfl ?_ ?_
  · refine sN (oM (v := (.int _ _)) rfl ?_)
    refine sN (oM (v := (.lst _ _)) rfl ?_)
    refine sN (oLnL (f := GEnrolment.lv) te38 rfl ?_)
    refine sN (oLt rfl rfl ?_)
    exact s0 (Wk.to (eC rfl (eC rfl (eC rfl (eC rfl (eC rfl (eC rfl eN)))))) mN rfl (prK rfl))
  refine LH.cond (t := (decide (n21 < (r2.1.length : Int)))) rfl (fun hc22 => ?_) (fun hc22 => ?_)
  · replace h := iteT h hc22
    refine LH.skip ?_
    refine thenN ?_
    refine LH.wk (Wk.to (el := [(1, .int .i64 (i64 (1 + r4))), (6, .lst 4 (List.map GEnrolment.lv r2.1)), (12, .lst 5 (List.map GAttendance.lv r13.1)), (15, .lst 5 (List.map GAttendance.lv r14.1)), (18, .int .i64 n21)]) (ml := []) (eC rfl (eC rfl (eC rfl (eC rfl (eC rfl eN))))) mN rfl (prK rfl)) ?_
    refine LH.seq ?_
    refine LH.block ?_
    obtain ⟨w24, hv, h⟩ := bindS h
    refine LH.seqJM mixed [] [0, 0, 0, 0, 0, 0, 0, 0, 0, 0, 0, 0, 0, 0, 0, 0, 0, 0, 0, 0] [(1, .int .i64 (i64 (1 + r4))), (6, .lst 4 (List.map GEnrolment.lv r2.1)), (12, .lst 5 (List.map GAttendance.lv r13.1)), (15, .lst 5 (List.map GAttendance.lv r14.1)), (18, .int .i64 n21), (117, .bool w24)] [] rfl rfl (by kernel_rfl) ?_ ?_
    · refine mN0 (oM (v := (.lst _ _)) rfl ⟨rfl, ?_⟩)
      refine mN0 (oM (v := (.int _ _)) rfl ⟨rfl, ?_⟩)
      obtain ⟨x25, hx25, hv⟩ := bindS hv
      refine mN0 (oIx (f := GEnrolment.lv) te38 tk44 ts44 rfl rfl GEnrolment.ok hx25 rfl ⟨rfl, ?_⟩)
      refine mN0 (oFaS tf44_0 tk42 ts42 rfl rfl rfl ⟨rfl, ?_⟩)
      refine mN0 (oFaS tf42_1 tk3 ts3 rfl rfl rfl ⟨rfl, ?_⟩)
      refine mN0 (oLd rfl tk3 ta3 ⟨rfl, ?_⟩)
      refine mN0 (oM (v := (.int _ _)) rfl ⟨rfl, ?_⟩)
      refine mN0 (oNe rfl rfl ⟨rfl, ?_⟩)
      refine mN0 (oM (v := (.bool _)) rfl ⟨rfl, ?_⟩)
      by_cases hb26 : (x25.Entry.Centre != (i64 (1 + r4))) = true
      · replace hv := iteT hv hb26
        refine mT rfl (congrArg LV.bool hb26) (mN0 (oM (v := (.lst _ _)) rfl ⟨rfl, ?_⟩))
        refine mT rfl (congrArg LV.bool hb26) (mN0 (oM (v := (.int _ _)) rfl ⟨rfl, ?_⟩))
        obtain ⟨x27, hx27, hv⟩ := bindS hv
        refine mT rfl (congrArg LV.bool hb26) (mN0 (oIx (f := GAttendance.lv) te47 tk54 ts54 rfl rfl GAttendance.ok hx27 rfl ⟨rfl, ?_⟩))
        refine mT rfl (congrArg LV.bool hb26) (mN0 (oLdA rfl tk54 ta54 ts54 rfl rfl ⟨rfl, ?_⟩))
        refine mT rfl (congrArg LV.bool hb26) (mN0 (oM (v := (.lst _ _)) rfl ⟨rfl, ?_⟩))
        refine mT rfl (congrArg LV.bool hb26) (mN0 (oM (v := (.int _ _)) rfl ⟨rfl, ?_⟩))
        obtain ⟨x28, hx28, hv⟩ := bindS hv
        refine mT rfl (congrArg LV.bool hb26) (mN0 (oIx (f := GAttendance.lv) te47 tk54 ts54 rfl rfl GAttendance.ok hx28 rfl ⟨rfl, ?_⟩))
        refine mT rfl (congrArg LV.bool hb26) (mN0 (oLdA rfl tk54 ta54 ts54 rfl rfl ⟨rfl, ?_⟩))
        obtain ⟨r29, hr29, hv⟩ := bindS hv
        refine mT rfl (congrArg LV.bool hb26) (mN0 (oCP (args := [.agg [.int .i64 x27.Candidate, .int .i64 x27.State, .int .i64 x27.Late, .int .i64 x27.Left, .lst 1 (List.map (LV.int .i64) x27.Incidents)], .agg [.int .i64 x28.Candidate, .int .i64 x28.State, .int .i64 x28.Late, .int .i64 x28.Left, .lst 1 (List.map (LV.int .i64) x28.Incidents)]]) rfl isF29 rfl (sbR (sbR sbN)) (ref16_Same_ok hr29) rfl ⟨rfl, ?_⟩))
        refine mT rfl (congrArg LV.bool hb26) (mN0 (oNot rfl ⟨rfl, ?_⟩))
        refine mN0 (oPkT (congrArg LV.bool hb26) (v := (.bool _)) rfl ⟨rfl, ?_⟩)
        obtain rfl := Option.some.inj hv
        exact m0 (Wk.to (eC rfl (eC rfl (eC rfl (eC rfl (eC rfl (eC rfl eN)))))) mN rfl (prK rfl))
      · replace hb26 := bF hb26
        replace hv := iteF hv hb26
        refine mF rfl rfl hb26 ?_
        refine mF rfl rfl hb26 ?_
        refine mF rfl rfl hb26 ?_
        refine mF rfl rfl hb26 ?_
        refine mF rfl rfl hb26 ?_
        refine mF rfl rfl hb26 ?_
        refine mF rfl rfl hb26 ?_
        refine mF rfl rfl hb26 ?_
        refine mF rfl rfl hb26 ?_
        refine mF rfl rfl hb26 ?_
        refine mN0 (oPkF (congrArg LV.bool hb26) (v := (.bool _)) rfl ⟨rfl, ?_⟩)
        obtain rfl := Option.some.inj hv
        exact m0 (Wk.to (eC rfl (eC rfl (eC rfl (eC rfl (eC rfl (eC rfl eN)))))) mN rfl (prK rfl))
    clear hv
    refine LH.cond (t := w24) rfl (fun hc30 => ?_) (fun hc30 => ?_)
    · replace h := iteT h hc30
      refine LH.seqT [(4, .bool false)] [] rfl ?_ ?_
      · refine sN (oA (v := (.bool _)) rfl ?_)
        exact s0 (Wk.to (eC rfl eN) mN rfl (prK rfl))
      refine LH.ret ?_
      refine blockR ?_
      refine thenR ?_
      refine roundR ?_
      refine blockR ?_
      refine thenR ?_
      obtain rfl := Option.some.inj h
      exact retE (congrArg Array.toList Try.results9) (lrT rfl (lr0 ⟨memN mN, rfl, prK rfl, Sub.rfl⟩))
    replace h := iteF h hc30
    refine LH.skip ?_
    refine blockN ?_
    refine thenN ?_
    refine LH.wk (Wk.to (el := [(1, .int .i64 (i64 (1 + r4))), (6, .lst 4 (List.map GEnrolment.lv r2.1)), (12, .lst 5 (List.map GAttendance.lv r13.1)), (15, .lst 5 (List.map GAttendance.lv r14.1)), (18, .int .i64 n21)]) (ml := []) (eC rfl (eC rfl (eC rfl (eC rfl (eC rfl eN))))) mN rfl (prK rfl)) ?_
    refine LH.loneT [(1, .int .i64 (i64 (1 + r4))), (6, .lst 4 (List.map GEnrolment.lv r2.1)), (12, .lst 5 (List.map GAttendance.lv r13.1)), (15, .lst 5 (List.map GAttendance.lv r14.1)), (18, .int .i64 (i64 (n21 + 1)))] [] rfl ?_ ?_
    · refine sN (oM (v := (.int _ _)) rfl ?_)
      refine sN (oAdd rfl rfl ?_)
      refine sN (oA (v := (.int _ _)) rfl ?_)
      exact s0 (Wk.to (eC rfl (eC rfl (eC rfl (eC rfl (eC rfl eN))))) mN rfl (prK rfl))
    exact roundN (e' := Env.of [(1, .int .i64 (i64 (1 + r4))), (6, .lst 4 (List.map GEnrolment.lv r2.1)), (12, .lst 5 (List.map GAttendance.lv r13.1)), (15, .lst 5 (List.map GAttendance.lv r14.1)), (18, .int .i64 (i64 (n21 + 1)))]) (m' := Mem.of []) (Wk.to (eC rfl (eC rfl (eC rfl (eC rfl (eC rfl eN))))) mN rfl (prK rfl)) ⟨(i64 (n21 + 1)), hrec2 ▸ h, rfl, rfl⟩
  replace h := iteF h hc22
  refine LH.exit ?_
  refine thenX ?_
  refine roundX ?_
  refine blockH ?_
  refine thenN ?_
  refine LH.wk (Wk.to (el := []) (ml := []) eN mN rfl (prK rfl)) ?_
  obtain ⟨r31, hr31, h⟩ := bindS h
  refine LH.seqT [(4, .bool r31)] [] rfl ?_ ?_
  · refine sN (oCP (args := []) rfl isF17 rfl sbN (law16_awake_ok hr31) rfl ?_)
    refine sN (oA (v := (.bool _)) rfl ?_)
    exact s0 (Wk.to (eC rfl eN) mN rfl (prK rfl))
  refine LH.ret ?_
  obtain rfl := Option.some.inj h
  exact retE (congrArg Array.toList Try.results9) (lrT rfl (lr0 ⟨memN mN, rfl, prK rfl, Sub.rfl⟩))

end Go.Proofs.Ytapnjifcfljmmaa
