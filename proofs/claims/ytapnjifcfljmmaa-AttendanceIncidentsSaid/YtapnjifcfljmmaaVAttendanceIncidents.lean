/- Walks, printed by program (gen.py): each function computes its plain function. -/
import Derived.Test.YtapnjifcfljmmaaW3
set_option linter.unusedVariables false
set_option linter.unusedSimpArgs false
set_option maxRecDepth 100000
namespace Go.Proofs.Ytapnjifcfljmmaa
open Go.L Go.Sh
theorem law16_AttendanceIncidents_ok {F : Nat} {p0 : Int} {p1 : Int} {r : Bool} (h : law16_AttendanceIncidents F p0 p1 = some r) : LCall Try.prog 6 [.int .i64 p0, .int .i64 p1] (Mem.of []) (.bool r) (Mem.of []) := by
  unfold law16_AttendanceIncidents at h
  refine bodyT Try.func6 rfl (by rw [Try.ntmps6]; exact Nat.le_of_ble_eq_true rfl) ?_
  refine LH.wk (Wk.to (el := [(0, .int .i64 p0), (1, .int .i64 p1)]) (ml := []) (eC rfl (eC rfl eN)) mN rfl (prK rfl)) ?_
  refine LH.seqT [(0, .int .i64 p0), (1, .int .i64 p1)] [] rfl ?_ ?_
  · refine sN (oA (v := (.bool _)) rfl ?_)
    exact s0 (Wk.to (eC rfl (eC rfl eN)) mN rfl (prK rfl))
  obtain ⟨r1, hr1, h⟩ := bindS h
  refine LH.seqT [(0, .int .i64 r1), (1, .int .i64 p1)] [] rfl ?_ ?_
  · refine sN (oM (v := (.int _ _)) rfl ?_)
    refine sN (oCP (args := [.int .i64 p0, .int .i64 12]) rfl isF19 rfl (sbR (sbR sbN)) (make_Cut_ok hr1) rfl ?_)
    refine sN (oA (v := (.int _ _)) rfl ?_)
    exact s0 (Wk.to (eC rfl (eC rfl eN)) mN rfl (prK rfl))
  refine LH.seqT [(0, .int .i64 r1), (1, .int .i64 p1), (5, .lst 4 (List.map GEnrolment.lv [(GEnrolment.mk (GEntry.mk 1 2 0) false)]))] [] rfl ?_ ?_
  · refine sN (oBd (vs := [(0, .int .i64 1), (1, .int .i64 2)]) tu42 tz42 rfl (lf tf42_0 ts3 tk3 rfl rfl rfl (lf tf42_1 ts3 tk3 rfl rfl rfl lf0)) ?_)
    refine sN (oBd (vs := [(0, .agg [.int .i64 1, .int .i64 2, .int .i64 0])]) tu44 tz44 rfl (lf tf44_0 ts42 tk42 rfl rfl rfl lf0) ?_)
    refine sN (oBS (f := GEnrolment.lv) (ys := [(GEnrolment.mk (GEntry.mk 1 2 0) false)]) te38 tr44 ts44 rfl rfl rfl GEnrolment.ok ?_)
    refine sN (oA (v := (.lst _ _)) rfl ?_)
    exact s0 (Wk.to (eC rfl (eC rfl (eC rfl eN))) mN rfl (prK rfl))
  refine LH.seqT [(0, .int .i64 r1), (1, .int .i64 p1), (5, .lst 4 (List.map GEnrolment.lv [(GEnrolment.mk (GEntry.mk 1 2 0) false)])), (6, .nil)] [] rfl ?_ ?_
  · refine sN (oA (v := .nil) rfl ?_)
    exact s0 (Wk.to (eC rfl (eC rfl (eC rfl (eC rfl eN)))) mN rfl (prK rfl))
  refine LH.seq ?_
  refine LH.seqT [(0, .int .i64 r1), (1, .int .i64 p1), (5, .lst 4 (List.map GEnrolment.lv [(GEnrolment.mk (GEntry.mk 1 2 0) false)])), (6, .nil), (7, .int .i64 (i64 (r1 - 1)))] [] rfl ?_ ?_
  · refine sN (oM (v := (.int _ _)) rfl ?_)
    refine sN (oSub rfl rfl ?_)
    refine sN (oA (v := (.int _ _)) rfl ?_)
    exact s0 (Wk.to (eC rfl (eC rfl (eC rfl (eC rfl (eC rfl eN))))) mN rfl (prK rfl))
  refine LH.block ?_
  refine LH.wk ((Wk.trans (Wk.to (el := [(0, .int .i64 r1), (1, .int .i64 p1), (5, .lst 4 (List.map GEnrolment.lv [(GEnrolment.mk (GEntry.mk 1 2 0) false)])), (6, .nil), (7, .int .i64 (i64 (r1 - 1)))]) (ml := []) (eC rfl (eC rfl (eC rfl (eC rfl (eC rfl eN))))) mN rfl (prK rfl)) (Wk.trans (Wk.to (el := [(0, .int .i64 r1), (1, .int .i64 p1), (5, .lst 4 (List.map GEnrolment.lv [(GEnrolment.mk (GEntry.mk 1 2 0) false)])), (6, .nil), (7, .int .i64 (i64 (r1 - 1)))]) (ml := []) (eC rfl (eC rfl (eC rfl (eC rfl (eC rfl eN))))) mN rfl (prK rfl)) (Wk.trans (Wk.ownL (el' := [(0, .int .i64 r1), (1, .int .i64 p1), (5, .lst 4 (List.map GEnrolment.lv [(GEnrolment.mk (GEntry.mk 1 2 0) false)])), (6, .arr 134 (List.length ([] : List GRegisterEvent))), (7, .int .i64 (i64 (r1 - 1)))]) 134 33 6 rfl rfl (wK (wK (wK (wO (wK wN)))))) (Wk.to (el := [(0, .int .i64 r1), (1, .int .i64 p1), (5, .lst 4 (List.map GEnrolment.lv [(GEnrolment.mk (GEntry.mk 1 2 0) false)])), (6, .arr 134 (List.length ([] : List GRegisterEvent))), (7, .int .i64 (i64 (r1 - 1)))]) (ml := [(134, .arr 33 6 (List.map GRegisterEvent.lv ([] : List GRegisterEvent)))]) (eC rfl (eC rfl (eC rfl (eC rfl (eC rfl eN))))) (mC rfl mN) rfl (prK rfl)))))) ?_
  refine LH.loop (fun n e m => ∃ (n2 : Int) (l3 : List GRegisterEvent), law16_AttendanceIncidents_L1 F p1 r1 n n2 l3 = some r ∧ e = Env.of [(0, .int .i64 r1), (1, .int .i64 p1), (5, .lst 4 (List.map GEnrolment.lv [(GEnrolment.mk (GEntry.mk 1 2 0) false)])), (6, .arr 134 (List.length l3)), (7, .int .i64 n2)] ∧ m = Mem.of [(134, .arr 33 6 (List.map GRegisterEvent.lv l3))]) F ⟨(i64 (r1 - 1)), ([] : List GRegisterEvent), h, rfl, rfl⟩ ?_
  clear h
  rintro n e m ⟨n2, l3, h, rfl, rfl⟩
  rcases n with _ | n
  · cases (show Option.none = some _ from h)
  obtain ⟨rec1, hrec1⟩ : ∃ f, f = law16_AttendanceIncidents_L1 F p1 r1 n := ⟨_, rfl⟩
  replace h : law16_AttendanceIncidents_L1_B F p1 r1 rec1 n2 l3 = some r := hrec1 ▸ h
  unfold law16_AttendanceIncidents_L1_B at h
  refine LH.seq ?_
  refine LH.seqT [(0, .int .i64 r1), (1, .int .i64 p1), (5, .lst 4 (List.map GEnrolment.lv [(GEnrolment.mk (GEntry.mk 1 2 0) false)])), (6, .arr 134 (List.length l3)), (7, .int .i64 n2), (21, .bool (decide (n2 ≥ 0)))] [(134, .arr 33 6 (List.map GRegisterEvent.lv l3))] rfl ?_ ?_
  · refine sN (oM (v := (.int _ _)) rfl ?_)
    refine sN (oGe rfl rfl ?_)
    exact s0 (Wk.to (eC rfl (eC rfl (eC rfl (eC rfl (eC rfl (eC rfl eN)))))) (mC rfl mN) rfl (prK rfl))
  refine LH.cond (t := (decide (n2 ≥ 0))) rfl (fun hc4 => ?_) (fun hc4 => ?_)
  · replace h := iteT h hc4
    refine LH.skip ?_
    refine thenN ?_
    refine LH.wk (Wk.to (el := [(0, .int .i64 r1), (1, .int .i64 p1), (5, .lst 4 (List.map GEnrolment.lv [(GEnrolment.mk (GEntry.mk 1 2 0) false)])), (6, .arr 134 (List.length l3)), (7, .int .i64 n2)]) (ml := [(134, .arr 33 6 (List.map GRegisterEvent.lv l3))]) (eC rfl (eC rfl (eC rfl (eC rfl (eC rfl eN))))) (mC rfl mN) rfl (prK rfl)) ?_
    refine LH.seq ?_
    refine LH.block ?_
    obtain ⟨r5, hr5, h⟩ := bindS h
    obtain ⟨v6, hv6, h⟩ := bindS h
    refine LH.loneT [(0, .int .i64 r1), (1, .int .i64 p1), (5, .lst 4 (List.map GEnrolment.lv [(GEnrolment.mk (GEntry.mk 1 2 0) false)])), (6, .arr 134 (List.length v6)), (7, .int .i64 n2)] [(134, .arr 33 6 (List.map GRegisterEvent.lv v6))] rfl ?_ ?_
    · refine sN (oM (v := (.arr _ _)) rfl ?_)
      refine sN (oM (v := (.int _ _)) rfl ?_)
      refine sN (oM (v := (.int _ _)) rfl ?_)
      refine sN (oBd (vs := [(0, .int .i64 n2), (1, .int .i64 2), (2, .int .i64 n2)]) tu31 tz31 rfl (lf tf31_0 ts3 tk3 rfl rfl rfl (lf tf31_1 ts3 tk3 rfl rfl rfl (lf tf31_2 ts3 tk3 rfl rfl rfl lf0))) ?_)
      refine sN (oM (v := (.int _ _)) rfl ?_)
      refine sN (oM (v := (.int _ _)) rfl ?_)
      refine sN (oCP (args := [.int .i64 p1, .int .i64 500]) rfl isF19 rfl (sbR (sbR sbN)) (make_Cut_ok hr5) rfl ?_)
      refine sN (oAdd rfl rfl ?_)
      refine sN (oBd (vs := [(0, .agg [.int .i64 n2, .int .i64 2, .int .i64 n2]), (1, .int .i64 5), (2, .int .i64 1), (3, .int .i64 (i64 (n2 + r5)))]) tu33 tz33 rfl (lf tf33_0 ts31 tk31 rfl rfl rfl (lf tf33_1 ts3 tk3 rfl rfl rfl (lf tf33_2 ts3 tk3 rfl rfl rfl (lf tf33_3 ts3 tk3 rfl rfl rfl lf0)))) ?_)
      refine sN (oBS (f := GRegisterEvent.lv) (ys := [(GRegisterEvent.mk (GStamp.mk n2 2 n2) 5 1 (i64 (n2 + r5)))]) te25 tr33 ts33 rfl rfl rfl GRegisterEvent.ok ?_)
      refine sN (oAp (f := GRegisterEvent.lv) te25 tr33 ts33 rfl rfl (prN rfl) rfl hv6 ?_)
      refine sN (oA (v := (.arr _ _)) rfl ?_)
      exact s0 (Wk.to (eC rfl (eC rfl (eC rfl (eC rfl (eC rfl eN))))) (mC rfl mN) rfl (prK rfl))
    refine blockN ?_
    refine thenN ?_
    refine LH.loneT [(0, .int .i64 r1), (1, .int .i64 p1), (5, .lst 4 (List.map GEnrolment.lv [(GEnrolment.mk (GEntry.mk 1 2 0) false)])), (6, .arr 134 (List.length v6)), (7, .int .i64 (i64 (n2 - 1)))] [(134, .arr 33 6 (List.map GRegisterEvent.lv v6))] rfl ?_ ?_
    · refine sN (oM (v := (.int _ _)) rfl ?_)
      refine sN (oSub rfl rfl ?_)
      refine sN (oA (v := (.int _ _)) rfl ?_)
      exact s0 (Wk.to (eC rfl (eC rfl (eC rfl (eC rfl (eC rfl eN))))) (mC rfl mN) rfl (prK rfl))
    exact roundN (e' := Env.of [(0, .int .i64 r1), (1, .int .i64 p1), (5, .lst 4 (List.map GEnrolment.lv [(GEnrolment.mk (GEntry.mk 1 2 0) false)])), (6, .arr 134 (List.length v6)), (7, .int .i64 (i64 (n2 - 1)))]) (m' := Mem.of [(134, .arr 33 6 (List.map GRegisterEvent.lv v6))]) (Wk.to (eC rfl (eC rfl (eC rfl (eC rfl (eC rfl eN))))) (mC rfl mN) rfl (prK rfl)) ⟨(i64 (n2 - 1)), v6, hrec1 ▸ h, rfl, rfl⟩
  replace h := iteF h hc4
  refine LH.exit ?_
  refine thenX ?_
  refine roundX ?_
  refine blockH ?_
  refine thenN ?_
  refine LH.wk ((Wk.trans (Wk.to (el := [(0, .int .i64 r1), (1, .int .i64 p1), (5, .lst 4 (List.map GEnrolment.lv [(GEnrolment.mk (GEntry.mk 1 2 0) false)])), (6, .arr 134 (List.length l3))]) (ml := [(134, .arr 33 6 (List.map GRegisterEvent.lv l3))]) (eC rfl (eC rfl (eC rfl (eC rfl eN)))) (mC rfl mN) rfl (prK rfl)) (Wk.trans (Wk.frzL (f := GRegisterEvent.lv) (el' := [(0, .int .i64 r1), (1, .int .i64 p1), (5, .lst 4 (List.map GEnrolment.lv [(GEnrolment.mk (GEntry.mk 1 2 0) false)])), (6, .lst 6 (List.map GRegisterEvent.lv l3))]) 134 33 6 l3 rfl rfl (prN rfl) (fK rfl (fK rfl (fK rfl (fZ fN))))) (Wk.to (el := [(0, .int .i64 r1), (1, .int .i64 p1), (5, .lst 4 (List.map GEnrolment.lv [(GEnrolment.mk (GEntry.mk 1 2 0) false)])), (6, .lst 6 (List.map GRegisterEvent.lv l3))]) (ml := []) (eC rfl (eC rfl (eC rfl (eC rfl eN)))) mN rfl (prK rfl))))) ?_
  obtain ⟨r7, hr7, h⟩ := bindS h
  refine LH.seqT [(0, .int .i64 r1), (1, .int .i64 p1), (8, .lst 5 (List.map GAttendance.lv r7.1)), (9, .lst 3 (List.map GRefusal.lv r7.2.1)), (10, .int .i64 r7.2.2)] [] rfl ?_ ?_
  · refine sN (oM (v := (.lst _ _)) rfl ?_)
    refine sN (oM (v := (.lst _ _)) rfl ?_)
    refine sN (oCP (args := [.lst 4 (List.map GEnrolment.lv [(GEnrolment.mk (GEntry.mk 1 2 0) false)]), .lst 6 (List.map GRegisterEvent.lv l3), .int .i64 100]) rfl isF22 rfl (sbR (sbR (sbR sbN))) (attendance_Fold_ok hr7) rfl ?_)
    refine sN (oM (v := (.tup _)) rfl ?_)
    refine sN (oEx rfl rfl ?_)
    refine sN (oEx rfl rfl ?_)
    refine sN (oEx rfl rfl ?_)
    refine sN (oA (v := (.lst _ _)) rfl ?_)
    refine sN (oA (v := (.lst _ _)) rfl ?_)
    refine sN (oA (v := (.int _ _)) rfl ?_)
    exact s0 (Wk.to (eC rfl (eC rfl (eC rfl (eC rfl (eC rfl eN))))) mN rfl (prK rfl))
  refine LH.seq ?_
  obtain ⟨w9, hv, h⟩ := bindS h
  refine LH.seqT [(1, .int .i64 p1), (8, .lst 5 (List.map GAttendance.lv r7.1)), (9, .lst 3 (List.map GRefusal.lv r7.2.1)), (73, .bool w9)] [] rfl ?_ ?_
  · refine sN (oM (v := (.int _ _)) rfl ?_)
    refine sN (oNe rfl rfl ?_)
    refine sN (oM (v := (.bool _)) rfl ?_)
    by_cases hb10 : (r7.2.2 != 0) = true
    · replace hv := iteT hv hb10
      refine sF rfl rfl hb10 ?_
      refine sF rfl rfl hb10 ?_
      refine sF rfl rfl hb10 ?_
      refine sN (oPkT (congrArg LV.bool hb10) (v := (.bool _)) rfl ?_)
      refine sN (oM (v := (.bool _)) rfl ?_)
      refine sF rfl rfl rfl ?_
      refine sF rfl rfl rfl ?_
      refine sF rfl rfl rfl ?_
      refine sF rfl rfl rfl ?_
      refine sF rfl rfl rfl ?_
      refine sF rfl rfl rfl ?_
      refine sF rfl rfl rfl ?_
      refine sF rfl rfl rfl ?_
      refine sN (oPkT rfl (v := (.bool _)) rfl ?_)
      refine sN (oM (v := (.bool _)) rfl ?_)
      refine sF rfl rfl rfl ?_
      refine sF rfl rfl rfl ?_
      refine sF rfl rfl rfl ?_
      refine sF rfl rfl rfl ?_
      refine sF rfl rfl rfl ?_
      refine sF rfl rfl rfl ?_
      refine sN (oPkT rfl (v := (.bool _)) rfl ?_)
      refine sN (oM (v := (.bool _)) rfl ?_)
      refine sF rfl rfl rfl ?_
      refine sF rfl rfl rfl ?_
      refine sF rfl rfl rfl ?_
      refine sF rfl rfl rfl ?_
      refine sF rfl rfl rfl ?_
      refine sN (oPkT rfl (v := (.bool _)) rfl ?_)
      obtain rfl := Option.some.inj hv
      exact s0 (Wk.to (eC rfl (eC rfl (eC rfl (eC rfl eN)))) mN rfl (prK rfl))
    · replace hb10 := bF hb10
      replace hv := iteF hv hb10
      refine sT rfl (congrArg LV.bool hb10) (oM (v := (.lst _ _)) rfl ?_)
      refine sT rfl (congrArg LV.bool hb10) (oLnL (f := GAttendance.lv) te47 rfl ?_)
      refine sT rfl (congrArg LV.bool hb10) (oNe rfl rfl ?_)
      refine sN (oPkF (congrArg LV.bool hb10) (v := (.bool _)) rfl ?_)
      refine sN (oM (v := (.bool _)) rfl ?_)
      by_cases hb11 : ((r7.1.length : Int) != 1) = true
      · replace hv := iteT hv hb11
        refine sF rfl rfl hb11 ?_
        refine sF rfl rfl hb11 ?_
        refine sF rfl rfl hb11 ?_
        refine sF rfl rfl hb11 ?_
        refine sF rfl rfl hb11 ?_
        refine sF rfl rfl hb11 ?_
        refine sF rfl rfl hb11 ?_
        refine sF rfl rfl hb11 ?_
        refine sN (oPkT (congrArg LV.bool hb11) (v := (.bool _)) rfl ?_)
        refine sN (oM (v := (.bool _)) rfl ?_)
        refine sF rfl rfl rfl ?_
        refine sF rfl rfl rfl ?_
        refine sF rfl rfl rfl ?_
        refine sF rfl rfl rfl ?_
        refine sF rfl rfl rfl ?_
        refine sF rfl rfl rfl ?_
        refine sN (oPkT rfl (v := (.bool _)) rfl ?_)
        refine sN (oM (v := (.bool _)) rfl ?_)
        refine sF rfl rfl rfl ?_
        refine sF rfl rfl rfl ?_
        refine sF rfl rfl rfl ?_
        refine sF rfl rfl rfl ?_
        refine sF rfl rfl rfl ?_
        refine sN (oPkT rfl (v := (.bool _)) rfl ?_)
        obtain rfl := Option.some.inj hv
        exact s0 (Wk.to (eC rfl (eC rfl (eC rfl (eC rfl eN)))) mN rfl (prK rfl))
      · replace hb11 := bF hb11
        replace hv := iteF hv hb11
        refine sT rfl (congrArg LV.bool hb11) (oM (v := (.lst _ _)) rfl ?_)
        obtain ⟨x12, hx12, hv⟩ := bindS hv
        refine sT rfl (congrArg LV.bool hb11) (oIx (f := GAttendance.lv) te47 tk54 ts54 rfl rfl GAttendance.ok hx12 rfl ?_)
        refine sT rfl (congrArg LV.bool hb11) (oFaS tf54_4 tk22 ts22 rfl rfl rfl ?_)
        refine sT rfl (congrArg LV.bool hb11) (oLd rfl tk22 ta22 ?_)
        refine sT rfl (congrArg LV.bool hb11) (oLnL (f := (LV.int .i64)) te22 rfl ?_)
        refine sT rfl (congrArg LV.bool hb11) (oM (v := (.int _ _)) rfl ?_)
        refine sXT rfl (congrArg LV.bool hb11) ((ok_min rfl rfl).ok) ?_
        refine sT rfl (congrArg LV.bool hb11) (oNe rfl rfl ?_)
        refine sN (oPkF (congrArg LV.bool hb11) (v := (.bool _)) rfl ?_)
        refine sN (oM (v := (.bool _)) rfl ?_)
        by_cases hb13 : ((x12.Incidents.length : Int) != (min r1 8)) = true
        · replace hv := iteT hv hb13
          refine sF rfl rfl hb13 ?_
          refine sF rfl rfl hb13 ?_
          refine sF rfl rfl hb13 ?_
          refine sF rfl rfl hb13 ?_
          refine sF rfl rfl hb13 ?_
          refine sF rfl rfl hb13 ?_
          refine sN (oPkT (congrArg LV.bool hb13) (v := (.bool _)) rfl ?_)
          refine sN (oM (v := (.bool _)) rfl ?_)
          refine sF rfl rfl rfl ?_
          refine sF rfl rfl rfl ?_
          refine sF rfl rfl rfl ?_
          refine sF rfl rfl rfl ?_
          refine sF rfl rfl rfl ?_
          refine sN (oPkT rfl (v := (.bool _)) rfl ?_)
          obtain rfl := Option.some.inj hv
          exact s0 (Wk.to (eC rfl (eC rfl (eC rfl (eC rfl eN)))) mN rfl (prK rfl))
        · replace hb13 := bF hb13
          replace hv := iteF hv hb13
          refine sT rfl (congrArg LV.bool hb13) (oM (v := (.lst _ _)) rfl ?_)
          refine sT rfl (congrArg LV.bool hb13) (oLnL (f := GRefusal.lv) te48 rfl ?_)
          refine sT rfl (congrArg LV.bool hb13) (oM (v := (.int _ _)) rfl ?_)
          refine sT rfl (congrArg LV.bool hb13) (oSub rfl rfl ?_)
          refine sXT rfl (congrArg LV.bool hb13) ((ok_max rfl rfl).ok) ?_
          refine sT rfl (congrArg LV.bool hb13) (oNe rfl rfl ?_)
          refine sN (oPkF (congrArg LV.bool hb13) (v := (.bool _)) rfl ?_)
          refine sN (oM (v := (.bool _)) rfl ?_)
          by_cases hb14 : ((r7.2.1.length : Int) != (max (i64 (r1 - 8)) 0)) = true
          · replace hv := iteT hv hb14
            refine sF rfl rfl hb14 ?_
            refine sF rfl rfl hb14 ?_
            refine sF rfl rfl hb14 ?_
            refine sF rfl rfl hb14 ?_
            refine sF rfl rfl hb14 ?_
            refine sN (oPkT (congrArg LV.bool hb14) (v := (.bool _)) rfl ?_)
            obtain rfl := Option.some.inj hv
            exact s0 (Wk.to (eC rfl (eC rfl (eC rfl (eC rfl eN)))) mN rfl (prK rfl))
          · replace hb14 := bF hb14
            replace hv := iteF hv hb14
            refine sT rfl (congrArg LV.bool hb14) (oM (v := (.lst _ _)) rfl ?_)
            obtain ⟨x15, hx15, hv⟩ := bindS hv
            refine sT rfl (congrArg LV.bool hb14) (oIx (f := GAttendance.lv) te47 tk54 ts54 rfl rfl GAttendance.ok hx15 rfl ?_)
            refine sT rfl (congrArg LV.bool hb14) (oFaS tf54_1 tk3 ts3 rfl rfl rfl ?_)
            refine sT rfl (congrArg LV.bool hb14) (oLd rfl tk3 ta3 ?_)
            refine sT rfl (congrArg LV.bool hb14) (oNe rfl rfl ?_)
            refine sN (oPkF (congrArg LV.bool hb14) (v := (.bool _)) rfl ?_)
            obtain rfl := Option.some.inj hv
            exact s0 (Wk.to (eC rfl (eC rfl (eC rfl (eC rfl eN)))) mN rfl (prK rfl))
  clear hv
  refine LH.cond (t := w9) rfl (fun hc16 => ?_) (fun hc16 => ?_)
  · replace h := iteT h hc16
    refine LH.seqT [(4, .bool false)] [] rfl ?_ ?_
    · refine sN (oA (v := (.bool _)) rfl ?_)
      exact s0 (Wk.to (eC rfl eN) mN rfl (prK rfl))
    refine LH.ret ?_
    refine thenR ?_
    obtain rfl := Option.some.inj h
    exact retE (congrArg Array.toList Try.results6) (lrT rfl (lr0 ⟨memN mN, rfl, prK rfl, Sub.rfl⟩))
  replace h := iteF h hc16
  refine LH.skip ?_
  refine thenN ?_
  refine LH.wk (Wk.to (el := [(1, .int .i64 p1), (8, .lst 5 (List.map GAttendance.lv r7.1)), (9, .lst 3 (List.map GRefusal.lv r7.2.1))]) (ml := []) (eC rfl (eC rfl (eC rfl eN))) mN rfl (prK rfl)) ?_
  refine LH.seq ?_
  refine LH.seqT [(1, .int .i64 p1), (8, .lst 5 (List.map GAttendance.lv r7.1)), (9, .lst 3 (List.map GRefusal.lv r7.2.1)), (11, .int .i64 0)] [] rfl ?_ ?_
  · refine sN (oA (v := (.int _ _)) rfl ?_)
    exact s0 (Wk.to (eC rfl (eC rfl (eC rfl (eC rfl eN)))) mN rfl (prK rfl))
  refine LH.block ?_
  refine LH.loop (fun n e m => ∃ (n17 : Int), law16_AttendanceIncidents_L2 F p1 r7 n n17 = some r ∧ e = Env.of [(1, .int .i64 p1), (8, .lst 5 (List.map GAttendance.lv r7.1)), (9, .lst 3 (List.map GRefusal.lv r7.2.1)), (11, .int .i64 n17)] ∧ m = Mem.of []) F ⟨0, h, rfl, rfl⟩ ?_
  clear h
  rintro n e m ⟨n17, h, rfl, rfl⟩
  rcases n with _ | n
  · cases (show Option.none = some _ from h)
  obtain ⟨rec2, hrec2⟩ : ∃ f, f = law16_AttendanceIncidents_L2 F p1 r7 n := ⟨_, rfl⟩
  replace h : law16_AttendanceIncidents_L2_B F p1 r7 rec2 n17 = some r := hrec2 ▸ h
  unfold law16_AttendanceIncidents_L2_B at h
  refine LH.seq ?_
  obtain ⟨x18, hx18, h⟩ := bindS h
  refine LH.seqT [(1, .int .i64 p1), (8, .lst 5 (List.map GAttendance.lv r7.1)), (9, .lst 3 (List.map GRefusal.lv r7.2.1)), (11, .int .i64 n17), (80, .bool (decide (n17 < (x18.Incidents.length : Int))))] [] rfl ?_ ?_
  · refine sN (oM (v := (.int _ _)) rfl ?_)
    refine sN (oM (v := (.lst _ _)) rfl ?_)
    refine sN (oIx (f := GAttendance.lv) te47 tk54 ts54 rfl rfl GAttendance.ok hx18 rfl ?_)
    refine sN (oFaS tf54_4 tk22 ts22 rfl rfl rfl ?_)
    refine sN (oLd rfl tk22 ta22 ?_)
    refine sN (oLnL (f := (LV.int .i64)) te22 rfl ?_)
    refine sN (oLt rfl rfl ?_)
    exact s0 (Wk.to (eC rfl (eC rfl (eC rfl (eC rfl (eC rfl eN))))) mN rfl (prK rfl))
  refine LH.cond (t := (decide (n17 < (x18.Incidents.length : Int)))) rfl (fun hc19 => ?_) (fun hc19 => ?_)
  · replace h := iteT h hc19
    refine LH.skip ?_
    refine thenN ?_
    refine LH.wk (Wk.to (el := [(1, .int .i64 p1), (8, .lst 5 (List.map GAttendance.lv r7.1)), (9, .lst 3 (List.map GRefusal.lv r7.2.1)), (11, .int .i64 n17)]) (ml := []) (eC rfl (eC rfl (eC rfl (eC rfl eN)))) mN rfl (prK rfl)) ?_
    refine LH.seq ?_
    refine LH.block ?_
    obtain ⟨x20, hx20, h⟩ := bindS h
    obtain ⟨x21, hx21, h⟩ := bindS h
    obtain ⟨r22, hr22, h⟩ := bindS h
    refine LH.seqJM mixed [] [0, 0, 0, 0, 0, 0, 0, 0, 0, 0, 0, 0] [(1, .int .i64 p1), (8, .lst 5 (List.map GAttendance.lv r7.1)), (9, .lst 3 (List.map GRefusal.lv r7.2.1)), (11, .int .i64 n17), (94, .bool (x21 != (i64 (n17 + r22))))] [] rfl rfl (by kernel_rfl) ?_ ?_
    · refine mN0 (oM (v := (.lst _ _)) rfl ⟨rfl, ?_⟩)
      refine mN0 (oIx (f := GAttendance.lv) te47 tk54 ts54 rfl rfl GAttendance.ok hx20 rfl ⟨rfl, ?_⟩)
      refine mN0 (oFaS tf54_4 tk22 ts22 rfl rfl rfl ⟨rfl, ?_⟩)
      refine mN0 (oLd rfl tk22 ta22 ⟨rfl, ?_⟩)
      refine mN0 (oM (v := (.int _ _)) rfl ⟨rfl, ?_⟩)
      refine mN0 (oIx (f := (LV.int .i64)) te22 tk3 ts3 rfl rfl okI hx21 rfl ⟨rfl, ?_⟩)
      refine mN0 (oLd rfl tk3 ta3 ⟨rfl, ?_⟩)
      refine mN0 (oM (v := (.int _ _)) rfl ⟨rfl, ?_⟩)
      refine mN0 (oM (v := (.int _ _)) rfl ⟨rfl, ?_⟩)
      refine mN0 (oCP (args := [.int .i64 p1, .int .i64 500]) rfl isF19 rfl (sbR (sbR sbN)) (make_Cut_ok hr22) rfl ⟨rfl, ?_⟩)
      refine mN0 (oAdd rfl rfl ⟨rfl, ?_⟩)
      refine mN0 (oNe rfl rfl ⟨rfl, ?_⟩)
      exact m0 (Wk.to (eC rfl (eC rfl (eC rfl (eC rfl (eC rfl eN))))) mN rfl (prK rfl))
    refine LH.cond (t := (x21 != (i64 (n17 + r22)))) rfl (fun hc23 => ?_) (fun hc23 => ?_)
    · replace h := iteT h hc23
      refine LH.seqT [(4, .bool false)] [] rfl ?_ ?_
      · refine sN (oA (v := (.bool _)) rfl ?_)
        exact s0 (Wk.to (eC rfl eN) mN rfl (prK rfl))
      refine LH.ret ?_
      refine blockR ?_
      refine thenR ?_
      refine roundR ?_
      refine blockR ?_
      refine thenR ?_
      obtain rfl := Option.some.inj h
      exact retE (congrArg Array.toList Try.results6) (lrT rfl (lr0 ⟨memN mN, rfl, prK rfl, Sub.rfl⟩))
    replace h := iteF h hc23
    refine LH.skip ?_
    refine blockN ?_
    refine thenN ?_
    refine LH.wk (Wk.to (el := [(1, .int .i64 p1), (8, .lst 5 (List.map GAttendance.lv r7.1)), (9, .lst 3 (List.map GRefusal.lv r7.2.1)), (11, .int .i64 n17)]) (ml := []) (eC rfl (eC rfl (eC rfl (eC rfl eN)))) mN rfl (prK rfl)) ?_
    refine LH.loneT [(1, .int .i64 p1), (8, .lst 5 (List.map GAttendance.lv r7.1)), (9, .lst 3 (List.map GRefusal.lv r7.2.1)), (11, .int .i64 (i64 (n17 + 1)))] [] rfl ?_ ?_
    · refine sN (oM (v := (.int _ _)) rfl ?_)
      refine sN (oAdd rfl rfl ?_)
      refine sN (oA (v := (.int _ _)) rfl ?_)
      exact s0 (Wk.to (eC rfl (eC rfl (eC rfl (eC rfl eN)))) mN rfl (prK rfl))
    exact roundN (e' := Env.of [(1, .int .i64 p1), (8, .lst 5 (List.map GAttendance.lv r7.1)), (9, .lst 3 (List.map GRefusal.lv r7.2.1)), (11, .int .i64 (i64 (n17 + 1)))]) (m' := Mem.of []) (Wk.to (eC rfl (eC rfl (eC rfl (eC rfl eN)))) mN rfl (prK rfl)) ⟨(i64 (n17 + 1)), hrec2 ▸ h, rfl, rfl⟩
  replace h := iteF h hc19
  refine LH.exit ?_
  refine thenX ?_
  refine roundX ?_
  refine blockH ?_
  refine thenN ?_
  refine LH.wk (Wk.to (el := [(9, .lst 3 (List.map GRefusal.lv r7.2.1))]) (ml := []) (eC rfl eN) mN rfl (prK rfl)) ?_
  refine LH.seq ?_
  refine LH.seqT [(9, .lst 3 (List.map GRefusal.lv r7.2.1)), (12, .int .i64 0)] [] rfl ?_ ?_
  · refine sN (oA (v := (.int _ _)) rfl ?_)
    exact s0 (Wk.to (eC rfl (eC rfl eN)) mN rfl (prK rfl))
  refine LH.block ?_
  refine LH.loop (fun n e m => ∃ (n24 : Int), law16_AttendanceIncidents_L3 F r7 n n24 = some r ∧ e = Env.of [(9, .lst 3 (List.map GRefusal.lv r7.2.1)), (12, .int .i64 n24)] ∧ m = Mem.of []) F ⟨0, h, rfl, rfl⟩ ?_
  clear h
  rintro n e m ⟨n24, h, rfl, rfl⟩
  rcases n with _ | n
  · cases (show Option.none = some _ from h)
  obtain ⟨rec3, hrec3⟩ : ∃ f, f = law16_AttendanceIncidents_L3 F r7 n := ⟨_, rfl⟩
  replace h : law16_AttendanceIncidents_L3_B F r7 rec3 n24 = some r := hrec3 ▸ h
  unfold law16_AttendanceIncidents_L3_B at h
  refine LH.seq ?_
  refine LH.seqT [(9, .lst 3 (List.map GRefusal.lv r7.2.1)), (12, .int .i64 n24), (98, .bool (decide (n24 < (r7.2.1.length : Int))))] [] rfl ?_ ?_
  · refine sN (oM (v := (.int _ _)) rfl ?_)
    refine sN (oM (v := (.lst _ _)) rfl ?_)
    refine sN (oLnL (f := GRefusal.lv) te48 rfl ?_)
    refine sN (oLt rfl rfl ?_)
    exact s0 (Wk.to (eC rfl (eC rfl (eC rfl eN))) mN rfl (prK rfl))
  refine LH.cond (t := (decide (n24 < (r7.2.1.length : Int)))) rfl (fun hc25 => ?_) (fun hc25 => ?_)
  · replace h := iteT h hc25
    refine LH.skip ?_
    refine thenN ?_
    refine LH.wk (Wk.to (el := [(9, .lst 3 (List.map GRefusal.lv r7.2.1)), (12, .int .i64 n24)]) (ml := []) (eC rfl (eC rfl eN)) mN rfl (prK rfl)) ?_
    refine LH.seq ?_
    refine LH.block ?_
    obtain ⟨x26, hx26, h⟩ := bindS h
    refine LH.seqT [(9, .lst 3 (List.map GRefusal.lv r7.2.1)), (12, .int .i64 n24), (109, .bool (!(decide (x26 = (GRefusal.mk (GIdentity.mk 2 (i64 (8 + n24))) 3)))))] [] rfl ?_ ?_
    · refine sN (oM (v := (.lst _ _)) rfl ?_)
      refine sN (oM (v := (.int _ _)) rfl ?_)
      refine sN (oIx (f := GRefusal.lv) te48 tk58 ts58 rfl rfl GRefusal.ok hx26 rfl ?_)
      refine sN (oLdA rfl tk58 ta58 ts58 rfl rfl ?_)
      refine sN (oM (v := (.int _ _)) rfl ?_)
      refine sN (oAdd rfl rfl ?_)
      refine sN (oBd (vs := [(0, .int .i64 2), (1, .int .i64 (i64 (8 + n24)))]) tu56 tz56 rfl (lf tf56_0 ts3 tk3 rfl rfl rfl (lf tf56_1 ts3 tk3 rfl rfl rfl lf0)) ?_)
      refine sN (oBd (vs := [(0, .agg [.int .i64 2, .int .i64 (i64 (8 + n24))]), (1, .int .i64 3)]) tu58 tz58 rfl (lf tf58_0 ts56 tk56 rfl rfl rfl (lf tf58_1 ts27 tk27 rfl rfl rfl lf0)) ?_)
      refine sN (oNeA rfl rfl (ae58 x26 (GRefusal.mk (GIdentity.mk 2 (i64 (8 + n24))) 3)) ?_)
      exact s0 (Wk.to (eC rfl (eC rfl (eC rfl eN))) mN rfl (prK rfl))
    refine LH.cond (t := (!(decide (x26 = (GRefusal.mk (GIdentity.mk 2 (i64 (8 + n24))) 3))))) rfl (fun hc27 => ?_) (fun hc27 => ?_)
    · replace h := iteT h hc27
      refine LH.seqT [(4, .bool false)] [] rfl ?_ ?_
      · refine sN (oA (v := (.bool _)) rfl ?_)
        exact s0 (Wk.to (eC rfl eN) mN rfl (prK rfl))
      refine LH.ret ?_
      refine blockR ?_
      refine thenR ?_
      refine roundR ?_
      refine blockR ?_
      refine thenR ?_
      obtain rfl := Option.some.inj h
      exact retE (congrArg Array.toList Try.results6) (lrT rfl (lr0 ⟨memN mN, rfl, prK rfl, Sub.rfl⟩))
    replace h := iteF h hc27
    refine LH.skip ?_
    refine blockN ?_
    refine thenN ?_
    refine LH.wk (Wk.to (el := [(9, .lst 3 (List.map GRefusal.lv r7.2.1)), (12, .int .i64 n24)]) (ml := []) (eC rfl (eC rfl eN)) mN rfl (prK rfl)) ?_
    refine LH.loneT [(9, .lst 3 (List.map GRefusal.lv r7.2.1)), (12, .int .i64 (i64 (n24 + 1)))] [] rfl ?_ ?_
    · refine sN (oM (v := (.int _ _)) rfl ?_)
      refine sN (oAdd rfl rfl ?_)
      refine sN (oA (v := (.int _ _)) rfl ?_)
      exact s0 (Wk.to (eC rfl (eC rfl eN)) mN rfl (prK rfl))
    exact roundN (e' := Env.of [(9, .lst 3 (List.map GRefusal.lv r7.2.1)), (12, .int .i64 (i64 (n24 + 1)))]) (m' := Mem.of []) (Wk.to (eC rfl (eC rfl eN)) mN rfl (prK rfl)) ⟨(i64 (n24 + 1)), hrec3 ▸ h, rfl, rfl⟩
  replace h := iteF h hc25
  refine LH.exit ?_
  refine thenX ?_
  refine roundX ?_
  refine blockH ?_
  refine thenN ?_
  refine LH.wk (Wk.to (el := []) (ml := []) eN mN rfl (prK rfl)) ?_
  obtain ⟨r28, hr28, h⟩ := bindS h
  refine LH.seqT [(4, .bool r28)] [] rfl ?_ ?_
  · refine sN (oCP (args := []) rfl isF17 rfl sbN (law16_awake_ok hr28) rfl ?_)
    refine sN (oA (v := (.bool _)) rfl ?_)
    exact s0 (Wk.to (eC rfl eN) mN rfl (prK rfl))
  refine LH.ret ?_
  obtain rfl := Option.some.inj h
  exact retE (congrArg Array.toList Try.results6) (lrT rfl (lr0 ⟨memN mN, rfl, prK rfl, Sub.rfl⟩))

end Go.Proofs.Ytapnjifcfljmmaa
