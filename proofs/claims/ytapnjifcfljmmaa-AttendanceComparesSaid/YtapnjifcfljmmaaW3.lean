/- Walks, printed by program (gen.py): each function computes its plain function. -/
import Derived.Test.YtapnjifcfljmmaaW2
set_option linter.unusedVariables false
set_option linter.unusedSimpArgs false
set_option maxRecDepth 100000
namespace Go.Proofs.Ytapnjifcfljmmaa
open Go.L Go.Sh
theorem ref16_Fold_ok {F : Nat} {p0 : List GEnrolment} {p1 : List GRegisterEvent} {p2 : Int} {r : List GAttendance × List GRefusal × Int} (h : ref16_Fold F p0 p1 p2 = some r) : LCall Try.prog 23 [.lst 4 (List.map GEnrolment.lv p0), .lst 6 (List.map GRegisterEvent.lv p1), .int .i64 p2] (Mem.of []) (.tup [.lst 5 (List.map GAttendance.lv r.1), .lst 3 (List.map GRefusal.lv r.2.1), .int .i64 r.2.2]) (Mem.of []) := by
  unfold ref16_Fold at h
  refine bodyT Try.func23 rfl (by rw [Try.ntmps23]; exact Nat.le_of_ble_eq_true rfl) ?_
  refine LH.wk (Wk.to (el := [(0, .lst 4 (List.map GEnrolment.lv p0)), (1, .lst 6 (List.map GRegisterEvent.lv p1)), (2, .int .i64 p2)]) (ml := []) (eC rfl (eC rfl (eC rfl eN))) mN rfl (prK rfl)) ?_
  refine LH.seqT [(0, .lst 4 (List.map GEnrolment.lv p0)), (1, .lst 6 (List.map GRegisterEvent.lv p1)), (2, .int .i64 p2)] [] rfl ?_ ?_
  · refine sN (oA (v := .nil) rfl ?_)
    refine sN (oA (v := .nil) rfl ?_)
    refine sN (oA (v := (.int _ _)) rfl ?_)
    exact s0 (Wk.to (eC rfl (eC rfl (eC rfl eN))) mN rfl (prK rfl))
  refine LH.seq ?_
  obtain ⟨r1, hr1, h⟩ := bindS h
  refine LH.seqT [(0, .lst 4 (List.map GEnrolment.lv p0)), (1, .lst 6 (List.map GRegisterEvent.lv p1)), (2, .int .i64 p2), (9, .int .i64 r1)] [] rfl ?_ ?_
  · refine sN (oM (v := (.lst _ _)) rfl ?_)
    refine sN (oCP (args := [.lst 4 (List.map GEnrolment.lv p0)]) rfl isF21 rfl (sbR sbN) (ref16_Check_ok hr1) rfl ?_)
    refine sN (oA (v := (.int _ _)) rfl ?_)
    exact s0 (Wk.to (eC rfl (eC rfl (eC rfl (eC rfl eN)))) mN rfl (prK rfl))
  refine LH.seqT [(0, .lst 4 (List.map GEnrolment.lv p0)), (1, .lst 6 (List.map GRegisterEvent.lv p1)), (2, .int .i64 p2), (9, .int .i64 r1), (21, .bool (r1 != 0))] [] rfl ?_ ?_
  · refine sN (oM (v := (.int _ _)) rfl ?_)
    refine sN (oNe rfl rfl ?_)
    exact s0 (Wk.to (eC rfl (eC rfl (eC rfl (eC rfl (eC rfl eN))))) mN rfl (prK rfl))
  refine LH.cond (t := (r1 != 0)) rfl (fun hc2 => ?_) (fun hc2 => ?_)
  · replace h := iteT h hc2
    refine LH.seqT [(6, .nil), (7, .nil), (8, .int .i64 r1)] [] rfl ?_ ?_
    · refine sN (oM (v := (.int _ _)) rfl ?_)
      refine sN (oA (v := .nil) rfl ?_)
      refine sN (oA (v := .nil) rfl ?_)
      refine sN (oA (v := (.int _ _)) rfl ?_)
      exact s0 (Wk.to (eC rfl (eC rfl (eC rfl eN))) mN rfl (prK rfl))
    refine LH.ret ?_
    refine thenR ?_
    obtain rfl := Option.some.inj h
    exact retE (congrArg Array.toList Try.results23) (lrT rfl (lrT rfl (lrT rfl (lr0 ⟨memN mN, rfl, prK rfl, (Sub.tup (sbL (sbL (sbR sbN))))⟩))))
  replace h := iteF h hc2
  refine LH.skip ?_
  refine thenN ?_
  refine LH.wk (Wk.to (el := [(0, .lst 4 (List.map GEnrolment.lv p0)), (1, .lst 6 (List.map GRegisterEvent.lv p1)), (2, .int .i64 p2)]) (ml := []) (eC rfl (eC rfl (eC rfl eN))) mN rfl (prK rfl)) ?_
  obtain ⟨r3, hr3, h⟩ := bindS h
  refine LH.seqT [(0, .lst 4 (List.map GEnrolment.lv p0)), (2, .int .i64 p2), (10, .lst 6 (List.map GRegisterEvent.lv r3.1)), (11, .int .i64 r3.2)] [] rfl ?_ ?_
  · refine sN (oM (v := (.lst _ _)) rfl ?_)
    refine sN (oCP (args := [.lst 6 (List.map GRegisterEvent.lv p1)]) rfl isF14 rfl (sbR sbN) (ref16_Canonical_ok hr3) rfl ?_)
    refine sN (oM (v := (.tup _)) rfl ?_)
    refine sN (oEx rfl rfl ?_)
    refine sN (oEx rfl rfl ?_)
    refine sN (oA (v := (.lst _ _)) rfl ?_)
    refine sN (oA (v := (.int _ _)) rfl ?_)
    exact s0 (Wk.to (eC rfl (eC rfl (eC rfl (eC rfl eN)))) mN rfl (prK rfl))
  refine LH.seq ?_
  refine LH.seqT [(0, .lst 4 (List.map GEnrolment.lv p0)), (2, .int .i64 p2), (10, .lst 6 (List.map GRegisterEvent.lv r3.1)), (11, .int .i64 r3.2), (29, .bool (r3.2 != 0))] [] rfl ?_ ?_
  · refine sN (oM (v := (.int _ _)) rfl ?_)
    refine sN (oNe rfl rfl ?_)
    exact s0 (Wk.to (eC rfl (eC rfl (eC rfl (eC rfl (eC rfl eN))))) mN rfl (prK rfl))
  refine LH.cond (t := (r3.2 != 0)) rfl (fun hc4 => ?_) (fun hc4 => ?_)
  · replace h := iteT h hc4
    refine LH.seqT [(6, .nil), (7, .nil), (8, .int .i64 r3.2)] [] rfl ?_ ?_
    · refine sN (oM (v := (.int _ _)) rfl ?_)
      refine sN (oA (v := .nil) rfl ?_)
      refine sN (oA (v := .nil) rfl ?_)
      refine sN (oA (v := (.int _ _)) rfl ?_)
      exact s0 (Wk.to (eC rfl (eC rfl (eC rfl eN))) mN rfl (prK rfl))
    refine LH.ret ?_
    refine thenR ?_
    obtain rfl := Option.some.inj h
    exact retE (congrArg Array.toList Try.results23) (lrT rfl (lrT rfl (lrT rfl (lr0 ⟨memN mN, rfl, prK rfl, (Sub.tup (sbL (sbL (sbR sbN))))⟩))))
  replace h := iteF h hc4
  refine LH.skip ?_
  refine thenN ?_
  refine LH.wk (Wk.to (el := [(0, .lst 4 (List.map GEnrolment.lv p0)), (2, .int .i64 p2), (10, .lst 6 (List.map GRegisterEvent.lv r3.1))]) (ml := []) (eC rfl (eC rfl (eC rfl eN))) mN rfl (prK rfl)) ?_
  refine LH.seqT [(0, .lst 4 (List.map GEnrolment.lv p0)), (2, .int .i64 p2), (10, .lst 6 (List.map GRegisterEvent.lv r3.1)), (12, .nil)] [] rfl ?_ ?_
  · refine sN (oA (v := .nil) rfl ?_)
    exact s0 (Wk.to (eC rfl (eC rfl (eC rfl (eC rfl eN)))) mN rfl (prK rfl))
  refine LH.seq ?_
  refine LH.seqT [(0, .lst 4 (List.map GEnrolment.lv p0)), (2, .int .i64 p2), (10, .lst 6 (List.map GRegisterEvent.lv r3.1)), (12, .nil), (13, .int .i64 0)] [] rfl ?_ ?_
  · refine sN (oA (v := (.int _ _)) rfl ?_)
    exact s0 (Wk.to (eC rfl (eC rfl (eC rfl (eC rfl (eC rfl eN))))) mN rfl (prK rfl))
  refine LH.block ?_
  refine LH.wk ((Wk.trans (Wk.to (el := [(0, .lst 4 (List.map GEnrolment.lv p0)), (2, .int .i64 p2), (10, .lst 6 (List.map GRegisterEvent.lv r3.1)), (12, .nil), (13, .int .i64 0)]) (ml := []) (eC rfl (eC rfl (eC rfl (eC rfl (eC rfl eN))))) mN rfl (prK rfl)) (Wk.trans (Wk.to (el := [(0, .lst 4 (List.map GEnrolment.lv p0)), (2, .int .i64 p2), (10, .lst 6 (List.map GRegisterEvent.lv r3.1)), (12, .nil), (13, .int .i64 0)]) (ml := []) (eC rfl (eC rfl (eC rfl (eC rfl (eC rfl eN))))) mN rfl (prK rfl)) (Wk.trans (Wk.ownL (el' := [(0, .lst 4 (List.map GEnrolment.lv p0)), (2, .int .i64 p2), (10, .lst 6 (List.map GRegisterEvent.lv r3.1)), (12, .arr 146 (List.length ([] : List GAttendance))), (13, .int .i64 0)]) 146 54 5 rfl rfl (wK (wK (wK (wO (wK wN)))))) (Wk.to (el := [(0, .lst 4 (List.map GEnrolment.lv p0)), (2, .int .i64 p2), (10, .lst 6 (List.map GRegisterEvent.lv r3.1)), (12, .arr 146 (List.length ([] : List GAttendance))), (13, .int .i64 0)]) (ml := [(146, .arr 54 5 (List.map GAttendance.lv ([] : List GAttendance)))]) (eC rfl (eC rfl (eC rfl (eC rfl (eC rfl eN))))) (mC rfl mN) rfl (prK rfl)))))) ?_
  refine LH.loop (fun n e m => ∃ (n5 : Int) (l6 : List GAttendance), ref16_Fold_L1 F p0 p2 r3 n n5 l6 = some r ∧ e = Env.of [(0, .lst 4 (List.map GEnrolment.lv p0)), (2, .int .i64 p2), (10, .lst 6 (List.map GRegisterEvent.lv r3.1)), (12, .arr 146 (List.length l6)), (13, .int .i64 n5)] ∧ m = Mem.of [(146, .arr 54 5 (List.map GAttendance.lv l6))]) F ⟨0, ([] : List GAttendance), h, rfl, rfl⟩ ?_
  clear h
  rintro n e m ⟨n5, l6, h, rfl, rfl⟩
  rcases n with _ | n
  · cases (show Option.none = some _ from h)
  obtain ⟨rec1, hrec1⟩ : ∃ f, f = ref16_Fold_L1 F p0 p2 r3 n := ⟨_, rfl⟩
  replace h : ref16_Fold_L1_B F p0 p2 r3 rec1 n5 l6 = some r := hrec1 ▸ h
  unfold ref16_Fold_L1_B at h
  refine LH.seq ?_
  refine LH.seqT [(0, .lst 4 (List.map GEnrolment.lv p0)), (2, .int .i64 p2), (10, .lst 6 (List.map GRegisterEvent.lv r3.1)), (12, .arr 146 (List.length l6)), (13, .int .i64 n5), (34, .bool (decide (n5 < (p0.length : Int))))] [(146, .arr 54 5 (List.map GAttendance.lv l6))] rfl ?_ ?_
  · refine sN (oM (v := (.int _ _)) rfl ?_)
    refine sN (oM (v := (.lst _ _)) rfl ?_)
    refine sN (oLnL (f := GEnrolment.lv) te38 rfl ?_)
    refine sN (oLt rfl rfl ?_)
    exact s0 (Wk.to (eC rfl (eC rfl (eC rfl (eC rfl (eC rfl (eC rfl eN)))))) (mC rfl mN) rfl (prK rfl))
  refine LH.cond (t := (decide (n5 < (p0.length : Int)))) rfl (fun hc7 => ?_) (fun hc7 => ?_)
  · replace h := iteT h hc7
    refine LH.skip ?_
    refine thenN ?_
    refine LH.wk (Wk.to (el := [(0, .lst 4 (List.map GEnrolment.lv p0)), (2, .int .i64 p2), (10, .lst 6 (List.map GRegisterEvent.lv r3.1)), (12, .arr 146 (List.length l6)), (13, .int .i64 n5)]) (ml := [(146, .arr 54 5 (List.map GAttendance.lv l6))]) (eC rfl (eC rfl (eC rfl (eC rfl (eC rfl eN))))) (mC rfl mN) rfl (prK rfl)) ?_
    refine LH.seq ?_
    refine LH.block ?_
    obtain ⟨x8, hx8, h⟩ := bindS h
    obtain ⟨v9, hv9, h⟩ := bindS h
    refine LH.loneT [(0, .lst 4 (List.map GEnrolment.lv p0)), (2, .int .i64 p2), (10, .lst 6 (List.map GRegisterEvent.lv r3.1)), (12, .arr 146 (List.length v9)), (13, .int .i64 n5)] [(146, .arr 54 5 (List.map GAttendance.lv v9))] rfl ?_ ?_
    · refine sN (oM (v := (.arr _ _)) rfl ?_)
      refine sN (oM (v := (.lst _ _)) rfl ?_)
      refine sN (oM (v := (.int _ _)) rfl ?_)
      refine sN (oIx (f := GEnrolment.lv) te38 tk44 ts44 rfl rfl GEnrolment.ok hx8 rfl ?_)
      refine sN (oFaS tf44_0 tk42 ts42 rfl rfl rfl ?_)
      refine sN (oFaS tf42_0 tk3 ts3 rfl rfl rfl ?_)
      refine sN (oLd rfl tk3 ta3 ?_)
      refine sN (oBd (vs := [(0, .int .i64 x8.Entry.Candidate), (2, .int .i64 (-1)), (3, .int .i64 (-1))]) tu54 tz54 rfl (lf tf54_0 ts3 tk3 rfl rfl rfl (lf tf54_2 ts3 tk3 rfl rfl rfl (lf tf54_3 ts3 tk3 rfl rfl rfl lf0))) ?_)
      refine sX (ok_bs1 (f := GAttendance.lv) (GAttendance.mk x8.Entry.Candidate 0 (-1) (-1) []) te47 tr54 ts54 rfl (Sub.agg (sbR (sbR (sbR (sbR (sbL sbN)))))) GAttendance.ok) ?_
      refine sN (oAp (f := GAttendance.lv) te47 tr54 ts54 rfl rfl (prN rfl) rfl hv9 ?_)
      refine sN (oA (v := (.arr _ _)) rfl ?_)
      exact s0 (Wk.to (eC rfl (eC rfl (eC rfl (eC rfl (eC rfl eN))))) (mC rfl mN) rfl (prK rfl))
    refine blockN ?_
    refine thenN ?_
    refine LH.loneT [(0, .lst 4 (List.map GEnrolment.lv p0)), (2, .int .i64 p2), (10, .lst 6 (List.map GRegisterEvent.lv r3.1)), (12, .arr 146 (List.length v9)), (13, .int .i64 (i64 (n5 + 1)))] [(146, .arr 54 5 (List.map GAttendance.lv v9))] rfl ?_ ?_
    · refine sN (oM (v := (.int _ _)) rfl ?_)
      refine sN (oAdd rfl rfl ?_)
      refine sN (oA (v := (.int _ _)) rfl ?_)
      exact s0 (Wk.to (eC rfl (eC rfl (eC rfl (eC rfl (eC rfl eN))))) (mC rfl mN) rfl (prK rfl))
    exact roundN (e' := Env.of [(0, .lst 4 (List.map GEnrolment.lv p0)), (2, .int .i64 p2), (10, .lst 6 (List.map GRegisterEvent.lv r3.1)), (12, .arr 146 (List.length v9)), (13, .int .i64 (i64 (n5 + 1)))]) (m' := Mem.of [(146, .arr 54 5 (List.map GAttendance.lv v9))]) (Wk.to (eC rfl (eC rfl (eC rfl (eC rfl (eC rfl eN))))) (mC rfl mN) rfl (prK rfl)) ⟨(i64 (n5 + 1)), v9, hrec1 ▸ h, rfl, rfl⟩
  replace h := iteF h hc7
  refine LH.exit ?_
  refine thenX ?_
  refine roundX ?_
  refine blockH ?_
  refine thenN ?_
  refine LH.wk (Wk.to (el := [(0, .lst 4 (List.map GEnrolment.lv p0)), (2, .int .i64 p2), (10, .lst 6 (List.map GRegisterEvent.lv r3.1)), (12, .arr 146 (List.length l6))]) (ml := [(146, .arr 54 5 (List.map GAttendance.lv l6))]) (eC rfl (eC rfl (eC rfl (eC rfl eN)))) (mC rfl mN) rfl (prK rfl)) ?_
  refine LH.seqT [(0, .lst 4 (List.map GEnrolment.lv p0)), (2, .int .i64 p2), (10, .lst 6 (List.map GRegisterEvent.lv r3.1)), (12, .arr 146 (List.length l6)), (14, .nil)] [(146, .arr 54 5 (List.map GAttendance.lv l6))] rfl ?_ ?_
  · refine sN (oA (v := .nil) rfl ?_)
    exact s0 (Wk.to (eC rfl (eC rfl (eC rfl (eC rfl (eC rfl eN))))) (mC rfl mN) rfl (prK rfl))
  refine LH.seq ?_
  refine LH.seqT [(0, .lst 4 (List.map GEnrolment.lv p0)), (2, .int .i64 p2), (10, .lst 6 (List.map GRegisterEvent.lv r3.1)), (12, .arr 146 (List.length l6)), (14, .nil), (15, .int .i64 0)] [(146, .arr 54 5 (List.map GAttendance.lv l6))] rfl ?_ ?_
  · refine sN (oA (v := (.int _ _)) rfl ?_)
    exact s0 (Wk.to (eC rfl (eC rfl (eC rfl (eC rfl (eC rfl (eC rfl eN)))))) (mC rfl mN) rfl (prK rfl))
  refine LH.block ?_
  refine LH.wk ((Wk.trans (Wk.to (el := [(0, .lst 4 (List.map GEnrolment.lv p0)), (2, .int .i64 p2), (10, .lst 6 (List.map GRegisterEvent.lv r3.1)), (12, .arr 146 (List.length l6)), (14, .nil), (15, .int .i64 0)]) (ml := [(146, .arr 54 5 (List.map GAttendance.lv l6))]) (eC rfl (eC rfl (eC rfl (eC rfl (eC rfl (eC rfl eN)))))) (mC rfl mN) rfl (prK rfl)) (Wk.trans (Wk.to (el := [(0, .lst 4 (List.map GEnrolment.lv p0)), (2, .int .i64 p2), (10, .lst 6 (List.map GRegisterEvent.lv r3.1)), (12, .arr 146 (List.length l6)), (14, .nil), (15, .int .i64 0)]) (ml := [(146, .arr 54 5 (List.map GAttendance.lv l6))]) (eC rfl (eC rfl (eC rfl (eC rfl (eC rfl (eC rfl eN)))))) (mC rfl mN) rfl (prK rfl)) (Wk.trans (Wk.ownL (el' := [(0, .lst 4 (List.map GEnrolment.lv p0)), (2, .int .i64 p2), (10, .lst 6 (List.map GRegisterEvent.lv r3.1)), (12, .arr 146 (List.length l6)), (14, .arr 187 (List.length ([] : List GRefusal))), (15, .int .i64 0)]) 187 58 3 rfl rfl (wK (wK (wK (wK (wO (wK wN))))))) (Wk.to (el := [(0, .lst 4 (List.map GEnrolment.lv p0)), (2, .int .i64 p2), (10, .lst 6 (List.map GRegisterEvent.lv r3.1)), (12, .arr 146 (List.length l6)), (14, .arr 187 (List.length ([] : List GRefusal))), (15, .int .i64 0)]) (ml := [(146, .arr 54 5 (List.map GAttendance.lv l6)), (187, .arr 58 3 (List.map GRefusal.lv ([] : List GRefusal)))]) (eC rfl (eC rfl (eC rfl (eC rfl (eC rfl (eC rfl eN)))))) (mC rfl (mC rfl mN)) rfl (prK rfl)))))) ?_
  refine LH.loop (fun n e m => ∃ (n10 : Int) (l11 : List GAttendance) (l12 : List GRefusal), ref16_Fold_L2 F p0 p2 r3 n n10 l11 l12 = some r ∧ e = Env.of [(0, .lst 4 (List.map GEnrolment.lv p0)), (2, .int .i64 p2), (10, .lst 6 (List.map GRegisterEvent.lv r3.1)), (12, .arr 146 (List.length l11)), (14, .arr 187 (List.length l12)), (15, .int .i64 n10)] ∧ m = Mem.of [(146, .arr 54 5 (List.map GAttendance.lv l11)), (187, .arr 58 3 (List.map GRefusal.lv l12))]) F ⟨0, l6, ([] : List GRefusal), h, rfl, rfl⟩ ?_
  clear h
  rintro n e m ⟨n10, l11, l12, h, rfl, rfl⟩
  rcases n with _ | n
  · cases (show Option.none = some _ from h)
  obtain ⟨rec2, hrec2⟩ : ∃ f, f = ref16_Fold_L2 F p0 p2 r3 n := ⟨_, rfl⟩
  replace h : ref16_Fold_L2_B F p0 p2 r3 rec2 n10 l11 l12 = some r := hrec2 ▸ h
  unfold ref16_Fold_L2_B at h
  refine LH.seq ?_
  refine LH.seqT [(0, .lst 4 (List.map GEnrolment.lv p0)), (2, .int .i64 p2), (10, .lst 6 (List.map GRegisterEvent.lv r3.1)), (12, .arr 146 (List.length l11)), (14, .arr 187 (List.length l12)), (15, .int .i64 n10), (50, .bool (decide (n10 < (r3.1.length : Int))))] [(146, .arr 54 5 (List.map GAttendance.lv l11)), (187, .arr 58 3 (List.map GRefusal.lv l12))] rfl ?_ ?_
  · refine sN (oM (v := (.int _ _)) rfl ?_)
    refine sN (oM (v := (.lst _ _)) rfl ?_)
    refine sN (oLnL (f := GRegisterEvent.lv) te25 rfl ?_)
    refine sN (oLt rfl rfl ?_)
    exact s0 (Wk.to (eC rfl (eC rfl (eC rfl (eC rfl (eC rfl (eC rfl (eC rfl eN))))))) (mC rfl (mC rfl mN)) rfl (prK rfl))
  refine LH.cond (t := (decide (n10 < (r3.1.length : Int)))) rfl (fun hc13 => ?_) (fun hc13 => ?_)
  · replace h := iteT h hc13
    refine LH.skip ?_
    refine thenN ?_
    refine LH.wk (Wk.to (el := [(0, .lst 4 (List.map GEnrolment.lv p0)), (2, .int .i64 p2), (10, .lst 6 (List.map GRegisterEvent.lv r3.1)), (12, .arr 146 (List.length l11)), (14, .arr 187 (List.length l12)), (15, .int .i64 n10)]) (ml := [(146, .arr 54 5 (List.map GAttendance.lv l11)), (187, .arr 58 3 (List.map GRefusal.lv l12))]) (eC rfl (eC rfl (eC rfl (eC rfl (eC rfl (eC rfl eN)))))) (mC rfl (mC rfl mN)) rfl (prK rfl)) ?_
    refine LH.seq ?_
    refine LH.block ?_
    refine LH.seq ?_
    obtain ⟨x14, hx14, h⟩ := bindS h
    refine LH.seqT [(0, .lst 4 (List.map GEnrolment.lv p0)), (2, .int .i64 p2), (10, .lst 6 (List.map GRegisterEvent.lv r3.1)), (12, .arr 146 (List.length l11)), (14, .arr 187 (List.length l12)), (15, .int .i64 n10), (60, .bool (decide (x14.Stamp.Time > p2)))] [(146, .arr 54 5 (List.map GAttendance.lv l11)), (187, .arr 58 3 (List.map GRefusal.lv l12))] rfl ?_ ?_
    · refine sN (oM (v := (.lst _ _)) rfl ?_)
      refine sN (oM (v := (.int _ _)) rfl ?_)
      refine sN (oIx (f := GRegisterEvent.lv) te25 tk33 ts33 rfl rfl GRegisterEvent.ok hx14 rfl ?_)
      refine sN (oFaS tf33_0 tk31 ts31 rfl rfl rfl ?_)
      refine sN (oFaS tf31_0 tk3 ts3 rfl rfl rfl ?_)
      refine sN (oLd rfl tk3 ta3 ?_)
      refine sN (oM (v := (.int _ _)) rfl ?_)
      refine sN (oGt rfl rfl ?_)
      exact s0 (Wk.to (eC rfl (eC rfl (eC rfl (eC rfl (eC rfl (eC rfl (eC rfl eN))))))) (mC rfl (mC rfl mN)) rfl (prK rfl))
    refine LH.cond (t := (decide (x14.Stamp.Time > p2))) rfl (fun hc15 => ?_) (fun hc15 => ?_)
    · replace h := iteT h hc15
      refine LH.exit ?_
      refine thenX ?_
      refine blockH ?_
      refine thenN ?_
      refine LH.wk (Wk.to (el := [(0, .lst 4 (List.map GEnrolment.lv p0)), (2, .int .i64 p2), (10, .lst 6 (List.map GRegisterEvent.lv r3.1)), (12, .arr 146 (List.length l11)), (14, .arr 187 (List.length l12)), (15, .int .i64 n10)]) (ml := [(146, .arr 54 5 (List.map GAttendance.lv l11)), (187, .arr 58 3 (List.map GRefusal.lv l12))]) (eC rfl (eC rfl (eC rfl (eC rfl (eC rfl (eC rfl eN)))))) (mC rfl (mC rfl mN)) rfl (prK rfl)) ?_
      refine LH.loneT [(0, .lst 4 (List.map GEnrolment.lv p0)), (2, .int .i64 p2), (10, .lst 6 (List.map GRegisterEvent.lv r3.1)), (12, .arr 146 (List.length l11)), (14, .arr 187 (List.length l12)), (15, .int .i64 (i64 (n10 + 1)))] [(146, .arr 54 5 (List.map GAttendance.lv l11)), (187, .arr 58 3 (List.map GRefusal.lv l12))] rfl ?_ ?_
      · refine sN (oM (v := (.int _ _)) rfl ?_)
        refine sN (oAdd rfl rfl ?_)
        refine sN (oA (v := (.int _ _)) rfl ?_)
        exact s0 (Wk.to (eC rfl (eC rfl (eC rfl (eC rfl (eC rfl (eC rfl eN)))))) (mC rfl (mC rfl mN)) rfl (prK rfl))
      exact roundN (e' := Env.of [(0, .lst 4 (List.map GEnrolment.lv p0)), (2, .int .i64 p2), (10, .lst 6 (List.map GRegisterEvent.lv r3.1)), (12, .arr 146 (List.length l11)), (14, .arr 187 (List.length l12)), (15, .int .i64 (i64 (n10 + 1)))]) (m' := Mem.of [(146, .arr 54 5 (List.map GAttendance.lv l11)), (187, .arr 58 3 (List.map GRefusal.lv l12))]) (Wk.to (eC rfl (eC rfl (eC rfl (eC rfl (eC rfl (eC rfl eN)))))) (mC rfl (mC rfl mN)) rfl (prK rfl)) ⟨(i64 (n10 + 1)), l11, l12, hrec2 ▸ h, rfl, rfl⟩
    replace h := iteF h hc15
    refine LH.skip ?_
    refine thenN ?_
    refine LH.wk (Wk.to (el := [(0, .lst 4 (List.map GEnrolment.lv p0)), (2, .int .i64 p2), (10, .lst 6 (List.map GRegisterEvent.lv r3.1)), (12, .arr 146 (List.length l11)), (14, .arr 187 (List.length l12)), (15, .int .i64 n10)]) (ml := [(146, .arr 54 5 (List.map GAttendance.lv l11)), (187, .arr 58 3 (List.map GRefusal.lv l12))]) (eC rfl (eC rfl (eC rfl (eC rfl (eC rfl (eC rfl eN)))))) (mC rfl (mC rfl mN)) rfl (prK rfl)) ?_
    refine LH.seq ?_
    obtain ⟨x16, hx16, h⟩ := bindS h
    obtain ⟨r17, hr17, h⟩ := bindS h
    refine LH.seqT [(0, .lst 4 (List.map GEnrolment.lv p0)), (2, .int .i64 p2), (10, .lst 6 (List.map GRegisterEvent.lv r3.1)), (12, .arr 146 (List.length l11)), (14, .arr 187 (List.length l12)), (15, .int .i64 n10), (16, .int .i64 r17)] [(146, .arr 54 5 (List.map GAttendance.lv l11)), (187, .arr 58 3 (List.map GRefusal.lv l12))] rfl ?_ ?_
    · refine sN (oM (v := (.lst _ _)) rfl ?_)
      refine sN (oM (v := (.arr _ _)) rfl ?_)
      refine sN (oM (v := (.lst _ _)) rfl ?_)
      refine sN (oM (v := (.int _ _)) rfl ?_)
      refine sN (oIx (f := GRegisterEvent.lv) te25 tk33 ts33 rfl rfl GRegisterEvent.ok hx16 rfl ?_)
      refine sN (oLdA rfl tk33 ta33 ts33 rfl rfl ?_)
      refine SOps.wk (Wk.to (el := [(0, .lst 4 (List.map GEnrolment.lv p0)), (2, .int .i64 p2), (10, .lst 6 (List.map GRegisterEvent.lv r3.1)), (12, .arr 146 (List.length l11)), (14, .arr 187 (List.length l12)), (15, .int .i64 n10), (61, .lst 4 (List.map GEnrolment.lv p0)), (62, .arr 146 (List.length l11)), (66, .agg [.int .i64 x16.Stamp.Time, .int .i64 x16.Stamp.Source, .int .i64 x16.Stamp.Seq, .int .i64 x16.Kind, .int .i64 x16.Candidate, .int .i64 x16.Minutes])]) (ml := [(146, .arr 54 5 (List.map GAttendance.lv l11)), (187, .arr 58 3 (List.map GRefusal.lv l12))]) (eC rfl (eC rfl (eC rfl (eC rfl (eC rfl (eC rfl (eC rfl (eC rfl (eC rfl eN))))))))) (mC rfl (mC rfl mN)) rfl (prK rfl)) ?_
      refine sN (oCM (args := [.lst 4 (List.map GEnrolment.lv p0), .arr 146 (List.length l11), .agg [.int .i64 x16.Stamp.Time, .int .i64 x16.Stamp.Source, .int .i64 x16.Stamp.Seq, .int .i64 x16.Kind, .int .i64 x16.Candidate, .int .i64 x16.Minutes]]) (ml := [(146, .arr 54 5 (List.map GAttendance.lv l11))]) (ml' := [(146, .arr 54 5 (List.map GAttendance.lv l11))]) rfl isF45 rfl (sbR (sbR (sbR sbN))) (LCall.lend 146 54 5 (xs := List.map GAttendance.lv l11) (ref16_refuses_ok hr17) (.keep rfl (.row (by simp) (.keep rfl .nil))) rfl rfl rfl rfl rfl plN) (mC rfl mN) (newI rfl newN) rfl ?_)
      refine sN (oA (v := (.int _ _)) rfl ?_)
      exact s0 (Wk.to (eC rfl (eC rfl (eC rfl (eC rfl (eC rfl (eC rfl (eC rfl eN))))))) (mC rfl (mC rfl mN)) rfl (prK rfl))
    refine LH.seqT [(0, .lst 4 (List.map GEnrolment.lv p0)), (2, .int .i64 p2), (10, .lst 6 (List.map GRegisterEvent.lv r3.1)), (12, .arr 146 (List.length l11)), (14, .arr 187 (List.length l12)), (15, .int .i64 n10), (16, .int .i64 r17), (69, .bool (r17 != 0))] [(146, .arr 54 5 (List.map GAttendance.lv l11)), (187, .arr 58 3 (List.map GRefusal.lv l12))] rfl ?_ ?_
    · refine sN (oM (v := (.int _ _)) rfl ?_)
      refine sN (oNe rfl rfl ?_)
      exact s0 (Wk.to (eC rfl (eC rfl (eC rfl (eC rfl (eC rfl (eC rfl (eC rfl (eC rfl eN)))))))) (mC rfl (mC rfl mN)) rfl (prK rfl))
    refine LH.cond (t := (r17 != 0)) rfl (fun hc18 => ?_) (fun hc18 => ?_)
    · replace h := iteT h hc18
      obtain ⟨x19, hx19, h⟩ := bindS h
      obtain ⟨x20, hx20, h⟩ := bindS h
      obtain ⟨v21, hv21, h⟩ := bindS h
      refine LH.seqJM mixed [] [0, 0, 0, 0, 0, 0, 0, 0, 0, 0, 0, 0, 0, 0, 0, 0, 0, 2, 0] [(0, .lst 4 (List.map GEnrolment.lv p0)), (2, .int .i64 p2), (10, .lst 6 (List.map GRegisterEvent.lv r3.1)), (12, .arr 146 (List.length l11)), (14, .arr 187 (List.length v21)), (15, .int .i64 n10)] [(146, .arr 54 5 (List.map GAttendance.lv l11)), (187, .arr 58 3 (List.map GRefusal.lv v21))] rfl rfl (by kernel_rfl) ?_ ?_
      · refine mN0 (oM (v := (.arr _ _)) rfl ⟨rfl, ?_⟩)
        refine mN0 (oM (v := (.lst _ _)) rfl ⟨rfl, ?_⟩)
        refine mN0 (oM (v := (.int _ _)) rfl ⟨rfl, ?_⟩)
        refine mN0 (oIx (f := GRegisterEvent.lv) te25 tk33 ts33 rfl rfl GRegisterEvent.ok hx19 rfl ⟨rfl, ?_⟩)
        refine mN0 (oFaS tf33_0 tk31 ts31 rfl rfl rfl ⟨rfl, ?_⟩)
        refine mN0 (oFaS tf31_1 tk3 ts3 rfl rfl rfl ⟨rfl, ?_⟩)
        refine mN0 (oLd rfl tk3 ta3 ⟨rfl, ?_⟩)
        refine mN0 (oM (v := (.lst _ _)) rfl ⟨rfl, ?_⟩)
        refine mN0 (oM (v := (.int _ _)) rfl ⟨rfl, ?_⟩)
        refine mN0 (oIx (f := GRegisterEvent.lv) te25 tk33 ts33 rfl rfl GRegisterEvent.ok hx20 rfl ⟨rfl, ?_⟩)
        refine mN0 (oFaS tf33_0 tk31 ts31 rfl rfl rfl ⟨rfl, ?_⟩)
        refine mN0 (oFaS tf31_2 tk3 ts3 rfl rfl rfl ⟨rfl, ?_⟩)
        refine mN0 (oLd rfl tk3 ta3 ⟨rfl, ?_⟩)
        refine mN0 (oBd (vs := [(0, .int .i64 x19.Stamp.Source), (1, .int .i64 x20.Stamp.Seq)]) tu56 tz56 rfl (lf tf56_0 ts3 tk3 rfl rfl rfl (lf tf56_1 ts3 tk3 rfl rfl rfl lf0)) ⟨rfl, ?_⟩)
        refine mN0 (oM (v := (.int _ _)) rfl ⟨rfl, ?_⟩)
        refine mN0 (oBd (vs := [(0, .agg [.int .i64 x19.Stamp.Source, .int .i64 x20.Stamp.Seq]), (1, .int .i64 r17)]) tu58 tz58 rfl (lf tf58_0 ts56 tk56 rfl rfl rfl (lf tf58_1 ts27 tk27 rfl rfl rfl lf0)) ⟨rfl, ?_⟩)
        refine mN0 (oBS (f := GRefusal.lv) (ys := [(GRefusal.mk (GIdentity.mk x19.Stamp.Source x20.Stamp.Seq) r17)]) te48 tr58 ts58 rfl rfl rfl GRefusal.ok ⟨rfl, ?_⟩)
        refine mN2 (oAp (f := GRefusal.lv) te48 tr58 ts58 rfl rfl (prN rfl) rfl hv21 ?_)
        refine mN0 (oA (v := (.arr _ _)) rfl ⟨rfl, ?_⟩)
        exact m0 (Wk.to (eC rfl (eC rfl (eC rfl (eC rfl (eC rfl (eC rfl eN)))))) (mC rfl (mC rfl mN)) rfl (prK rfl))
      refine LH.exit ?_
      refine thenX ?_
      refine blockH ?_
      refine thenN ?_
      refine LH.loneT [(0, .lst 4 (List.map GEnrolment.lv p0)), (2, .int .i64 p2), (10, .lst 6 (List.map GRegisterEvent.lv r3.1)), (12, .arr 146 (List.length l11)), (14, .arr 187 (List.length v21)), (15, .int .i64 (i64 (n10 + 1)))] [(146, .arr 54 5 (List.map GAttendance.lv l11)), (187, .arr 58 3 (List.map GRefusal.lv v21))] rfl ?_ ?_
      · refine sN (oM (v := (.int _ _)) rfl ?_)
        refine sN (oAdd rfl rfl ?_)
        refine sN (oA (v := (.int _ _)) rfl ?_)
        exact s0 (Wk.to (eC rfl (eC rfl (eC rfl (eC rfl (eC rfl (eC rfl eN)))))) (mC rfl (mC rfl mN)) rfl (prK rfl))
      exact roundN (e' := Env.of [(0, .lst 4 (List.map GEnrolment.lv p0)), (2, .int .i64 p2), (10, .lst 6 (List.map GRegisterEvent.lv r3.1)), (12, .arr 146 (List.length l11)), (14, .arr 187 (List.length v21)), (15, .int .i64 (i64 (n10 + 1)))]) (m' := Mem.of [(146, .arr 54 5 (List.map GAttendance.lv l11)), (187, .arr 58 3 (List.map GRefusal.lv v21))]) (Wk.to (eC rfl (eC rfl (eC rfl (eC rfl (eC rfl (eC rfl eN)))))) (mC rfl (mC rfl mN)) rfl (prK rfl)) ⟨(i64 (n10 + 1)), l11, v21, hrec2 ▸ h, rfl, rfl⟩
    replace h := iteF h hc18
    refine LH.skip ?_
    refine thenN ?_
    refine LH.wk (Wk.to (el := [(0, .lst 4 (List.map GEnrolment.lv p0)), (2, .int .i64 p2), (10, .lst 6 (List.map GRegisterEvent.lv r3.1)), (12, .arr 146 (List.length l11)), (14, .arr 187 (List.length l12)), (15, .int .i64 n10)]) (ml := [(146, .arr 54 5 (List.map GAttendance.lv l11)), (187, .arr 58 3 (List.map GRefusal.lv l12))]) (eC rfl (eC rfl (eC rfl (eC rfl (eC rfl (eC rfl eN)))))) (mC rfl (mC rfl mN)) rfl (prK rfl)) ?_
    obtain ⟨x22, hx22, h⟩ := bindS h
    obtain ⟨r23, hr23, h⟩ := bindS h
    refine LH.seqT [(0, .lst 4 (List.map GEnrolment.lv p0)), (2, .int .i64 p2), (10, .lst 6 (List.map GRegisterEvent.lv r3.1)), (12, .arr 146 (List.length l11)), (14, .arr 187 (List.length l12)), (15, .int .i64 n10), (17, .int .i64 r23)] [(146, .arr 54 5 (List.map GAttendance.lv l11)), (187, .arr 58 3 (List.map GRefusal.lv l12))] rfl ?_ ?_
    · refine sN (oM (v := (.arr _ _)) rfl ?_)
      refine sN (oM (v := (.lst _ _)) rfl ?_)
      refine sN (oM (v := (.int _ _)) rfl ?_)
      refine sN (oIx (f := GRegisterEvent.lv) te25 tk33 ts33 rfl rfl GRegisterEvent.ok hx22 rfl ?_)
      refine sN (oFaS tf33_2 tk3 ts3 rfl rfl rfl ?_)
      refine sN (oLd rfl tk3 ta3 ?_)
      refine SOps.wk (Wk.to (el := [(0, .lst 4 (List.map GEnrolment.lv p0)), (2, .int .i64 p2), (10, .lst 6 (List.map GRegisterEvent.lv r3.1)), (12, .arr 146 (List.length l11)), (14, .arr 187 (List.length l12)), (15, .int .i64 n10), (88, .arr 146 (List.length l11)), (93, .int .i64 x22.Candidate)]) (ml := [(146, .arr 54 5 (List.map GAttendance.lv l11)), (187, .arr 58 3 (List.map GRefusal.lv l12))]) (eC rfl (eC rfl (eC rfl (eC rfl (eC rfl (eC rfl (eC rfl (eC rfl eN)))))))) (mC rfl (mC rfl mN)) rfl (prK rfl)) ?_
      refine sN (oCM (args := [.arr 146 (List.length l11), .int .i64 x22.Candidate]) (ml := [(146, .arr 54 5 (List.map GAttendance.lv l11))]) (ml' := [(146, .arr 54 5 (List.map GAttendance.lv l11))]) rfl isF46 rfl (sbR (sbR sbN)) (LCall.lend 146 54 5 (xs := List.map GAttendance.lv l11) (ref16_Index_ok hr23) (.row (by simp) (.keep rfl .nil)) rfl rfl rfl rfl rfl plN) (mC rfl mN) (newI rfl newN) rfl ?_)
      refine sN (oA (v := (.int _ _)) rfl ?_)
      exact s0 (Wk.to (eC rfl (eC rfl (eC rfl (eC rfl (eC rfl (eC rfl (eC rfl eN))))))) (mC rfl (mC rfl mN)) rfl (prK rfl))
    obtain ⟨x24, hx24, h⟩ := bindS h
    obtain ⟨x25, hx25, h⟩ := bindS h
    obtain ⟨r26, hr26, h⟩ := bindS h
    obtain ⟨x27, hx27, h⟩ := bindS h
    refine LH.loneTM mixed [] [0, 0, 0, 0, 1, 1, 0, 0, 0, 0, 0, 1, 2] [(0, .lst 4 (List.map GEnrolment.lv p0)), (2, .int .i64 p2), (10, .lst 6 (List.map GRegisterEvent.lv r3.1)), (12, .arr 146 (List.length (l11.set r23.toNat r26))), (14, .arr 187 (List.length l12)), (15, .int .i64 n10)] [(146, .arr 54 5 (List.map GAttendance.lv (l11.set r23.toNat r26))), (187, .arr 58 3 (List.map GRefusal.lv l12))] rfl rfl (by kernel_rfl) ?_ ?_
    · refine mN0 (oM (v := (.arr _ _)) rfl ⟨rfl, ?_⟩)
      refine mN0 (oM (v := (.int _ _)) rfl ⟨rfl, ?_⟩)
      refine mN0 (oM (v := (.arr _ _)) rfl ⟨rfl, ?_⟩)
      refine mN0 (oM (v := (.int _ _)) rfl ⟨rfl, ?_⟩)
      refine mN1 (oIxA (f := GAttendance.lv) te47 tk54 ts54 rfl rfl rfl hx24 ⟨rfl, ?_⟩)
      refine mN1 (oLdEA (f := GAttendance.lv) rfl rfl (idxOk hx24).2 rfl rfl tk54 ta54 ts54 rfl rfl ⟨rfl, ?_⟩)
      refine mN0 (oM (v := (.lst _ _)) rfl ⟨rfl, ?_⟩)
      refine mN0 (oM (v := (.int _ _)) rfl ⟨rfl, ?_⟩)
      refine mN0 (oIx (f := GRegisterEvent.lv) te25 tk33 ts33 rfl rfl GRegisterEvent.ok hx25 rfl ⟨rfl, ?_⟩)
      refine mN0 (oLdA rfl tk33 ta33 ts33 rfl rfl ⟨rfl, ?_⟩)
      refine mN0 (oCP (args := [.agg [.int .i64 x24.Candidate, .int .i64 x24.State, .int .i64 x24.Late, .int .i64 x24.Left, .lst 1 (List.map (LV.int .i64) x24.Incidents)], .agg [.int .i64 x25.Stamp.Time, .int .i64 x25.Stamp.Source, .int .i64 x25.Stamp.Seq, .int .i64 x25.Kind, .int .i64 x25.Candidate, .int .i64 x25.Minutes]]) rfl isF47 rfl (sbR (sbR sbN)) (ref16_after_ok hr26) rfl ⟨rfl, ?_⟩)
      refine mN1 (oIxA (f := GAttendance.lv) te47 tk54 ts54 rfl rfl rfl hx27 ⟨rfl, ?_⟩)
      refine m_2 (oStE (f := GAttendance.lv) (z' := r26) rfl rfl rfl rfl tk54 ts54 rfl (idxOk hx27).2 rfl ?_)
      exact m0 (Wk.to (eC rfl (eC rfl (eC rfl (eC (congrArg (LV.arr 146) (by simp)) (eC rfl (eC rfl eN)))))) (mC rfl (mC rfl mN)) rfl (prK rfl))
    refine blockN ?_
    refine thenN ?_
    refine LH.loneT [(0, .lst 4 (List.map GEnrolment.lv p0)), (2, .int .i64 p2), (10, .lst 6 (List.map GRegisterEvent.lv r3.1)), (12, .arr 146 (List.length (l11.set r23.toNat r26))), (14, .arr 187 (List.length l12)), (15, .int .i64 (i64 (n10 + 1)))] [(146, .arr 54 5 (List.map GAttendance.lv (l11.set r23.toNat r26))), (187, .arr 58 3 (List.map GRefusal.lv l12))] rfl ?_ ?_
    · refine sN (oM (v := (.int _ _)) rfl ?_)
      refine sN (oAdd rfl rfl ?_)
      refine sN (oA (v := (.int _ _)) rfl ?_)
      exact s0 (Wk.to (eC rfl (eC rfl (eC rfl (eC rfl (eC rfl (eC rfl eN)))))) (mC rfl (mC rfl mN)) rfl (prK rfl))
    exact roundN (e' := Env.of [(0, .lst 4 (List.map GEnrolment.lv p0)), (2, .int .i64 p2), (10, .lst 6 (List.map GRegisterEvent.lv r3.1)), (12, .arr 146 (List.length (l11.set r23.toNat r26))), (14, .arr 187 (List.length l12)), (15, .int .i64 (i64 (n10 + 1)))]) (m' := Mem.of [(146, .arr 54 5 (List.map GAttendance.lv (l11.set r23.toNat r26))), (187, .arr 58 3 (List.map GRefusal.lv l12))]) (Wk.to (eC rfl (eC rfl (eC rfl (eC rfl (eC rfl (eC rfl eN)))))) (mC rfl (mC rfl mN)) rfl (prK rfl)) ⟨(i64 (n10 + 1)), (l11.set r23.toNat r26), l12, hrec2 ▸ h, rfl, rfl⟩
  replace h := iteF h hc13
  refine LH.exit ?_
  refine thenX ?_
  refine roundX ?_
  refine blockH ?_
  refine thenN ?_
  refine LH.wk ((Wk.trans (Wk.to (el := [(12, .arr 146 (List.length l11)), (14, .arr 187 (List.length l12))]) (ml := [(146, .arr 54 5 (List.map GAttendance.lv l11)), (187, .arr 58 3 (List.map GRefusal.lv l12))]) (eC rfl (eC rfl eN)) (mC rfl (mC rfl mN)) rfl (prK rfl)) (Wk.trans (Wk.frzL (f := GAttendance.lv) (el' := [(12, .lst 5 (List.map GAttendance.lv l11)), (14, .arr 187 (List.length l12))]) 146 54 5 l11 rfl rfl (prN rfl) (fZ (fK rfl fN))) (Wk.trans (Wk.frzL (f := GRefusal.lv) (el' := [(12, .lst 5 (List.map GAttendance.lv l11)), (14, .lst 3 (List.map GRefusal.lv l12))]) 187 58 3 l12 rfl rfl (prN rfl) (fK rfl (fZ fN))) (Wk.to (el := [(12, .lst 5 (List.map GAttendance.lv l11)), (14, .lst 3 (List.map GRefusal.lv l12))]) (ml := []) (eC rfl (eC rfl eN)) mN rfl (prK rfl)))))) ?_
  refine LH.seqT [(6, .lst 5 (List.map GAttendance.lv l11)), (7, .lst 3 (List.map GRefusal.lv l12)), (8, .int .i64 0)] [] rfl ?_ ?_
  · refine sN (oM (v := (.lst _ _)) rfl ?_)
    refine sN (oM (v := (.lst _ _)) rfl ?_)
    refine sN (oA (v := (.lst _ _)) rfl ?_)
    refine sN (oA (v := (.lst _ _)) rfl ?_)
    refine sN (oA (v := (.int _ _)) rfl ?_)
    exact s0 (Wk.to (eC rfl (eC rfl (eC rfl eN))) mN rfl (prK rfl))
  refine LH.ret ?_
  obtain rfl := Option.some.inj h
  exact retE (congrArg Array.toList Try.results23) (lrT rfl (lrT rfl (lrT rfl (lr0 ⟨memN mN, rfl, prK rfl, (Sub.tup (sbR (sbR (sbR sbN))))⟩))))

theorem law16_same_ok {F : Nat} {p0 : List GAttendance} {p1 : List GAttendance} {r : Bool} (h : law16_same F p0 p1 = some r) : LCall Try.prog 24 [.lst 5 (List.map GAttendance.lv p0), .lst 5 (List.map GAttendance.lv p1)] (Mem.of []) (.bool r) (Mem.of []) := by
  unfold law16_same at h
  refine bodyT Try.func24 rfl (by rw [Try.ntmps24]; exact Nat.le_of_ble_eq_true rfl) ?_
  refine LH.wk (Wk.to (el := [(0, .lst 5 (List.map GAttendance.lv p0)), (1, .lst 5 (List.map GAttendance.lv p1))]) (ml := []) (eC rfl (eC rfl eN)) mN rfl (prK rfl)) ?_
  refine LH.seqT [(0, .lst 5 (List.map GAttendance.lv p0)), (1, .lst 5 (List.map GAttendance.lv p1))] [] rfl ?_ ?_
  · refine sN (oA (v := (.bool _)) rfl ?_)
    exact s0 (Wk.to (eC rfl (eC rfl eN)) mN rfl (prK rfl))
  refine LH.seq ?_
  refine LH.seqT [(0, .lst 5 (List.map GAttendance.lv p0)), (1, .lst 5 (List.map GAttendance.lv p1)), (10, .bool ((p0.length : Int) != (p1.length : Int)))] [] rfl ?_ ?_
  · refine sN (oM (v := (.lst _ _)) rfl ?_)
    refine sN (oLnL (f := GAttendance.lv) te47 rfl ?_)
    refine sN (oM (v := (.lst _ _)) rfl ?_)
    refine sN (oLnL (f := GAttendance.lv) te47 rfl ?_)
    refine sN (oNe rfl rfl ?_)
    exact s0 (Wk.to (eC rfl (eC rfl (eC rfl eN))) mN rfl (prK rfl))
  refine LH.cond (t := ((p0.length : Int) != (p1.length : Int))) rfl (fun hc1 => ?_) (fun hc1 => ?_)
  · replace h := iteT h hc1
    refine LH.seqT [(4, .bool false)] [] rfl ?_ ?_
    · refine sN (oA (v := (.bool _)) rfl ?_)
      exact s0 (Wk.to (eC rfl eN) mN rfl (prK rfl))
    refine LH.ret ?_
    refine thenR ?_
    obtain rfl := Option.some.inj h
    exact retE (congrArg Array.toList Try.results24) (lrT rfl (lr0 ⟨memN mN, rfl, prK rfl, Sub.rfl⟩))
  replace h := iteF h hc1
  refine LH.skip ?_
  refine thenN ?_
  refine LH.wk (Wk.to (el := [(0, .lst 5 (List.map GAttendance.lv p0)), (1, .lst 5 (List.map GAttendance.lv p1))]) (ml := []) (eC rfl (eC rfl eN)) mN rfl (prK rfl)) ?_
  refine LH.seq ?_
  refine LH.seqT [(0, .lst 5 (List.map GAttendance.lv p0)), (1, .lst 5 (List.map GAttendance.lv p1)), (5, .int .i64 0)] [] rfl ?_ ?_
  · refine sN (oA (v := (.int _ _)) rfl ?_)
    exact s0 (Wk.to (eC rfl (eC rfl (eC rfl eN))) mN rfl (prK rfl))
  refine LH.block ?_
  refine LH.loop (fun n e m => ∃ (n2 : Int), law16_same_L1 F p0 p1 n n2 = some r ∧ e = Env.of [(0, .lst 5 (List.map GAttendance.lv p0)), (1, .lst 5 (List.map GAttendance.lv p1)), (5, .int .i64 n2)] ∧ m = Mem.of []) F ⟨0, h, rfl, rfl⟩ ?_
  clear h
  rintro n e m ⟨n2, h, rfl, rfl⟩
  rcases n with _ | n
  · cases (show Option.none = some _ from h)
  obtain ⟨rec1, hrec1⟩ : ∃ f, f = law16_same_L1 F p0 p1 n := ⟨_, rfl⟩
  replace h : law16_same_L1_B F p0 p1 rec1 n2 = some r := hrec1 ▸ h
  unfold law16_same_L1_B at h
  refine LH.seq ?_
  refine LH.seqT [(0, .lst 5 (List.map GAttendance.lv p0)), (1, .lst 5 (List.map GAttendance.lv p1)), (5, .int .i64 n2), (14, .bool (decide (n2 < (p0.length : Int))))] [] rfl ?_ ?_
  · refine sN (oM (v := (.int _ _)) rfl ?_)
    refine sN (oM (v := (.lst _ _)) rfl ?_)
    refine sN (oLnL (f := GAttendance.lv) te47 rfl ?_)
    refine sN (oLt rfl rfl ?_)
    exact s0 (Wk.to (eC rfl (eC rfl (eC rfl (eC rfl eN)))) mN rfl (prK rfl))
  refine LH.cond (t := (decide (n2 < (p0.length : Int)))) rfl (fun hc3 => ?_) (fun hc3 => ?_)
  · replace h := iteT h hc3
    refine LH.skip ?_
    refine thenN ?_
    refine LH.wk (Wk.to (el := [(0, .lst 5 (List.map GAttendance.lv p0)), (1, .lst 5 (List.map GAttendance.lv p1)), (5, .int .i64 n2)]) (ml := []) (eC rfl (eC rfl (eC rfl eN))) mN rfl (prK rfl)) ?_
    refine LH.seq ?_
    refine LH.block ?_
    obtain ⟨x4, hx4, h⟩ := bindS h
    obtain ⟨x5, hx5, h⟩ := bindS h
    obtain ⟨r6, hr6, h⟩ := bindS h
    refine LH.seqJM mixed [] [0, 0, 0, 0, 0, 0, 0, 0, 0, 0] [(0, .lst 5 (List.map GAttendance.lv p0)), (1, .lst 5 (List.map GAttendance.lv p1)), (5, .int .i64 n2), (26, .bool (!r6))] [] rfl rfl (by kernel_rfl) ?_ ?_
    · refine mN0 (oM (v := (.lst _ _)) rfl ⟨rfl, ?_⟩)
      refine mN0 (oM (v := (.int _ _)) rfl ⟨rfl, ?_⟩)
      refine mN0 (oIx (f := GAttendance.lv) te47 tk54 ts54 rfl rfl GAttendance.ok hx4 rfl ⟨rfl, ?_⟩)
      refine mN0 (oLdA rfl tk54 ta54 ts54 rfl rfl ⟨rfl, ?_⟩)
      refine mN0 (oM (v := (.lst _ _)) rfl ⟨rfl, ?_⟩)
      refine mN0 (oM (v := (.int _ _)) rfl ⟨rfl, ?_⟩)
      refine mN0 (oIx (f := GAttendance.lv) te47 tk54 ts54 rfl rfl GAttendance.ok hx5 rfl ⟨rfl, ?_⟩)
      refine mN0 (oLdA rfl tk54 ta54 ts54 rfl rfl ⟨rfl, ?_⟩)
      refine mN0 (oCP (args := [.agg [.int .i64 x4.Candidate, .int .i64 x4.State, .int .i64 x4.Late, .int .i64 x4.Left, .lst 1 (List.map (LV.int .i64) x4.Incidents)], .agg [.int .i64 x5.Candidate, .int .i64 x5.State, .int .i64 x5.Late, .int .i64 x5.Left, .lst 1 (List.map (LV.int .i64) x5.Incidents)]]) rfl isF29 rfl (sbR (sbR sbN)) (ref16_Same_ok hr6) rfl ⟨rfl, ?_⟩)
      refine mN0 (oNot rfl ⟨rfl, ?_⟩)
      exact m0 (Wk.to (eC rfl (eC rfl (eC rfl (eC rfl eN)))) mN rfl (prK rfl))
    refine LH.cond (t := (!r6)) rfl (fun hc7 => ?_) (fun hc7 => ?_)
    · replace h := iteT h hc7
      refine LH.seqT [(4, .bool false)] [] rfl ?_ ?_
      · refine sN (oA (v := (.bool _)) rfl ?_)
        exact s0 (Wk.to (eC rfl eN) mN rfl (prK rfl))
      refine LH.ret ?_
      refine blockR ?_
      refine thenR ?_
      refine roundR ?_
      refine blockR ?_
      refine thenR ?_
      obtain rfl := Option.some.inj h
      exact retE (congrArg Array.toList Try.results24) (lrT rfl (lr0 ⟨memN mN, rfl, prK rfl, Sub.rfl⟩))
    replace h := iteF h hc7
    refine LH.skip ?_
    refine blockN ?_
    refine thenN ?_
    refine LH.wk (Wk.to (el := [(0, .lst 5 (List.map GAttendance.lv p0)), (1, .lst 5 (List.map GAttendance.lv p1)), (5, .int .i64 n2)]) (ml := []) (eC rfl (eC rfl (eC rfl eN))) mN rfl (prK rfl)) ?_
    refine LH.loneT [(0, .lst 5 (List.map GAttendance.lv p0)), (1, .lst 5 (List.map GAttendance.lv p1)), (5, .int .i64 (i64 (n2 + 1)))] [] rfl ?_ ?_
    · refine sN (oM (v := (.int _ _)) rfl ?_)
      refine sN (oAdd rfl rfl ?_)
      refine sN (oA (v := (.int _ _)) rfl ?_)
      exact s0 (Wk.to (eC rfl (eC rfl (eC rfl eN))) mN rfl (prK rfl))
    exact roundN (e' := Env.of [(0, .lst 5 (List.map GAttendance.lv p0)), (1, .lst 5 (List.map GAttendance.lv p1)), (5, .int .i64 (i64 (n2 + 1)))]) (m' := Mem.of []) (Wk.to (eC rfl (eC rfl (eC rfl eN))) mN rfl (prK rfl)) ⟨(i64 (n2 + 1)), hrec1 ▸ h, rfl, rfl⟩
  replace h := iteF h hc3
  refine LH.exit ?_
  refine thenX ?_
  refine roundX ?_
  refine blockH ?_
  refine thenN ?_
  refine LH.wk (Wk.to (el := []) (ml := []) eN mN rfl (prK rfl)) ?_
  refine LH.seqT [(4, .bool true)] [] rfl ?_ ?_
  · refine sN (oA (v := (.bool _)) rfl ?_)
    exact s0 (Wk.to (eC rfl eN) mN rfl (prK rfl))
  refine LH.ret ?_
  obtain rfl := Option.some.inj h
  exact retE (congrArg Array.toList Try.results24) (lrT rfl (lr0 ⟨memN mN, rfl, prK rfl, Sub.rfl⟩))

theorem law16_refusals_ok {F : Nat} {p0 : List GRefusal} {p1 : List GRefusal} {r : Bool} (h : law16_refusals F p0 p1 = some r) : LCall Try.prog 25 [.lst 3 (List.map GRefusal.lv p0), .lst 3 (List.map GRefusal.lv p1)] (Mem.of []) (.bool r) (Mem.of []) := by
  unfold law16_refusals at h
  refine bodyT Try.func25 rfl (by rw [Try.ntmps25]; exact Nat.le_of_ble_eq_true rfl) ?_
  refine LH.wk (Wk.to (el := [(0, .lst 3 (List.map GRefusal.lv p0)), (1, .lst 3 (List.map GRefusal.lv p1))]) (ml := []) (eC rfl (eC rfl eN)) mN rfl (prK rfl)) ?_
  refine LH.seqT [(0, .lst 3 (List.map GRefusal.lv p0)), (1, .lst 3 (List.map GRefusal.lv p1))] [] rfl ?_ ?_
  · refine sN (oA (v := (.bool _)) rfl ?_)
    exact s0 (Wk.to (eC rfl (eC rfl eN)) mN rfl (prK rfl))
  refine LH.seq ?_
  refine LH.seqT [(0, .lst 3 (List.map GRefusal.lv p0)), (1, .lst 3 (List.map GRefusal.lv p1)), (10, .bool ((p0.length : Int) != (p1.length : Int)))] [] rfl ?_ ?_
  · refine sN (oM (v := (.lst _ _)) rfl ?_)
    refine sN (oLnL (f := GRefusal.lv) te48 rfl ?_)
    refine sN (oM (v := (.lst _ _)) rfl ?_)
    refine sN (oLnL (f := GRefusal.lv) te48 rfl ?_)
    refine sN (oNe rfl rfl ?_)
    exact s0 (Wk.to (eC rfl (eC rfl (eC rfl eN))) mN rfl (prK rfl))
  refine LH.cond (t := ((p0.length : Int) != (p1.length : Int))) rfl (fun hc1 => ?_) (fun hc1 => ?_)
  · replace h := iteT h hc1
    refine LH.seqT [(4, .bool false)] [] rfl ?_ ?_
    · refine sN (oA (v := (.bool _)) rfl ?_)
      exact s0 (Wk.to (eC rfl eN) mN rfl (prK rfl))
    refine LH.ret ?_
    refine thenR ?_
    obtain rfl := Option.some.inj h
    exact retE (congrArg Array.toList Try.results25) (lrT rfl (lr0 ⟨memN mN, rfl, prK rfl, Sub.rfl⟩))
  replace h := iteF h hc1
  refine LH.skip ?_
  refine thenN ?_
  refine LH.wk (Wk.to (el := [(0, .lst 3 (List.map GRefusal.lv p0)), (1, .lst 3 (List.map GRefusal.lv p1))]) (ml := []) (eC rfl (eC rfl eN)) mN rfl (prK rfl)) ?_
  refine LH.seq ?_
  refine LH.seqT [(0, .lst 3 (List.map GRefusal.lv p0)), (1, .lst 3 (List.map GRefusal.lv p1)), (5, .int .i64 0)] [] rfl ?_ ?_
  · refine sN (oA (v := (.int _ _)) rfl ?_)
    exact s0 (Wk.to (eC rfl (eC rfl (eC rfl eN))) mN rfl (prK rfl))
  refine LH.block ?_
  refine LH.loop (fun n e m => ∃ (n2 : Int), law16_refusals_L1 p0 p1 n n2 = some r ∧ e = Env.of [(0, .lst 3 (List.map GRefusal.lv p0)), (1, .lst 3 (List.map GRefusal.lv p1)), (5, .int .i64 n2)] ∧ m = Mem.of []) F ⟨0, h, rfl, rfl⟩ ?_
  clear h
  rintro n e m ⟨n2, h, rfl, rfl⟩
  rcases n with _ | n
  · cases (show Option.none = some _ from h)
  obtain ⟨rec1, hrec1⟩ : ∃ f, f = law16_refusals_L1 p0 p1 n := ⟨_, rfl⟩
  replace h : law16_refusals_L1_B p0 p1 rec1 n2 = some r := hrec1 ▸ h
  unfold law16_refusals_L1_B at h
  refine LH.seq ?_
  refine LH.seqT [(0, .lst 3 (List.map GRefusal.lv p0)), (1, .lst 3 (List.map GRefusal.lv p1)), (5, .int .i64 n2), (14, .bool (decide (n2 < (p0.length : Int))))] [] rfl ?_ ?_
  · refine sN (oM (v := (.int _ _)) rfl ?_)
    refine sN (oM (v := (.lst _ _)) rfl ?_)
    refine sN (oLnL (f := GRefusal.lv) te48 rfl ?_)
    refine sN (oLt rfl rfl ?_)
    exact s0 (Wk.to (eC rfl (eC rfl (eC rfl (eC rfl eN)))) mN rfl (prK rfl))
  refine LH.cond (t := (decide (n2 < (p0.length : Int)))) rfl (fun hc3 => ?_) (fun hc3 => ?_)
  · replace h := iteT h hc3
    refine LH.skip ?_
    refine thenN ?_
    refine LH.wk (Wk.to (el := [(0, .lst 3 (List.map GRefusal.lv p0)), (1, .lst 3 (List.map GRefusal.lv p1)), (5, .int .i64 n2)]) (ml := []) (eC rfl (eC rfl (eC rfl eN))) mN rfl (prK rfl)) ?_
    refine LH.seq ?_
    refine LH.block ?_
    obtain ⟨x4, hx4, h⟩ := bindS h
    obtain ⟨x5, hx5, h⟩ := bindS h
    refine LH.seqJM mixed [] [0, 0, 0, 0, 0, 0, 0, 0, 0] [(0, .lst 3 (List.map GRefusal.lv p0)), (1, .lst 3 (List.map GRefusal.lv p1)), (5, .int .i64 n2), (25, .bool (!(decide (x4 = x5))))] [] rfl rfl (by kernel_rfl) ?_ ?_
    · refine mN0 (oM (v := (.lst _ _)) rfl ⟨rfl, ?_⟩)
      refine mN0 (oM (v := (.int _ _)) rfl ⟨rfl, ?_⟩)
      refine mN0 (oIx (f := GRefusal.lv) te48 tk58 ts58 rfl rfl GRefusal.ok hx4 rfl ⟨rfl, ?_⟩)
      refine mN0 (oLdA rfl tk58 ta58 ts58 rfl rfl ⟨rfl, ?_⟩)
      refine mN0 (oM (v := (.lst _ _)) rfl ⟨rfl, ?_⟩)
      refine mN0 (oM (v := (.int _ _)) rfl ⟨rfl, ?_⟩)
      refine mN0 (oIx (f := GRefusal.lv) te48 tk58 ts58 rfl rfl GRefusal.ok hx5 rfl ⟨rfl, ?_⟩)
      refine mN0 (oLdA rfl tk58 ta58 ts58 rfl rfl ⟨rfl, ?_⟩)
      refine mN0 (oNeA rfl rfl (ae58 x4 x5) ⟨rfl, ?_⟩)
      exact m0 (Wk.to (eC rfl (eC rfl (eC rfl (eC rfl eN)))) mN rfl (prK rfl))
    refine LH.cond (t := (!(decide (x4 = x5)))) rfl (fun hc6 => ?_) (fun hc6 => ?_)
    · replace h := iteT h hc6
      refine LH.seqT [(4, .bool false)] [] rfl ?_ ?_
      · refine sN (oA (v := (.bool _)) rfl ?_)
        exact s0 (Wk.to (eC rfl eN) mN rfl (prK rfl))
      refine LH.ret ?_
      refine blockR ?_
      refine thenR ?_
      refine roundR ?_
      refine blockR ?_
      refine thenR ?_
      obtain rfl := Option.some.inj h
      exact retE (congrArg Array.toList Try.results25) (lrT rfl (lr0 ⟨memN mN, rfl, prK rfl, Sub.rfl⟩))
    replace h := iteF h hc6
    refine LH.skip ?_
    refine blockN ?_
    refine thenN ?_
    refine LH.wk (Wk.to (el := [(0, .lst 3 (List.map GRefusal.lv p0)), (1, .lst 3 (List.map GRefusal.lv p1)), (5, .int .i64 n2)]) (ml := []) (eC rfl (eC rfl (eC rfl eN))) mN rfl (prK rfl)) ?_
    refine LH.loneT [(0, .lst 3 (List.map GRefusal.lv p0)), (1, .lst 3 (List.map GRefusal.lv p1)), (5, .int .i64 (i64 (n2 + 1)))] [] rfl ?_ ?_
    · refine sN (oM (v := (.int _ _)) rfl ?_)
      refine sN (oAdd rfl rfl ?_)
      refine sN (oA (v := (.int _ _)) rfl ?_)
      exact s0 (Wk.to (eC rfl (eC rfl (eC rfl eN))) mN rfl (prK rfl))
    exact roundN (e' := Env.of [(0, .lst 3 (List.map GRefusal.lv p0)), (1, .lst 3 (List.map GRefusal.lv p1)), (5, .int .i64 (i64 (n2 + 1)))]) (m' := Mem.of []) (Wk.to (eC rfl (eC rfl (eC rfl eN))) mN rfl (prK rfl)) ⟨(i64 (n2 + 1)), hrec1 ▸ h, rfl, rfl⟩
  replace h := iteF h hc3
  refine LH.exit ?_
  refine thenX ?_
  refine roundX ?_
  refine blockH ?_
  refine thenN ?_
  refine LH.wk (Wk.to (el := []) (ml := []) eN mN rfl (prK rfl)) ?_
  refine LH.seqT [(4, .bool true)] [] rfl ?_ ?_
  · refine sN (oA (v := (.bool _)) rfl ?_)
    exact s0 (Wk.to (eC rfl eN) mN rfl (prK rfl))
  refine LH.ret ?_
  obtain rfl := Option.some.inj h
  exact retE (congrArg Array.toList Try.results25) (lrT rfl (lr0 ⟨memN mN, rfl, prK rfl, Sub.rfl⟩))

end Go.Proofs.Ytapnjifcfljmmaa
