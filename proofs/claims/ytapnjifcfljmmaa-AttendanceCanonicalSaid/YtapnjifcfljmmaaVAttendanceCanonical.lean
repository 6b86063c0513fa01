/- Walks, printed by program (gen.py): each function computes its plain function. -/
import Derived.Test.YtapnjifcfljmmaaW3
set_option linter.unusedVariables false
set_option linter.unusedSimpArgs false
set_option maxRecDepth 100000
namespace Go.Proofs.Ytapnjifcfljmmaa
open Go.L Go.Sh
theorem law16_AttendanceCanonical_ok {F : Nat} {p0 : List Int} {r : Bool} (h : law16_AttendanceCanonical F p0 = some r) : LCall Try.prog 3 [.lst 1 (List.map (LV.int .i64) p0)] (Mem.of []) (.bool r) (Mem.of []) := by
  unfold law16_AttendanceCanonical at h
  refine bodyT Try.func3 rfl (by rw [Try.ntmps3]; exact Nat.le_of_ble_eq_true rfl) ?_
  refine LH.wk (Wk.to (el := [(0, .lst 1 (List.map (LV.int .i64) p0))]) (ml := []) (eC rfl eN) mN rfl (prK rfl)) ?_
  refine LH.seqT [(0, .lst 1 (List.map (LV.int .i64) p0))] [] rfl ?_ ?_
  · refine sN (oA (v := (.bool _)) rfl ?_)
    exact s0 (Wk.to (eC rfl eN) mN rfl (prK rfl))
  obtain ⟨r1, hr1, h⟩ := bindS h
  refine LH.seqT [(3, .ptr 7 0)] [(7, .box [.lst 1 (List.map (LV.int .i64) r1.L), .int .i64 r1.At])] rfl ?_ ?_
  · refine sN (oM (v := (.lst _ _)) rfl ?_)
    refine sN (oCM (args := [.lst 1 (List.map (LV.int .i64) p0)]) (ml := []) (ml' := [(7, .box [.lst 1 (List.map (LV.int .i64) r1.L), .int .i64 r1.At])]) rfl isF11 rfl (sbR sbN) (make_New_ok hr1) mN (newF rfl newN) rfl ?_)
    refine sN (oA (v := (.ptr _ _)) rfl ?_)
    exact s0 (Wk.to (eC rfl eN) (mC rfl mN) rfl (prK rfl))
  obtain ⟨r2, hr2, h⟩ := bindS h
  refine LH.seqT [(3, .ptr 7 0), (4, .lst 6 (List.map GRegisterEvent.lv r2.1))] [(7, .box [.lst 1 (List.map (LV.int .i64) r2.2.L), .int .i64 r2.2.At])] rfl ?_ ?_
  · refine sN (oM (v := (.ptr _ _)) rfl ?_)
    refine sN (oCM (args := [.ptr 7 0, .int .i64 12, .int .i64 4]) (ml := [(7, .box [.lst 1 (List.map (LV.int .i64) r1.L), .int .i64 r1.At])]) (ml' := [(7, .box [.lst 1 (List.map (LV.int .i64) r2.2.L), .int .i64 r2.2.At])]) rfl isF12 rfl (sbR (sbR (sbR sbN))) (GTape_RegisterEvents_ok hr2) (mC rfl mN) (newI rfl newN) rfl ?_)
    refine sN (oA (v := (.lst _ _)) rfl ?_)
    exact s0 (Wk.to (eC rfl (eC rfl eN)) (mC rfl mN) rfl (prK rfl))
  obtain ⟨r3, hr3, h⟩ := bindS h
  refine LH.seqT [(3, .ptr 7 0), (4, .lst 6 (List.map GRegisterEvent.lv r2.1)), (5, .lst 6 (List.map GRegisterEvent.lv r3.1)), (6, .int .i64 r3.2)] [(7, .box [.lst 1 (List.map (LV.int .i64) r2.2.L), .int .i64 r2.2.At])] rfl ?_ ?_
  · refine sN (oM (v := (.lst _ _)) rfl ?_)
    refine sN (oCP (args := [.lst 6 (List.map GRegisterEvent.lv r2.1)]) rfl isF13 rfl (sbR sbN) (attendance_Canonical_ok hr3) rfl ?_)
    refine sN (oM (v := (.tup _)) rfl ?_)
    refine sN (oEx rfl rfl ?_)
    refine sN (oEx rfl rfl ?_)
    refine sN (oA (v := (.lst _ _)) rfl ?_)
    refine sN (oA (v := (.int _ _)) rfl ?_)
    exact s0 (Wk.to (eC rfl (eC rfl (eC rfl (eC rfl eN)))) (mC rfl mN) rfl (prK rfl))
  obtain ⟨r4, hr4, h⟩ := bindS h
  refine LH.seqT [(3, .ptr 7 0), (4, .lst 6 (List.map GRegisterEvent.lv r2.1)), (5, .lst 6 (List.map GRegisterEvent.lv r3.1)), (6, .int .i64 r3.2), (7, .lst 6 (List.map GRegisterEvent.lv r4.1)), (8, .int .i64 r4.2)] [(7, .box [.lst 1 (List.map (LV.int .i64) r2.2.L), .int .i64 r2.2.At])] rfl ?_ ?_
  · refine sN (oM (v := (.lst _ _)) rfl ?_)
    refine sN (oCP (args := [.lst 6 (List.map GRegisterEvent.lv r2.1)]) rfl isF14 rfl (sbR sbN) (ref16_Canonical_ok hr4) rfl ?_)
    refine sN (oM (v := (.tup _)) rfl ?_)
    refine sN (oEx rfl rfl ?_)
    refine sN (oEx rfl rfl ?_)
    refine sN (oA (v := (.lst _ _)) rfl ?_)
    refine sN (oA (v := (.int _ _)) rfl ?_)
    exact s0 (Wk.to (eC rfl (eC rfl (eC rfl (eC rfl (eC rfl (eC rfl eN)))))) (mC rfl mN) rfl (prK rfl))
  refine LH.seq ?_
  refine LH.seqT [(3, .ptr 7 0), (4, .lst 6 (List.map GRegisterEvent.lv r2.1)), (5, .lst 6 (List.map GRegisterEvent.lv r3.1)), (7, .lst 6 (List.map GRegisterEvent.lv r4.1)), (35, .bool (((r3.1.length : Int) != (r4.1.length : Int)) || (r3.2 != r4.2)))] [(7, .box [.lst 1 (List.map (LV.int .i64) r2.2.L), .int .i64 r2.2.At])] rfl ?_ ?_
  · refine sN (oM (v := (.lst _ _)) rfl ?_)
    refine sN (oLnL (f := GRegisterEvent.lv) te25 rfl ?_)
    refine sN (oM (v := (.lst _ _)) rfl ?_)
    refine sN (oLnL (f := GRegisterEvent.lv) te25 rfl ?_)
    refine sN (oNe rfl rfl ?_)
    refine sN (oM (v := (.bool _)) rfl ?_)
    by_cases hb6 : ((r3.1.length : Int) != (r4.1.length : Int)) = true
    · refine sF rfl rfl hb6 ?_
      refine sF rfl rfl hb6 ?_
      refine sF rfl rfl hb6 ?_
      refine sN (oPkT (congrArg LV.bool hb6) (v := (.bool _)) rfl ?_)
      exact s0 (Wk.to (eC rfl (eC rfl (eC rfl (eC rfl (eC (congrArg LV.bool (orT hb6)) eN))))) (mC rfl mN) rfl (prK rfl))
    · replace hb6 := bF hb6
      refine sT rfl (congrArg LV.bool hb6) (oM (v := (.int _ _)) rfl ?_)
      refine sT rfl (congrArg LV.bool hb6) (oM (v := (.int _ _)) rfl ?_)
      refine sT rfl (congrArg LV.bool hb6) (oNe rfl rfl ?_)
      refine sN (oPkF (congrArg LV.bool hb6) (v := (.bool _)) rfl ?_)
      exact s0 (Wk.to (eC rfl (eC rfl (eC rfl (eC rfl (eC (congrArg LV.bool (orF hb6)) eN))))) (mC rfl mN) rfl (prK rfl))
  refine LH.cond (t := (((r3.1.length : Int) != (r4.1.length : Int)) || (r3.2 != r4.2))) rfl (fun hc7 => ?_) (fun hc7 => ?_)
  · replace h := iteT h hc7
    refine LH.seqT [(2, .bool false)] [] rfl ?_ ?_
    · refine sN (oA (v := (.bool _)) rfl ?_)
      exact s0 (Wk.to (eC rfl eN) mN rfl (prK rfl))
    refine LH.ret ?_
    refine thenR ?_
    obtain rfl := Option.some.inj h
    exact retE (congrArg Array.toList Try.results3) (lrT rfl (lr0 ⟨memN mN, rfl, prK rfl, Sub.rfl⟩))
  replace h := iteF h hc7
  refine LH.skip ?_
  refine thenN ?_
  refine LH.wk (Wk.to (el := [(3, .ptr 7 0), (4, .lst 6 (List.map GRegisterEvent.lv r2.1)), (5, .lst 6 (List.map GRegisterEvent.lv r3.1)), (7, .lst 6 (List.map GRegisterEvent.lv r4.1))]) (ml := [(7, .box [.lst 1 (List.map (LV.int .i64) r2.2.L), .int .i64 r2.2.At])]) (eC rfl (eC rfl (eC rfl (eC rfl eN)))) (mC rfl mN) rfl (prK rfl)) ?_
  refine LH.seq ?_
  refine LH.seqT [(3, .ptr 7 0), (4, .lst 6 (List.map GRegisterEvent.lv r2.1)), (5, .lst 6 (List.map GRegisterEvent.lv r3.1)), (7, .lst 6 (List.map GRegisterEvent.lv r4.1)), (9, .int .i64 0)] [(7, .box [.lst 1 (List.map (LV.int .i64) r2.2.L), .int .i64 r2.2.At])] rfl ?_ ?_
  · refine sN (oA (v := (.int _ _)) rfl ?_)
    exact s0 (Wk.to (eC rfl (eC rfl (eC rfl (eC rfl (eC rfl eN))))) (mC rfl mN) rfl (prK rfl))
  refine LH.block ?_
  refine LH.loop (fun n e m => ∃ (n8 : Int), law16_AttendanceCanonical_L1 F r2 r3 r4 n n8 = some r ∧ e = Env.of [(3, .ptr 7 0), (4, .lst 6 (List.map GRegisterEvent.lv r2.1)), (5, .lst 6 (List.map GRegisterEvent.lv r3.1)), (7, .lst 6 (List.map GRegisterEvent.lv r4.1)), (9, .int .i64 n8)] ∧ m = Mem.of [(7, .box [.lst 1 (List.map (LV.int .i64) r2.2.L), .int .i64 r2.2.At])]) F ⟨0, h, rfl, rfl⟩ ?_
  clear h
  rintro n e m ⟨n8, h, rfl, rfl⟩
  rcases n with _ | n
  · cases (show Option.none = some _ from h)
  obtain ⟨rec1, hrec1⟩ : ∃ f, f = law16_AttendanceCanonical_L1 F r2 r3 r4 n := ⟨_, rfl⟩
  replace h : law16_AttendanceCanonical_L1_B F r2 r3 r4 rec1 n8 = some r := hrec1 ▸ h
  unfold law16_AttendanceCanonical_L1_B at h
  refine LH.seq ?_
  refine LH.seqT [(3, .ptr 7 0), (4, .lst 6 (List.map GRegisterEvent.lv r2.1)), (5, .lst 6 (List.map GRegisterEvent.lv r3.1)), (7, .lst 6 (List.map GRegisterEvent.lv r4.1)), (9, .int .i64 n8), (39, .bool (decide (n8 < (r3.1.length : Int))))] [(7, .box [.lst 1 (List.map (LV.int .i64) r2.2.L), .int .i64 r2.2.At])] rfl ?_ ?_
  · refine sN (oM (v := (.int _ _)) rfl ?_)
    refine sN (oM (v := (.lst _ _)) rfl ?_)
    refine sN (oLnL (f := GRegisterEvent.lv) te25 rfl ?_)
    refine sN (oLt rfl rfl ?_)
    exact s0 (Wk.to (eC rfl (eC rfl (eC rfl (eC rfl (eC rfl (eC rfl eN)))))) (mC rfl mN) rfl (prK rfl))
  refine LH.cond (t := (decide (n8 < (r3.1.length : Int)))) rfl (fun hc9 => ?_) (fun hc9 => ?_)
  · replace h := iteT h hc9
    refine LH.skip ?_
    refine thenN ?_
    refine LH.wk (Wk.to (el := [(3, .ptr 7 0), (4, .lst 6 (List.map GRegisterEvent.lv r2.1)), (5, .lst 6 (List.map GRegisterEvent.lv r3.1)), (7, .lst 6 (List.map GRegisterEvent.lv r4.1)), (9, .int .i64 n8)]) (ml := [(7, .box [.lst 1 (List.map (LV.int .i64) r2.2.L), .int .i64 r2.2.At])]) (eC rfl (eC rfl (eC rfl (eC rfl (eC rfl eN))))) (mC rfl mN) rfl (prK rfl)) ?_
    refine LH.seq ?_
    refine LH.block ?_
    obtain ⟨x10, hx10, h⟩ := bindS h
    obtain ⟨x11, hx11, h⟩ := bindS h
    refine LH.seqJM mixed [] [0, 0, 0, 0, 0, 0, 0, 0, 0] [(3, .ptr 7 0), (4, .lst 6 (List.map GRegisterEvent.lv r2.1)), (5, .lst 6 (List.map GRegisterEvent.lv r3.1)), (7, .lst 6 (List.map GRegisterEvent.lv r4.1)), (9, .int .i64 n8), (50, .bool (!(decide (x10 = x11))))] [(7, .box [.lst 1 (List.map (LV.int .i64) r2.2.L), .int .i64 r2.2.At])] rfl rfl (by kernel_rfl) ?_ ?_
    · refine mN0 (oM (v := (.lst _ _)) rfl ⟨rfl, ?_⟩)
      refine mN0 (oM (v := (.int _ _)) rfl ⟨rfl, ?_⟩)
      refine mN0 (oIx (f := GRegisterEvent.lv) te25 tk33 ts33 rfl rfl GRegisterEvent.ok hx10 rfl ⟨rfl, ?_⟩)
      refine mN0 (oLdA rfl tk33 ta33 ts33 rfl rfl ⟨rfl, ?_⟩)
      refine mN0 (oM (v := (.lst _ _)) rfl ⟨rfl, ?_⟩)
      refine mN0 (oM (v := (.int _ _)) rfl ⟨rfl, ?_⟩)
      refine mN0 (oIx (f := GRegisterEvent.lv) te25 tk33 ts33 rfl rfl GRegisterEvent.ok hx11 rfl ⟨rfl, ?_⟩)
      refine mN0 (oLdA rfl tk33 ta33 ts33 rfl rfl ⟨rfl, ?_⟩)
      refine mN0 (oNeA rfl rfl (ae33 x10 x11) ⟨rfl, ?_⟩)
      exact m0 (Wk.to (eC rfl (eC rfl (eC rfl (eC rfl (eC rfl (eC rfl eN)))))) (mC rfl mN) rfl (prK rfl))
    refine LH.cond (t := (!(decide (x10 = x11)))) rfl (fun hc12 => ?_) (fun hc12 => ?_)
    · replace h := iteT h hc12
      refine LH.seqT [(2, .bool false)] [] rfl ?_ ?_
      · refine sN (oA (v := (.bool _)) rfl ?_)
        exact s0 (Wk.to (eC rfl eN) mN rfl (prK rfl))
      refine LH.ret ?_
      refine blockR ?_
      refine thenR ?_
      refine roundR ?_
      refine blockR ?_
      refine thenR ?_
      obtain rfl := Option.some.inj h
      exact retE (congrArg Array.toList Try.results3) (lrT rfl (lr0 ⟨memN mN, rfl, prK rfl, Sub.rfl⟩))
    replace h := iteF h hc12
    refine LH.skip ?_
    refine blockN ?_
    refine thenN ?_
    refine LH.wk (Wk.to (el := [(3, .ptr 7 0), (4, .lst 6 (List.map GRegisterEvent.lv r2.1)), (5, .lst 6 (List.map GRegisterEvent.lv r3.1)), (7, .lst 6 (List.map GRegisterEvent.lv r4.1)), (9, .int .i64 n8)]) (ml := [(7, .box [.lst 1 (List.map (LV.int .i64) r2.2.L), .int .i64 r2.2.At])]) (eC rfl (eC rfl (eC rfl (eC rfl (eC rfl eN))))) (mC rfl mN) rfl (prK rfl)) ?_
    refine LH.loneT [(3, .ptr 7 0), (4, .lst 6 (List.map GRegisterEvent.lv r2.1)), (5, .lst 6 (List.map GRegisterEvent.lv r3.1)), (7, .lst 6 (List.map GRegisterEvent.lv r4.1)), (9, .int .i64 (i64 (n8 + 1)))] [(7, .box [.lst 1 (List.map (LV.int .i64) r2.2.L), .int .i64 r2.2.At])] rfl ?_ ?_
    · refine sN (oM (v := (.int _ _)) rfl ?_)
      refine sN (oAdd rfl rfl ?_)
      refine sN (oA (v := (.int _ _)) rfl ?_)
      exact s0 (Wk.to (eC rfl (eC rfl (eC rfl (eC rfl (eC rfl eN))))) (mC rfl mN) rfl (prK rfl))
    exact roundN (e' := Env.of [(3, .ptr 7 0), (4, .lst 6 (List.map GRegisterEvent.lv r2.1)), (5, .lst 6 (List.map GRegisterEvent.lv r3.1)), (7, .lst 6 (List.map GRegisterEvent.lv r4.1)), (9, .int .i64 (i64 (n8 + 1)))]) (m' := Mem.of [(7, .box [.lst 1 (List.map (LV.int .i64) r2.2.L), .int .i64 r2.2.At])]) (Wk.to (eC rfl (eC rfl (eC rfl (eC rfl (eC rfl eN))))) (mC rfl mN) rfl (prK rfl)) ⟨(i64 (n8 + 1)), hrec1 ▸ h, rfl, rfl⟩
  replace h := iteF h hc9
  refine LH.exit ?_
  refine thenX ?_
  refine roundX ?_
  refine blockH ?_
  refine thenN ?_
  refine LH.wk (Wk.to (el := [(3, .ptr 7 0), (4, .lst 6 (List.map GRegisterEvent.lv r2.1))]) (ml := [(7, .box [.lst 1 (List.map (LV.int .i64) r2.2.L), .int .i64 r2.2.At])]) (eC rfl (eC rfl eN)) (mC rfl mN) rfl (prK rfl)) ?_
  refine LH.seq ?_
  refine LH.seqT [(3, .ptr 7 0), (4, .lst 6 (List.map GRegisterEvent.lv r2.1)), (53, .bool (decide ((r2.1.length : Int) > 0)))] [(7, .box [.lst 1 (List.map (LV.int .i64) r2.2.L), .int .i64 r2.2.At])] rfl ?_ ?_
  · refine sN (oM (v := (.lst _ _)) rfl ?_)
    refine sN (oLnL (f := GRegisterEvent.lv) te25 rfl ?_)
    refine sN (oGt rfl rfl ?_)
    exact s0 (Wk.to (eC rfl (eC rfl (eC rfl eN))) (mC rfl mN) rfl (prK rfl))
  refine LH.cond (t := (decide ((r2.1.length : Int) > 0))) rfl (fun hc13 => ?_) (fun hc13 => ?_)
  · replace h := iteT h hc13
    obtain ⟨r14, hr14, h⟩ := bindS h
    obtain ⟨x15, hx15, h⟩ := bindS h
    obtain ⟨r16, hr16, h⟩ := bindS h
    obtain ⟨x17, hx17, h⟩ := bindS h
    refine LH.seqJM mixed [] [0, 0, 0, 0, 2, 0, 0, 0, 0, 0, 0, 2, 0, 0, 2, 2, 2, 2] [(10, .sptr [.int .i64 x15.Stamp.Time, .int .i64 x15.Stamp.Source, .int .i64 x15.Stamp.Seq, .int .i64 x15.Kind, .int .i64 x15.Candidate, .int .i64 x15.Minutes]), (11, .sptr [.int .i64 x17.Stamp.Time, .int .i64 x17.Stamp.Source, .int .i64 x17.Stamp.Seq, .int .i64 x17.Kind, .int .i64 x17.Candidate, .int .i64 x17.Minutes])] [] rfl rfl (by kernel_rfl) ?_ ?_
    · refine mN0 (oM (v := (.lst _ _)) rfl ⟨rfl, ?_⟩)
      refine mN0 (oM (v := (.ptr _ _)) rfl ⟨rfl, ?_⟩)
      refine mN0 (oM (v := (.lst _ _)) rfl ⟨rfl, ?_⟩)
      refine mN0 (oLnL (f := GRegisterEvent.lv) te25 rfl ⟨rfl, ?_⟩)
      refine mN2 (oCM (args := [.ptr 7 0, .int .i64 (r2.1.length : Int)]) (ml := [(7, .box [.lst 1 (List.map (LV.int .i64) r2.2.L), .int .i64 r2.2.At])]) (ml' := [(7, .box [.lst 1 (List.map (LV.int .i64) r14.2.L), .int .i64 r14.2.At])]) rfl isF15 rfl (sbR (sbR sbN)) (GTape_Next_ok hr14) (mC rfl mN) (newI rfl newN) rfl ?_)
      refine mN0 (oIx (f := GRegisterEvent.lv) te25 tk33 ts33 rfl rfl GRegisterEvent.ok hx15 rfl ⟨rfl, ?_⟩)
      refine mN0 (oLdA rfl tk33 ta33 ts33 rfl rfl ⟨rfl, ?_⟩)
      refine mN0 (oM (v := (.lst _ _)) rfl ⟨rfl, ?_⟩)
      refine mN0 (oM (v := (.ptr _ _)) rfl ⟨rfl, ?_⟩)
      refine mN0 (oM (v := (.lst _ _)) rfl ⟨rfl, ?_⟩)
      refine mN0 (oLnL (f := GRegisterEvent.lv) te25 rfl ⟨rfl, ?_⟩)
      refine mN2 (oCM (args := [.ptr 7 0, .int .i64 (r2.1.length : Int)]) (ml := [(7, .box [.lst 1 (List.map (LV.int .i64) r14.2.L), .int .i64 r14.2.At])]) (ml' := [(7, .box [.lst 1 (List.map (LV.int .i64) r16.2.L), .int .i64 r16.2.At])]) rfl isF15 rfl (sbR (sbR sbN)) (GTape_Next_ok hr16) (mC rfl mN) (newI rfl newN) rfl ?_)
      refine mN0 (oIx (f := GRegisterEvent.lv) te25 tk33 ts33 rfl rfl GRegisterEvent.ok hx17 rfl ⟨rfl, ?_⟩)
      refine mN0 (oLdA rfl tk33 ta33 ts33 rfl rfl ⟨rfl, ?_⟩)
      refine mN2 (oAl (id := 110) rfl tz33 rfl rfl ?_)
      refine mN2 (oAl (id := 111) rfl tz33 rfl rfl ?_)
      refine m_2 (oSt rfl rfl rfl tk33 ts33 rfl rfl rfl ?_)
      refine m_2 (oSt rfl rfl rfl tk33 ts33 rfl rfl rfl ?_)
      exact m0 ((Wk.trans (Wk.to (el := [(10, .ptr 110 0), (11, .ptr 111 0)]) (ml := [(110, .box [.int .i64 x15.Stamp.Time, .int .i64 x15.Stamp.Source, .int .i64 x15.Stamp.Seq, .int .i64 x15.Kind, .int .i64 x15.Candidate, .int .i64 x15.Minutes]), (111, .box [.int .i64 x17.Stamp.Time, .int .i64 x17.Stamp.Source, .int .i64 x17.Stamp.Seq, .int .i64 x17.Kind, .int .i64 x17.Candidate, .int .i64 x17.Minutes])]) (eC rfl (eC rfl eN)) (mC rfl (mC rfl mN)) rfl (prK rfl)) (Wk.trans (Wk.frzB 110 [.int .i64 x15.Stamp.Time, .int .i64 x15.Stamp.Source, .int .i64 x15.Stamp.Seq, .int .i64 x15.Kind, .int .i64 x15.Candidate, .int .i64 x15.Minutes] rfl rfl rfl (prN rfl)) (Wk.trans (Wk.frzB 111 [.int .i64 x17.Stamp.Time, .int .i64 x17.Stamp.Source, .int .i64 x17.Stamp.Seq, .int .i64 x17.Kind, .int .i64 x17.Candidate, .int .i64 x17.Minutes] rfl rfl rfl (prN rfl)) (Wk.to (eC rfl (eC rfl eN)) mN rfl (prK rfl))))))
    obtain ⟨w19, hv, h⟩ := bindS h
    refine LH.seqJM mixed [] [0, 0, 0, 0, 0, 0, 0, 0, 0, 0, 0, 0, 0, 0, 0, 0] [(2, .bool w19)] [] rfl rfl (by kernel_rfl) ?_ ?_
    · refine mN0 (oLdA rfl tk33 ta33 ts33 rfl rfl ⟨rfl, ?_⟩)
      refine mN0 (oLdA rfl tk33 ta33 ts33 rfl rfl ⟨rfl, ?_⟩)
      obtain ⟨r20, hr20, hv⟩ := bindS hv
      refine mN0 (oCP (args := [.agg [.int .i64 x15.Stamp.Time, .int .i64 x15.Stamp.Source, .int .i64 x15.Stamp.Seq, .int .i64 x15.Kind, .int .i64 x15.Candidate, .int .i64 x15.Minutes], .agg [.int .i64 x17.Stamp.Time, .int .i64 x17.Stamp.Source, .int .i64 x17.Stamp.Seq, .int .i64 x17.Kind, .int .i64 x17.Candidate, .int .i64 x17.Minutes]]) rfl isF16 rfl (sbR (sbR sbN)) (attendance_Same_ok hr20) rfl ⟨rfl, ?_⟩)
      refine mN0 (oLdA rfl tk33 ta33 ts33 rfl rfl ⟨rfl, ?_⟩)
      refine mN0 (oLdA rfl tk33 ta33 ts33 rfl rfl ⟨rfl, ?_⟩)
      refine mN0 (oEqA rfl rfl (ae33 x15 x17) ⟨rfl, ?_⟩)
      refine mN0 (oEqB rfl rfl tb4 ⟨rfl, ?_⟩)
      refine mN0 (oM (v := (.bool _)) rfl ⟨rfl, ?_⟩)
      by_cases hb21 : (r20 == (decide (x15 = x17))) = true
      · replace hv := iteT hv hb21
        refine mT rfl (congrArg LV.bool hb21) (mN0 (oLdA rfl tk33 ta33 ts33 rfl rfl ⟨rfl, ?_⟩))
        refine mT rfl (congrArg LV.bool hb21) (mN0 (oLdA rfl tk33 ta33 ts33 rfl rfl ⟨rfl, ?_⟩))
        obtain ⟨r22, hr22, hv⟩ := bindS hv
        refine mT rfl (congrArg LV.bool hb21) (mN0 (oCP (args := [.agg [.int .i64 x15.Stamp.Time, .int .i64 x15.Stamp.Source, .int .i64 x15.Stamp.Seq, .int .i64 x15.Kind, .int .i64 x15.Candidate, .int .i64 x15.Minutes], .agg [.int .i64 x15.Stamp.Time, .int .i64 x15.Stamp.Source, .int .i64 x15.Stamp.Seq, .int .i64 x15.Kind, .int .i64 x15.Candidate, .int .i64 x15.Minutes]]) rfl isF16 rfl (sbR (sbR sbN)) (attendance_Same_ok hr22) rfl ⟨rfl, ?_⟩))
        refine mN0 (oPkT (congrArg LV.bool hb21) (v := (.bool _)) rfl ⟨rfl, ?_⟩)
        refine mN0 (oM (v := (.bool _)) rfl ⟨rfl, ?_⟩)
        by_cases hb23 : r22 = true
        · replace hv := iteT hv hb23
          obtain ⟨r24, hr24, hv⟩ := bindS hv
          refine mT rfl (congrArg LV.bool hb23) (mN0 (oCP (args := []) rfl isF17 rfl sbN (law16_awake_ok hr24) rfl ⟨rfl, ?_⟩))
          refine mN0 (oPkT (congrArg LV.bool hb23) (v := (.bool _)) rfl ⟨rfl, ?_⟩)
          refine mN0 (oA (v := (.bool _)) rfl ⟨rfl, ?_⟩)
          obtain rfl := Option.some.inj hv
          exact m0 (Wk.to (eC rfl eN) mN rfl (prK rfl))
        · replace hb23 := bF hb23
          replace hv := iteF hv hb23
          refine mF rfl rfl hb23 ?_
          refine mN0 (oPkF (congrArg LV.bool hb23) (v := (.bool _)) rfl ⟨rfl, ?_⟩)
          refine mN0 (oA (v := (.bool _)) rfl ⟨rfl, ?_⟩)
          obtain rfl := Option.some.inj hv
          exact m0 (Wk.to (eC rfl eN) mN rfl (prK rfl))
      · replace hb21 := bF hb21
        replace hv := iteF hv hb21
        refine mF rfl rfl hb21 ?_
        refine mF rfl rfl hb21 ?_
        refine mF rfl rfl hb21 ?_
        refine mN0 (oPkF (congrArg LV.bool hb21) (v := (.bool _)) rfl ⟨rfl, ?_⟩)
        refine mN0 (oM (v := (.bool _)) rfl ⟨rfl, ?_⟩)
        refine mF rfl rfl rfl ?_
        refine mN0 (oPkF rfl (v := (.bool _)) rfl ⟨rfl, ?_⟩)
        refine mN0 (oA (v := (.bool _)) rfl ⟨rfl, ?_⟩)
        obtain rfl := Option.some.inj hv
        exact m0 (Wk.to (eC rfl eN) mN rfl (prK rfl))
    clear hv
    refine LH.ret ?_
    refine thenR ?_
    obtain rfl := Option.some.inj h
    exact retE (congrArg Array.toList Try.results3) (lrT rfl (lr0 ⟨memN mN, rfl, prK rfl, Sub.rfl⟩))
  replace h := iteF h hc13
  refine LH.skip ?_
  refine thenN ?_
  refine LH.wk (Wk.to (el := []) (ml := []) eN mN rfl (prK rfl)) ?_
  obtain ⟨r25, hr25, h⟩ := bindS h
  refine LH.seqT [(2, .bool r25)] [] rfl ?_ ?_
  · refine sN (oCP (args := []) rfl isF17 rfl sbN (law16_awake_ok hr25) rfl ?_)
    refine sN (oA (v := (.bool _)) rfl ?_)
    exact s0 (Wk.to (eC rfl eN) mN rfl (prK rfl))
  refine LH.ret ?_
  obtain rfl := Option.some.inj h
  exact retE (congrArg Array.toList Try.results3) (lrT rfl (lr0 ⟨memN mN, rfl, prK rfl, Sub.rfl⟩))

end Go.Proofs.Ytapnjifcfljmmaa
