/- Walks, printed by program (gen.py): each function computes its plain function. -/
import Derived.Test.YtdkhlkihhdjbbaaW3
set_option linter.unusedVariables false
set_option linter.unusedSimpArgs false
set_option maxRecDepth 100000
namespace Go.Proofs.Ytdkhlkihhdjbbaa
open Go.L Go.Sh
theorem law02_events_ok {F : Nat} {p0 : GTape} {p1 : Int} {p2 : Int} {r : List GStamp × List Int × GTape} (h : law02_events F p0 p1 p2 = some r) : LCall Try.prog 18 [.ptr 7 0, .int .i64 p1, .int .i64 p2] (Mem.of [(7, .box [.lst 1 (List.map (LV.int .i64) p0.L), .int .i64 p0.At])]) (.tup [.arr 145 (List.length r.1), .arr 149 (List.length r.2.1)]) (Mem.of [(7, .box [.lst 1 (List.map (LV.int .i64) r.2.2.L), .int .i64 r.2.2.At]), (145, .arr 23 3 (List.map GStamp.lv r.1)), (149, .arr 3 1 (List.map (LV.int .i64) r.2.1))]) := by
  unfold law02_events at h
  refine bodyT Try.func18 rfl (by rw [Try.ntmps18]; exact Nat.le_of_ble_eq_true rfl) ?_
  refine LH.wk (Wk.to (el := [(0, .ptr 7 0), (1, .int .i64 p1), (2, .int .i64 p2)]) (ml := [(7, .box [.lst 1 (List.map (LV.int .i64) p0.L), .int .i64 p0.At])]) (eC rfl (eC rfl (eC rfl eN))) (mC rfl mN) rfl (prK rfl)) ?_
  refine LH.seqT [(0, .ptr 7 0), (1, .int .i64 p1), (2, .int .i64 p2)] [(7, .box [.lst 1 (List.map (LV.int .i64) p0.L), .int .i64 p0.At])] rfl ?_ ?_
  · refine sN (oA (v := .nil) rfl ?_)
    refine sN (oA (v := .nil) rfl ?_)
    exact s0 (Wk.to (eC rfl (eC rfl (eC rfl eN))) (mC rfl mN) rfl (prK rfl))
  refine LH.seqT [(0, .ptr 7 0), (1, .int .i64 p1), (2, .int .i64 p2), (8, .nil)] [(7, .box [.lst 1 (List.map (LV.int .i64) p0.L), .int .i64 p0.At])] rfl ?_ ?_
  · refine sN (oA (v := .nil) rfl ?_)
    exact s0 (Wk.to (eC rfl (eC rfl (eC rfl (eC rfl eN)))) (mC rfl mN) rfl (prK rfl))
  refine LH.seqT [(0, .ptr 7 0), (1, .int .i64 p1), (2, .int .i64 p2), (8, .nil), (9, .nil)] [(7, .box [.lst 1 (List.map (LV.int .i64) p0.L), .int .i64 p0.At])] rfl ?_ ?_
  · refine sN (oA (v := .nil) rfl ?_)
    exact s0 (Wk.to (eC rfl (eC rfl (eC rfl (eC rfl (eC rfl eN))))) (mC rfl mN) rfl (prK rfl))
  refine LH.seq ?_
  obtain ⟨r1, hr1, h⟩ := bindS h
  refine LH.seqT [(0, .ptr 7 0), (2, .int .i64 p2), (8, .nil), (9, .nil), (10, .int .i64 r1.1)] [(7, .box [.lst 1 (List.map (LV.int .i64) r1.2.L), .int .i64 r1.2.At])] rfl ?_ ?_
  · refine sN (oM (v := (.ptr _ _)) rfl ?_)
    refine sN (oM (v := (.int _ _)) rfl ?_)
    refine sN (oCM (args := [.ptr 7 0, .int .i64 0, .int .i64 p1]) (ml := [(7, .box [.lst 1 (List.map (LV.int .i64) p0.L), .int .i64 p0.At])]) (ml' := [(7, .box [.lst 1 (List.map (LV.int .i64) r1.2.L), .int .i64 r1.2.At])]) rfl isF23 rfl (sbR (sbR (sbR sbN))) (GTape_Range_ok hr1) (mC rfl mN) (newI rfl newN) rfl ?_)
    refine sN (oA (v := (.int _ _)) rfl ?_)
    exact s0 (Wk.to (eC rfl (eC rfl (eC rfl (eC rfl (eC rfl eN))))) (mC rfl mN) rfl (prK rfl))
  refine LH.block ?_
  refine LH.wk ((Wk.trans (Wk.to (el := [(0, .ptr 7 0), (2, .int .i64 p2), (8, .nil), (9, .nil), (10, .int .i64 r1.1)]) (ml := [(7, .box [.lst 1 (List.map (LV.int .i64) r1.2.L), .int .i64 r1.2.At])]) (eC rfl (eC rfl (eC rfl (eC rfl (eC rfl eN))))) (mC rfl mN) rfl (prK rfl)) (Wk.trans (Wk.to (el := [(0, .ptr 7 0), (2, .int .i64 p2), (8, .nil), (9, .nil), (10, .int .i64 r1.1)]) (ml := [(7, .box [.lst 1 (List.map (LV.int .i64) r1.2.L), .int .i64 r1.2.At])]) (eC rfl (eC rfl (eC rfl (eC rfl (eC rfl eN))))) (mC rfl mN) rfl (prK rfl)) (Wk.trans (Wk.ownL (el' := [(0, .ptr 7 0), (2, .int .i64 p2), (8, .arr 145 (List.length ([] : List GStamp))), (9, .nil), (10, .int .i64 r1.1)]) 145 23 3 rfl rfl (wK (wK (wO (wK (wK wN)))))) (Wk.trans (Wk.to (el := [(0, .ptr 7 0), (2, .int .i64 p2), (8, .arr 145 (List.length ([] : List GStamp))), (9, .nil), (10, .int .i64 r1.1)]) (ml := [(7, .box [.lst 1 (List.map (LV.int .i64) r1.2.L), .int .i64 r1.2.At]), (145, .arr 23 3 (List.map GStamp.lv ([] : List GStamp)))]) (eC rfl (eC rfl (eC rfl (eC rfl (eC rfl eN))))) (mC rfl (mC rfl mN)) rfl (prK rfl)) (Wk.trans (Wk.ownL (el' := [(0, .ptr 7 0), (2, .int .i64 p2), (8, .arr 145 (List.length ([] : List GStamp))), (9, .arr 149 (List.length ([] : List Int))), (10, .int .i64 r1.1)]) 149 3 1 rfl rfl (wK (wK (wK (wO (wK wN)))))) (Wk.to (el := [(0, .ptr 7 0), (2, .int .i64 p2), (8, .arr 145 (List.length ([] : List GStamp))), (9, .arr 149 (List.length ([] : List Int))), (10, .int .i64 r1.1)]) (ml := [(7, .box [.lst 1 (List.map (LV.int .i64) r1.2.L), .int .i64 r1.2.At]), (145, .arr 23 3 (List.map GStamp.lv ([] : List GStamp))), (149, .arr 3 1 (List.map (LV.int .i64) ([] : List Int)))]) (eC rfl (eC rfl (eC rfl (eC rfl (eC rfl eN))))) (mC rfl (mC rfl (mC rfl mN))) rfl (prK rfl)))))))) ?_
  refine LH.loop (fun n e m => ∃ (n2 : Int) (l3 : List Int) (n4 : Int) (l5 : List GStamp) (l6 : List Int), law02_events_L1 p2 n n2 l3 n4 l5 l6 = some r ∧ e = Env.of [(0, .ptr 7 0), (2, .int .i64 p2), (8, .arr 145 (List.length l5)), (9, .arr 149 (List.length l6)), (10, .int .i64 n2)] ∧ m = Mem.of [(7, .box [.lst 1 (List.map (LV.int .i64) l3), .int .i64 n4]), (145, .arr 23 3 (List.map GStamp.lv l5)), (149, .arr 3 1 (List.map (LV.int .i64) l6))]) F ⟨r1.1, r1.2.L, r1.2.At, ([] : List GStamp), ([] : List Int), h, rfl, rfl⟩ ?_
  clear h
  rintro n e m ⟨n2, l3, n4, l5, l6, h, rfl, rfl⟩
  rcases n with _ | n
  · cases (show Option.none = some _ from h)
  obtain ⟨rec1, hrec1⟩ : ∃ f, f = law02_events_L1 p2 n := ⟨_, rfl⟩
  replace h : law02_events_L1_B p2 rec1 n2 l3 n4 l5 l6 = some r := hrec1 ▸ h
  unfold law02_events_L1_B at h
  refine LH.seq ?_
  refine LH.seqT [(0, .ptr 7 0), (2, .int .i64 p2), (8, .arr 145 (List.length l5)), (9, .arr 149 (List.length l6)), (10, .int .i64 n2), (17, .bool (decide (n2 > 0)))] [(7, .box [.lst 1 (List.map (LV.int .i64) l3), .int .i64 n4]), (145, .arr 23 3 (List.map GStamp.lv l5)), (149, .arr 3 1 (List.map (LV.int .i64) l6))] rfl ?_ ?_
  · refine sN (oM (v := (.int _ _)) rfl ?_)
    refine sN (oGt rfl rfl ?_)
    exact s0 (Wk.to (eC rfl (eC rfl (eC rfl (eC rfl (eC rfl (eC rfl eN)))))) (mC rfl (mC rfl (mC rfl mN))) rfl (prK rfl))
  refine LH.cond (t := (decide (n2 > 0))) rfl (fun hc7 => ?_) (fun hc7 => ?_)
  · replace h := iteT h hc7
    refine LH.skip ?_
    refine thenN ?_
    refine LH.wk (Wk.to (el := [(0, .ptr 7 0), (2, .int .i64 p2), (8, .arr 145 (List.length l5)), (9, .arr 149 (List.length l6)), (10, .int .i64 n2)]) (ml := [(7, .box [.lst 1 (List.map (LV.int .i64) l3), .int .i64 n4]), (145, .arr 23 3 (List.map GStamp.lv l5)), (149, .arr 3 1 (List.map (LV.int .i64) l6))]) (eC rfl (eC rfl (eC rfl (eC rfl (eC rfl eN))))) (mC rfl (mC rfl (mC rfl mN))) rfl (prK rfl)) ?_
    refine LH.seq ?_
    refine LH.block ?_
    obtain ⟨r8, hr8, h⟩ := bindS h
    refine LH.seqT [(0, .ptr 7 0), (2, .int .i64 p2), (8, .arr 145 (List.length l5)), (9, .arr 149 (List.length l6)), (10, .int .i64 n2), (11, .ptr 111 0), (12, .int .i64 0)] [(7, .box [.lst 1 (List.map (LV.int .i64) r8.2.L), .int .i64 r8.2.At]), (111, .box [.int .i64 r8.1.Time, .int .i64 r8.1.Source, .int .i64 r8.1.Seq]), (145, .arr 23 3 (List.map GStamp.lv l5)), (149, .arr 3 1 (List.map (LV.int .i64) l6))] rfl ?_ ?_
    · refine sN (oM (v := (.ptr _ _)) rfl ?_)
      refine sN (oM (v := (.int _ _)) rfl ?_)
      refine sN (oCM (args := [.ptr 7 0, .int .i64 p2]) (ml := [(7, .box [.lst 1 (List.map (LV.int .i64) l3), .int .i64 n4])]) (ml' := [(7, .box [.lst 1 (List.map (LV.int .i64) r8.2.L), .int .i64 r8.2.At])]) rfl isF35 rfl (sbR (sbR sbN)) (GTape_Stamp_ok hr8) (mC rfl mN) (newI rfl newN) rfl ?_)
      refine sN (oAl (id := 111) rfl tz23 rfl rfl ?_)
      refine s_ (oSt rfl rfl rfl tk23 ts23 rfl rfl rfl ?_)
      refine sN (oA (v := (.int _ _)) rfl ?_)
      exact s0 (Wk.to (eC rfl (eC rfl (eC rfl (eC rfl (eC rfl (eC rfl (eC rfl eN))))))) (mC rfl (mC rfl (mC rfl (mC rfl mN)))) rfl (prK rfl))
    refine LH.seq ?_
    obtain ⟨w12, hv, h⟩ := bindS h
    refine LH.seqT [(0, .ptr 7 0), (2, .int .i64 p2), (8, .arr 145 (List.length l5)), (9, .arr 149 (List.length l6)), (10, .int .i64 n2), (11, .ptr 111 0), (12, .int .i64 0), (30, .bool w12.1)] [(7, .box [.lst 1 (List.map (LV.int .i64) w12.2.1), .int .i64 w12.2.2]), (111, .box [.int .i64 r8.1.Time, .int .i64 r8.1.Source, .int .i64 r8.1.Seq]), (145, .arr 23 3 (List.map GStamp.lv l5)), (149, .arr 3 1 (List.map (LV.int .i64) l6))] rfl ?_ ?_
    · refine sN (oM (v := (.arr _ _)) rfl ?_)
      refine sN (oLnA (f := GStamp.lv) te31 rfl rfl ?_)
      refine sN (oGt rfl rfl ?_)
      refine sN (oM (v := (.bool _)) rfl ?_)
      by_cases hb13 : (decide ((l5.length : Int) > 0)) = true
      · replace hv := iteT hv hb13
        refine sT rfl (congrArg LV.bool hb13) (oM (v := (.ptr _ _)) rfl ?_)
        obtain ⟨r14, hr14, hv⟩ := bindS hv
        refine sT rfl (congrArg LV.bool hb13) (oCM (args := [.ptr 7 0, .int .i64 3]) (ml := [(7, .box [.lst 1 (List.map (LV.int .i64) r8.2.L), .int .i64 r8.2.At])]) (ml' := [(7, .box [.lst 1 (List.map (LV.int .i64) r14.2.L), .int .i64 r14.2.At])]) rfl isF36 rfl (sbR (sbR sbN)) (GTape_Next_ok hr14) (mC rfl mN) (newI rfl newN) rfl ?_)
        refine sT rfl (congrArg LV.bool hb13) (oEq rfl rfl ?_)
        refine sN (oPkT (congrArg LV.bool hb13) (v := (.bool _)) rfl ?_)
        obtain rfl := Option.some.inj hv
        exact s0 (Wk.to (eC rfl (eC rfl (eC rfl (eC rfl (eC rfl (eC rfl (eC rfl (eC rfl eN)))))))) (mC rfl (mC rfl (mC rfl (mC rfl mN)))) rfl (prK rfl))
      · replace hb13 := bF hb13
        replace hv := iteF hv hb13
        refine sF rfl rfl hb13 ?_
        refine sF rfl rfl hb13 ?_
        refine sF rfl rfl hb13 ?_
        refine sN (oPkF (congrArg LV.bool hb13) (v := (.bool _)) rfl ?_)
        obtain rfl := Option.some.inj hv
        exact s0 (Wk.to (eC rfl (eC rfl (eC rfl (eC rfl (eC rfl (eC rfl (eC rfl (eC rfl eN)))))))) (mC rfl (mC rfl (mC rfl (mC rfl mN)))) rfl (prK rfl))
    clear hv
    refine LH.cond (t := w12.1) rfl (fun hc15 => ?_) (fun hc15 => ?_)
    · replace h := iteT h hc15
      obtain ⟨r16, hr16, h⟩ := bindS h
      obtain ⟨x17, hx17, h⟩ := bindS h
      refine LH.loneT [(0, .ptr 7 0), (2, .int .i64 p2), (8, .arr 145 (List.length l5)), (9, .arr 149 (List.length l6)), (10, .int .i64 n2), (11, .sptr [.int .i64 x17.Time, .int .i64 x17.Source, .int .i64 x17.Seq]), (12, .int .i64 0)] [(7, .box [.lst 1 (List.map (LV.int .i64) r16.2.L), .int .i64 r16.2.At]), (145, .arr 23 3 (List.map GStamp.lv l5)), (149, .arr 3 1 (List.map (LV.int .i64) l6))] rfl ?_ ?_
      · refine sN (oM (v := (.arr _ _)) rfl ?_)
        refine sN (oM (v := (.ptr _ _)) rfl ?_)
        refine sN (oM (v := (.arr _ _)) rfl ?_)
        refine sN (oLnA (f := GStamp.lv) te31 rfl rfl ?_)
        refine sN (oCM (args := [.ptr 7 0, .int .i64 (l5.length : Int)]) (ml := [(7, .box [.lst 1 (List.map (LV.int .i64) w12.2.1), .int .i64 w12.2.2])]) (ml' := [(7, .box [.lst 1 (List.map (LV.int .i64) r16.2.L), .int .i64 r16.2.At])]) rfl isF36 rfl (sbR (sbR sbN)) (GTape_Next_ok hr16) (mC rfl mN) (newI rfl newN) rfl ?_)
        refine sN (oIxA (f := GStamp.lv) te31 tk23 ts23 rfl rfl rfl hx17 ?_)
        refine sN (oLdEA (f := GStamp.lv) rfl rfl (idxOk hx17).2 rfl rfl tk23 ta23 ts23 rfl rfl ?_)
        refine s_ (oSt rfl rfl rfl tk23 ts23 rfl rfl rfl ?_)
        exact s0 ((Wk.trans (Wk.to (el := [(0, .ptr 7 0), (2, .int .i64 p2), (8, .arr 145 (List.length l5)), (9, .arr 149 (List.length l6)), (10, .int .i64 n2), (11, .ptr 111 0), (12, .int .i64 0)]) (ml := [(7, .box [.lst 1 (List.map (LV.int .i64) r16.2.L), .int .i64 r16.2.At]), (111, .box [.int .i64 x17.Time, .int .i64 x17.Source, .int .i64 x17.Seq]), (145, .arr 23 3 (List.map GStamp.lv l5)), (149, .arr 3 1 (List.map (LV.int .i64) l6))]) (eC rfl (eC rfl (eC rfl (eC rfl (eC rfl (eC rfl (eC rfl eN))))))) (mC rfl (mC rfl (mC rfl (mC rfl mN)))) rfl (prK rfl)) (Wk.trans (Wk.frzB 111 [.int .i64 x17.Time, .int .i64 x17.Source, .int .i64 x17.Seq] rfl rfl rfl (prN rfl)) (Wk.to (eC rfl (eC rfl (eC rfl (eC rfl (eC rfl (eC rfl (eC rfl eN))))))) (mC rfl (mC rfl (mC rfl mN))) rfl (prK rfl)))))
      refine thenN ?_
      refine LH.seq ?_
      obtain ⟨r18, hr18, h⟩ := bindS h
      refine LH.seqT [(0, .ptr 7 0), (2, .int .i64 p2), (8, .arr 145 (List.length l5)), (9, .arr 149 (List.length l6)), (10, .int .i64 n2), (11, .sptr [.int .i64 x17.Time, .int .i64 x17.Source, .int .i64 x17.Seq]), (12, .int .i64 0), (39, .bool r18.1)] [(7, .box [.lst 1 (List.map (LV.int .i64) r18.2.L), .int .i64 r18.2.At]), (145, .arr 23 3 (List.map GStamp.lv l5)), (149, .arr 3 1 (List.map (LV.int .i64) l6))] rfl ?_ ?_
      · refine sN (oM (v := (.ptr _ _)) rfl ?_)
        refine sN (oCM (args := [.ptr 7 0, .int .i64 5]) (ml := [(7, .box [.lst 1 (List.map (LV.int .i64) r16.2.L), .int .i64 r16.2.At])]) (ml' := [(7, .box [.lst 1 (List.map (LV.int .i64) r18.2.L), .int .i64 r18.2.At])]) rfl isF19 rfl (sbR (sbR sbN)) (GTape_One_ok hr18) (mC rfl mN) (newI rfl newN) rfl ?_)
        exact s0 (Wk.to (eC rfl (eC rfl (eC rfl (eC rfl (eC rfl (eC rfl (eC rfl (eC rfl eN)))))))) (mC rfl (mC rfl (mC rfl mN))) rfl (prK rfl))
      refine LH.cond (t := r18.1) rfl (fun hc19 => ?_) (fun hc19 => ?_)
      · replace h := iteT h hc19
        obtain ⟨r20, hr20, h⟩ := bindS h
        refine LH.loneT [(0, .ptr 7 0), (2, .int .i64 p2), (8, .arr 145 (List.length l5)), (9, .arr 149 (List.length l6)), (10, .int .i64 n2), (11, .sptr [.int .i64 x17.Time, .int .i64 x17.Source, .int .i64 x17.Seq]), (12, .int .i64 r20.1)] [(7, .box [.lst 1 (List.map (LV.int .i64) r20.2.L), .int .i64 r20.2.At]), (145, .arr 23 3 (List.map GStamp.lv l5)), (149, .arr 3 1 (List.map (LV.int .i64) l6))] rfl ?_ ?_
        · refine sN (oM (v := (.ptr _ _)) rfl ?_)
          refine sN (oCM (args := [.ptr 7 0, .int .i64 3]) (ml := [(7, .box [.lst 1 (List.map (LV.int .i64) r18.2.L), .int .i64 r18.2.At])]) (ml' := [(7, .box [.lst 1 (List.map (LV.int .i64) r20.2.L), .int .i64 r20.2.At])]) rfl isF36 rfl (sbR (sbR sbN)) (GTape_Next_ok hr20) (mC rfl mN) (newI rfl newN) rfl ?_)
          refine sN (oA (v := (.int _ _)) rfl ?_)
          exact s0 (Wk.to (eC rfl (eC rfl (eC rfl (eC rfl (eC rfl (eC rfl (eC rfl eN))))))) (mC rfl (mC rfl (mC rfl mN))) rfl (prK rfl))
        refine thenN ?_
        obtain ⟨v21, hv21, h⟩ := bindS h
        obtain ⟨v22, hv22, h⟩ := bindS h
        refine LH.loneT [(0, .ptr 7 0), (2, .int .i64 p2), (8, .arr 145 (List.length v21)), (9, .arr 149 (List.length v22)), (10, .int .i64 n2)] [(7, .box [.lst 1 (List.map (LV.int .i64) r20.2.L), .int .i64 r20.2.At]), (145, .arr 23 3 (List.map GStamp.lv v21)), (149, .arr 3 1 (List.map (LV.int .i64) v22))] rfl ?_ ?_
        · refine sN (oM (v := (.arr _ _)) rfl ?_)
          refine sN (oLdA rfl tk23 ta23 ts23 rfl rfl ?_)
          refine sN (oBS (f := GStamp.lv) (ys := [x17]) te31 tr23 ts23 rfl rfl rfl GStamp.ok ?_)
          refine sN (oAp (f := GStamp.lv) te31 tr23 ts23 rfl rfl (prN rfl) rfl hv21 ?_)
          refine sN (oM (v := (.arr _ _)) rfl ?_)
          refine sN (oM (v := (.int _ _)) rfl ?_)
          refine sN (oBS (f := (LV.int .i64)) (ys := [r20.1]) te28 tr3 ts3 rfl rfl rfl okI ?_)
          refine sN (oAp (f := (LV.int .i64)) te28 tr3 ts3 rfl rfl (prN rfl) rfl hv22 ?_)
          refine sN (oA (v := (.arr _ _)) rfl ?_)
          refine sN (oA (v := (.arr _ _)) rfl ?_)
          exact s0 (Wk.to (eC rfl (eC rfl (eC rfl (eC rfl (eC rfl eN))))) (mC rfl (mC rfl (mC rfl mN))) rfl (prK rfl))
        refine blockN ?_
        refine thenN ?_
        refine LH.loneT [(0, .ptr 7 0), (2, .int .i64 p2), (8, .arr 145 (List.length v21)), (9, .arr 149 (List.length v22)), (10, .int .i64 (i64 (n2 - 1)))] [(7, .box [.lst 1 (List.map (LV.int .i64) r20.2.L), .int .i64 r20.2.At]), (145, .arr 23 3 (List.map GStamp.lv v21)), (149, .arr 3 1 (List.map (LV.int .i64) v22))] rfl ?_ ?_
        · refine sN (oM (v := (.int _ _)) rfl ?_)
          refine sN (oSub rfl rfl ?_)
          refine sN (oA (v := (.int _ _)) rfl ?_)
          exact s0 (Wk.to (eC rfl (eC rfl (eC rfl (eC rfl (eC rfl eN))))) (mC rfl (mC rfl (mC rfl mN))) rfl (prK rfl))
        exact roundN (e' := Env.of [(0, .ptr 7 0), (2, .int .i64 p2), (8, .arr 145 (List.length v21)), (9, .arr 149 (List.length v22)), (10, .int .i64 (i64 (n2 - 1)))]) (m' := Mem.of [(7, .box [.lst 1 (List.map (LV.int .i64) r20.2.L), .int .i64 r20.2.At]), (145, .arr 23 3 (List.map GStamp.lv v21)), (149, .arr 3 1 (List.map (LV.int .i64) v22))]) (Wk.to (eC rfl (eC rfl (eC rfl (eC rfl (eC rfl eN))))) (mC rfl (mC rfl (mC rfl mN))) rfl (prK rfl)) ⟨(i64 (n2 - 1)), r20.2.L, r20.2.At, v21, v22, hrec1 ▸ h, rfl, rfl⟩
      replace h := iteF h hc19
      refine LH.skip ?_
      refine thenN ?_
      refine LH.wk (Wk.to (el := [(0, .ptr 7 0), (2, .int .i64 p2), (8, .arr 145 (List.length l5)), (9, .arr 149 (List.length l6)), (10, .int .i64 n2), (11, .sptr [.int .i64 x17.Time, .int .i64 x17.Source, .int .i64 x17.Seq]), (12, .int .i64 0)]) (ml := [(7, .box [.lst 1 (List.map (LV.int .i64) r18.2.L), .int .i64 r18.2.At]), (145, .arr 23 3 (List.map GStamp.lv l5)), (149, .arr 3 1 (List.map (LV.int .i64) l6))]) (eC rfl (eC rfl (eC rfl (eC rfl (eC rfl (eC rfl (eC rfl eN))))))) (mC rfl (mC rfl (mC rfl mN))) rfl (prK rfl)) ?_
      obtain ⟨v23, hv23, h⟩ := bindS h
      obtain ⟨v24, hv24, h⟩ := bindS h
      refine LH.loneT [(0, .ptr 7 0), (2, .int .i64 p2), (8, .arr 145 (List.length v23)), (9, .arr 149 (List.length v24)), (10, .int .i64 n2)] [(7, .box [.lst 1 (List.map (LV.int .i64) r18.2.L), .int .i64 r18.2.At]), (145, .arr 23 3 (List.map GStamp.lv v23)), (149, .arr 3 1 (List.map (LV.int .i64) v24))] rfl ?_ ?_
      · refine sN (oM (v := (.arr _ _)) rfl ?_)
        refine sN (oLdA rfl tk23 ta23 ts23 rfl rfl ?_)
        refine sN (oBS (f := GStamp.lv) (ys := [x17]) te31 tr23 ts23 rfl rfl rfl GStamp.ok ?_)
        refine sN (oAp (f := GStamp.lv) te31 tr23 ts23 rfl rfl (prN rfl) rfl hv23 ?_)
        refine sN (oM (v := (.arr _ _)) rfl ?_)
        refine sN (oM (v := (.int _ _)) rfl ?_)
        refine sN (oBS (f := (LV.int .i64)) (ys := [0]) te28 tr3 ts3 rfl rfl rfl okI ?_)
        refine sN (oAp (f := (LV.int .i64)) te28 tr3 ts3 rfl rfl (prN rfl) rfl hv24 ?_)
        refine sN (oA (v := (.arr _ _)) rfl ?_)
        refine sN (oA (v := (.arr _ _)) rfl ?_)
        exact s0 (Wk.to (eC rfl (eC rfl (eC rfl (eC rfl (eC rfl eN))))) (mC rfl (mC rfl (mC rfl mN))) rfl (prK rfl))
      refine blockN ?_
      refine thenN ?_
      refine LH.loneT [(0, .ptr 7 0), (2, .int .i64 p2), (8, .arr 145 (List.length v23)), (9, .arr 149 (List.length v24)), (10, .int .i64 (i64 (n2 - 1)))] [(7, .box [.lst 1 (List.map (LV.int .i64) r18.2.L), .int .i64 r18.2.At]), (145, .arr 23 3 (List.map GStamp.lv v23)), (149, .arr 3 1 (List.map (LV.int .i64) v24))] rfl ?_ ?_
      · refine sN (oM (v := (.int _ _)) rfl ?_)
        refine sN (oSub rfl rfl ?_)
        refine sN (oA (v := (.int _ _)) rfl ?_)
        exact s0 (Wk.to (eC rfl (eC rfl (eC rfl (eC rfl (eC rfl eN))))) (mC rfl (mC rfl (mC rfl mN))) rfl (prK rfl))
      exact roundN (e' := Env.of [(0, .ptr 7 0), (2, .int .i64 p2), (8, .arr 145 (List.length v23)), (9, .arr 149 (List.length v24)), (10, .int .i64 (i64 (n2 - 1)))]) (m' := Mem.of [(7, .box [.lst 1 (List.map (LV.int .i64) r18.2.L), .int .i64 r18.2.At]), (145, .arr 23 3 (List.map GStamp.lv v23)), (149, .arr 3 1 (List.map (LV.int .i64) v24))]) (Wk.to (eC rfl (eC rfl (eC rfl (eC rfl (eC rfl eN))))) (mC rfl (mC rfl (mC rfl mN))) rfl (prK rfl)) ⟨(i64 (n2 - 1)), r18.2.L, r18.2.At, v23, v24, hrec1 ▸ h, rfl, rfl⟩
    replace h := iteF h hc15
    refine LH.skip ?_
    refine thenN ?_
    refine LH.wk ((Wk.trans (Wk.to (el := [(0, .ptr 7 0), (2, .int .i64 p2), (8, .arr 145 (List.length l5)), (9, .arr 149 (List.length l6)), (10, .int .i64 n2), (11, .ptr 111 0), (12, .int .i64 0)]) (ml := [(7, .box [.lst 1 (List.map (LV.int .i64) w12.2.1), .int .i64 w12.2.2]), (111, .box [.int .i64 r8.1.Time, .int .i64 r8.1.Source, .int .i64 r8.1.Seq]), (145, .arr 23 3 (List.map GStamp.lv l5)), (149, .arr 3 1 (List.map (LV.int .i64) l6))]) (eC rfl (eC rfl (eC rfl (eC rfl (eC rfl (eC rfl (eC rfl eN))))))) (mC rfl (mC rfl (mC rfl (mC rfl mN)))) rfl (prK rfl)) (Wk.trans (Wk.frzB 111 [.int .i64 r8.1.Time, .int .i64 r8.1.Source, .int .i64 r8.1.Seq] rfl rfl rfl (prN rfl)) (Wk.to (el := [(0, .ptr 7 0), (2, .int .i64 p2), (8, .arr 145 (List.length l5)), (9, .arr 149 (List.length l6)), (10, .int .i64 n2), (11, .sptr [.int .i64 r8.1.Time, .int .i64 r8.1.Source, .int .i64 r8.1.Seq]), (12, .int .i64 0)]) (ml := [(7, .box [.lst 1 (List.map (LV.int .i64) w12.2.1), .int .i64 w12.2.2]), (145, .arr 23 3 (List.map GStamp.lv l5)), (149, .arr 3 1 (List.map (LV.int .i64) l6))]) (eC rfl (eC rfl (eC rfl (eC rfl (eC rfl (eC rfl (eC rfl eN))))))) (mC rfl (mC rfl (mC rfl mN))) rfl (prK rfl))))) ?_
    refine LH.seq ?_
    obtain ⟨r25, hr25, h⟩ := bindS h
    refine LH.seqT [(0, .ptr 7 0), (2, .int .i64 p2), (8, .arr 145 (List.length l5)), (9, .arr 149 (List.length l6)), (10, .int .i64 n2), (11, .sptr [.int .i64 r8.1.Time, .int .i64 r8.1.Source, .int .i64 r8.1.Seq]), (12, .int .i64 0), (39, .bool r25.1)] [(7, .box [.lst 1 (List.map (LV.int .i64) r25.2.L), .int .i64 r25.2.At]), (145, .arr 23 3 (List.map GStamp.lv l5)), (149, .arr 3 1 (List.map (LV.int .i64) l6))] rfl ?_ ?_
    · refine sN (oM (v := (.ptr _ _)) rfl ?_)
      refine sN (oCM (args := [.ptr 7 0, .int .i64 5]) (ml := [(7, .box [.lst 1 (List.map (LV.int .i64) w12.2.1), .int .i64 w12.2.2])]) (ml' := [(7, .box [.lst 1 (List.map (LV.int .i64) r25.2.L), .int .i64 r25.2.At])]) rfl isF19 rfl (sbR (sbR sbN)) (GTape_One_ok hr25) (mC rfl mN) (newI rfl newN) rfl ?_)
      exact s0 (Wk.to (eC rfl (eC rfl (eC rfl (eC rfl (eC rfl (eC rfl (eC rfl (eC rfl eN)))))))) (mC rfl (mC rfl (mC rfl mN))) rfl (prK rfl))
    refine LH.cond (t := r25.1) rfl (fun hc26 => ?_) (fun hc26 => ?_)
    · replace h := iteT h hc26
      obtain ⟨r27, hr27, h⟩ := bindS h
      refine LH.loneT [(0, .ptr 7 0), (2, .int .i64 p2), (8, .arr 145 (List.length l5)), (9, .arr 149 (List.length l6)), (10, .int .i64 n2), (11, .sptr [.int .i64 r8.1.Time, .int .i64 r8.1.Source, .int .i64 r8.1.Seq]), (12, .int .i64 r27.1)] [(7, .box [.lst 1 (List.map (LV.int .i64) r27.2.L), .int .i64 r27.2.At]), (145, .arr 23 3 (List.map GStamp.lv l5)), (149, .arr 3 1 (List.map (LV.int .i64) l6))] rfl ?_ ?_
      · refine sN (oM (v := (.ptr _ _)) rfl ?_)
        refine sN (oCM (args := [.ptr 7 0, .int .i64 3]) (ml := [(7, .box [.lst 1 (List.map (LV.int .i64) r25.2.L), .int .i64 r25.2.At])]) (ml' := [(7, .box [.lst 1 (List.map (LV.int .i64) r27.2.L), .int .i64 r27.2.At])]) rfl isF36 rfl (sbR (sbR sbN)) (GTape_Next_ok hr27) (mC rfl mN) (newI rfl newN) rfl ?_)
        refine sN (oA (v := (.int _ _)) rfl ?_)
        exact s0 (Wk.to (eC rfl (eC rfl (eC rfl (eC rfl (eC rfl (eC rfl (eC rfl eN))))))) (mC rfl (mC rfl (mC rfl mN))) rfl (prK rfl))
      refine thenN ?_
      obtain ⟨v28, hv28, h⟩ := bindS h
      obtain ⟨v29, hv29, h⟩ := bindS h
      refine LH.loneT [(0, .ptr 7 0), (2, .int .i64 p2), (8, .arr 145 (List.length v28)), (9, .arr 149 (List.length v29)), (10, .int .i64 n2)] [(7, .box [.lst 1 (List.map (LV.int .i64) r27.2.L), .int .i64 r27.2.At]), (145, .arr 23 3 (List.map GStamp.lv v28)), (149, .arr 3 1 (List.map (LV.int .i64) v29))] rfl ?_ ?_
      · refine sN (oM (v := (.arr _ _)) rfl ?_)
        refine sN (oLdA rfl tk23 ta23 ts23 rfl rfl ?_)
        refine sN (oBS (f := GStamp.lv) (ys := [r8.1]) te31 tr23 ts23 rfl rfl rfl GStamp.ok ?_)
        refine sN (oAp (f := GStamp.lv) te31 tr23 ts23 rfl rfl (prN rfl) rfl hv28 ?_)
        refine sN (oM (v := (.arr _ _)) rfl ?_)
        refine sN (oM (v := (.int _ _)) rfl ?_)
        refine sN (oBS (f := (LV.int .i64)) (ys := [r27.1]) te28 tr3 ts3 rfl rfl rfl okI ?_)
        refine sN (oAp (f := (LV.int .i64)) te28 tr3 ts3 rfl rfl (prN rfl) rfl hv29 ?_)
        refine sN (oA (v := (.arr _ _)) rfl ?_)
        refine sN (oA (v := (.arr _ _)) rfl ?_)
        exact s0 (Wk.to (eC rfl (eC rfl (eC rfl (eC rfl (eC rfl eN))))) (mC rfl (mC rfl (mC rfl mN))) rfl (prK rfl))
      refine blockN ?_
      refine thenN ?_
      refine LH.loneT [(0, .ptr 7 0), (2, .int .i64 p2), (8, .arr 145 (List.length v28)), (9, .arr 149 (List.length v29)), (10, .int .i64 (i64 (n2 - 1)))] [(7, .box [.lst 1 (List.map (LV.int .i64) r27.2.L), .int .i64 r27.2.At]), (145, .arr 23 3 (List.map GStamp.lv v28)), (149, .arr 3 1 (List.map (LV.int .i64) v29))] rfl ?_ ?_
      · refine sN (oM (v := (.int _ _)) rfl ?_)
        refine sN (oSub rfl rfl ?_)
        refine sN (oA (v := (.int _ _)) rfl ?_)
        exact s0 (Wk.to (eC rfl (eC rfl (eC rfl (eC rfl (eC rfl eN))))) (mC rfl (mC rfl (mC rfl mN))) rfl (prK rfl))
      exact roundN (e' := Env.of [(0, .ptr 7 0), (2, .int .i64 p2), (8, .arr 145 (List.length v28)), (9, .arr 149 (List.length v29)), (10, .int .i64 (i64 (n2 - 1)))]) (m' := Mem.of [(7, .box [.lst 1 (List.map (LV.int .i64) r27.2.L), .int .i64 r27.2.At]), (145, .arr 23 3 (List.map GStamp.lv v28)), (149, .arr 3 1 (List.map (LV.int .i64) v29))]) (Wk.to (eC rfl (eC rfl (eC rfl (eC rfl (eC rfl eN))))) (mC rfl (mC rfl (mC rfl mN))) rfl (prK rfl)) ⟨(i64 (n2 - 1)), r27.2.L, r27.2.At, v28, v29, hrec1 ▸ h, rfl, rfl⟩
    replace h := iteF h hc26
    refine LH.skip ?_
    refine thenN ?_
    refine LH.wk (Wk.to (el := [(0, .ptr 7 0), (2, .int .i64 p2), (8, .arr 145 (List.length l5)), (9, .arr 149 (List.length l6)), (10, .int .i64 n2), (11, .sptr [.int .i64 r8.1.Time, .int .i64 r8.1.Source, .int .i64 r8.1.Seq]), (12, .int .i64 0)]) (ml := [(7, .box [.lst 1 (List.map (LV.int .i64) r25.2.L), .int .i64 r25.2.At]), (145, .arr 23 3 (List.map GStamp.lv l5)), (149, .arr 3 1 (List.map (LV.int .i64) l6))]) (eC rfl (eC rfl (eC rfl (eC rfl (eC rfl (eC rfl (eC rfl eN))))))) (mC rfl (mC rfl (mC rfl mN))) rfl (prK rfl)) ?_
    obtain ⟨v30, hv30, h⟩ := bindS h
    obtain ⟨v31, hv31, h⟩ := bindS h
    refine LH.loneT [(0, .ptr 7 0), (2, .int .i64 p2), (8, .arr 145 (List.length v30)), (9, .arr 149 (List.length v31)), (10, .int .i64 n2)] [(7, .box [.lst 1 (List.map (LV.int .i64) r25.2.L), .int .i64 r25.2.At]), (145, .arr 23 3 (List.map GStamp.lv v30)), (149, .arr 3 1 (List.map (LV.int .i64) v31))] rfl ?_ ?_
    · refine sN (oM (v := (.arr _ _)) rfl ?_)
      refine sN (oLdA rfl tk23 ta23 ts23 rfl rfl ?_)
      refine sN (oBS (f := GStamp.lv) (ys := [r8.1]) te31 tr23 ts23 rfl rfl rfl GStamp.ok ?_)
      refine sN (oAp (f := GStamp.lv) te31 tr23 ts23 rfl rfl (prN rfl) rfl hv30 ?_)
      refine sN (oM (v := (.arr _ _)) rfl ?_)
      refine sN (oM (v := (.int _ _)) rfl ?_)
      refine sN (oBS (f := (LV.int .i64)) (ys := [0]) te28 tr3 ts3 rfl rfl rfl okI ?_)
      refine sN (oAp (f := (LV.int .i64)) te28 tr3 ts3 rfl rfl (prN rfl) rfl hv31 ?_)
      refine sN (oA (v := (.arr _ _)) rfl ?_)
      refine sN (oA (v := (.arr _ _)) rfl ?_)
      exact s0 (Wk.to (eC rfl (eC rfl (eC rfl (eC rfl (eC rfl eN))))) (mC rfl (mC rfl (mC rfl mN))) rfl (prK rfl))
    refine blockN ?_
    refine thenN ?_
    refine LH.loneT [(0, .ptr 7 0), (2, .int .i64 p2), (8, .arr 145 (List.length v30)), (9, .arr 149 (List.length v31)), (10, .int .i64 (i64 (n2 - 1)))] [(7, .box [.lst 1 (List.map (LV.int .i64) r25.2.L), .int .i64 r25.2.At]), (145, .arr 23 3 (List.map GStamp.lv v30)), (149, .arr 3 1 (List.map (LV.int .i64) v31))] rfl ?_ ?_
    · refine sN (oM (v := (.int _ _)) rfl ?_)
      refine sN (oSub rfl rfl ?_)
      refine sN (oA (v := (.int _ _)) rfl ?_)
      exact s0 (Wk.to (eC rfl (eC rfl (eC rfl (eC rfl (eC rfl eN))))) (mC rfl (mC rfl (mC rfl mN))) rfl (prK rfl))
    exact roundN (e' := Env.of [(0, .ptr 7 0), (2, .int .i64 p2), (8, .arr 145 (List.length v30)), (9, .arr 149 (List.length v31)), (10, .int .i64 (i64 (n2 - 1)))]) (m' := Mem.of [(7, .box [.lst 1 (List.map (LV.int .i64) r25.2.L), .int .i64 r25.2.At]), (145, .arr 23 3 (List.map GStamp.lv v30)), (149, .arr 3 1 (List.map (LV.int .i64) v31))]) (Wk.to (eC rfl (eC rfl (eC rfl (eC rfl (eC rfl eN))))) (mC rfl (mC rfl (mC rfl mN))) rfl (prK rfl)) ⟨(i64 (n2 - 1)), r25.2.L, r25.2.At, v30, v31, hrec1 ▸ h, rfl, rfl⟩
  replace h := iteF h hc7
  refine LH.exit ?_
  refine thenX ?_
  refine roundX ?_
  refine blockH ?_
  refine thenN ?_
  refine LH.wk (Wk.to (el := [(8, .arr 145 (List.length l5)), (9, .arr 149 (List.length l6))]) (ml := [(7, .box [.lst 1 (List.map (LV.int .i64) l3), .int .i64 n4]), (145, .arr 23 3 (List.map GStamp.lv l5)), (149, .arr 3 1 (List.map (LV.int .i64) l6))]) (eC rfl (eC rfl eN)) (mC rfl (mC rfl (mC rfl mN))) rfl (prK rfl)) ?_
  refine LH.seqT [(6, .arr 145 (List.length l5)), (7, .arr 149 (List.length l6))] [(7, .box [.lst 1 (List.map (LV.int .i64) l3), .int .i64 n4]), (145, .arr 23 3 (List.map GStamp.lv l5)), (149, .arr 3 1 (List.map (LV.int .i64) l6))] rfl ?_ ?_
  · refine sN (oM (v := (.arr _ _)) rfl ?_)
    refine sN (oM (v := (.arr _ _)) rfl ?_)
    refine sN (oA (v := (.arr _ _)) rfl ?_)
    refine sN (oA (v := (.arr _ _)) rfl ?_)
    exact s0 (Wk.to (eC rfl (eC rfl eN)) (mC rfl (mC rfl (mC rfl mN))) rfl (prK rfl))
  refine LH.ret ?_
  obtain rfl := Option.some.inj h
  exact retE (congrArg Array.toList Try.results18) (lrT rfl (lrT rfl (lr0 ⟨memN (mC rfl (mC rfl (mC rfl mN))), rfl, prK rfl, (Sub.tup (sbR (sbR sbN)))⟩)))

theorem ref02_disputes_ok {p0 : GStamp} {p1 : GStamp} {p2 : Int} {p3 : Int} {r : Bool} (h : ref02_disputes p0 p1 p2 p3 = some r) : LCall Try.prog 42 [.agg [.int .i64 p0.Time, .int .i64 p0.Source, .int .i64 p0.Seq], .agg [.int .i64 p1.Time, .int .i64 p1.Source, .int .i64 p1.Seq], .int .i64 p2, .int .i64 p3] (Mem.of []) (.bool r) (Mem.of []) := by
  unfold ref02_disputes at h
  refine bodyT Try.func42 rfl (by rw [Try.ntmps42]; exact Nat.le_of_ble_eq_true rfl) ?_
  refine LH.wk (Wk.to (el := [(0, .agg [.int .i64 p0.Time, .int .i64 p0.Source, .int .i64 p0.Seq]), (1, .agg [.int .i64 p1.Time, .int .i64 p1.Source, .int .i64 p1.Seq]), (2, .int .i64 p2), (3, .int .i64 p3)]) (ml := []) (eC rfl (eC rfl (eC rfl (eC rfl eN)))) mN rfl (prK rfl)) ?_
  refine LH.seqT [(2, .int .i64 p2), (3, .int .i64 p3), (4, .sptr [.int .i64 p0.Time, .int .i64 p0.Source, .int .i64 p0.Seq]), (5, .sptr [.int .i64 p1.Time, .int .i64 p1.Source, .int .i64 p1.Seq])] [] rfl ?_ ?_
  · refine sB (oBxR rfl rfl rfl rfl rfl ?_)
    refine sB (oBxR rfl rfl rfl rfl rfl ?_)
    refine sN (oA (v := (.bool _)) rfl ?_)
    exact s0 (Wk.to (eC rfl (eC rfl (eC rfl (eC rfl eN)))) mN rfl (prK rfl))
  refine LH.seqT [(8, .bool ((p0.Source == p1.Source) && ((p0.Seq == p1.Seq) && ((p0.Time != p1.Time) || (p2 != p3)))))] [] rfl ?_ ?_
  · refine sN (oFaS tf23_1 tk3 ts3 rfl rfl rfl ?_)
    refine sN (oLd rfl tk3 ta3 ?_)
    refine sN (oFaS tf23_1 tk3 ts3 rfl rfl rfl ?_)
    refine sN (oLd rfl tk3 ta3 ?_)
    refine sN (oEq rfl rfl ?_)
    refine sN (oM (v := (.bool _)) rfl ?_)
    by_cases hb2 : (p0.Source == p1.Source) = true
    · refine sT rfl (congrArg LV.bool hb2) (oFaS tf23_2 tk3 ts3 rfl rfl rfl ?_)
      refine sT rfl (congrArg LV.bool hb2) (oLd rfl tk3 ta3 ?_)
      refine sT rfl (congrArg LV.bool hb2) (oFaS tf23_2 tk3 ts3 rfl rfl rfl ?_)
      refine sT rfl (congrArg LV.bool hb2) (oLd rfl tk3 ta3 ?_)
      refine sT rfl (congrArg LV.bool hb2) (oEq rfl rfl ?_)
      refine sN (oPkT (congrArg LV.bool hb2) (v := (.bool _)) rfl ?_)
      refine sN (oM (v := (.bool _)) rfl ?_)
      by_cases hb3 : (p0.Seq == p1.Seq) = true
      · refine sT rfl (congrArg LV.bool hb3) (oFaS tf23_0 tk3 ts3 rfl rfl rfl ?_)
        refine sT rfl (congrArg LV.bool hb3) (oLd rfl tk3 ta3 ?_)
        refine sT rfl (congrArg LV.bool hb3) (oFaS tf23_0 tk3 ts3 rfl rfl rfl ?_)
        refine sT rfl (congrArg LV.bool hb3) (oLd rfl tk3 ta3 ?_)
        refine sT rfl (congrArg LV.bool hb3) (oNe rfl rfl ?_)
        refine sT rfl (congrArg LV.bool hb3) (oM (v := (.bool _)) rfl ?_)
        by_cases hb4 : (p0.Time != p1.Time) = true
        · refine sF rfl rfl hb4 ?_
          refine sF rfl rfl hb4 ?_
          refine sF rfl rfl hb4 ?_
          refine sT rfl (congrArg LV.bool hb3) (oPkT (congrArg LV.bool hb4) (v := (.bool _)) rfl ?_)
          refine sN (oPkT (congrArg LV.bool hb3) (v := (.bool _)) rfl ?_)
          refine sN (oA (v := (.bool _)) rfl ?_)
          exact s0 (Wk.to (eC (congrArg LV.bool (Eq.trans (Eq.trans (orT hb4) (andT hb3)) (andT hb2))) eN) mN rfl (prK rfl))
        · replace hb4 := bF hb4
          refine sT rfl (congrArg LV.bool hb4) (oM (v := (.int _ _)) rfl ?_)
          refine sT rfl (congrArg LV.bool hb4) (oM (v := (.int _ _)) rfl ?_)
          refine sT rfl (congrArg LV.bool hb4) (oNe rfl rfl ?_)
          refine sT rfl (congrArg LV.bool hb3) (oPkF (congrArg LV.bool hb4) (v := (.bool _)) rfl ?_)
          refine sN (oPkT (congrArg LV.bool hb3) (v := (.bool _)) rfl ?_)
          refine sN (oA (v := (.bool _)) rfl ?_)
          exact s0 (Wk.to (eC (congrArg LV.bool (Eq.trans (Eq.trans (orF hb4) (andT hb3)) (andT hb2))) eN) mN rfl (prK rfl))
      · replace hb3 := bF hb3
        refine sF rfl rfl hb3 ?_
        refine sF rfl rfl hb3 ?_
        refine sF rfl rfl hb3 ?_
        refine sF rfl rfl hb3 ?_
        refine sF rfl rfl hb3 ?_
        refine sF rfl rfl hb3 ?_
        refine sU rfl rfl ?_
        refine sU rfl rfl ?_
        refine sU rfl rfl ?_
        refine sF rfl rfl hb3 ?_
        refine sN (oPkF (congrArg LV.bool hb3) (v := (.bool _)) rfl ?_)
        refine sN (oA (v := (.bool _)) rfl ?_)
        exact s0 (Wk.to (eC (congrArg LV.bool (Eq.trans (andF hb3) (andT hb2))) eN) mN rfl (prK rfl))
    · replace hb2 := bF hb2
      refine sF rfl rfl hb2 ?_
      refine sF rfl rfl hb2 ?_
      refine sF rfl rfl hb2 ?_
      refine sF rfl rfl hb2 ?_
      refine sF rfl rfl hb2 ?_
      refine sN (oPkF (congrArg LV.bool hb2) (v := (.bool _)) rfl ?_)
      refine sN (oM (v := (.bool _)) rfl ?_)
      refine sF rfl rfl rfl ?_
      refine sF rfl rfl rfl ?_
      refine sF rfl rfl rfl ?_
      refine sF rfl rfl rfl ?_
      refine sF rfl rfl rfl ?_
      refine sF rfl rfl rfl ?_
      refine sU rfl rfl ?_
      refine sU rfl rfl ?_
      refine sU rfl rfl ?_
      refine sF rfl rfl rfl ?_
      refine sN (oPkF rfl (v := (.bool _)) rfl ?_)
      refine sN (oA (v := (.bool _)) rfl ?_)
      exact s0 (Wk.to (eC (congrArg LV.bool (andF hb2)) eN) mN rfl (prK rfl))
  refine LH.ret ?_
  obtain rfl := Option.some.inj h
  exact retE (congrArg Array.toList Try.results42) (lrT rfl (lr0 ⟨memN mN, rfl, prK rfl, Sub.rfl⟩))

theorem ref02_Counts_ok {F : Nat} {p0 : List GStamp} {p1 : List Int} {p2 : Int} {r : Bool} (h : ref02_Counts F p0 p1 p2 = some r) : LCall Try.prog 40 [.lst 3 (List.map GStamp.lv p0), .lst 1 (List.map (LV.int .i64) p1), .int .i64 p2] (Mem.of []) (.bool r) (Mem.of []) := by
  unfold ref02_Counts at h
  refine bodyT Try.func40 rfl (by rw [Try.ntmps40]; exact Nat.le_of_ble_eq_true rfl) ?_
  refine LH.wk (Wk.to (el := [(0, .lst 3 (List.map GStamp.lv p0)), (1, .lst 1 (List.map (LV.int .i64) p1)), (2, .int .i64 p2)]) (ml := []) (eC rfl (eC rfl (eC rfl eN))) mN rfl (prK rfl)) ?_
  refine LH.seqT [(0, .lst 3 (List.map GStamp.lv p0)), (1, .lst 1 (List.map (LV.int .i64) p1)), (2, .int .i64 p2)] [] rfl ?_ ?_
  · refine sN (oA (v := (.bool _)) rfl ?_)
    exact s0 (Wk.to (eC rfl (eC rfl (eC rfl eN))) mN rfl (prK rfl))
  refine LH.seq ?_
  obtain ⟨x1, hx1, h⟩ := bindS h
  obtain ⟨r2, hr2, h⟩ := bindS h
  refine LH.seqT [(0, .lst 3 (List.map GStamp.lv p0)), (1, .lst 1 (List.map (LV.int .i64) p1)), (2, .int .i64 p2), (13, .bool (!r2))] [] rfl ?_ ?_
  · refine sN (oM (v := (.lst _ _)) rfl ?_)
    refine sN (oM (v := (.int _ _)) rfl ?_)
    refine sN (oIx (f := GStamp.lv) te31 tk23 ts23 rfl rfl GStamp.ok hx1 rfl ?_)
    refine sN (oLdA rfl tk23 ta23 ts23 rfl rfl ?_)
    refine sN (oCP (args := [.agg [.int .i64 x1.Time, .int .i64 x1.Source, .int .i64 x1.Seq]]) rfl isF13 rfl (sbR sbN) (ref02_Valid_ok hr2) rfl ?_)
    refine sN (oNot rfl ?_)
    exact s0 (Wk.to (eC rfl (eC rfl (eC rfl (eC rfl eN)))) mN rfl (prK rfl))
  refine LH.cond (t := (!r2)) rfl (fun hc3 => ?_) (fun hc3 => ?_)
  · replace h := iteT h hc3
    refine LH.seqT [(6, .bool false)] [] rfl ?_ ?_
    · refine sN (oA (v := (.bool _)) rfl ?_)
      exact s0 (Wk.to (eC rfl eN) mN rfl (prK rfl))
    refine LH.ret ?_
    refine thenR ?_
    obtain rfl := Option.some.inj h
    exact retE (congrArg Array.toList Try.results40) (lrT rfl (lr0 ⟨memN mN, rfl, prK rfl, Sub.rfl⟩))
  replace h := iteF h hc3
  refine LH.skip ?_
  refine thenN ?_
  refine LH.wk (Wk.to (el := [(0, .lst 3 (List.map GStamp.lv p0)), (1, .lst 1 (List.map (LV.int .i64) p1)), (2, .int .i64 p2)]) (ml := []) (eC rfl (eC rfl (eC rfl eN))) mN rfl (prK rfl)) ?_
  refine LH.seq ?_
  refine LH.seqT [(0, .lst 3 (List.map GStamp.lv p0)), (1, .lst 1 (List.map (LV.int .i64) p1)), (2, .int .i64 p2), (7, .int .i64 0)] [] rfl ?_ ?_
  · refine sN (oA (v := (.int _ _)) rfl ?_)
    exact s0 (Wk.to (eC rfl (eC rfl (eC rfl (eC rfl eN)))) mN rfl (prK rfl))
  refine LH.block ?_
  refine LH.loop (fun n e m => ∃ (n4 : Int), ref02_Counts_L1 p0 p1 p2 n n4 = some r ∧ e = Env.of [(0, .lst 3 (List.map GStamp.lv p0)), (1, .lst 1 (List.map (LV.int .i64) p1)), (2, .int .i64 p2), (7, .int .i64 n4)] ∧ m = Mem.of []) F ⟨0, h, rfl, rfl⟩ ?_
  clear h
  rintro n e m ⟨n4, h, rfl, rfl⟩
  rcases n with _ | n
  · cases (show Option.none = some _ from h)
  obtain ⟨rec1, hrec1⟩ : ∃ f, f = ref02_Counts_L1 p0 p1 p2 n := ⟨_, rfl⟩
  replace h : ref02_Counts_L1_B p0 p1 p2 rec1 n4 = some r := hrec1 ▸ h
  unfold ref02_Counts_L1_B at h
  refine LH.seq ?_
  refine LH.seqT [(0, .lst 3 (List.map GStamp.lv p0)), (1, .lst 1 (List.map (LV.int .i64) p1)), (2, .int .i64 p2), (7, .int .i64 n4), (17, .bool (decide (n4 < (p0.length : Int))))] [] rfl ?_ ?_
  · refine sN (oM (v := (.int _ _)) rfl ?_)
    refine sN (oM (v := (.lst _ _)) rfl ?_)
    refine sN (oLnL (f := GStamp.lv) te31 rfl ?_)
    refine sN (oLt rfl rfl ?_)
    exact s0 (Wk.to (eC rfl (eC rfl (eC rfl (eC rfl (eC rfl eN))))) mN rfl (prK rfl))
  refine LH.cond (t := (decide (n4 < (p0.length : Int)))) rfl (fun hc5 => ?_) (fun hc5 => ?_)
  · replace h := iteT h hc5
    refine LH.skip ?_
    refine thenN ?_
    refine LH.wk (Wk.to (el := [(0, .lst 3 (List.map GStamp.lv p0)), (1, .lst 1 (List.map (LV.int .i64) p1)), (2, .int .i64 p2), (7, .int .i64 n4)]) (ml := []) (eC rfl (eC rfl (eC rfl (eC rfl eN)))) mN rfl (prK rfl)) ?_
    refine LH.seq ?_
    refine LH.block ?_
    obtain ⟨w7, hv, h⟩ := bindS h
    refine LH.seqJM mixed [] [0, 0, 0, 0, 0, 0, 0, 0, 0, 0, 0, 0, 0, 0, 0, 0, 0, 0, 0, 0, 0, 0, 0, 0, 0, 0, 0, 0, 0, 0, 0, 0, 0, 0, 0, 0, 0, 0, 0, 0] [(0, .lst 3 (List.map GStamp.lv p0)), (1, .lst 1 (List.map (LV.int .i64) p1)), (2, .int .i64 p2), (7, .int .i64 n4), (59, .bool w7)] [] rfl rfl (by kernel_rfl) ?_ ?_
    · refine mN0 (oM (v := (.lst _ _)) rfl ⟨rfl, ?_⟩)
      refine mN0 (oM (v := (.int _ _)) rfl ⟨rfl, ?_⟩)
      obtain ⟨x8, hx8, hv⟩ := bindS hv
      refine mN0 (oIx (f := GStamp.lv) te31 tk23 ts23 rfl rfl GStamp.ok hx8 rfl ⟨rfl, ?_⟩)
      refine mN0 (oLdA rfl tk23 ta23 ts23 rfl rfl ⟨rfl, ?_⟩)
      obtain ⟨r9, hr9, hv⟩ := bindS hv
      refine mN0 (oCP (args := [.agg [.int .i64 x8.Time, .int .i64 x8.Source, .int .i64 x8.Seq]]) rfl isF13 rfl (sbR sbN) (ref02_Valid_ok hr9) rfl ⟨rfl, ?_⟩)
      refine mN0 (oM (v := (.bool _)) rfl ⟨rfl, ?_⟩)
      by_cases hb10 : r9 = true
      · replace hv := iteT hv hb10
        refine mT rfl (congrArg LV.bool hb10) (mN0 (oM (v := (.lst _ _)) rfl ⟨rfl, ?_⟩))
        refine mT rfl (congrArg LV.bool hb10) (mN0 (oM (v := (.int _ _)) rfl ⟨rfl, ?_⟩))
        obtain ⟨x11, hx11, hv⟩ := bindS hv
        refine mT rfl (congrArg LV.bool hb10) (mN0 (oIx (f := GStamp.lv) te31 tk23 ts23 rfl rfl GStamp.ok hx11 rfl ⟨rfl, ?_⟩))
        refine mT rfl (congrArg LV.bool hb10) (mN0 (oLdA rfl tk23 ta23 ts23 rfl rfl ⟨rfl, ?_⟩))
        refine mT rfl (congrArg LV.bool hb10) (mN0 (oM (v := (.lst _ _)) rfl ⟨rfl, ?_⟩))
        refine mT rfl (congrArg LV.bool hb10) (mN0 (oM (v := (.int _ _)) rfl ⟨rfl, ?_⟩))
        obtain ⟨x12, hx12, hv⟩ := bindS hv
        refine mT rfl (congrArg LV.bool hb10) (mN0 (oIx (f := GStamp.lv) te31 tk23 ts23 rfl rfl GStamp.ok hx12 rfl ⟨rfl, ?_⟩))
        refine mT rfl (congrArg LV.bool hb10) (mN0 (oLdA rfl tk23 ta23 ts23 rfl rfl ⟨rfl, ?_⟩))
        refine mT rfl (congrArg LV.bool hb10) (mN0 (oM (v := (.lst _ _)) rfl ⟨rfl, ?_⟩))
        refine mT rfl (congrArg LV.bool hb10) (mN0 (oM (v := (.int _ _)) rfl ⟨rfl, ?_⟩))
        obtain ⟨x13, hx13, hv⟩ := bindS hv
        refine mT rfl (congrArg LV.bool hb10) (mN0 (oIx (f := (LV.int .i64)) te28 tk3 ts3 rfl rfl okI hx13 rfl ⟨rfl, ?_⟩))
        refine mT rfl (congrArg LV.bool hb10) (mN0 (oLd rfl tk3 ta3 ⟨rfl, ?_⟩))
        refine mT rfl (congrArg LV.bool hb10) (mN0 (oM (v := (.lst _ _)) rfl ⟨rfl, ?_⟩))
        refine mT rfl (congrArg LV.bool hb10) (mN0 (oM (v := (.int _ _)) rfl ⟨rfl, ?_⟩))
        obtain ⟨x14, hx14, hv⟩ := bindS hv
        refine mT rfl (congrArg LV.bool hb10) (mN0 (oIx (f := (LV.int .i64)) te28 tk3 ts3 rfl rfl okI hx14 rfl ⟨rfl, ?_⟩))
        refine mT rfl (congrArg LV.bool hb10) (mN0 (oLd rfl tk3 ta3 ⟨rfl, ?_⟩))
        obtain ⟨r15, hr15, hv⟩ := bindS hv
        refine mT rfl (congrArg LV.bool hb10) (mN0 (oCP (args := [.agg [.int .i64 x11.Time, .int .i64 x11.Source, .int .i64 x11.Seq], .agg [.int .i64 x12.Time, .int .i64 x12.Source, .int .i64 x12.Seq], .int .i64 x13, .int .i64 x14]) rfl isF42 rfl (sbR (sbR (sbR (sbR sbN)))) (ref02_disputes_ok hr15) rfl ⟨rfl, ?_⟩))
        refine mT rfl (congrArg LV.bool hb10) (mN0 (oM (v := (.bool _)) rfl ⟨rfl, ?_⟩))
        by_cases hb16 : r15 = true
        · replace hv := iteT hv hb16
          refine mF rfl rfl hb16 ?_
          refine mF rfl rfl hb16 ?_
          refine mF rfl rfl hb16 ?_
          refine mF rfl rfl hb16 ?_
          refine mU rfl rfl ?_
          refine mU rfl rfl ?_
          refine mU rfl rfl ?_
          refine mU rfl rfl ?_
          refine mU rfl rfl ?_
          refine mU rfl rfl ?_
          refine mU rfl rfl ?_
          refine mU rfl rfl ?_
          refine mU rfl rfl ?_
          refine mF rfl rfl hb16 ?_
          refine mT rfl (congrArg LV.bool hb10) (mN0 (oPkT (congrArg LV.bool hb16) (v := (.bool _)) rfl ⟨rfl, ?_⟩))
          refine mN0 (oPkT (congrArg LV.bool hb10) (v := (.bool _)) rfl ⟨rfl, ?_⟩)
          obtain rfl := Option.some.inj hv
          exact m0 (Wk.to (eC rfl (eC rfl (eC rfl (eC rfl (eC rfl eN))))) mN rfl (prK rfl))
        · replace hb16 := bF hb16
          replace hv := iteF hv hb16
          refine mT rfl (congrArg LV.bool hb16) (mN0 (oM (v := (.int _ _)) rfl ⟨rfl, ?_⟩))
          refine mT rfl (congrArg LV.bool hb16) (mN0 (oM (v := (.int _ _)) rfl ⟨rfl, ?_⟩))
          refine mT rfl (congrArg LV.bool hb16) (mN0 (oLt rfl rfl ⟨rfl, ?_⟩))
          refine mT rfl (congrArg LV.bool hb16) (mN0 (oM (v := (.bool _)) rfl ⟨rfl, ?_⟩))
          by_cases hb17 : (decide (n4 < p2)) = true
          · replace hv := iteT hv hb17
            refine mT rfl (congrArg LV.bool hb17) (mN0 (oM (v := (.lst _ _)) rfl ⟨rfl, ?_⟩))
            refine mT rfl (congrArg LV.bool hb17) (mN0 (oM (v := (.int _ _)) rfl ⟨rfl, ?_⟩))
            obtain ⟨x18, hx18, hv⟩ := bindS hv
            refine mT rfl (congrArg LV.bool hb17) (mN0 (oIx (f := GStamp.lv) te31 tk23 ts23 rfl rfl GStamp.ok hx18 rfl ⟨rfl, ?_⟩))
            refine mT rfl (congrArg LV.bool hb17) (mN0 (oLdA rfl tk23 ta23 ts23 rfl rfl ⟨rfl, ?_⟩))
            refine mT rfl (congrArg LV.bool hb17) (mN0 (oM (v := (.lst _ _)) rfl ⟨rfl, ?_⟩))
            refine mT rfl (congrArg LV.bool hb17) (mN0 (oM (v := (.int _ _)) rfl ⟨rfl, ?_⟩))
            obtain ⟨x19, hx19, hv⟩ := bindS hv
            refine mT rfl (congrArg LV.bool hb17) (mN0 (oIx (f := GStamp.lv) te31 tk23 ts23 rfl rfl GStamp.ok hx19 rfl ⟨rfl, ?_⟩))
            refine mT rfl (congrArg LV.bool hb17) (mN0 (oLdA rfl tk23 ta23 ts23 rfl rfl ⟨rfl, ?_⟩))
            refine mT rfl (congrArg LV.bool hb17) (mN0 (oEqA rfl rfl (ae23 x18 x19) ⟨rfl, ?_⟩))
            refine mT rfl (congrArg LV.bool hb16) (mN0 (oPkT (congrArg LV.bool hb17) (v := (.bool _)) rfl ⟨rfl, ?_⟩))
            refine mT rfl (congrArg LV.bool hb10) (mN0 (oPkF (congrArg LV.bool hb16) (v := (.bool _)) rfl ⟨rfl, ?_⟩))
            refine mN0 (oPkT (congrArg LV.bool hb10) (v := (.bool _)) rfl ⟨rfl, ?_⟩)
            obtain rfl := Option.some.inj hv
            exact m0 (Wk.to (eC rfl (eC rfl (eC rfl (eC rfl (eC rfl eN))))) mN rfl (prK rfl))
          · replace hb17 := bF hb17
            replace hv := iteF hv hb17
            refine mF rfl rfl hb17 ?_
            refine mF rfl rfl hb17 ?_
            refine mF rfl rfl hb17 ?_
            refine mF rfl rfl hb17 ?_
            refine mF rfl rfl hb17 ?_
            refine mF rfl rfl hb17 ?_
            refine mF rfl rfl hb17 ?_
            refine mF rfl rfl hb17 ?_
            refine mF rfl rfl hb17 ?_
            refine mT rfl (congrArg LV.bool hb16) (mN0 (oPkF (congrArg LV.bool hb17) (v := (.bool _)) rfl ⟨rfl, ?_⟩))
            refine mT rfl (congrArg LV.bool hb10) (mN0 (oPkF (congrArg LV.bool hb16) (v := (.bool _)) rfl ⟨rfl, ?_⟩))
            refine mN0 (oPkT (congrArg LV.bool hb10) (v := (.bool _)) rfl ⟨rfl, ?_⟩)
            obtain rfl := Option.some.inj hv
            exact m0 (Wk.to (eC rfl (eC rfl (eC rfl (eC rfl (eC rfl eN))))) mN rfl (prK rfl))
      · replace hb10 := bF hb10
        replace hv := iteF hv hb10
        refine mF rfl rfl hb10 ?_
        refine mF rfl rfl hb10 ?_
        refine mF rfl rfl hb10 ?_
        refine mF rfl rfl hb10 ?_
        refine mF rfl rfl hb10 ?_
        refine mF rfl rfl hb10 ?_
        refine mF rfl rfl hb10 ?_
        refine mF rfl rfl hb10 ?_
        refine mF rfl rfl hb10 ?_
        refine mF rfl rfl hb10 ?_
        refine mF rfl rfl hb10 ?_
        refine mF rfl rfl hb10 ?_
        refine mF rfl rfl hb10 ?_
        refine mF rfl rfl hb10 ?_
        refine mF rfl rfl hb10 ?_
        refine mF rfl rfl hb10 ?_
        refine mF rfl rfl hb10 ?_
        refine mF rfl rfl hb10 ?_
        refine mU rfl rfl ?_
        refine mU rfl rfl ?_
        refine mU rfl rfl ?_
        refine mU rfl rfl ?_
        refine mU rfl rfl ?_
        refine mU rfl rfl ?_
        refine mU rfl rfl ?_
        refine mU rfl rfl ?_
        refine mU rfl rfl ?_
        refine mU rfl rfl ?_
        refine mU rfl rfl ?_
        refine mU rfl rfl ?_
        refine mU rfl rfl ?_
        refine mU rfl rfl ?_
        refine mF rfl rfl hb10 ?_
        refine mN0 (oPkF (congrArg LV.bool hb10) (v := (.bool _)) rfl ⟨rfl, ?_⟩)
        obtain rfl := Option.some.inj hv
        exact m0 (Wk.to (eC rfl (eC rfl (eC rfl (eC rfl (eC rfl eN))))) mN rfl (prK rfl))
    clear hv
    refine LH.cond (t := w7) rfl (fun hc20 => ?_) (fun hc20 => ?_)
    · replace h := iteT h hc20
      refine LH.seqT [(6, .bool false)] [] rfl ?_ ?_
      · refine sN (oA (v := (.bool _)) rfl ?_)
        exact s0 (Wk.to (eC rfl eN) mN rfl (prK rfl))
      refine LH.ret ?_
      refine blockR ?_
      refine thenR ?_
      refine roundR ?_
      refine blockR ?_
      refine thenR ?_
      obtain rfl := Option.some.inj h
      exact retE (congrArg Array.toList Try.results40) (lrT rfl (lr0 ⟨memN mN, rfl, prK rfl, Sub.rfl⟩))
    replace h := iteF h hc20
    refine LH.skip ?_
    refine blockN ?_
    refine thenN ?_
    refine LH.wk (Wk.to (el := [(0, .lst 3 (List.map GStamp.lv p0)), (1, .lst 1 (List.map (LV.int .i64) p1)), (2, .int .i64 p2), (7, .int .i64 n4)]) (ml := []) (eC rfl (eC rfl (eC rfl (eC rfl eN)))) mN rfl (prK rfl)) ?_
    refine LH.loneT [(0, .lst 3 (List.map GStamp.lv p0)), (1, .lst 1 (List.map (LV.int .i64) p1)), (2, .int .i64 p2), (7, .int .i64 (i64 (n4 + 1)))] [] rfl ?_ ?_
    · refine sN (oM (v := (.int _ _)) rfl ?_)
      refine sN (oAdd rfl rfl ?_)
      refine sN (oA (v := (.int _ _)) rfl ?_)
      exact s0 (Wk.to (eC rfl (eC rfl (eC rfl (eC rfl eN)))) mN rfl (prK rfl))
    exact roundN (e' := Env.of [(0, .lst 3 (List.map GStamp.lv p0)), (1, .lst 1 (List.map (LV.int .i64) p1)), (2, .int .i64 p2), (7, .int .i64 (i64 (n4 + 1)))]) (m' := Mem.of []) (Wk.to (eC rfl (eC rfl (eC rfl (eC rfl eN)))) mN rfl (prK rfl)) ⟨(i64 (n4 + 1)), hrec1 ▸ h, rfl, rfl⟩
  replace h := iteF h hc5
  refine LH.exit ?_
  refine thenX ?_
  refine roundX ?_
  refine blockH ?_
  refine thenN ?_
  refine LH.wk (Wk.to (el := []) (ml := []) eN mN rfl (prK rfl)) ?_
  refine LH.seqT [(6, .bool true)] [] rfl ?_ ?_
  · refine sN (oA (v := (.bool _)) rfl ?_)
    exact s0 (Wk.to (eC rfl eN) mN rfl (prK rfl))
  refine LH.ret ?_
  obtain rfl := Option.some.inj h
  exact retE (congrArg Array.toList Try.results40) (lrT rfl (lr0 ⟨memN mN, rfl, prK rfl, Sub.rfl⟩))

end Go.Proofs.Ytdkhlkihhdjbbaa
