/- Walks, printed by program (gen.py): each function computes its plain function. -/
import Derived.Test.YtdkhlkihhdjbbaaW7
set_option linter.unusedVariables false
set_option linter.unusedSimpArgs false
set_option maxRecDepth 100000
namespace Go.Proofs.Ytdkhlkihhdjbbaa
open Go.L Go.Sh
theorem law02_StampTwice_ok {F : Nat} {p0 : List Int} {r : Bool} (h : law02_StampTwice F p0 = some r) : LCall Try.prog 8 [.lst 1 (List.map (LV.int .i64) p0)] (Mem.of []) (.bool r) (Mem.of []) := by
  unfold law02_StampTwice at h
  refine bodyT Try.func8 rfl (by rw [Try.ntmps8]; exact Nat.le_of_ble_eq_true rfl) ?_
  refine LH.wk (Wk.to (el := [(0, .lst 1 (List.map (LV.int .i64) p0))]) (ml := []) (eC rfl eN) mN rfl (prK rfl)) ?_
  refine LH.seqT [(0, .lst 1 (List.map (LV.int .i64) p0))] [] rfl ?_ ?_
  · refine sN (oA (v := (.bool _)) rfl ?_)
    exact s0 (Wk.to (eC rfl eN) mN rfl (prK rfl))
  obtain ⟨r1, hr1, h⟩ := bindS h
  obtain ⟨r2, hr2, h⟩ := bindS h
  refine LH.seqT [(3, .lst 3 (List.map GStamp.lv r2.1)), (4, .lst 1 (List.map (LV.int .i64) r2.2.1))] [] rfl ?_ ?_
  · refine sN (oM (v := (.lst _ _)) rfl ?_)
    refine sN (oCM (args := [.lst 1 (List.map (LV.int .i64) p0)]) (ml := []) (ml' := [(7, .box [.lst 1 (List.map (LV.int .i64) r1.L), .int .i64 r1.At])]) rfl isF17 rfl (sbR sbN) (make_New_ok hr1) mN (newF rfl newN) rfl ?_)
    refine sN (oCM (args := [.ptr 7 0, .int .i64 12, .int .i64 8]) (ml := [(7, .box [.lst 1 (List.map (LV.int .i64) r1.L), .int .i64 r1.At])]) (ml' := [(7, .box [.lst 1 (List.map (LV.int .i64) r2.2.2.L), .int .i64 r2.2.2.At]), (145, .arr 23 3 (List.map GStamp.lv r2.1)), (149, .arr 3 1 (List.map (LV.int .i64) r2.2.1))]) rfl isF18 rfl (sbR (sbR (sbR sbN))) (law02_events_ok hr2) (mC rfl mN) (newI rfl (newF rfl (newF rfl newN))) rfl ?_)
    refine sN (oM (v := (.tup _)) rfl ?_)
    refine sN (oEx rfl rfl ?_)
    refine sN (oEx rfl rfl ?_)
    refine sN (oA (v := (.arr _ _)) rfl ?_)
    refine sN (oA (v := (.arr _ _)) rfl ?_)
    exact s0 ((Wk.trans (Wk.to (el := [(3, .arr 145 (List.length r2.1)), (4, .arr 149 (List.length r2.2.1))]) (ml := [(145, .arr 23 3 (List.map GStamp.lv r2.1)), (149, .arr 3 1 (List.map (LV.int .i64) r2.2.1))]) (eC rfl (eC rfl eN)) (mC rfl (mC rfl mN)) rfl (prK rfl)) (Wk.trans (Wk.frzL (f := GStamp.lv) (el' := [(3, .lst 3 (List.map GStamp.lv r2.1)), (4, .arr 149 (List.length r2.2.1))]) 145 23 3 r2.1 rfl rfl (prN rfl) (fZ (fK rfl fN))) (Wk.trans (Wk.frzL (f := (LV.int .i64)) (el' := [(3, .lst 3 (List.map GStamp.lv r2.1)), (4, .lst 1 (List.map (LV.int .i64) r2.2.1))]) 149 3 1 r2.2.1 rfl rfl (prN rfl) (fK rfl (fZ fN))) (Wk.to (eC rfl (eC rfl eN)) mN rfl (prK rfl))))))
  obtain ⟨r3, hr3, h⟩ := bindS h
  refine LH.seqT [(3, .lst 3 (List.map GStamp.lv r2.1)), (4, .lst 1 (List.map (LV.int .i64) r2.2.1)), (5, .lst 1 (List.map (LV.int .i64) r3.1)), (6, .int .i64 r3.2)] [] rfl ?_ ?_
  · refine sN (oM (v := (.lst _ _)) rfl ?_)
    refine sN (oM (v := (.lst _ _)) rfl ?_)
    refine sN (oCP (args := [.lst 3 (List.map GStamp.lv r2.1), .lst 1 (List.map (LV.int .i64) r2.2.1)]) rfl isF20 rfl (sbR (sbR sbN)) (stamp_Canonical_ok hr3) rfl ?_)
    refine sN (oM (v := (.tup _)) rfl ?_)
    refine sN (oEx rfl rfl ?_)
    refine sN (oEx rfl rfl ?_)
    refine sN (oA (v := (.lst _ _)) rfl ?_)
    refine sN (oA (v := (.int _ _)) rfl ?_)
    exact s0 (Wk.to (eC rfl (eC rfl (eC rfl (eC rfl eN)))) mN rfl (prK rfl))
  refine LH.seq ?_
  refine LH.seqT [(3, .lst 3 (List.map GStamp.lv r2.1)), (4, .lst 1 (List.map (LV.int .i64) r2.2.1)), (5, .lst 1 (List.map (LV.int .i64) r3.1)), (27, .bool (r3.2 != 0))] [] rfl ?_ ?_
  · refine sN (oM (v := (.int _ _)) rfl ?_)
    refine sN (oNe rfl rfl ?_)
    exact s0 (Wk.to (eC rfl (eC rfl (eC rfl (eC rfl eN)))) mN rfl (prK rfl))
  refine LH.cond (t := (r3.2 != 0)) rfl (fun hc4 => ?_) (fun hc4 => ?_)
  · replace h := iteT h hc4
    refine LH.seqT [(2, .bool false)] [] rfl ?_ ?_
    · refine sN (oA (v := (.bool _)) rfl ?_)
      exact s0 (Wk.to (eC rfl eN) mN rfl (prK rfl))
    refine LH.ret ?_
    refine thenR ?_
    obtain rfl := Option.some.inj h
    exact retE (congrArg Array.toList Try.results8) (lrT rfl (lr0 ⟨memN mN, rfl, prK rfl, Sub.rfl⟩))
  replace h := iteF h hc4
  refine LH.skip ?_
  refine thenN ?_
  refine LH.wk (Wk.to (el := [(3, .lst 3 (List.map GStamp.lv r2.1)), (4, .lst 1 (List.map (LV.int .i64) r2.2.1)), (5, .lst 1 (List.map (LV.int .i64) r3.1))]) (ml := []) (eC rfl (eC rfl (eC rfl eN))) mN rfl (prK rfl)) ?_
  refine LH.seqT [(3, .lst 3 (List.map GStamp.lv r2.1)), (4, .lst 1 (List.map (LV.int .i64) r2.2.1)), (5, .lst 1 (List.map (LV.int .i64) r3.1)), (7, .nil)] [] rfl ?_ ?_
  · refine sN (oA (v := .nil) rfl ?_)
    exact s0 (Wk.to (eC rfl (eC rfl (eC rfl (eC rfl eN)))) mN rfl (prK rfl))
  refine LH.seqT [(3, .lst 3 (List.map GStamp.lv r2.1)), (4, .lst 1 (List.map (LV.int .i64) r2.2.1)), (5, .lst 1 (List.map (LV.int .i64) r3.1)), (7, .nil), (8, .nil), (9, .nil)] [] rfl ?_ ?_
  · refine sN (oA (v := .nil) rfl ?_)
    refine sN (oA (v := .nil) rfl ?_)
    exact s0 (Wk.to (eC rfl (eC rfl (eC rfl (eC rfl (eC rfl (eC rfl eN)))))) mN rfl (prK rfl))
  refine LH.seq ?_
  refine LH.seqT [(3, .lst 3 (List.map GStamp.lv r2.1)), (4, .lst 1 (List.map (LV.int .i64) r2.2.1)), (5, .lst 1 (List.map (LV.int .i64) r3.1)), (7, .nil), (8, .nil), (9, .nil), (10, .int .i64 0)] [] rfl ?_ ?_
  · refine sN (oA (v := (.int _ _)) rfl ?_)
    exact s0 (Wk.to (eC rfl (eC rfl (eC rfl (eC rfl (eC rfl (eC rfl (eC rfl eN))))))) mN rfl (prK rfl))
  refine LH.block ?_
  refine LH.wk ((Wk.trans (Wk.to (el := [(3, .lst 3 (List.map GStamp.lv r2.1)), (4, .lst 1 (List.map (LV.int .i64) r2.2.1)), (5, .lst 1 (List.map (LV.int .i64) r3.1)), (7, .nil), (8, .nil), (9, .nil), (10, .int .i64 0)]) (ml := []) (eC rfl (eC rfl (eC rfl (eC rfl (eC rfl (eC rfl (eC rfl eN))))))) mN rfl (prK rfl)) (Wk.trans (Wk.to (el := [(3, .lst 3 (List.map GStamp.lv r2.1)), (4, .lst 1 (List.map (LV.int .i64) r2.2.1)), (5, .lst 1 (List.map (LV.int .i64) r3.1)), (7, .nil), (8, .nil), (9, .nil), (10, .int .i64 0)]) (ml := []) (eC rfl (eC rfl (eC rfl (eC rfl (eC rfl (eC rfl (eC rfl eN))))))) mN rfl (prK rfl)) (Wk.trans (Wk.ownL (el' := [(3, .lst 3 (List.map GStamp.lv r2.1)), (4, .lst 1 (List.map (LV.int .i64) r2.2.1)), (5, .lst 1 (List.map (LV.int .i64) r3.1)), (7, .arr 218 (List.length ([] : List GStamp))), (8, .nil), (9, .nil), (10, .int .i64 0)]) 218 23 3 rfl rfl (wK (wK (wK (wO (wK (wK (wK wN)))))))) (Wk.trans (Wk.to (el := [(3, .lst 3 (List.map GStamp.lv r2.1)), (4, .lst 1 (List.map (LV.int .i64) r2.2.1)), (5, .lst 1 (List.map (LV.int .i64) r3.1)), (7, .arr 218 (List.length ([] : List GStamp))), (8, .nil), (9, .nil), (10, .int .i64 0)]) (ml := [(218, .arr 23 3 (List.map GStamp.lv ([] : List GStamp)))]) (eC rfl (eC rfl (eC rfl (eC rfl (eC rfl (eC rfl (eC rfl eN))))))) (mC rfl mN) rfl (prK rfl)) (Wk.trans (Wk.ownL (el' := [(3, .lst 3 (List.map GStamp.lv r2.1)), (4, .lst 1 (List.map (LV.int .i64) r2.2.1)), (5, .lst 1 (List.map (LV.int .i64) r3.1)), (7, .arr 218 (List.length ([] : List GStamp))), (8, .arr 228 (List.length ([] : List Int))), (9, .nil), (10, .int .i64 0)]) 228 3 1 rfl rfl (wK (wK (wK (wK (wO (wK (wK wN)))))))) (Wk.trans (Wk.to (el := [(3, .lst 3 (List.map GStamp.lv r2.1)), (4, .lst 1 (List.map (LV.int .i64) r2.2.1)), (5, .lst 1 (List.map (LV.int .i64) r3.1)), (7, .arr 218 (List.length ([] : List GStamp))), (8, .arr 228 (List.length ([] : List Int))), (9, .nil), (10, .int .i64 0)]) (ml := [(218, .arr 23 3 (List.map GStamp.lv ([] : List GStamp))), (228, .arr 3 1 (List.map (LV.int .i64) ([] : List Int)))]) (eC rfl (eC rfl (eC rfl (eC rfl (eC rfl (eC rfl (eC rfl eN))))))) (mC rfl (mC rfl mN)) rfl (prK rfl)) (Wk.trans (Wk.ownL (el' := [(3, .lst 3 (List.map GStamp.lv r2.1)), (4, .lst 1 (List.map (LV.int .i64) r2.2.1)), (5, .lst 1 (List.map (LV.int .i64) r3.1)), (7, .arr 218 (List.length ([] : List GStamp))), (8, .arr 228 (List.length ([] : List Int))), (9, .arr 232 (List.length ([] : List Int))), (10, .int .i64 0)]) 232 3 1 rfl rfl (wK (wK (wK (wK (wK (wO (wK wN)))))))) (Wk.to (el := [(3, .lst 3 (List.map GStamp.lv r2.1)), (4, .lst 1 (List.map (LV.int .i64) r2.2.1)), (5, .lst 1 (List.map (LV.int .i64) r3.1)), (7, .arr 218 (List.length ([] : List GStamp))), (8, .arr 228 (List.length ([] : List Int))), (9, .arr 232 (List.length ([] : List Int))), (10, .int .i64 0)]) (ml := [(218, .arr 23 3 (List.map GStamp.lv ([] : List GStamp))), (228, .arr 3 1 (List.map (LV.int .i64) ([] : List Int))), (232, .arr 3 1 (List.map (LV.int .i64) ([] : List Int)))]) (eC rfl (eC rfl (eC rfl (eC rfl (eC rfl (eC rfl (eC rfl eN))))))) (mC rfl (mC rfl (mC rfl mN))) rfl (prK rfl)))))))))) ?_
  refine LH.loop (fun n e m => ∃ (n5 : Int) (l6 : List GStamp) (l7 : List Int) (l8 : List Int), law02_StampTwice_L1 F r2 r3 n n5 l6 l7 l8 = some r ∧ e = Env.of [(3, .lst 3 (List.map GStamp.lv r2.1)), (4, .lst 1 (List.map (LV.int .i64) r2.2.1)), (5, .lst 1 (List.map (LV.int .i64) r3.1)), (7, .arr 218 (List.length l6)), (8, .arr 228 (List.length l7)), (9, .arr 232 (List.length l8)), (10, .int .i64 n5)] ∧ m = Mem.of [(218, .arr 23 3 (List.map GStamp.lv l6)), (228, .arr 3 1 (List.map (LV.int .i64) l7)), (232, .arr 3 1 (List.map (LV.int .i64) l8))]) F ⟨0, ([] : List GStamp), ([] : List Int), ([] : List Int), h, rfl, rfl⟩ ?_
  clear h
  rintro n e m ⟨n5, l6, l7, l8, h, rfl, rfl⟩
  rcases n with _ | n
  · cases (show Option.none = some _ from h)
  obtain ⟨rec1, hrec1⟩ : ∃ f, f = law02_StampTwice_L1 F r2 r3 n := ⟨_, rfl⟩
  replace h : law02_StampTwice_L1_B F r2 r3 rec1 n5 l6 l7 l8 = some r := hrec1 ▸ h
  unfold law02_StampTwice_L1_B at h
  refine LH.seq ?_
  refine LH.seqT [(3, .lst 3 (List.map GStamp.lv r2.1)), (4, .lst 1 (List.map (LV.int .i64) r2.2.1)), (5, .lst 1 (List.map (LV.int .i64) r3.1)), (7, .arr 218 (List.length l6)), (8, .arr 228 (List.length l7)), (9, .arr 232 (List.length l8)), (10, .int .i64 n5), (31, .bool (decide (n5 < (r3.1.length : Int))))] [(218, .arr 23 3 (List.map GStamp.lv l6)), (228, .arr 3 1 (List.map (LV.int .i64) l7)), (232, .arr 3 1 (List.map (LV.int .i64) l8))] rfl ?_ ?_
  · refine sN (oM (v := (.int _ _)) rfl ?_)
    refine sN (oM (v := (.lst _ _)) rfl ?_)
    refine sN (oLnL (f := (LV.int .i64)) te28 rfl ?_)
    refine sN (oLt rfl rfl ?_)
    exact s0 (Wk.to (eC rfl (eC rfl (eC rfl (eC rfl (eC rfl (eC rfl (eC rfl (eC rfl eN)))))))) (mC rfl (mC rfl (mC rfl mN))) rfl (prK rfl))
  refine LH.cond (t := (decide (n5 < (r3.1.length : Int)))) rfl (fun hc9 => ?_) (fun hc9 => ?_)
  · replace h := iteT h hc9
    refine LH.skip ?_
    refine thenN ?_
    refine LH.wk (Wk.to (el := [(3, .lst 3 (List.map GStamp.lv r2.1)), (4, .lst 1 (List.map (LV.int .i64) r2.2.1)), (5, .lst 1 (List.map (LV.int .i64) r3.1)), (7, .arr 218 (List.length l6)), (8, .arr 228 (List.length l7)), (9, .arr 232 (List.length l8)), (10, .int .i64 n5)]) (ml := [(218, .arr 23 3 (List.map GStamp.lv l6)), (228, .arr 3 1 (List.map (LV.int .i64) l7)), (232, .arr 3 1 (List.map (LV.int .i64) l8))]) (eC rfl (eC rfl (eC rfl (eC rfl (eC rfl (eC rfl (eC rfl eN))))))) (mC rfl (mC rfl (mC rfl mN))) rfl (prK rfl)) ?_
    refine LH.seq ?_
    refine LH.block ?_
    refine LH.seq ?_
    obtain ⟨w11, hv, h⟩ := bindS h
    refine LH.seqT [(3, .lst 3 (List.map GStamp.lv r2.1)), (4, .lst 1 (List.map (LV.int .i64) r2.2.1)), (5, .lst 1 (List.map (LV.int .i64) r3.1)), (7, .arr 218 (List.length l6)), (8, .arr 228 (List.length l7)), (9, .arr 232 (List.length l8)), (10, .int .i64 n5), (58, .bool w11)] [(218, .arr 23 3 (List.map GStamp.lv l6)), (228, .arr 3 1 (List.map (LV.int .i64) l7)), (232, .arr 3 1 (List.map (LV.int .i64) l8))] rfl ?_ ?_
    · refine sN (oM (v := (.lst _ _)) rfl ?_)
      refine sN (oM (v := (.int _ _)) rfl ?_)
      obtain ⟨x12, hx12, hv⟩ := bindS hv
      refine sN (oIx (f := (LV.int .i64)) te28 tk3 ts3 rfl rfl okI hx12 rfl ?_)
      refine sN (oLd rfl tk3 ta3 ?_)
      refine sN (oLt rfl rfl ?_)
      refine sN (oM (v := (.bool _)) rfl ?_)
      by_cases hb13 : (decide (x12 < 0)) = true
      · replace hv := iteT hv hb13
        refine sF rfl rfl hb13 ?_
        refine sF rfl rfl hb13 ?_
        refine sF rfl rfl hb13 ?_
        refine sF rfl rfl hb13 ?_
        refine sF rfl rfl hb13 ?_
        refine sF rfl rfl hb13 ?_
        refine sF rfl rfl hb13 ?_
        refine sN (oPkT (congrArg LV.bool hb13) (v := (.bool _)) rfl ?_)
        refine sN (oM (v := (.bool _)) rfl ?_)
        refine sF rfl rfl rfl ?_
        refine sF rfl rfl rfl ?_
        refine sF rfl rfl rfl ?_
        refine sF rfl rfl rfl ?_
        refine sF rfl rfl rfl ?_
        refine sF rfl rfl rfl ?_
        refine sF rfl rfl rfl ?_
        refine sF rfl rfl rfl ?_
        refine sF rfl rfl rfl ?_
        refine sN (oPkT rfl (v := (.bool _)) rfl ?_)
        obtain rfl := Option.some.inj hv
        exact s0 (Wk.to (eC rfl (eC rfl (eC rfl (eC rfl (eC rfl (eC rfl (eC rfl (eC rfl eN)))))))) (mC rfl (mC rfl (mC rfl mN))) rfl (prK rfl))
      · replace hb13 := bF hb13
        replace hv := iteF hv hb13
        refine sT rfl (congrArg LV.bool hb13) (oM (v := (.lst _ _)) rfl ?_)
        refine sT rfl (congrArg LV.bool hb13) (oM (v := (.int _ _)) rfl ?_)
        obtain ⟨x14, hx14, hv⟩ := bindS hv
        refine sT rfl (congrArg LV.bool hb13) (oIx (f := (LV.int .i64)) te28 tk3 ts3 rfl rfl okI hx14 rfl ?_)
        refine sT rfl (congrArg LV.bool hb13) (oLd rfl tk3 ta3 ?_)
        refine sT rfl (congrArg LV.bool hb13) (oM (v := (.lst _ _)) rfl ?_)
        refine sT rfl (congrArg LV.bool hb13) (oLnL (f := GStamp.lv) te31 rfl ?_)
        refine sT rfl (congrArg LV.bool hb13) (oGe rfl rfl ?_)
        refine sN (oPkF (congrArg LV.bool hb13) (v := (.bool _)) rfl ?_)
        refine sN (oM (v := (.bool _)) rfl ?_)
        by_cases hb15 : (decide (x14 ≥ (r2.1.length : Int))) = true
        · replace hv := iteT hv hb15
          refine sF rfl rfl hb15 ?_
          refine sF rfl rfl hb15 ?_
          refine sF rfl rfl hb15 ?_
          refine sF rfl rfl hb15 ?_
          refine sF rfl rfl hb15 ?_
          refine sF rfl rfl hb15 ?_
          refine sF rfl rfl hb15 ?_
          refine sF rfl rfl hb15 ?_
          refine sF rfl rfl hb15 ?_
          refine sN (oPkT (congrArg LV.bool hb15) (v := (.bool _)) rfl ?_)
          obtain rfl := Option.some.inj hv
          exact s0 (Wk.to (eC rfl (eC rfl (eC rfl (eC rfl (eC rfl (eC rfl (eC rfl (eC rfl eN)))))))) (mC rfl (mC rfl (mC rfl mN))) rfl (prK rfl))
        · replace hb15 := bF hb15
          replace hv := iteF hv hb15
          refine sT rfl (congrArg LV.bool hb15) (oM (v := (.lst _ _)) rfl ?_)
          refine sT rfl (congrArg LV.bool hb15) (oM (v := (.lst _ _)) rfl ?_)
          refine sT rfl (congrArg LV.bool hb15) (oM (v := (.int _ _)) rfl ?_)
          obtain ⟨x16, hx16, hv⟩ := bindS hv
          refine sT rfl (congrArg LV.bool hb15) (oIx (f := (LV.int .i64)) te28 tk3 ts3 rfl rfl okI hx16 rfl ?_)
          refine sT rfl (congrArg LV.bool hb15) (oLd rfl tk3 ta3 ?_)
          obtain ⟨x17, hx17, hv⟩ := bindS hv
          refine sT rfl (congrArg LV.bool hb15) (oIx (f := GStamp.lv) te31 tk23 ts23 rfl rfl GStamp.ok hx17 rfl ?_)
          refine sT rfl (congrArg LV.bool hb15) (oLdA rfl tk23 ta23 ts23 rfl rfl ?_)
          obtain ⟨r18, hr18, hv⟩ := bindS hv
          refine sT rfl (congrArg LV.bool hb15) (oCP (args := [.agg [.int .i64 x17.Time, .int .i64 x17.Source, .int .i64 x17.Seq]]) rfl isF12 rfl (sbR sbN) (stamp_Valid_ok hr18) rfl ?_)
          refine sT rfl (congrArg LV.bool hb15) (oNot rfl ?_)
          refine sN (oPkF (congrArg LV.bool hb15) (v := (.bool _)) rfl ?_)
          obtain rfl := Option.some.inj hv
          exact s0 (Wk.to (eC rfl (eC rfl (eC rfl (eC rfl (eC rfl (eC rfl (eC rfl (eC rfl eN)))))))) (mC rfl (mC rfl (mC rfl mN))) rfl (prK rfl))
    clear hv
    refine LH.cond (t := w11) rfl (fun hc19 => ?_) (fun hc19 => ?_)
    · replace h := iteT h hc19
      refine LH.seqT [(2, .bool false)] [] rfl ?_ ?_
      · refine sN (oA (v := (.bool _)) rfl ?_)
        exact s0 (Wk.to (eC rfl eN) mN rfl (prK rfl))
      refine LH.ret ?_
      refine thenR ?_
      refine blockR ?_
      refine thenR ?_
      refine roundR ?_
      refine blockR ?_
      refine thenR ?_
      obtain rfl := Option.some.inj h
      exact retE (congrArg Array.toList Try.results8) (lrT rfl (lr0 ⟨memN mN, rfl, prK rfl, Sub.rfl⟩))
    replace h := iteF h hc19
    refine LH.skip ?_
    refine thenN ?_
    refine LH.wk (Wk.to (el := [(3, .lst 3 (List.map GStamp.lv r2.1)), (4, .lst 1 (List.map (LV.int .i64) r2.2.1)), (5, .lst 1 (List.map (LV.int .i64) r3.1)), (7, .arr 218 (List.length l6)), (8, .arr 228 (List.length l7)), (9, .arr 232 (List.length l8)), (10, .int .i64 n5)]) (ml := [(218, .arr 23 3 (List.map GStamp.lv l6)), (228, .arr 3 1 (List.map (LV.int .i64) l7)), (232, .arr 3 1 (List.map (LV.int .i64) l8))]) (eC rfl (eC rfl (eC rfl (eC rfl (eC rfl (eC rfl (eC rfl eN))))))) (mC rfl (mC rfl (mC rfl mN))) rfl (prK rfl)) ?_
    refine LH.seq ?_
    refine LH.seqT [(3, .lst 3 (List.map GStamp.lv r2.1)), (4, .lst 1 (List.map (LV.int .i64) r2.2.1)), (5, .lst 1 (List.map (LV.int .i64) r3.1)), (7, .arr 218 (List.length l6)), (8, .arr 228 (List.length l7)), (9, .arr 232 (List.length l8)), (10, .int .i64 n5), (11, .int .i64 0)] [(218, .arr 23 3 (List.map GStamp.lv l6)), (228, .arr 3 1 (List.map (LV.int .i64) l7)), (232, .arr 3 1 (List.map (LV.int .i64) l8))] rfl ?_ ?_
    · refine sN (oA (v := (.int _ _)) rfl ?_)
      exact s0 (Wk.to (eC rfl (eC rfl (eC rfl (eC rfl (eC rfl (eC rfl (eC rfl (eC rfl eN)))))))) (mC rfl (mC rfl (mC rfl mN))) rfl (prK rfl))
    refine LH.block ?_
    refine LH.loop (fun n e m => ∃ (n20 : Int), law02_StampTwice_L2 rec1 F r2 r3 n5 l6 l7 l8 n n20 = some r ∧ e = Env.of [(3, .lst 3 (List.map GStamp.lv r2.1)), (4, .lst 1 (List.map (LV.int .i64) r2.2.1)), (5, .lst 1 (List.map (LV.int .i64) r3.1)), (7, .arr 218 (List.length l6)), (8, .arr 228 (List.length l7)), (9, .arr 232 (List.length l8)), (10, .int .i64 n5), (11, .int .i64 n20)] ∧ m = Mem.of [(218, .arr 23 3 (List.map GStamp.lv l6)), (228, .arr 3 1 (List.map (LV.int .i64) l7)), (232, .arr 3 1 (List.map (LV.int .i64) l8))]) F ⟨0, h, rfl, rfl⟩ ?_
    clear h
    rintro n e m ⟨n20, h, rfl, rfl⟩
    rcases n with _ | n
    · cases (show Option.none = some _ from h)
    obtain ⟨rec2, hrec2⟩ : ∃ f, f = law02_StampTwice_L2 rec1 F r2 r3 n5 l6 l7 l8 n := ⟨_, rfl⟩
    replace h : law02_StampTwice_L2_B rec1 F r2 r3 n5 l6 l7 l8 rec2 n20 = some r := hrec2 ▸ h
    unfold law02_StampTwice_L2_B at h
    refine LH.seq ?_
    refine LH.seqT [(3, .lst 3 (List.map GStamp.lv r2.1)), (4, .lst 1 (List.map (LV.int .i64) r2.2.1)), (5, .lst 1 (List.map (LV.int .i64) r3.1)), (7, .arr 218 (List.length l6)), (8, .arr 228 (List.length l7)), (9, .arr 232 (List.length l8)), (10, .int .i64 n5), (11, .int .i64 n20), (61, .bool (decide (n20 < n5)))] [(218, .arr 23 3 (List.map GStamp.lv l6)), (228, .arr 3 1 (List.map (LV.int .i64) l7)), (232, .arr 3 1 (List.map (LV.int .i64) l8))] rfl ?_ ?_
    · refine sN (oM (v := (.int _ _)) rfl ?_)
      refine sN (oM (v := (.int _ _)) rfl ?_)
      refine sN (oLt rfl rfl ?_)
      exact s0 (Wk.to (eC rfl (eC rfl (eC rfl (eC rfl (eC rfl (eC rfl (eC rfl (eC rfl (eC rfl eN))))))))) (mC rfl (mC rfl (mC rfl mN))) rfl (prK rfl))
    refine LH.cond (t := (decide (n20 < n5))) rfl (fun hc21 => ?_) (fun hc21 => ?_)
    · replace h := iteT h hc21
      refine LH.skip ?_
      refine thenN ?_
      refine LH.wk (Wk.to (el := [(3, .lst 3 (List.map GStamp.lv r2.1)), (4, .lst 1 (List.map (LV.int .i64) r2.2.1)), (5, .lst 1 (List.map (LV.int .i64) r3.1)), (7, .arr 218 (List.length l6)), (8, .arr 228 (List.length l7)), (9, .arr 232 (List.length l8)), (10, .int .i64 n5), (11, .int .i64 n20)]) (ml := [(218, .arr 23 3 (List.map GStamp.lv l6)), (228, .arr 3 1 (List.map (LV.int .i64) l7)), (232, .arr 3 1 (List.map (LV.int .i64) l8))]) (eC rfl (eC rfl (eC rfl (eC rfl (eC rfl (eC rfl (eC rfl (eC rfl eN)))))))) (mC rfl (mC rfl (mC rfl mN))) rfl (prK rfl)) ?_
      refine LH.seq ?_
      refine LH.block ?_
      obtain ⟨w23, hv, h⟩ := bindS h
      refine LH.seqJM mixed [] [0, 0, 1, 1, 1, 0, 0, 0, 0, 0, 0, 0, 0, 0, 0, 0, 0, 1, 1, 1, 0, 0, 0, 0, 0, 0, 0, 0, 0, 0, 0, 0, 0, 1, 1, 0, 0, 0, 0, 0, 0, 0, 0, 0, 0] [(3, .lst 3 (List.map GStamp.lv r2.1)), (4, .lst 1 (List.map (LV.int .i64) r2.2.1)), (5, .lst 1 (List.map (LV.int .i64) r3.1)), (7, .arr 218 (List.length l6)), (8, .arr 228 (List.length l7)), (9, .arr 232 (List.length l8)), (10, .int .i64 n5), (11, .int .i64 n20), (108, .bool w23)] [(218, .arr 23 3 (List.map GStamp.lv l6)), (228, .arr 3 1 (List.map (LV.int .i64) l7)), (232, .arr 3 1 (List.map (LV.int .i64) l8))] rfl rfl (by kernel_rfl) ?_ ?_
      · refine mN0 (oM (v := (.arr _ _)) rfl ⟨rfl, ?_⟩)
        refine mN0 (oM (v := (.int _ _)) rfl ⟨rfl, ?_⟩)
        obtain ⟨x24, hx24, hv⟩ := bindS hv
        refine mN1 (oIxA (f := GStamp.lv) te31 tk23 ts23 rfl rfl rfl hx24 ⟨rfl, ?_⟩)
        refine mN1 (oFaE (f := GStamp.lv) tf23_1 tk3 ts3 rfl rfl rfl ⟨rfl, ?_⟩)
        refine mN1 (oLdE (f := GStamp.lv) rfl rfl (idxOk hx24).2 rfl rfl rfl tk3 ta3 ⟨rfl, ?_⟩)
        refine mN0 (oM (v := (.lst _ _)) rfl ⟨rfl, ?_⟩)
        refine mN0 (oM (v := (.lst _ _)) rfl ⟨rfl, ?_⟩)
        refine mN0 (oM (v := (.int _ _)) rfl ⟨rfl, ?_⟩)
        obtain ⟨x25, hx25, hv⟩ := bindS hv
        refine mN0 (oIx (f := (LV.int .i64)) te28 tk3 ts3 rfl rfl okI hx25 rfl ⟨rfl, ?_⟩)
        refine mN0 (oLd rfl tk3 ta3 ⟨rfl, ?_⟩)
        obtain ⟨x26, hx26, hv⟩ := bindS hv
        refine mN0 (oIx (f := GStamp.lv) te31 tk23 ts23 rfl rfl GStamp.ok hx26 rfl ⟨rfl, ?_⟩)
        refine mN0 (oFaS tf23_1 tk3 ts3 rfl rfl rfl ⟨rfl, ?_⟩)
        refine mN0 (oLd rfl tk3 ta3 ⟨rfl, ?_⟩)
        refine mN0 (oEq rfl rfl ⟨rfl, ?_⟩)
        refine mN0 (oM (v := (.bool _)) rfl ⟨rfl, ?_⟩)
        by_cases hb27 : (x24.Source == x26.Source) = true
        · replace hv := iteT hv hb27
          refine mT rfl (congrArg LV.bool hb27) (mN0 (oM (v := (.arr _ _)) rfl ⟨rfl, ?_⟩))
          refine mT rfl (congrArg LV.bool hb27) (mN0 (oM (v := (.int _ _)) rfl ⟨rfl, ?_⟩))
          obtain ⟨x28, hx28, hv⟩ := bindS hv
          refine mT rfl (congrArg LV.bool hb27) (mN1 (oIxA (f := GStamp.lv) te31 tk23 ts23 rfl rfl rfl hx28 ⟨rfl, ?_⟩))
          refine mT rfl (congrArg LV.bool hb27) (mN1 (oFaE (f := GStamp.lv) tf23_2 tk3 ts3 rfl rfl rfl ⟨rfl, ?_⟩))
          refine mT rfl (congrArg LV.bool hb27) (mN1 (oLdE (f := GStamp.lv) rfl rfl (idxOk hx28).2 rfl rfl rfl tk3 ta3 ⟨rfl, ?_⟩))
          refine mT rfl (congrArg LV.bool hb27) (mN0 (oM (v := (.lst _ _)) rfl ⟨rfl, ?_⟩))
          refine mT rfl (congrArg LV.bool hb27) (mN0 (oM (v := (.lst _ _)) rfl ⟨rfl, ?_⟩))
          refine mT rfl (congrArg LV.bool hb27) (mN0 (oM (v := (.int _ _)) rfl ⟨rfl, ?_⟩))
          obtain ⟨x29, hx29, hv⟩ := bindS hv
          refine mT rfl (congrArg LV.bool hb27) (mN0 (oIx (f := (LV.int .i64)) te28 tk3 ts3 rfl rfl okI hx29 rfl ⟨rfl, ?_⟩))
          refine mT rfl (congrArg LV.bool hb27) (mN0 (oLd rfl tk3 ta3 ⟨rfl, ?_⟩))
          obtain ⟨x30, hx30, hv⟩ := bindS hv
          refine mT rfl (congrArg LV.bool hb27) (mN0 (oIx (f := GStamp.lv) te31 tk23 ts23 rfl rfl GStamp.ok hx30 rfl ⟨rfl, ?_⟩))
          refine mT rfl (congrArg LV.bool hb27) (mN0 (oFaS tf23_2 tk3 ts3 rfl rfl rfl ⟨rfl, ?_⟩))
          refine mT rfl (congrArg LV.bool hb27) (mN0 (oLd rfl tk3 ta3 ⟨rfl, ?_⟩))
          refine mT rfl (congrArg LV.bool hb27) (mN0 (oEq rfl rfl ⟨rfl, ?_⟩))
          refine mN0 (oPkT (congrArg LV.bool hb27) (v := (.bool _)) rfl ⟨rfl, ?_⟩)
          refine mN0 (oM (v := (.bool _)) rfl ⟨rfl, ?_⟩)
          by_cases hb31 : (x28.Seq == x30.Seq) = true
          · replace hv := iteT hv hb31
            refine mF rfl rfl hb31 ?_
            refine mF rfl rfl hb31 ?_
            refine mF rfl rfl hb31 ?_
            refine mF rfl rfl hb31 ?_
            refine mF rfl rfl hb31 ?_
            refine mF rfl rfl hb31 ?_
            refine mF rfl rfl hb31 ?_
            refine mF rfl rfl hb31 ?_
            refine mF rfl rfl hb31 ?_
            refine mF rfl rfl hb31 ?_
            refine mF rfl rfl hb31 ?_
            refine mF rfl rfl hb31 ?_
            refine mF rfl rfl hb31 ?_
            refine mN0 (oPkT (congrArg LV.bool hb31) (v := (.bool _)) rfl ⟨rfl, ?_⟩)
            obtain rfl := Option.some.inj hv
            exact m0 (Wk.to (eC rfl (eC rfl (eC rfl (eC rfl (eC rfl (eC rfl (eC rfl (eC rfl (eC rfl eN))))))))) (mC rfl (mC rfl (mC rfl mN))) rfl (prK rfl))
          · replace hb31 := bF hb31
            replace hv := iteF hv hb31
            refine mT rfl (congrArg LV.bool hb31) (mN0 (oM (v := (.arr _ _)) rfl ⟨rfl, ?_⟩))
            refine mT rfl (congrArg LV.bool hb31) (mN0 (oM (v := (.int _ _)) rfl ⟨rfl, ?_⟩))
            obtain ⟨x32, hx32, hv⟩ := bindS hv
            refine mT rfl (congrArg LV.bool hb31) (mN1 (oIxA (f := GStamp.lv) te31 tk23 ts23 rfl rfl rfl hx32 ⟨rfl, ?_⟩))
            refine mT rfl (congrArg LV.bool hb31) (mN1 (oLdEA (f := GStamp.lv) rfl rfl (idxOk hx32).2 rfl rfl tk23 ta23 ts23 rfl rfl ⟨rfl, ?_⟩))
            refine mT rfl (congrArg LV.bool hb31) (mN0 (oM (v := (.lst _ _)) rfl ⟨rfl, ?_⟩))
            refine mT rfl (congrArg LV.bool hb31) (mN0 (oM (v := (.lst _ _)) rfl ⟨rfl, ?_⟩))
            refine mT rfl (congrArg LV.bool hb31) (mN0 (oM (v := (.int _ _)) rfl ⟨rfl, ?_⟩))
            obtain ⟨x33, hx33, hv⟩ := bindS hv
            refine mT rfl (congrArg LV.bool hb31) (mN0 (oIx (f := (LV.int .i64)) te28 tk3 ts3 rfl rfl okI hx33 rfl ⟨rfl, ?_⟩))
            refine mT rfl (congrArg LV.bool hb31) (mN0 (oLd rfl tk3 ta3 ⟨rfl, ?_⟩))
            obtain ⟨x34, hx34, hv⟩ := bindS hv
            refine mT rfl (congrArg LV.bool hb31) (mN0 (oIx (f := GStamp.lv) te31 tk23 ts23 rfl rfl GStamp.ok hx34 rfl ⟨rfl, ?_⟩))
            refine mT rfl (congrArg LV.bool hb31) (mN0 (oLdA rfl tk23 ta23 ts23 rfl rfl ⟨rfl, ?_⟩))
            obtain ⟨r35, hr35, hv⟩ := bindS hv
            refine mT rfl (congrArg LV.bool hb31) (mN0 (oCP (args := [.agg [.int .i64 x32.Time, .int .i64 x32.Source, .int .i64 x32.Seq], .agg [.int .i64 x34.Time, .int .i64 x34.Source, .int .i64 x34.Seq]]) rfl isF14 rfl (sbR (sbR sbN)) (stamp_Compare_ok hr35) rfl ⟨rfl, ?_⟩))
            refine mT rfl (congrArg LV.bool hb31) (mN0 (oGe rfl rfl ⟨rfl, ?_⟩))
            refine mN0 (oPkF (congrArg LV.bool hb31) (v := (.bool _)) rfl ⟨rfl, ?_⟩)
            obtain rfl := Option.some.inj hv
            exact m0 (Wk.to (eC rfl (eC rfl (eC rfl (eC rfl (eC rfl (eC rfl (eC rfl (eC rfl (eC rfl eN))))))))) (mC rfl (mC rfl (mC rfl mN))) rfl (prK rfl))
        · replace hb27 := bF hb27
          replace hv := iteF hv hb27
          refine mF rfl rfl hb27 ?_
          refine mF rfl rfl hb27 ?_
          refine mF rfl rfl hb27 ?_
          refine mF rfl rfl hb27 ?_
          refine mF rfl rfl hb27 ?_
          refine mF rfl rfl hb27 ?_
          refine mF rfl rfl hb27 ?_
          refine mF rfl rfl hb27 ?_
          refine mF rfl rfl hb27 ?_
          refine mF rfl rfl hb27 ?_
          refine mF rfl rfl hb27 ?_
          refine mF rfl rfl hb27 ?_
          refine mF rfl rfl hb27 ?_
          refine mF rfl rfl hb27 ?_
          refine mN0 (oPkF (congrArg LV.bool hb27) (v := (.bool _)) rfl ⟨rfl, ?_⟩)
          refine mN0 (oM (v := (.bool _)) rfl ⟨rfl, ?_⟩)
          refine mT rfl rfl (mN0 (oM (v := (.arr _ _)) rfl ⟨rfl, ?_⟩))
          refine mT rfl rfl (mN0 (oM (v := (.int _ _)) rfl ⟨rfl, ?_⟩))
          obtain ⟨x36, hx36, hv⟩ := bindS hv
          refine mT rfl rfl (mN1 (oIxA (f := GStamp.lv) te31 tk23 ts23 rfl rfl rfl hx36 ⟨rfl, ?_⟩))
          refine mT rfl rfl (mN1 (oLdEA (f := GStamp.lv) rfl rfl (idxOk hx36).2 rfl rfl tk23 ta23 ts23 rfl rfl ⟨rfl, ?_⟩))
          refine mT rfl rfl (mN0 (oM (v := (.lst _ _)) rfl ⟨rfl, ?_⟩))
          refine mT rfl rfl (mN0 (oM (v := (.lst _ _)) rfl ⟨rfl, ?_⟩))
          refine mT rfl rfl (mN0 (oM (v := (.int _ _)) rfl ⟨rfl, ?_⟩))
          obtain ⟨x37, hx37, hv⟩ := bindS hv
          refine mT rfl rfl (mN0 (oIx (f := (LV.int .i64)) te28 tk3 ts3 rfl rfl okI hx37 rfl ⟨rfl, ?_⟩))
          refine mT rfl rfl (mN0 (oLd rfl tk3 ta3 ⟨rfl, ?_⟩))
          obtain ⟨x38, hx38, hv⟩ := bindS hv
          refine mT rfl rfl (mN0 (oIx (f := GStamp.lv) te31 tk23 ts23 rfl rfl GStamp.ok hx38 rfl ⟨rfl, ?_⟩))
          refine mT rfl rfl (mN0 (oLdA rfl tk23 ta23 ts23 rfl rfl ⟨rfl, ?_⟩))
          obtain ⟨r39, hr39, hv⟩ := bindS hv
          refine mT rfl rfl (mN0 (oCP (args := [.agg [.int .i64 x36.Time, .int .i64 x36.Source, .int .i64 x36.Seq], .agg [.int .i64 x38.Time, .int .i64 x38.Source, .int .i64 x38.Seq]]) rfl isF14 rfl (sbR (sbR sbN)) (stamp_Compare_ok hr39) rfl ⟨rfl, ?_⟩))
          refine mT rfl rfl (mN0 (oGe rfl rfl ⟨rfl, ?_⟩))
          refine mN0 (oPkF rfl (v := (.bool _)) rfl ⟨rfl, ?_⟩)
          obtain rfl := Option.some.inj hv
          exact m0 (Wk.to (eC rfl (eC rfl (eC rfl (eC rfl (eC rfl (eC rfl (eC rfl (eC rfl (eC rfl eN))))))))) (mC rfl (mC rfl (mC rfl mN))) rfl (prK rfl))
      clear hv
      refine LH.cond (t := w23) rfl (fun hc40 => ?_) (fun hc40 => ?_)
      · replace h := iteT h hc40
        refine LH.seqT [(2, .bool false)] [] rfl ?_ ?_
        · refine sN (oA (v := (.bool _)) rfl ?_)
          exact s0 (Wk.to (eC rfl eN) mN rfl (prK rfl))
        refine LH.ret ?_
        refine blockR ?_
        refine thenR ?_
        refine roundR ?_
        refine blockR ?_
        refine thenR ?_
        refine blockR ?_
        refine thenR ?_
        refine roundR ?_
        refine blockR ?_
        refine thenR ?_
        obtain rfl := Option.some.inj h
        exact retE (congrArg Array.toList Try.results8) (lrT rfl (lr0 ⟨memN mN, rfl, prK rfl, Sub.rfl⟩))
      replace h := iteF h hc40
      refine LH.skip ?_
      refine blockN ?_
      refine thenN ?_
      refine LH.wk (Wk.to (el := [(3, .lst 3 (List.map GStamp.lv r2.1)), (4, .lst 1 (List.map (LV.int .i64) r2.2.1)), (5, .lst 1 (List.map (LV.int .i64) r3.1)), (7, .arr 218 (List.length l6)), (8, .arr 228 (List.length l7)), (9, .arr 232 (List.length l8)), (10, .int .i64 n5), (11, .int .i64 n20)]) (ml := [(218, .arr 23 3 (List.map GStamp.lv l6)), (228, .arr 3 1 (List.map (LV.int .i64) l7)), (232, .arr 3 1 (List.map (LV.int .i64) l8))]) (eC rfl (eC rfl (eC rfl (eC rfl (eC rfl (eC rfl (eC rfl (eC rfl eN)))))))) (mC rfl (mC rfl (mC rfl mN))) rfl (prK rfl)) ?_
      refine LH.loneT [(3, .lst 3 (List.map GStamp.lv r2.1)), (4, .lst 1 (List.map (LV.int .i64) r2.2.1)), (5, .lst 1 (List.map (LV.int .i64) r3.1)), (7, .arr 218 (List.length l6)), (8, .arr 228 (List.length l7)), (9, .arr 232 (List.length l8)), (10, .int .i64 n5), (11, .int .i64 (i64 (n20 + 1)))] [(218, .arr 23 3 (List.map GStamp.lv l6)), (228, .arr 3 1 (List.map (LV.int .i64) l7)), (232, .arr 3 1 (List.map (LV.int .i64) l8))] rfl ?_ ?_
      · refine sN (oM (v := (.int _ _)) rfl ?_)
        refine sN (oAdd rfl rfl ?_)
        refine sN (oA (v := (.int _ _)) rfl ?_)
        exact s0 (Wk.to (eC rfl (eC rfl (eC rfl (eC rfl (eC rfl (eC rfl (eC rfl (eC rfl eN)))))))) (mC rfl (mC rfl (mC rfl mN))) rfl (prK rfl))
      exact roundN (e' := Env.of [(3, .lst 3 (List.map GStamp.lv r2.1)), (4, .lst 1 (List.map (LV.int .i64) r2.2.1)), (5, .lst 1 (List.map (LV.int .i64) r3.1)), (7, .arr 218 (List.length l6)), (8, .arr 228 (List.length l7)), (9, .arr 232 (List.length l8)), (10, .int .i64 n5), (11, .int .i64 (i64 (n20 + 1)))]) (m' := Mem.of [(218, .arr 23 3 (List.map GStamp.lv l6)), (228, .arr 3 1 (List.map (LV.int .i64) l7)), (232, .arr 3 1 (List.map (LV.int .i64) l8))]) (Wk.to (eC rfl (eC rfl (eC rfl (eC rfl (eC rfl (eC rfl (eC rfl (eC rfl eN)))))))) (mC rfl (mC rfl (mC rfl mN))) rfl (prK rfl)) ⟨(i64 (n20 + 1)), hrec2 ▸ h, rfl, rfl⟩
    replace h := iteF h hc21
    refine LH.exit ?_
    refine thenX ?_
    refine roundX ?_
    refine blockH ?_
    refine thenN ?_
    refine LH.wk (Wk.to (el := [(3, .lst 3 (List.map GStamp.lv r2.1)), (4, .lst 1 (List.map (LV.int .i64) r2.2.1)), (5, .lst 1 (List.map (LV.int .i64) r3.1)), (7, .arr 218 (List.length l6)), (8, .arr 228 (List.length l7)), (9, .arr 232 (List.length l8)), (10, .int .i64 n5)]) (ml := [(218, .arr 23 3 (List.map GStamp.lv l6)), (228, .arr 3 1 (List.map (LV.int .i64) l7)), (232, .arr 3 1 (List.map (LV.int .i64) l8))]) (eC rfl (eC rfl (eC rfl (eC rfl (eC rfl (eC rfl (eC rfl eN))))))) (mC rfl (mC rfl (mC rfl mN))) rfl (prK rfl)) ?_
    obtain ⟨x41, hx41, h⟩ := bindS h
    obtain ⟨x42, hx42, h⟩ := bindS h
    obtain ⟨v43, hv43, h⟩ := bindS h
    obtain ⟨x44, hx44, h⟩ := bindS h
    obtain ⟨x45, hx45, h⟩ := bindS h
    obtain ⟨v46, hv46, h⟩ := bindS h
    obtain ⟨v47, hv47, h⟩ := bindS h
    refine LH.loneTM mixed [] [0, 0, 0, 0, 0, 0, 0, 0, 0, 2, 0, 0, 0, 0, 0, 0, 0, 0, 0, 2, 0, 0, 0, 2, 0, 0, 0] [(3, .lst 3 (List.map GStamp.lv r2.1)), (4, .lst 1 (List.map (LV.int .i64) r2.2.1)), (5, .lst 1 (List.map (LV.int .i64) r3.1)), (7, .arr 218 (List.length v43)), (8, .arr 228 (List.length v46)), (9, .arr 232 (List.length v47)), (10, .int .i64 n5)] [(218, .arr 23 3 (List.map GStamp.lv v43)), (228, .arr 3 1 (List.map (LV.int .i64) v46)), (232, .arr 3 1 (List.map (LV.int .i64) v47))] rfl rfl (by kernel_rfl) ?_ ?_
    · refine mN0 (oM (v := (.arr _ _)) rfl ⟨rfl, ?_⟩)
      refine mN0 (oM (v := (.lst _ _)) rfl ⟨rfl, ?_⟩)
      refine mN0 (oM (v := (.lst _ _)) rfl ⟨rfl, ?_⟩)
      refine mN0 (oM (v := (.int _ _)) rfl ⟨rfl, ?_⟩)
      refine mN0 (oIx (f := (LV.int .i64)) te28 tk3 ts3 rfl rfl okI hx41 rfl ⟨rfl, ?_⟩)
      refine mN0 (oLd rfl tk3 ta3 ⟨rfl, ?_⟩)
      refine mN0 (oIx (f := GStamp.lv) te31 tk23 ts23 rfl rfl GStamp.ok hx42 rfl ⟨rfl, ?_⟩)
      refine mN0 (oLdA rfl tk23 ta23 ts23 rfl rfl ⟨rfl, ?_⟩)
      refine mN0 (oBS (f := GStamp.lv) (ys := [x42]) te31 tr23 ts23 rfl rfl rfl GStamp.ok ⟨rfl, ?_⟩)
      refine mN2 (oAp (f := GStamp.lv) te31 tr23 ts23 rfl rfl (prN rfl) rfl hv43 ?_)
      refine mN0 (oM (v := (.arr _ _)) rfl ⟨rfl, ?_⟩)
      refine mN0 (oM (v := (.lst _ _)) rfl ⟨rfl, ?_⟩)
      refine mN0 (oM (v := (.lst _ _)) rfl ⟨rfl, ?_⟩)
      refine mN0 (oM (v := (.int _ _)) rfl ⟨rfl, ?_⟩)
      refine mN0 (oIx (f := (LV.int .i64)) te28 tk3 ts3 rfl rfl okI hx44 rfl ⟨rfl, ?_⟩)
      refine mN0 (oLd rfl tk3 ta3 ⟨rfl, ?_⟩)
      refine mN0 (oIx (f := (LV.int .i64)) te28 tk3 ts3 rfl rfl okI hx45 rfl ⟨rfl, ?_⟩)
      refine mN0 (oLd rfl tk3 ta3 ⟨rfl, ?_⟩)
      refine mN0 (oBS (f := (LV.int .i64)) (ys := [x45]) te28 tr3 ts3 rfl rfl rfl okI ⟨rfl, ?_⟩)
      refine mN2 (oAp (f := (LV.int .i64)) te28 tr3 ts3 rfl rfl (prN rfl) rfl hv46 ?_)
      refine mN0 (oM (v := (.arr _ _)) rfl ⟨rfl, ?_⟩)
      refine mN0 (oM (v := (.int _ _)) rfl ⟨rfl, ?_⟩)
      refine mN0 (oBS (f := (LV.int .i64)) (ys := [n5]) te28 tr3 ts3 rfl rfl rfl okI ⟨rfl, ?_⟩)
      refine mN2 (oAp (f := (LV.int .i64)) te28 tr3 ts3 rfl rfl (prN rfl) rfl hv47 ?_)
      refine mN0 (oA (v := (.arr _ _)) rfl ⟨rfl, ?_⟩)
      refine mN0 (oA (v := (.arr _ _)) rfl ⟨rfl, ?_⟩)
      refine mN0 (oA (v := (.arr _ _)) rfl ⟨rfl, ?_⟩)
      exact m0 (Wk.to (eC rfl (eC rfl (eC rfl (eC rfl (eC rfl (eC rfl (eC rfl eN))))))) (mC rfl (mC rfl (mC rfl mN))) rfl (prK rfl))
    refine blockN ?_
    refine thenN ?_
    refine LH.loneT [(3, .lst 3 (List.map GStamp.lv r2.1)), (4, .lst 1 (List.map (LV.int .i64) r2.2.1)), (5, .lst 1 (List.map (LV.int .i64) r3.1)), (7, .arr 218 (List.length v43)), (8, .arr 228 (List.length v46)), (9, .arr 232 (List.length v47)), (10, .int .i64 (i64 (n5 + 1)))] [(218, .arr 23 3 (List.map GStamp.lv v43)), (228, .arr 3 1 (List.map (LV.int .i64) v46)), (232, .arr 3 1 (List.map (LV.int .i64) v47))] rfl ?_ ?_
    · refine sN (oM (v := (.int _ _)) rfl ?_)
      refine sN (oAdd rfl rfl ?_)
      refine sN (oA (v := (.int _ _)) rfl ?_)
      exact s0 (Wk.to (eC rfl (eC rfl (eC rfl (eC rfl (eC rfl (eC rfl (eC rfl eN))))))) (mC rfl (mC rfl (mC rfl mN))) rfl (prK rfl))
    exact roundN (e' := Env.of [(3, .lst 3 (List.map GStamp.lv r2.1)), (4, .lst 1 (List.map (LV.int .i64) r2.2.1)), (5, .lst 1 (List.map (LV.int .i64) r3.1)), (7, .arr 218 (List.length v43)), (8, .arr 228 (List.length v46)), (9, .arr 232 (List.length v47)), (10, .int .i64 (i64 (n5 + 1)))]) (m' := Mem.of [(218, .arr 23 3 (List.map GStamp.lv v43)), (228, .arr 3 1 (List.map (LV.int .i64) v46)), (232, .arr 3 1 (List.map (LV.int .i64) v47))]) (Wk.to (eC rfl (eC rfl (eC rfl (eC rfl (eC rfl (eC rfl (eC rfl eN))))))) (mC rfl (mC rfl (mC rfl mN))) rfl (prK rfl)) ⟨(i64 (n5 + 1)), v43, v46, v47, hrec1 ▸ h, rfl, rfl⟩
  replace h := iteF h hc9
  refine LH.exit ?_
  refine thenX ?_
  refine roundX ?_
  refine blockH ?_
  refine thenN ?_
  refine LH.wk ((Wk.trans (Wk.to (el := [(7, .arr 218 (List.length l6)), (8, .arr 228 (List.length l7)), (9, .arr 232 (List.length l8))]) (ml := [(218, .arr 23 3 (List.map GStamp.lv l6)), (228, .arr 3 1 (List.map (LV.int .i64) l7)), (232, .arr 3 1 (List.map (LV.int .i64) l8))]) (eC rfl (eC rfl (eC rfl eN))) (mC rfl (mC rfl (mC rfl mN))) rfl (prK rfl)) (Wk.trans (Wk.frzL (f := GStamp.lv) (el' := [(7, .lst 3 (List.map GStamp.lv l6)), (8, .arr 228 (List.length l7)), (9, .arr 232 (List.length l8))]) 218 23 3 l6 rfl rfl (prN rfl) (fZ (fK rfl (fK rfl fN)))) (Wk.trans (Wk.frzL (f := (LV.int .i64)) (el' := [(7, .lst 3 (List.map GStamp.lv l6)), (8, .lst 1 (List.map (LV.int .i64) l7)), (9, .arr 232 (List.length l8))]) 228 3 1 l7 rfl rfl (prN rfl) (fK rfl (fZ (fK rfl fN)))) (Wk.trans (Wk.frzL (f := (LV.int .i64)) (el' := [(7, .lst 3 (List.map GStamp.lv l6)), (8, .lst 1 (List.map (LV.int .i64) l7)), (9, .lst 1 (List.map (LV.int .i64) l8))]) 232 3 1 l8 rfl rfl (prN rfl) (fK rfl (fK rfl (fZ fN)))) (Wk.to (el := [(7, .lst 3 (List.map GStamp.lv l6)), (8, .lst 1 (List.map (LV.int .i64) l7)), (9, .lst 1 (List.map (LV.int .i64) l8))]) (ml := []) (eC rfl (eC rfl (eC rfl eN))) mN rfl (prK rfl))))))) ?_
  obtain ⟨r48, hr48, h⟩ := bindS h
  refine LH.seqT [(9, .lst 1 (List.map (LV.int .i64) l8)), (12, .lst 1 (List.map (LV.int .i64) r48.1)), (13, .int .i64 r48.2)] [] rfl ?_ ?_
  · refine sN (oM (v := (.lst _ _)) rfl ?_)
    refine sN (oM (v := (.lst _ _)) rfl ?_)
    refine sN (oCP (args := [.lst 3 (List.map GStamp.lv l6), .lst 1 (List.map (LV.int .i64) l7)]) rfl isF20 rfl (sbR (sbR sbN)) (stamp_Canonical_ok hr48) rfl ?_)
    refine sN (oM (v := (.tup _)) rfl ?_)
    refine sN (oEx rfl rfl ?_)
    refine sN (oEx rfl rfl ?_)
    refine sN (oA (v := (.lst _ _)) rfl ?_)
    refine sN (oA (v := (.int _ _)) rfl ?_)
    exact s0 (Wk.to (eC rfl (eC rfl (eC rfl eN))) mN rfl (prK rfl))
  obtain ⟨w50, hv, h⟩ := bindS h
  refine LH.seqT [(2, .bool w50)] [] rfl ?_ ?_
  · refine sN (oM (v := (.int _ _)) rfl ?_)
    refine sN (oEq rfl rfl ?_)
    refine sN (oM (v := (.bool _)) rfl ?_)
    by_cases hb51 : (r48.2 == 0) = true
    · replace hv := iteT hv hb51
      refine sT rfl (congrArg LV.bool hb51) (oM (v := (.lst _ _)) rfl ?_)
      refine sT rfl (congrArg LV.bool hb51) (oM (v := (.lst _ _)) rfl ?_)
      obtain ⟨r52, hr52, hv⟩ := bindS hv
      refine sT rfl (congrArg LV.bool hb51) (oCP (args := [.lst 1 (List.map (LV.int .i64) r48.1), .lst 1 (List.map (LV.int .i64) l8)]) rfl isF22 rfl (sbR (sbR sbN)) (law02_same_ok hr52) rfl ?_)
      refine sN (oPkT (congrArg LV.bool hb51) (v := (.bool _)) rfl ?_)
      refine sN (oM (v := (.bool _)) rfl ?_)
      by_cases hb53 : r52 = true
      · replace hv := iteT hv hb53
        obtain ⟨r54, hr54, hv⟩ := bindS hv
        refine sT rfl (congrArg LV.bool hb53) (oCP (args := []) rfl isF16 rfl sbN (law02_awake_ok hr54) rfl ?_)
        refine sN (oPkT (congrArg LV.bool hb53) (v := (.bool _)) rfl ?_)
        refine sN (oA (v := (.bool _)) rfl ?_)
        obtain rfl := Option.some.inj hv
        exact s0 (Wk.to (eC rfl eN) mN rfl (prK rfl))
      · replace hb53 := bF hb53
        replace hv := iteF hv hb53
        refine sF rfl rfl hb53 ?_
        refine sN (oPkF (congrArg LV.bool hb53) (v := (.bool _)) rfl ?_)
        refine sN (oA (v := (.bool _)) rfl ?_)
        obtain rfl := Option.some.inj hv
        exact s0 (Wk.to (eC rfl eN) mN rfl (prK rfl))
    · replace hb51 := bF hb51
      replace hv := iteF hv hb51
      refine sF rfl rfl hb51 ?_
      refine sF rfl rfl hb51 ?_
      refine sF rfl rfl hb51 ?_
      refine sN (oPkF (congrArg LV.bool hb51) (v := (.bool _)) rfl ?_)
      refine sN (oM (v := (.bool _)) rfl ?_)
      refine sF rfl rfl rfl ?_
      refine sN (oPkF rfl (v := (.bool _)) rfl ?_)
      refine sN (oA (v := (.bool _)) rfl ?_)
      obtain rfl := Option.some.inj hv
      exact s0 (Wk.to (eC rfl eN) mN rfl (prK rfl))
  clear hv
  refine LH.ret ?_
  obtain rfl := Option.some.inj h
  exact retE (congrArg Array.toList Try.results8) (lrT rfl (lr0 ⟨memN mN, rfl, prK rfl, Sub.rfl⟩))

theorem stamp_Until_ok {F : Nat} {p0 : List GStamp} {p1 : Int} {r : Int} (h : stamp_Until F p0 p1 = some r) : LCall Try.prog 28 [.lst 3 (List.map GStamp.lv p0), .int .i64 p1] (Mem.of []) (.int .i64 r) (Mem.of []) := by
  unfold stamp_Until at h
  refine bodyT Try.func28 rfl (by rw [Try.ntmps28]; exact Nat.le_of_ble_eq_true rfl) ?_
  refine LH.wk (Wk.to (el := [(0, .lst 3 (List.map GStamp.lv p0)), (1, .int .i64 p1)]) (ml := []) (eC rfl (eC rfl eN)) mN rfl (prK rfl)) ?_
  refine LH.seqT [(0, .lst 3 (List.map GStamp.lv p0)), (1, .int .i64 p1)] [] rfl ?_ ?_
  · refine sN (oA (v := (.int _ _)) rfl ?_)
    exact s0 (Wk.to (eC rfl (eC rfl eN)) mN rfl (prK rfl))
  refine LH.seq ?_
  refine LH.seqT [(0, .lst 3 (List.map GStamp.lv p0)), (1, .int .i64 p1), (7, .lst 3 (List.map GStamp.lv p0)), (8, .int .i64 (p0.length : Int)), (9, .int .i64 0)] [] rfl ?_ ?_
  · refine sN (oM (v := (.lst _ _)) rfl ?_)
    refine sN (oLnL (f := GStamp.lv) te31 rfl ?_)
    refine sN (oM (v := (.int _ _)) rfl ?_)
    exact s0 (Wk.to (eC rfl (eC rfl (eC rfl (eC rfl (eC rfl eN))))) mN rfl (prK rfl))
  refine LH.block ?_
  refine LH.loop (fun n e m => ∃ (n1 : Int), stamp_Until_L1 p0 p1 n n1 = some r ∧ e = Env.of [(0, .lst 3 (List.map GStamp.lv p0)), (1, .int .i64 p1), (7, .lst 3 (List.map GStamp.lv p0)), (8, .int .i64 (p0.length : Int)), (9, .int .i64 n1)] ∧ m = Mem.of []) F ⟨0, h, rfl, rfl⟩ ?_
  clear h
  rintro n e m ⟨n1, h, rfl, rfl⟩
  rcases n with _ | n
  · cases (show Option.none = some _ from h)
  obtain ⟨rec1, hrec1⟩ : ∃ f, f = stamp_Until_L1 p0 p1 n := ⟨_, rfl⟩
  replace h : stamp_Until_L1_B p0 p1 rec1 n1 = some r := hrec1 ▸ h
  unfold stamp_Until_L1_B at h
  refine LH.seqT [(0, .lst 3 (List.map GStamp.lv p0)), (1, .int .i64 p1), (7, .lst 3 (List.map GStamp.lv p0)), (8, .int .i64 (p0.length : Int)), (9, .int .i64 n1), (10, .bool (decide (n1 < (p0.length : Int))))] [] rfl ?_ ?_
  · refine sN (oLt rfl rfl ?_)
    exact s0 (Wk.to (eC rfl (eC rfl (eC rfl (eC rfl (eC rfl (eC rfl eN)))))) mN rfl (prK rfl))
  refine LH.seq ?_
  refine LH.cond (t := (decide (n1 < (p0.length : Int)))) rfl (fun hc2 => ?_) (fun hc2 => ?_)
  · replace h := iteT h hc2
    refine LH.skip ?_
    refine thenN ?_
    refine LH.wk (Wk.to (el := [(0, .lst 3 (List.map GStamp.lv p0)), (1, .int .i64 p1), (7, .lst 3 (List.map GStamp.lv p0)), (8, .int .i64 (p0.length : Int)), (9, .int .i64 n1)]) (ml := []) (eC rfl (eC rfl (eC rfl (eC rfl (eC rfl eN))))) mN rfl (prK rfl)) ?_
    refine LH.seq ?_
    refine LH.block ?_
    obtain ⟨x3, hx3, h⟩ := bindS h
    refine LH.seqT [(0, .lst 3 (List.map GStamp.lv p0)), (1, .int .i64 p1), (5, .int .i64 n1), (6, .sptr [.int .i64 x3.Time, .int .i64 x3.Source, .int .i64 x3.Seq]), (7, .lst 3 (List.map GStamp.lv p0)), (8, .int .i64 (p0.length : Int)), (9, .int .i64 n1)] [] rfl ?_ ?_
    · refine sN (oM (v := (.int _ _)) rfl ?_)
      refine sN (oIx (f := GStamp.lv) te31 tk23 ts23 rfl rfl GStamp.ok hx3 rfl ?_)
      refine sN (oLdA rfl tk23 ta23 ts23 rfl rfl ?_)
      refine sN (oAl (id := 106) rfl tz23 rfl rfl ?_)
      refine sN (oA (v := (.int _ _)) rfl ?_)
      refine s_ (oSt rfl rfl rfl tk23 ts23 rfl rfl rfl ?_)
      exact s0 ((Wk.trans (Wk.to (el := [(0, .lst 3 (List.map GStamp.lv p0)), (1, .int .i64 p1), (5, .int .i64 n1), (6, .ptr 106 0), (7, .lst 3 (List.map GStamp.lv p0)), (8, .int .i64 (p0.length : Int)), (9, .int .i64 n1)]) (ml := [(106, .box [.int .i64 x3.Time, .int .i64 x3.Source, .int .i64 x3.Seq])]) (eC rfl (eC rfl (eC rfl (eC rfl (eC rfl (eC rfl (eC rfl eN))))))) (mC rfl mN) rfl (prK rfl)) (Wk.trans (Wk.frzB 106 [.int .i64 x3.Time, .int .i64 x3.Source, .int .i64 x3.Seq] rfl rfl rfl (prN rfl)) (Wk.to (eC rfl (eC rfl (eC rfl (eC rfl (eC rfl (eC rfl (eC rfl eN))))))) mN rfl (prK rfl)))))
    refine LH.seqT [(0, .lst 3 (List.map GStamp.lv p0)), (1, .int .i64 p1), (5, .int .i64 n1), (7, .lst 3 (List.map GStamp.lv p0)), (8, .int .i64 (p0.length : Int)), (9, .int .i64 n1), (17, .bool (decide (x3.Time > p1)))] [] rfl ?_ ?_
    · refine sN (oFaS tf23_0 tk3 ts3 rfl rfl rfl ?_)
      refine sN (oLd rfl tk3 ta3 ?_)
      refine sN (oM (v := (.int _ _)) rfl ?_)
      refine sN (oGt rfl rfl ?_)
      exact s0 (Wk.to (eC rfl (eC rfl (eC rfl (eC rfl (eC rfl (eC rfl (eC rfl eN))))))) mN rfl (prK rfl))
    refine LH.cond (t := (decide (x3.Time > p1))) rfl (fun hc4 => ?_) (fun hc4 => ?_)
    · replace h := iteT h hc4
      refine LH.seqT [(4, .int .i64 n1)] [] rfl ?_ ?_
      · refine sN (oM (v := (.int _ _)) rfl ?_)
        refine sN (oA (v := (.int _ _)) rfl ?_)
        exact s0 (Wk.to (eC rfl eN) mN rfl (prK rfl))
      refine LH.ret ?_
      refine blockR ?_
      refine thenR ?_
      refine roundR ?_
      refine blockR ?_
      refine thenR ?_
      obtain rfl := Option.some.inj h
      exact retE (congrArg Array.toList Try.results28) (lrT rfl (lr0 ⟨memN mN, rfl, prK rfl, Sub.rfl⟩))
    replace h := iteF h hc4
    refine LH.skip ?_
    refine blockN ?_
    refine thenN ?_
    refine LH.wk (Wk.to (el := [(0, .lst 3 (List.map GStamp.lv p0)), (1, .int .i64 p1), (7, .lst 3 (List.map GStamp.lv p0)), (8, .int .i64 (p0.length : Int)), (9, .int .i64 n1)]) (ml := []) (eC rfl (eC rfl (eC rfl (eC rfl (eC rfl eN))))) mN rfl (prK rfl)) ?_
    refine LH.loneT [(0, .lst 3 (List.map GStamp.lv p0)), (1, .int .i64 p1), (7, .lst 3 (List.map GStamp.lv p0)), (8, .int .i64 (p0.length : Int)), (9, .int .i64 (i64 (n1 + 1)))] [] rfl ?_ ?_
    · refine sN (oAdd rfl rfl ?_)
      refine sN (oM (v := (.int _ _)) rfl ?_)
      exact s0 (Wk.to (eC rfl (eC rfl (eC rfl (eC rfl (eC rfl eN))))) mN rfl (prK rfl))
    exact roundN (e' := Env.of [(0, .lst 3 (List.map GStamp.lv p0)), (1, .int .i64 p1), (7, .lst 3 (List.map GStamp.lv p0)), (8, .int .i64 (p0.length : Int)), (9, .int .i64 (i64 (n1 + 1)))]) (m' := Mem.of []) (Wk.to (eC rfl (eC rfl (eC rfl (eC rfl (eC rfl eN))))) mN rfl (prK rfl)) ⟨(i64 (n1 + 1)), hrec1 ▸ h, rfl, rfl⟩
  replace h := iteF h hc2
  refine LH.exit ?_
  refine thenX ?_
  refine roundX ?_
  refine blockH ?_
  refine thenN ?_
  refine LH.wk (Wk.to (el := [(0, .lst 3 (List.map GStamp.lv p0))]) (ml := []) (eC rfl eN) mN rfl (prK rfl)) ?_
  refine LH.seqT [(4, .int .i64 (p0.length : Int))] [] rfl ?_ ?_
  · refine sN (oM (v := (.lst _ _)) rfl ?_)
    refine sN (oLnL (f := GStamp.lv) te31 rfl ?_)
    refine sN (oA (v := (.int _ _)) rfl ?_)
    exact s0 (Wk.to (eC rfl eN) mN rfl (prK rfl))
  refine LH.ret ?_
  obtain rfl := Option.some.inj h
  exact retE (congrArg Array.toList Try.results28) (lrT rfl (lr0 ⟨memN mN, rfl, prK rfl, Sub.rfl⟩))

theorem ref02_Until_ok {F : Nat} {p0 : List GStamp} {p1 : Int} {r : Int} (h : ref02_Until F p0 p1 = some r) : LCall Try.prog 29 [.lst 3 (List.map GStamp.lv p0), .int .i64 p1] (Mem.of []) (.int .i64 r) (Mem.of []) := by
  unfold ref02_Until at h
  refine bodyT Try.func29 rfl (by rw [Try.ntmps29]; exact Nat.le_of_ble_eq_true rfl) ?_
  refine LH.wk (Wk.to (el := [(0, .lst 3 (List.map GStamp.lv p0)), (1, .int .i64 p1)]) (ml := []) (eC rfl (eC rfl eN)) mN rfl (prK rfl)) ?_
  refine LH.seqT [(0, .lst 3 (List.map GStamp.lv p0)), (1, .int .i64 p1)] [] rfl ?_ ?_
  · refine sN (oA (v := (.int _ _)) rfl ?_)
    exact s0 (Wk.to (eC rfl (eC rfl eN)) mN rfl (prK rfl))
  refine LH.seq ?_
  refine LH.seqT [(0, .lst 3 (List.map GStamp.lv p0)), (1, .int .i64 p1), (5, .int .i64 0)] [] rfl ?_ ?_
  · refine sN (oA (v := (.int _ _)) rfl ?_)
    exact s0 (Wk.to (eC rfl (eC rfl (eC rfl eN))) mN rfl (prK rfl))
  refine LH.block ?_
  refine LH.loop (fun n e m => ∃ (n1 : Int), ref02_Until_L1 p0 p1 n n1 = some r ∧ e = Env.of [(0, .lst 3 (List.map GStamp.lv p0)), (1, .int .i64 p1), (5, .int .i64 n1)] ∧ m = Mem.of []) F ⟨0, h, rfl, rfl⟩ ?_
  clear h
  rintro n e m ⟨n1, h, rfl, rfl⟩
  rcases n with _ | n
  · cases (show Option.none = some _ from h)
  obtain ⟨rec1, hrec1⟩ : ∃ f, f = ref02_Until_L1 p0 p1 n := ⟨_, rfl⟩
  replace h : ref02_Until_L1_B p0 p1 rec1 n1 = some r := hrec1 ▸ h
  unfold ref02_Until_L1_B at h
  refine LH.seq ?_
  refine LH.seqT [(0, .lst 3 (List.map GStamp.lv p0)), (1, .int .i64 p1), (5, .int .i64 n1), (9, .bool (decide (n1 < (p0.length : Int))))] [] rfl ?_ ?_
  · refine sN (oM (v := (.int _ _)) rfl ?_)
    refine sN (oM (v := (.lst _ _)) rfl ?_)
    refine sN (oLnL (f := GStamp.lv) te31 rfl ?_)
    refine sN (oLt rfl rfl ?_)
    exact s0 (Wk.to (eC rfl (eC rfl (eC rfl (eC rfl eN)))) mN rfl (prK rfl))
  refine LH.cond (t := (decide (n1 < (p0.length : Int)))) rfl (fun hc2 => ?_) (fun hc2 => ?_)
  · replace h := iteT h hc2
    refine LH.skip ?_
    refine thenN ?_
    refine LH.wk (Wk.to (el := [(0, .lst 3 (List.map GStamp.lv p0)), (1, .int .i64 p1), (5, .int .i64 n1)]) (ml := []) (eC rfl (eC rfl (eC rfl eN))) mN rfl (prK rfl)) ?_
    refine LH.seq ?_
    refine LH.block ?_
    obtain ⟨x3, hx3, h⟩ := bindS h
    refine LH.seqT [(0, .lst 3 (List.map GStamp.lv p0)), (1, .int .i64 p1), (5, .int .i64 n1), (18, .bool (decide (x3.Time > p1)))] [] rfl ?_ ?_
    · refine sN (oM (v := (.lst _ _)) rfl ?_)
      refine sN (oM (v := (.int _ _)) rfl ?_)
      refine sN (oIx (f := GStamp.lv) te31 tk23 ts23 rfl rfl GStamp.ok hx3 rfl ?_)
      refine sN (oFaS tf23_0 tk3 ts3 rfl rfl rfl ?_)
      refine sN (oLd rfl tk3 ta3 ?_)
      refine sN (oM (v := (.int _ _)) rfl ?_)
      refine sN (oGt rfl rfl ?_)
      exact s0 (Wk.to (eC rfl (eC rfl (eC rfl (eC rfl eN)))) mN rfl (prK rfl))
    refine LH.cond (t := (decide (x3.Time > p1))) rfl (fun hc4 => ?_) (fun hc4 => ?_)
    · replace h := iteT h hc4
      refine LH.seqT [(4, .int .i64 n1)] [] rfl ?_ ?_
      · refine sN (oM (v := (.int _ _)) rfl ?_)
        refine sN (oA (v := (.int _ _)) rfl ?_)
        exact s0 (Wk.to (eC rfl eN) mN rfl (prK rfl))
      refine LH.ret ?_
      refine blockR ?_
      refine thenR ?_
      refine roundR ?_
      refine blockR ?_
      refine thenR ?_
      obtain rfl := Option.some.inj h
      exact retE (congrArg Array.toList Try.results29) (lrT rfl (lr0 ⟨memN mN, rfl, prK rfl, Sub.rfl⟩))
    replace h := iteF h hc4
    refine LH.skip ?_
    refine blockN ?_
    refine thenN ?_
    refine LH.wk (Wk.to (el := [(0, .lst 3 (List.map GStamp.lv p0)), (1, .int .i64 p1), (5, .int .i64 n1)]) (ml := []) (eC rfl (eC rfl (eC rfl eN))) mN rfl (prK rfl)) ?_
    refine LH.loneT [(0, .lst 3 (List.map GStamp.lv p0)), (1, .int .i64 p1), (5, .int .i64 (i64 (n1 + 1)))] [] rfl ?_ ?_
    · refine sN (oM (v := (.int _ _)) rfl ?_)
      refine sN (oAdd rfl rfl ?_)
      refine sN (oA (v := (.int _ _)) rfl ?_)
      exact s0 (Wk.to (eC rfl (eC rfl (eC rfl eN))) mN rfl (prK rfl))
    exact roundN (e' := Env.of [(0, .lst 3 (List.map GStamp.lv p0)), (1, .int .i64 p1), (5, .int .i64 (i64 (n1 + 1)))]) (m' := Mem.of []) (Wk.to (eC rfl (eC rfl (eC rfl eN))) mN rfl (prK rfl)) ⟨(i64 (n1 + 1)), hrec1 ▸ h, rfl, rfl⟩
  replace h := iteF h hc2
  refine LH.exit ?_
  refine thenX ?_
  refine roundX ?_
  refine blockH ?_
  refine thenN ?_
  refine LH.wk (Wk.to (el := [(0, .lst 3 (List.map GStamp.lv p0))]) (ml := []) (eC rfl eN) mN rfl (prK rfl)) ?_
  refine LH.seqT [(4, .int .i64 (p0.length : Int))] [] rfl ?_ ?_
  · refine sN (oM (v := (.lst _ _)) rfl ?_)
    refine sN (oLnL (f := GStamp.lv) te31 rfl ?_)
    refine sN (oA (v := (.int _ _)) rfl ?_)
    exact s0 (Wk.to (eC rfl eN) mN rfl (prK rfl))
  refine LH.ret ?_
  obtain rfl := Option.some.inj h
  exact retE (congrArg Array.toList Try.results29) (lrT rfl (lr0 ⟨memN mN, rfl, prK rfl, Sub.rfl⟩))

theorem law02_StampUntil_ok {F : Nat} {p0 : List Int} {p1 : Int} {r : Bool} (h : law02_StampUntil F p0 p1 = some r) : LCall Try.prog 9 [.lst 1 (List.map (LV.int .i64) p0), .int .i64 p1] (Mem.of []) (.bool r) (Mem.of []) := by
  unfold law02_StampUntil at h
  refine bodyT Try.func9 rfl (by rw [Try.ntmps9]; exact Nat.le_of_ble_eq_true rfl) ?_
  refine LH.wk (Wk.to (el := [(0, .lst 1 (List.map (LV.int .i64) p0)), (1, .int .i64 p1)]) (ml := []) (eC rfl (eC rfl eN)) mN rfl (prK rfl)) ?_
  refine LH.seqT [(0, .lst 1 (List.map (LV.int .i64) p0)), (1, .int .i64 p1)] [] rfl ?_ ?_
  · refine sN (oA (v := (.bool _)) rfl ?_)
    exact s0 (Wk.to (eC rfl (eC rfl eN)) mN rfl (prK rfl))
  obtain ⟨r1, hr1, h⟩ := bindS h
  refine LH.seqT [(1, .int .i64 p1), (5, .ptr 7 0)] [(7, .box [.lst 1 (List.map (LV.int .i64) r1.L), .int .i64 r1.At])] rfl ?_ ?_
  · refine sN (oM (v := (.lst _ _)) rfl ?_)
    refine sN (oCM (args := [.lst 1 (List.map (LV.int .i64) p0)]) (ml := []) (ml' := [(7, .box [.lst 1 (List.map (LV.int .i64) r1.L), .int .i64 r1.At])]) rfl isF17 rfl (sbR sbN) (make_New_ok hr1) mN (newF rfl newN) rfl ?_)
    refine sN (oA (v := (.ptr _ _)) rfl ?_)
    exact s0 (Wk.to (eC rfl (eC rfl eN)) (mC rfl mN) rfl (prK rfl))
  obtain ⟨r2, hr2, h⟩ := bindS h
  refine LH.seqT [(1, .int .i64 p1), (5, .ptr 7 0), (6, .lst 3 (List.map GStamp.lv r2.1))] [(7, .box [.lst 1 (List.map (LV.int .i64) r2.2.2.L), .int .i64 r2.2.2.At])] rfl ?_ ?_
  · refine sN (oM (v := (.ptr _ _)) rfl ?_)
    refine sN (oCM (args := [.ptr 7 0, .int .i64 14, .int .i64 6]) (ml := [(7, .box [.lst 1 (List.map (LV.int .i64) r1.L), .int .i64 r1.At])]) (ml' := [(7, .box [.lst 1 (List.map (LV.int .i64) r2.2.2.L), .int .i64 r2.2.2.At]), (145, .arr 23 3 (List.map GStamp.lv r2.1)), (149, .arr 3 1 (List.map (LV.int .i64) r2.2.1))]) rfl isF18 rfl (sbR (sbR (sbR sbN))) (law02_events_ok hr2) (mC rfl mN) (newI rfl (newF rfl (newF rfl newN))) rfl ?_)
    refine sN (oM (v := (.tup _)) rfl ?_)
    refine sN (oEx rfl rfl ?_)
    refine sN (oEx rfl rfl ?_)
    refine sN (oA (v := (.arr _ _)) rfl ?_)
    refine sN (oA (v := (.arr _ _)) rfl ?_)
    exact s0 ((Wk.trans (Wk.to (el := [(1, .int .i64 p1), (5, .ptr 7 0), (6, .arr 145 (List.length r2.1))]) (ml := [(7, .box [.lst 1 (List.map (LV.int .i64) r2.2.2.L), .int .i64 r2.2.2.At]), (145, .arr 23 3 (List.map GStamp.lv r2.1))]) (eC rfl (eC rfl (eC rfl eN))) (mC rfl (mC rfl mN)) rfl (prK rfl)) (Wk.trans (Wk.frzL (f := GStamp.lv) (el' := [(1, .int .i64 p1), (5, .ptr 7 0), (6, .lst 3 (List.map GStamp.lv r2.1))]) 145 23 3 r2.1 rfl rfl (prN rfl) (fK rfl (fK rfl (fZ fN)))) (Wk.to (eC rfl (eC rfl (eC rfl eN))) (mC rfl mN) rfl (prK rfl)))))
  obtain ⟨r3, hr3, h⟩ := bindS h
  refine LH.seqT [(1, .int .i64 p1), (6, .lst 3 (List.map GStamp.lv r2.1)), (8, .int .i64 r3.1)] [] rfl ?_ ?_
  · refine sN (oM (v := (.ptr _ _)) rfl ?_)
    refine sN (oCM (args := [.ptr 7 0, .int .i64 0, .int .i64 30]) (ml := [(7, .box [.lst 1 (List.map (LV.int .i64) r2.2.2.L), .int .i64 r2.2.2.At])]) (ml' := [(7, .box [.lst 1 (List.map (LV.int .i64) r3.2.L), .int .i64 r3.2.At])]) rfl isF23 rfl (sbR (sbR (sbR sbN))) (GTape_Range_ok hr3) (mC rfl mN) (newI rfl newN) rfl ?_)
    refine sN (oA (v := (.int _ _)) rfl ?_)
    exact s0 (Wk.to (eC rfl (eC rfl (eC rfl eN))) mN rfl (prK rfl))
  obtain ⟨w5, hv, h⟩ := bindS h
  refine LH.seqT [(4, .bool w5)] [] rfl ?_ ?_
  · refine sN (oM (v := (.lst _ _)) rfl ?_)
    refine sN (oM (v := (.int _ _)) rfl ?_)
    obtain ⟨r6, hr6, hv⟩ := bindS hv
    refine sN (oCP (args := [.lst 3 (List.map GStamp.lv r2.1), .int .i64 p1]) rfl isF28 rfl (sbR (sbR sbN)) (stamp_Until_ok hr6) rfl ?_)
    refine sN (oM (v := (.lst _ _)) rfl ?_)
    refine sN (oM (v := (.int _ _)) rfl ?_)
    obtain ⟨r7, hr7, hv⟩ := bindS hv
    refine sN (oCP (args := [.lst 3 (List.map GStamp.lv r2.1), .int .i64 p1]) rfl isF29 rfl (sbR (sbR sbN)) (ref02_Until_ok hr7) rfl ?_)
    refine sN (oEq rfl rfl ?_)
    refine sN (oM (v := (.bool _)) rfl ?_)
    by_cases hb8 : (r6 == r7) = true
    · replace hv := iteT hv hb8
      refine sT rfl (congrArg LV.bool hb8) (oM (v := (.lst _ _)) rfl ?_)
      refine sT rfl (congrArg LV.bool hb8) (oM (v := (.int _ _)) rfl ?_)
      obtain ⟨r9, hr9, hv⟩ := bindS hv
      refine sT rfl (congrArg LV.bool hb8) (oCP (args := [.lst 3 (List.map GStamp.lv r2.1), .int .i64 r3.1]) rfl isF28 rfl (sbR (sbR sbN)) (stamp_Until_ok hr9) rfl ?_)
      refine sT rfl (congrArg LV.bool hb8) (oM (v := (.lst _ _)) rfl ?_)
      refine sT rfl (congrArg LV.bool hb8) (oM (v := (.int _ _)) rfl ?_)
      obtain ⟨r10, hr10, hv⟩ := bindS hv
      refine sT rfl (congrArg LV.bool hb8) (oCP (args := [.lst 3 (List.map GStamp.lv r2.1), .int .i64 r3.1]) rfl isF29 rfl (sbR (sbR sbN)) (ref02_Until_ok hr10) rfl ?_)
      refine sT rfl (congrArg LV.bool hb8) (oEq rfl rfl ?_)
      refine sN (oPkT (congrArg LV.bool hb8) (v := (.bool _)) rfl ?_)
      refine sN (oM (v := (.bool _)) rfl ?_)
      by_cases hb11 : (r9 == r10) = true
      · replace hv := iteT hv hb11
        obtain ⟨r12, hr12, hv⟩ := bindS hv
        refine sT rfl (congrArg LV.bool hb11) (oCP (args := []) rfl isF16 rfl sbN (law02_awake_ok hr12) rfl ?_)
        refine sN (oPkT (congrArg LV.bool hb11) (v := (.bool _)) rfl ?_)
        refine sN (oA (v := (.bool _)) rfl ?_)
        obtain rfl := Option.some.inj hv
        exact s0 (Wk.to (eC rfl eN) mN rfl (prK rfl))
      · replace hb11 := bF hb11
        replace hv := iteF hv hb11
        refine sF rfl rfl hb11 ?_
        refine sN (oPkF (congrArg LV.bool hb11) (v := (.bool _)) rfl ?_)
        refine sN (oA (v := (.bool _)) rfl ?_)
        obtain rfl := Option.some.inj hv
        exact s0 (Wk.to (eC rfl eN) mN rfl (prK rfl))
    · replace hb8 := bF hb8
      replace hv := iteF hv hb8
      refine sF rfl rfl hb8 ?_
      refine sF rfl rfl hb8 ?_
      refine sF rfl rfl hb8 ?_
      refine sF rfl rfl hb8 ?_
      refine sF rfl rfl hb8 ?_
      refine sF rfl rfl hb8 ?_
      refine sF rfl rfl hb8 ?_
      refine sN (oPkF (congrArg LV.bool hb8) (v := (.bool _)) rfl ?_)
      refine sN (oM (v := (.bool _)) rfl ?_)
      refine sF rfl rfl rfl ?_
      refine sN (oPkF rfl (v := (.bool _)) rfl ?_)
      refine sN (oA (v := (.bool _)) rfl ?_)
      obtain rfl := Option.some.inj hv
      exact s0 (Wk.to (eC rfl eN) mN rfl (prK rfl))
  clear hv
  refine LH.ret ?_
  obtain rfl := Option.some.inj h
  exact retE (congrArg Array.toList Try.results9) (lrT rfl (lr0 ⟨memN mN, rfl, prK rfl, Sub.rfl⟩))

end Go.Proofs.Ytdkhlkihhdjbbaa
