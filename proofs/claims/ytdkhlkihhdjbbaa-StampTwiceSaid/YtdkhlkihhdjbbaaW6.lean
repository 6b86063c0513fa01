/- Walks, printed by program (gen.py): each function computes its plain function. -/
import Derived.Test.YtdkhlkihhdjbbaaW5
set_option linter.unusedVariables false
set_option linter.unusedSimpArgs false
set_option maxRecDepth 100000
namespace Go.Proofs.Ytdkhlkihhdjbbaa
open Go.L Go.Sh
theorem law02_StampMany_ok {F : Nat} {p0 : Int} {p1 : Int} {r : Bool} (h : law02_StampMany F p0 p1 = some r) : LCall Try.prog 6 [.int .i64 p0, .int .i64 p1] (Mem.of []) (.bool r) (Mem.of []) := by
  unfold law02_StampMany at h
  refine bodyT Try.func6 rfl (by rw [Try.ntmps6]; exact Nat.le_of_ble_eq_true rfl) ?_
  refine LH.wk (Wk.to (el := [(0, .int .i64 p0), (1, .int .i64 p1)]) (ml := []) (eC rfl (eC rfl eN)) mN rfl (prK rfl)) ?_
  refine LH.seqT [(0, .int .i64 p0), (1, .int .i64 p1)] [] rfl ?_ ?_
  · refine sN (oA (v := (.bool _)) rfl ?_)
    exact s0 (Wk.to (eC rfl (eC rfl eN)) mN rfl (prK rfl))
  obtain ⟨r1, hr1, h⟩ := bindS h
  obtain ⟨r2, hr2, h⟩ := bindS h
  refine LH.seqT [(0, .int .i64 (i64 (295 + r1))), (1, .int .i64 r2)] [] rfl ?_ ?_
  · refine sN (oM (v := (.int _ _)) rfl ?_)
    refine sN (oCP (args := [.int .i64 p0, .int .i64 12]) rfl isF26 rfl (sbR (sbR sbN)) (make_Cut_ok hr1) rfl ?_)
    refine sN (oAdd rfl rfl ?_)
    refine sN (oM (v := (.int _ _)) rfl ?_)
    refine sN (oCP (args := [.int .i64 p1, .int .i64 20]) rfl isF26 rfl (sbR (sbR sbN)) (make_Cut_ok hr2) rfl ?_)
    refine sN (oA (v := (.int _ _)) rfl ?_)
    refine sN (oA (v := (.int _ _)) rfl ?_)
    exact s0 (Wk.to (eC rfl (eC rfl eN)) mN rfl (prK rfl))
  refine LH.seqT [(0, .int .i64 (i64 (295 + r1))), (1, .int .i64 r2), (5, .nil)] [] rfl ?_ ?_
  · refine sN (oA (v := .nil) rfl ?_)
    exact s0 (Wk.to (eC rfl (eC rfl (eC rfl eN))) mN rfl (prK rfl))
  refine LH.seq ?_
  refine LH.seqT [(0, .int .i64 (i64 (295 + r1))), (1, .int .i64 r2), (5, .nil), (6, .int .i64 0)] [] rfl ?_ ?_
  · refine sN (oA (v := (.int _ _)) rfl ?_)
    exact s0 (Wk.to (eC rfl (eC rfl (eC rfl (eC rfl eN)))) mN rfl (prK rfl))
  refine LH.block ?_
  refine LH.wk ((Wk.trans (Wk.to (el := [(0, .int .i64 (i64 (295 + r1))), (1, .int .i64 r2), (5, .nil), (6, .int .i64 0)]) (ml := []) (eC rfl (eC rfl (eC rfl (eC rfl eN)))) mN rfl (prK rfl)) (Wk.trans (Wk.to (el := [(0, .int .i64 (i64 (295 + r1))), (1, .int .i64 r2), (5, .nil), (6, .int .i64 0)]) (ml := []) (eC rfl (eC rfl (eC rfl (eC rfl eN)))) mN rfl (prK rfl)) (Wk.trans (Wk.ownL (el' := [(0, .int .i64 (i64 (295 + r1))), (1, .int .i64 r2), (5, .arr 128 (List.length ([] : List GStamp))), (6, .int .i64 0)]) 128 23 3 rfl rfl (wK (wK (wO (wK wN))))) (Wk.to (el := [(0, .int .i64 (i64 (295 + r1))), (1, .int .i64 r2), (5, .arr 128 (List.length ([] : List GStamp))), (6, .int .i64 0)]) (ml := [(128, .arr 23 3 (List.map GStamp.lv ([] : List GStamp)))]) (eC rfl (eC rfl (eC rfl (eC rfl eN)))) (mC rfl mN) rfl (prK rfl)))))) ?_
  refine LH.loop (fun n e m => ∃ (n3 : Int) (l4 : List GStamp), law02_StampMany_L1 F r1 r2 n n3 l4 = some r ∧ e = Env.of [(0, .int .i64 (i64 (295 + r1))), (1, .int .i64 r2), (5, .arr 128 (List.length l4)), (6, .int .i64 n3)] ∧ m = Mem.of [(128, .arr 23 3 (List.map GStamp.lv l4))]) F ⟨0, ([] : List GStamp), h, rfl, rfl⟩ ?_
  clear h
  rintro n e m ⟨n3, l4, h, rfl, rfl⟩
  rcases n with _ | n
  · cases (show Option.none = some _ from h)
  obtain ⟨rec1, hrec1⟩ : ∃ f, f = law02_StampMany_L1 F r1 r2 n := ⟨_, rfl⟩
  replace h : law02_StampMany_L1_B F r1 r2 rec1 n3 l4 = some r := hrec1 ▸ h
  unfold law02_StampMany_L1_B at h
  refine LH.seq ?_
  refine LH.seqT [(0, .int .i64 (i64 (295 + r1))), (1, .int .i64 r2), (5, .arr 128 (List.length l4)), (6, .int .i64 n3), (18, .bool (decide (n3 < (i64 (295 + r1)))))] [(128, .arr 23 3 (List.map GStamp.lv l4))] rfl ?_ ?_
  · refine sN (oM (v := (.int _ _)) rfl ?_)
    refine sN (oM (v := (.int _ _)) rfl ?_)
    refine sN (oLt rfl rfl ?_)
    exact s0 (Wk.to (eC rfl (eC rfl (eC rfl (eC rfl (eC rfl eN))))) (mC rfl mN) rfl (prK rfl))
  refine LH.cond (t := (decide (n3 < (i64 (295 + r1))))) rfl (fun hc5 => ?_) (fun hc5 => ?_)
  · replace h := iteT h hc5
    refine LH.skip ?_
    refine thenN ?_
    refine LH.wk (Wk.to (el := [(0, .int .i64 (i64 (295 + r1))), (1, .int .i64 r2), (5, .arr 128 (List.length l4)), (6, .int .i64 n3)]) (ml := [(128, .arr 23 3 (List.map GStamp.lv l4))]) (eC rfl (eC rfl (eC rfl (eC rfl eN)))) (mC rfl mN) rfl (prK rfl)) ?_
    refine LH.seq ?_
    refine LH.block ?_
    obtain ⟨v6, hv6, h⟩ := bindS h
    refine LH.loneT [(0, .int .i64 (i64 (295 + r1))), (1, .int .i64 r2), (5, .arr 128 (List.length v6)), (6, .int .i64 n3)] [(128, .arr 23 3 (List.map GStamp.lv v6))] rfl ?_ ?_
    · refine sN (oM (v := (.arr _ _)) rfl ?_)
      refine sN (oM (v := (.int _ _)) rfl ?_)
      refine sN (oM (v := (.int _ _)) rfl ?_)
      refine sN (oSub rfl rfl ?_)
      refine sN (oM (v := (.int _ _)) rfl ?_)
      refine sN (oBd (vs := [(0, .int .i64 (i64 ((i64 (295 + r1)) - n3))), (1, .int .i64 1), (2, .int .i64 n3)]) tu23 tz23 rfl (lf tf23_0 ts3 tk3 rfl rfl rfl (lf tf23_1 ts3 tk3 rfl rfl rfl (lf tf23_2 ts3 tk3 rfl rfl rfl lf0))) ?_)
      refine sN (oBS (f := GStamp.lv) (ys := [(GStamp.mk (i64 ((i64 (295 + r1)) - n3)) 1 n3)]) te31 tr23 ts23 rfl rfl rfl GStamp.ok ?_)
      refine sN (oAp (f := GStamp.lv) te31 tr23 ts23 rfl rfl (prN rfl) rfl hv6 ?_)
      refine sN (oA (v := (.arr _ _)) rfl ?_)
      exact s0 (Wk.to (eC rfl (eC rfl (eC rfl (eC rfl eN)))) (mC rfl mN) rfl (prK rfl))
    refine blockN ?_
    refine thenN ?_
    refine LH.loneT [(0, .int .i64 (i64 (295 + r1))), (1, .int .i64 r2), (5, .arr 128 (List.length v6)), (6, .int .i64 (i64 (n3 + 1)))] [(128, .arr 23 3 (List.map GStamp.lv v6))] rfl ?_ ?_
    · refine sN (oM (v := (.int _ _)) rfl ?_)
      refine sN (oAdd rfl rfl ?_)
      refine sN (oA (v := (.int _ _)) rfl ?_)
      exact s0 (Wk.to (eC rfl (eC rfl (eC rfl (eC rfl eN)))) (mC rfl mN) rfl (prK rfl))
    exact roundN (e' := Env.of [(0, .int .i64 (i64 (295 + r1))), (1, .int .i64 r2), (5, .arr 128 (List.length v6)), (6, .int .i64 (i64 (n3 + 1)))]) (m' := Mem.of [(128, .arr 23 3 (List.map GStamp.lv v6))]) (Wk.to (eC rfl (eC rfl (eC rfl (eC rfl eN)))) (mC rfl mN) rfl (prK rfl)) ⟨(i64 (n3 + 1)), v6, hrec1 ▸ h, rfl, rfl⟩
  replace h := iteF h hc5
  refine LH.exit ?_
  refine thenX ?_
  refine roundX ?_
  refine blockH ?_
  refine thenN ?_
  refine LH.wk (Wk.to (el := [(0, .int .i64 (i64 (295 + r1))), (1, .int .i64 r2), (5, .arr 128 (List.length l4))]) (ml := [(128, .arr 23 3 (List.map GStamp.lv l4))]) (eC rfl (eC rfl (eC rfl eN))) (mC rfl mN) rfl (prK rfl)) ?_
  refine LH.seq ?_
  refine LH.seqT [(0, .int .i64 (i64 (295 + r1))), (1, .int .i64 r2), (5, .arr 128 (List.length l4)), (7, .int .i64 0)] [(128, .arr 23 3 (List.map GStamp.lv l4))] rfl ?_ ?_
  · refine sN (oA (v := (.int _ _)) rfl ?_)
    exact s0 (Wk.to (eC rfl (eC rfl (eC rfl (eC rfl eN)))) (mC rfl mN) rfl (prK rfl))
  refine LH.block ?_
  refine LH.loop (fun n e m => ∃ (n7 : Int) (l8 : List GStamp), law02_StampMany_L2 F r1 r2 n n7 l8 = some r ∧ e = Env.of [(0, .int .i64 (i64 (295 + r1))), (1, .int .i64 r2), (5, .arr 128 (List.length l8)), (7, .int .i64 n7)] ∧ m = Mem.of [(128, .arr 23 3 (List.map GStamp.lv l8))]) F ⟨0, l4, h, rfl, rfl⟩ ?_
  clear h
  rintro n e m ⟨n7, l8, h, rfl, rfl⟩
  rcases n with _ | n
  · cases (show Option.none = some _ from h)
  obtain ⟨rec2, hrec2⟩ : ∃ f, f = law02_StampMany_L2 F r1 r2 n := ⟨_, rfl⟩
  replace h : law02_StampMany_L2_B F r1 r2 rec2 n7 l8 = some r := hrec2 ▸ h
  unfold law02_StampMany_L2_B at h
  refine LH.seq ?_
  refine LH.seqT [(0, .int .i64 (i64 (295 + r1))), (1, .int .i64 r2), (5, .arr 128 (List.length l8)), (7, .int .i64 n7), (31, .bool (decide (n7 < r2)))] [(128, .arr 23 3 (List.map GStamp.lv l8))] rfl ?_ ?_
  · refine sN (oM (v := (.int _ _)) rfl ?_)
    refine sN (oM (v := (.int _ _)) rfl ?_)
    refine sN (oLt rfl rfl ?_)
    exact s0 (Wk.to (eC rfl (eC rfl (eC rfl (eC rfl (eC rfl eN))))) (mC rfl mN) rfl (prK rfl))
  refine LH.cond (t := (decide (n7 < r2))) rfl (fun hc9 => ?_) (fun hc9 => ?_)
  · replace h := iteT h hc9
    refine LH.skip ?_
    refine thenN ?_
    refine LH.wk (Wk.to (el := [(0, .int .i64 (i64 (295 + r1))), (1, .int .i64 r2), (5, .arr 128 (List.length l8)), (7, .int .i64 n7)]) (ml := [(128, .arr 23 3 (List.map GStamp.lv l8))]) (eC rfl (eC rfl (eC rfl (eC rfl eN)))) (mC rfl mN) rfl (prK rfl)) ?_
    refine LH.seq ?_
    refine LH.block ?_
    obtain ⟨x10, hx10, h⟩ := bindS h
    obtain ⟨v11, hv11, h⟩ := bindS h
    refine LH.loneT [(0, .int .i64 (i64 (295 + r1))), (1, .int .i64 r2), (5, .arr 128 (List.length v11)), (7, .int .i64 n7)] [(128, .arr 23 3 (List.map GStamp.lv v11))] rfl ?_ ?_
    · refine sN (oM (v := (.arr _ _)) rfl ?_)
      refine sN (oM (v := (.arr _ _)) rfl ?_)
      refine sN (oM (v := (.int _ _)) rfl ?_)
      refine sN (oIxA (f := GStamp.lv) te31 tk23 ts23 rfl rfl rfl hx10 ?_)
      refine sN (oLdEA (f := GStamp.lv) rfl rfl (idxOk hx10).2 rfl rfl tk23 ta23 ts23 rfl rfl ?_)
      refine sN (oBS (f := GStamp.lv) (ys := [x10]) te31 tr23 ts23 rfl rfl rfl GStamp.ok ?_)
      refine sN (oAp (f := GStamp.lv) te31 tr23 ts23 rfl rfl (prN rfl) rfl hv11 ?_)
      refine sN (oA (v := (.arr _ _)) rfl ?_)
      exact s0 (Wk.to (eC rfl (eC rfl (eC rfl (eC rfl eN)))) (mC rfl mN) rfl (prK rfl))
    refine blockN ?_
    refine thenN ?_
    refine LH.loneT [(0, .int .i64 (i64 (295 + r1))), (1, .int .i64 r2), (5, .arr 128 (List.length v11)), (7, .int .i64 (i64 (n7 + 1)))] [(128, .arr 23 3 (List.map GStamp.lv v11))] rfl ?_ ?_
    · refine sN (oM (v := (.int _ _)) rfl ?_)
      refine sN (oAdd rfl rfl ?_)
      refine sN (oA (v := (.int _ _)) rfl ?_)
      exact s0 (Wk.to (eC rfl (eC rfl (eC rfl (eC rfl eN)))) (mC rfl mN) rfl (prK rfl))
    exact roundN (e' := Env.of [(0, .int .i64 (i64 (295 + r1))), (1, .int .i64 r2), (5, .arr 128 (List.length v11)), (7, .int .i64 (i64 (n7 + 1)))]) (m' := Mem.of [(128, .arr 23 3 (List.map GStamp.lv v11))]) (Wk.to (eC rfl (eC rfl (eC rfl (eC rfl eN)))) (mC rfl mN) rfl (prK rfl)) ⟨(i64 (n7 + 1)), v11, hrec2 ▸ h, rfl, rfl⟩
  replace h := iteF h hc9
  refine LH.exit ?_
  refine thenX ?_
  refine roundX ?_
  refine blockH ?_
  refine thenN ?_
  refine LH.wk ((Wk.trans (Wk.to (el := [(0, .int .i64 (i64 (295 + r1))), (5, .arr 128 (List.length l8))]) (ml := [(128, .arr 23 3 (List.map GStamp.lv l8))]) (eC rfl (eC rfl eN)) (mC rfl mN) rfl (prK rfl)) (Wk.trans (Wk.frzL (f := GStamp.lv) (el' := [(0, .int .i64 (i64 (295 + r1))), (5, .lst 3 (List.map GStamp.lv l8))]) 128 23 3 l8 rfl rfl (prN rfl) (fK rfl (fZ fN))) (Wk.to (el := [(0, .int .i64 (i64 (295 + r1))), (5, .lst 3 (List.map GStamp.lv l8))]) (ml := []) (eC rfl (eC rfl eN)) mN rfl (prK rfl))))) ?_
  obtain ⟨v12, hv12, h⟩ := bindS h
  obtain ⟨r13, hr13, h⟩ := bindS h
  refine LH.seqT [(0, .int .i64 (i64 (295 + r1))), (8, .lst 1 (List.map (LV.int .i64) r13.1)), (9, .int .i64 r13.2)] [] rfl ?_ ?_
  · refine sN (oM (v := (.lst _ _)) rfl ?_)
    refine sN (oM (v := (.lst _ _)) rfl ?_)
    refine sN (oLnL (f := GStamp.lv) te31 rfl ?_)
    refine sN (oMk (f := (LV.int .i64)) (id := 145) rfl te28 tz3 tr3 ts3 rfl rfl rfl hv12 rfl ?_)
    refine SOps.wk ((Wk.trans (Wk.to (el := [(0, .int .i64 (i64 (295 + r1))), (42, .lst 3 (List.map GStamp.lv l8)), (45, .arr 145 (List.length v12))]) (ml := [(145, .arr 3 1 (List.map (LV.int .i64) v12))]) (eC rfl (eC rfl (eC rfl eN))) (mC rfl mN) rfl (prK rfl)) (Wk.trans (Wk.frzL (f := (LV.int .i64)) (el' := [(0, .int .i64 (i64 (295 + r1))), (42, .lst 3 (List.map GStamp.lv l8)), (45, .lst 1 (List.map (LV.int .i64) v12))]) 145 3 1 v12 rfl rfl (prN rfl) (fK rfl (fK rfl (fZ fN)))) (Wk.to (el := [(0, .int .i64 (i64 (295 + r1))), (42, .lst 3 (List.map GStamp.lv l8)), (45, .lst 1 (List.map (LV.int .i64) v12))]) (ml := []) (eC rfl (eC rfl (eC rfl eN))) mN rfl (prK rfl))))) ?_
    refine sN (oCP (args := [.lst 3 (List.map GStamp.lv l8), .lst 1 (List.map (LV.int .i64) v12)]) rfl isF20 rfl (sbR (sbR sbN)) (stamp_Canonical_ok hr13) rfl ?_)
    refine sN (oM (v := (.tup _)) rfl ?_)
    refine sN (oEx rfl rfl ?_)
    refine sN (oEx rfl rfl ?_)
    refine sN (oA (v := (.lst _ _)) rfl ?_)
    refine sN (oA (v := (.int _ _)) rfl ?_)
    exact s0 (Wk.to (eC rfl (eC rfl (eC rfl eN))) mN rfl (prK rfl))
  refine LH.seq ?_
  refine LH.seqT [(0, .int .i64 (i64 (295 + r1))), (8, .lst 1 (List.map (LV.int .i64) r13.1)), (9, .int .i64 r13.2), (50, .bool (decide ((i64 (295 + r1)) > 300)))] [] rfl ?_ ?_
  · refine sN (oM (v := (.int _ _)) rfl ?_)
    refine sN (oGt rfl rfl ?_)
    exact s0 (Wk.to (eC rfl (eC rfl (eC rfl (eC rfl eN)))) mN rfl (prK rfl))
  refine LH.cond (t := (decide ((i64 (295 + r1)) > 300))) rfl (fun hc14 => ?_) (fun hc14 => ?_)
  · replace h := iteT h hc14
    obtain ⟨w16, hv, h⟩ := bindS h
    refine LH.seqT [(4, .bool w16)] [] rfl ?_ ?_
    · refine sN (oM (v := (.int _ _)) rfl ?_)
      refine sN (oEq rfl rfl ?_)
      refine sN (oM (v := (.bool _)) rfl ?_)
      by_cases hb17 : (r13.2 == 3) = true
      · replace hv := iteT hv hb17
        refine sT rfl (congrArg LV.bool hb17) (oM (v := (.lst _ _)) rfl ?_)
        refine sT rfl (congrArg LV.bool hb17) (oLnL (f := (LV.int .i64)) te28 rfl ?_)
        refine sT rfl (congrArg LV.bool hb17) (oEq rfl rfl ?_)
        refine sN (oPkT (congrArg LV.bool hb17) (v := (.bool _)) rfl ?_)
        refine sN (oM (v := (.bool _)) rfl ?_)
        by_cases hb18 : ((r13.1.length : Int) == 0) = true
        · replace hv := iteT hv hb18
          obtain ⟨r19, hr19, hv⟩ := bindS hv
          refine sT rfl (congrArg LV.bool hb18) (oCP (args := []) rfl isF16 rfl sbN (law02_awake_ok hr19) rfl ?_)
          refine sN (oPkT (congrArg LV.bool hb18) (v := (.bool _)) rfl ?_)
          refine sN (oA (v := (.bool _)) rfl ?_)
          obtain rfl := Option.some.inj hv
          exact s0 (Wk.to (eC rfl eN) mN rfl (prK rfl))
        · replace hb18 := bF hb18
          replace hv := iteF hv hb18
          refine sF rfl rfl hb18 ?_
          refine sN (oPkF (congrArg LV.bool hb18) (v := (.bool _)) rfl ?_)
          refine sN (oA (v := (.bool _)) rfl ?_)
          obtain rfl := Option.some.inj hv
          exact s0 (Wk.to (eC rfl eN) mN rfl (prK rfl))
      · replace hb17 := bF hb17
        replace hv := iteF hv hb17
        refine sF rfl rfl hb17 ?_
        refine sF rfl rfl hb17 ?_
        refine sF rfl rfl hb17 ?_
        refine sN (oPkF (congrArg LV.bool hb17) (v := (.bool _)) rfl ?_)
        refine sN (oM (v := (.bool _)) rfl ?_)
        refine sF rfl rfl rfl ?_
        refine sN (oPkF rfl (v := (.bool _)) rfl ?_)
        refine sN (oA (v := (.bool _)) rfl ?_)
        obtain rfl := Option.some.inj hv
        exact s0 (Wk.to (eC rfl eN) mN rfl (prK rfl))
    clear hv
    refine LH.ret ?_
    refine thenR ?_
    obtain rfl := Option.some.inj h
    exact retE (congrArg Array.toList Try.results6) (lrT rfl (lr0 ⟨memN mN, rfl, prK rfl, Sub.rfl⟩))
  replace h := iteF h hc14
  refine LH.skip ?_
  refine thenN ?_
  refine LH.wk (Wk.to (el := [(0, .int .i64 (i64 (295 + r1))), (8, .lst 1 (List.map (LV.int .i64) r13.1)), (9, .int .i64 r13.2)]) (ml := []) (eC rfl (eC rfl (eC rfl eN))) mN rfl (prK rfl)) ?_
  refine LH.seq ?_
  refine LH.seqT [(0, .int .i64 (i64 (295 + r1))), (8, .lst 1 (List.map (LV.int .i64) r13.1)), (68, .bool ((r13.2 != 0) || ((r13.1.length : Int) != (i64 (295 + r1)))))] [] rfl ?_ ?_
  · refine sN (oM (v := (.int _ _)) rfl ?_)
    refine sN (oNe rfl rfl ?_)
    refine sN (oM (v := (.bool _)) rfl ?_)
    by_cases hb21 : (r13.2 != 0) = true
    · refine sF rfl rfl hb21 ?_
      refine sF rfl rfl hb21 ?_
      refine sF rfl rfl hb21 ?_
      refine sF rfl rfl hb21 ?_
      refine sN (oPkT (congrArg LV.bool hb21) (v := (.bool _)) rfl ?_)
      exact s0 (Wk.to (eC rfl (eC rfl (eC (congrArg LV.bool (orT hb21)) eN))) mN rfl (prK rfl))
    · replace hb21 := bF hb21
      refine sT rfl (congrArg LV.bool hb21) (oM (v := (.lst _ _)) rfl ?_)
      refine sT rfl (congrArg LV.bool hb21) (oLnL (f := (LV.int .i64)) te28 rfl ?_)
      refine sT rfl (congrArg LV.bool hb21) (oM (v := (.int _ _)) rfl ?_)
      refine sT rfl (congrArg LV.bool hb21) (oNe rfl rfl ?_)
      refine sN (oPkF (congrArg LV.bool hb21) (v := (.bool _)) rfl ?_)
      exact s0 (Wk.to (eC rfl (eC rfl (eC (congrArg LV.bool (orF hb21)) eN))) mN rfl (prK rfl))
  refine LH.cond (t := ((r13.2 != 0) || ((r13.1.length : Int) != (i64 (295 + r1))))) rfl (fun hc22 => ?_) (fun hc22 => ?_)
  · replace h := iteT h hc22
    refine LH.seqT [(4, .bool false)] [] rfl ?_ ?_
    · refine sN (oA (v := (.bool _)) rfl ?_)
      exact s0 (Wk.to (eC rfl eN) mN rfl (prK rfl))
    refine LH.ret ?_
    refine thenR ?_
    obtain rfl := Option.some.inj h
    exact retE (congrArg Array.toList Try.results6) (lrT rfl (lr0 ⟨memN mN, rfl, prK rfl, Sub.rfl⟩))
  replace h := iteF h hc22
  refine LH.skip ?_
  refine thenN ?_
  refine LH.wk (Wk.to (el := [(0, .int .i64 (i64 (295 + r1))), (8, .lst 1 (List.map (LV.int .i64) r13.1))]) (ml := []) (eC rfl (eC rfl eN)) mN rfl (prK rfl)) ?_
  refine LH.seq ?_
  refine LH.seqT [(0, .int .i64 (i64 (295 + r1))), (8, .lst 1 (List.map (LV.int .i64) r13.1)), (10, .int .i64 0)] [] rfl ?_ ?_
  · refine sN (oA (v := (.int _ _)) rfl ?_)
    exact s0 (Wk.to (eC rfl (eC rfl (eC rfl eN))) mN rfl (prK rfl))
  refine LH.block ?_
  refine LH.loop (fun n e m => ∃ (n23 : Int), law02_StampMany_L3 F r1 r13 n n23 = some r ∧ e = Env.of [(0, .int .i64 (i64 (295 + r1))), (8, .lst 1 (List.map (LV.int .i64) r13.1)), (10, .int .i64 n23)] ∧ m = Mem.of []) F ⟨0, h, rfl, rfl⟩ ?_
  clear h
  rintro n e m ⟨n23, h, rfl, rfl⟩
  rcases n with _ | n
  · cases (show Option.none = some _ from h)
  obtain ⟨rec3, hrec3⟩ : ∃ f, f = law02_StampMany_L3 F r1 r13 n := ⟨_, rfl⟩
  replace h : law02_StampMany_L3_B F r1 r13 rec3 n23 = some r := hrec3 ▸ h
  unfold law02_StampMany_L3_B at h
  refine LH.seq ?_
  refine LH.seqT [(0, .int .i64 (i64 (295 + r1))), (8, .lst 1 (List.map (LV.int .i64) r13.1)), (10, .int .i64 n23), (71, .bool (decide (n23 < (i64 (295 + r1)))))] [] rfl ?_ ?_
  · refine sN (oM (v := (.int _ _)) rfl ?_)
    refine sN (oM (v := (.int _ _)) rfl ?_)
    refine sN (oLt rfl rfl ?_)
    exact s0 (Wk.to (eC rfl (eC rfl (eC rfl (eC rfl eN)))) mN rfl (prK rfl))
  refine LH.cond (t := (decide (n23 < (i64 (295 + r1))))) rfl (fun hc24 => ?_) (fun hc24 => ?_)
  · replace h := iteT h hc24
    refine LH.skip ?_
    refine thenN ?_
    refine LH.wk (Wk.to (el := [(0, .int .i64 (i64 (295 + r1))), (8, .lst 1 (List.map (LV.int .i64) r13.1)), (10, .int .i64 n23)]) (ml := []) (eC rfl (eC rfl (eC rfl eN))) mN rfl (prK rfl)) ?_
    refine LH.seq ?_
    refine LH.block ?_
    obtain ⟨x25, hx25, h⟩ := bindS h
    refine LH.seqT [(0, .int .i64 (i64 (295 + r1))), (8, .lst 1 (List.map (LV.int .i64) r13.1)), (10, .int .i64 n23), (82, .bool (x25 != (i64 ((i64 ((i64 (295 + r1)) - 1)) - n23))))] [] rfl ?_ ?_
    · refine sN (oM (v := (.lst _ _)) rfl ?_)
      refine sN (oM (v := (.int _ _)) rfl ?_)
      refine sN (oIx (f := (LV.int .i64)) te28 tk3 ts3 rfl rfl okI hx25 rfl ?_)
      refine sN (oLd rfl tk3 ta3 ?_)
      refine sN (oM (v := (.int _ _)) rfl ?_)
      refine sN (oSub rfl rfl ?_)
      refine sN (oM (v := (.int _ _)) rfl ?_)
      refine sN (oSub rfl rfl ?_)
      refine sN (oNe rfl rfl ?_)
      exact s0 (Wk.to (eC rfl (eC rfl (eC rfl (eC rfl eN)))) mN rfl (prK rfl))
    refine LH.cond (t := (x25 != (i64 ((i64 ((i64 (295 + r1)) - 1)) - n23)))) rfl (fun hc26 => ?_) (fun hc26 => ?_)
    · replace h := iteT h hc26
      refine LH.seqT [(4, .bool false)] [] rfl ?_ ?_
      · refine sN (oA (v := (.bool _)) rfl ?_)
        exact s0 (Wk.to (eC rfl eN) mN rfl (prK rfl))
      refine LH.ret ?_
      refine blockR ?_
      refine thenR ?_
      refine roundR ?_
      refine blockR ?_
      refine thenR ?_
      obtain rfl := Option.some.inj h
      exact retE (congrArg Array.toList Try.results6) (lrT rfl (lr0 ⟨memN mN, rfl, prK rfl, Sub.rfl⟩))
    replace h := iteF h hc26
    refine LH.skip ?_
    refine blockN ?_
    refine thenN ?_
    refine LH.wk (Wk.to (el := [(0, .int .i64 (i64 (295 + r1))), (8, .lst 1 (List.map (LV.int .i64) r13.1)), (10, .int .i64 n23)]) (ml := []) (eC rfl (eC rfl (eC rfl eN))) mN rfl (prK rfl)) ?_
    refine LH.loneT [(0, .int .i64 (i64 (295 + r1))), (8, .lst 1 (List.map (LV.int .i64) r13.1)), (10, .int .i64 (i64 (n23 + 1)))] [] rfl ?_ ?_
    · refine sN (oM (v := (.int _ _)) rfl ?_)
      refine sN (oAdd rfl rfl ?_)
      refine sN (oA (v := (.int _ _)) rfl ?_)
      exact s0 (Wk.to (eC rfl (eC rfl (eC rfl eN))) mN rfl (prK rfl))
    exact roundN (e' := Env.of [(0, .int .i64 (i64 (295 + r1))), (8, .lst 1 (List.map (LV.int .i64) r13.1)), (10, .int .i64 (i64 (n23 + 1)))]) (m' := Mem.of []) (Wk.to (eC rfl (eC rfl (eC rfl eN))) mN rfl (prK rfl)) ⟨(i64 (n23 + 1)), hrec3 ▸ h, rfl, rfl⟩
  replace h := iteF h hc24
  refine LH.exit ?_
  refine thenX ?_
  refine roundX ?_
  refine blockH ?_
  refine thenN ?_
  refine LH.wk (Wk.to (el := []) (ml := []) eN mN rfl (prK rfl)) ?_
  obtain ⟨r27, hr27, h⟩ := bindS h
  refine LH.seqT [(4, .bool r27)] [] rfl ?_ ?_
  · refine sN (oCP (args := []) rfl isF16 rfl sbN (law02_awake_ok hr27) rfl ?_)
    refine sN (oA (v := (.bool _)) rfl ?_)
    exact s0 (Wk.to (eC rfl eN) mN rfl (prK rfl))
  refine LH.ret ?_
  obtain rfl := Option.some.inj h
  exact retE (congrArg Array.toList Try.results6) (lrT rfl (lr0 ⟨memN mN, rfl, prK rfl, Sub.rfl⟩))

theorem GTape_Order_ok {F : Nat} {p0 : GTape} {p1 : Int} {r : List Int × GTape} (h : GTape_Order F p0 p1 = some r) : LCall Try.prog 41 [.ptr 7 0, .int .i64 p1] (Mem.of [(7, .box [.lst 1 (List.map (LV.int .i64) p0.L), .int .i64 p0.At])]) (.lst 1 (List.map (LV.int .i64) r.1)) (Mem.of [(7, .box [.lst 1 (List.map (LV.int .i64) r.2.L), .int .i64 r.2.At])]) := by
  unfold GTape_Order at h
  refine bodyT Try.func41 rfl (by rw [Try.ntmps41]; exact Nat.le_of_ble_eq_true rfl) ?_
  refine LH.wk (Wk.to (el := [(0, .ptr 7 0), (1, .int .i64 p1)]) (ml := [(7, .box [.lst 1 (List.map (LV.int .i64) p0.L), .int .i64 p0.At])]) (eC rfl (eC rfl eN)) (mC rfl mN) rfl (prK rfl)) ?_
  refine LH.seqT [(0, .ptr 7 0), (1, .int .i64 p1)] [(7, .box [.lst 1 (List.map (LV.int .i64) p0.L), .int .i64 p0.At])] rfl ?_ ?_
  · refine sN (oA (v := .nil) rfl ?_)
    exact s0 (Wk.to (eC rfl (eC rfl eN)) (mC rfl mN) rfl (prK rfl))
  refine LH.seqT [(0, .ptr 7 0), (1, .int .i64 p1), (5, .nil)] [(7, .box [.lst 1 (List.map (LV.int .i64) p0.L), .int .i64 p0.At])] rfl ?_ ?_
  · refine sN (oA (v := .nil) rfl ?_)
    exact s0 (Wk.to (eC rfl (eC rfl (eC rfl eN))) (mC rfl mN) rfl (prK rfl))
  refine LH.seq ?_
  refine LH.seqT [(0, .ptr 7 0), (1, .int .i64 p1), (5, .nil), (6, .int .i64 0)] [(7, .box [.lst 1 (List.map (LV.int .i64) p0.L), .int .i64 p0.At])] rfl ?_ ?_
  · refine sN (oA (v := (.int _ _)) rfl ?_)
    exact s0 (Wk.to (eC rfl (eC rfl (eC rfl (eC rfl eN)))) (mC rfl mN) rfl (prK rfl))
  refine LH.block ?_
  refine LH.wk (Wk.to (el := [(0, .ptr 7 0), (1, .int .i64 p1), (5, .lst 1 (List.map (LV.int .i64) ([] : List Int))), (6, .int .i64 0)]) (ml := [(7, .box [.lst 1 (List.map (LV.int .i64) p0.L), .int .i64 p0.At])]) (eC rfl (eC rfl (eL rfl (eC rfl eN)))) (mC rfl mN) rfl (prK rfl)) ?_
  refine LH.loop (fun n e m => ∃ (l1 : List Int) (n2 : Int) (l3 : List Int) (n4 : Int), GTape_Order_L1 p1 n l1 n2 l3 n4 = some r ∧ e = Env.of [(0, .ptr 7 0), (1, .int .i64 p1), (5, .lst 1 (List.map (LV.int .i64) l1)), (6, .int .i64 n2)] ∧ m = Mem.of [(7, .box [.lst 1 (List.map (LV.int .i64) l3), .int .i64 n4])]) F ⟨([] : List Int), 0, p0.L, p0.At, h, rfl, rfl⟩ ?_
  clear h
  rintro n e m ⟨l1, n2, l3, n4, h, rfl, rfl⟩
  rcases n with _ | n
  · cases (show Option.none = some _ from h)
  obtain ⟨rec1, hrec1⟩ : ∃ f, f = GTape_Order_L1 p1 n := ⟨_, rfl⟩
  replace h : GTape_Order_L1_B p1 rec1 l1 n2 l3 n4 = some r := hrec1 ▸ h
  unfold GTape_Order_L1_B at h
  refine LH.seq ?_
  refine LH.seqT [(0, .ptr 7 0), (1, .int .i64 p1), (5, .lst 1 (List.map (LV.int .i64) l1)), (6, .int .i64 n2), (11, .bool (decide (n2 < p1)))] [(7, .box [.lst 1 (List.map (LV.int .i64) l3), .int .i64 n4])] rfl ?_ ?_
  · refine sN (oM (v := (.int _ _)) rfl ?_)
    refine sN (oM (v := (.int _ _)) rfl ?_)
    refine sN (oLt rfl rfl ?_)
    exact s0 (Wk.to (eC rfl (eC rfl (eC rfl (eC rfl (eC rfl eN))))) (mC rfl mN) rfl (prK rfl))
  refine LH.cond (t := (decide (n2 < p1))) rfl (fun hc5 => ?_) (fun hc5 => ?_)
  · replace h := iteT h hc5
    refine LH.skip ?_
    refine thenN ?_
    refine LH.wk (Wk.to (el := [(0, .ptr 7 0), (1, .int .i64 p1), (5, .lst 1 (List.map (LV.int .i64) l1)), (6, .int .i64 n2)]) (ml := [(7, .box [.lst 1 (List.map (LV.int .i64) l3), .int .i64 n4])]) (eC rfl (eC rfl (eC rfl (eC rfl eN)))) (mC rfl mN) rfl (prK rfl)) ?_
    refine LH.seq ?_
    refine LH.block ?_
    obtain ⟨r6, hr6, h⟩ := bindS h
    refine LH.seqT [(0, .ptr 7 0), (1, .int .i64 p1), (5, .lst 1 (List.map (LV.int .i64) l1)), (6, .int .i64 n2), (7, .int .i64 r6.1)] [(7, .box [.lst 1 (List.map (LV.int .i64) r6.2.L), .int .i64 r6.2.At])] rfl ?_ ?_
    · refine sN (oM (v := (.ptr _ _)) rfl ?_)
      refine sN (oM (v := (.int _ _)) rfl ?_)
      refine sN (oAdd rfl rfl ?_)
      refine sN (oCM (args := [.ptr 7 0, .int .i64 (i64 (n2 + 1))]) (ml := [(7, .box [.lst 1 (List.map (LV.int .i64) l3), .int .i64 n4])]) (ml' := [(7, .box [.lst 1 (List.map (LV.int .i64) r6.2.L), .int .i64 r6.2.At])]) rfl isF36 rfl (sbR (sbR sbN)) (GTape_Next_ok hr6) (mC rfl mN) (newI rfl newN) rfl ?_)
      refine sN (oA (v := (.int _ _)) rfl ?_)
      exact s0 (Wk.to (eC rfl (eC rfl (eC rfl (eC rfl (eC rfl eN))))) (mC rfl mN) rfl (prK rfl))
    refine LH.seqT [(0, .ptr 7 0), (1, .int .i64 p1), (5, .lst 1 (List.map (LV.int .i64) l1)), (6, .int .i64 n2), (7, .int .i64 r6.1), (8, .nil)] [(7, .box [.lst 1 (List.map (LV.int .i64) r6.2.L), .int .i64 r6.2.At])] rfl ?_ ?_
    · refine sN (oA (v := .nil) rfl ?_)
      exact s0 (Wk.to (eC rfl (eC rfl (eC rfl (eC rfl (eC rfl (eC rfl eN)))))) (mC rfl mN) rfl (prK rfl))
    obtain ⟨v7, hv7, h⟩ := bindS h
    obtain ⟨v8, hv8, h⟩ := bindS h
    refine LH.seqT [(0, .ptr 7 0), (1, .int .i64 p1), (5, .lst 1 (List.map (LV.int .i64) l1)), (6, .int .i64 n2), (7, .int .i64 r6.1), (8, .arr 122 (List.length v8))] [(7, .box [.lst 1 (List.map (LV.int .i64) r6.2.L), .int .i64 r6.2.At]), (122, .arr 3 1 (List.map (LV.int .i64) v8))] rfl ?_ ?_
    · refine sN (oM (v := .nil) rfl ?_)
      refine sN (oM (v := (.lst _ _)) rfl ?_)
      refine sN (oM (v := (.int _ _)) rfl ?_)
      refine sN (oSl (f := (LV.int .i64)) te28 tk3 ts3 rfl rfl rfl hv7 ?_)
      refine sN (oApN (f := (LV.int .i64)) (id := 122) rfl te28 tr3 ts3 rfl rfl hv8 rfl ?_)
      refine sN (oA (v := (.arr _ _)) rfl ?_)
      exact s0 (Wk.to (eC rfl (eC rfl (eC rfl (eC rfl (eC rfl (eC rfl eN)))))) (mC rfl (mC rfl mN)) rfl (prK rfl))
    obtain ⟨v9, hv9, h⟩ := bindS h
    refine LH.seqT [(0, .ptr 7 0), (1, .int .i64 p1), (5, .lst 1 (List.map (LV.int .i64) l1)), (6, .int .i64 n2), (7, .int .i64 r6.1), (8, .arr 122 (List.length v9))] [(7, .box [.lst 1 (List.map (LV.int .i64) r6.2.L), .int .i64 r6.2.At]), (122, .arr 3 1 (List.map (LV.int .i64) v9))] rfl ?_ ?_
    · refine sN (oM (v := (.arr _ _)) rfl ?_)
      refine sN (oM (v := (.int _ _)) rfl ?_)
      refine sN (oBS (f := (LV.int .i64)) (ys := [n2]) te28 tr3 ts3 rfl rfl rfl okI ?_)
      refine sN (oAp (f := (LV.int .i64)) te28 tr3 ts3 rfl rfl (prN rfl) rfl hv9 ?_)
      refine sN (oA (v := (.arr _ _)) rfl ?_)
      exact s0 (Wk.to (eC rfl (eC rfl (eC rfl (eC rfl (eC rfl (eC rfl eN)))))) (mC rfl (mC rfl mN)) rfl (prK rfl))
    obtain ⟨v10, hv10, h⟩ := bindS h
    obtain ⟨v11, hv11, h⟩ := bindS h
    refine LH.loneT [(0, .ptr 7 0), (1, .int .i64 p1), (5, .lst 1 (List.map (LV.int .i64) v11)), (6, .int .i64 n2)] [(7, .box [.lst 1 (List.map (LV.int .i64) r6.2.L), .int .i64 r6.2.At])] rfl ?_ ?_
    · refine sN (oM (v := (.arr _ _)) rfl ?_)
      refine sN (oM (v := (.lst _ _)) rfl ?_)
      refine sN (oM (v := (.int _ _)) rfl ?_)
      refine sN (oSl (f := (LV.int .i64)) te28 tk3 ts3 rfl rfl rfl hv10 ?_)
      refine sN (oAp (f := (LV.int .i64)) te28 tr3 ts3 rfl rfl (prN rfl) rfl hv11 ?_)
      refine sN (oA (v := (.arr _ _)) rfl ?_)
      exact s0 ((Wk.trans (Wk.to (el := [(0, .ptr 7 0), (1, .int .i64 p1), (5, .arr 122 (List.length v11)), (6, .int .i64 n2)]) (ml := [(7, .box [.lst 1 (List.map (LV.int .i64) r6.2.L), .int .i64 r6.2.At]), (122, .arr 3 1 (List.map (LV.int .i64) v11))]) (eC rfl (eC rfl (eC rfl (eC rfl eN)))) (mC rfl (mC rfl mN)) rfl (prK rfl)) (Wk.trans (Wk.frzL (f := (LV.int .i64)) (el' := [(0, .ptr 7 0), (1, .int .i64 p1), (5, .lst 1 (List.map (LV.int .i64) v11)), (6, .int .i64 n2)]) 122 3 1 v11 rfl rfl (prN rfl) (fK rfl (fK rfl (fZ (fK rfl fN))))) (Wk.to (eC rfl (eC rfl (eC rfl (eC rfl eN)))) (mC rfl mN) rfl (prK rfl)))))
    refine blockN ?_
    refine thenN ?_
    refine LH.loneT [(0, .ptr 7 0), (1, .int .i64 p1), (5, .lst 1 (List.map (LV.int .i64) v11)), (6, .int .i64 (i64 (n2 + 1)))] [(7, .box [.lst 1 (List.map (LV.int .i64) r6.2.L), .int .i64 r6.2.At])] rfl ?_ ?_
    · refine sN (oM (v := (.int _ _)) rfl ?_)
      refine sN (oAdd rfl rfl ?_)
      refine sN (oA (v := (.int _ _)) rfl ?_)
      exact s0 (Wk.to (eC rfl (eC rfl (eC rfl (eC rfl eN)))) (mC rfl mN) rfl (prK rfl))
    exact roundN (e' := Env.of [(0, .ptr 7 0), (1, .int .i64 p1), (5, .lst 1 (List.map (LV.int .i64) v11)), (6, .int .i64 (i64 (n2 + 1)))]) (m' := Mem.of [(7, .box [.lst 1 (List.map (LV.int .i64) r6.2.L), .int .i64 r6.2.At])]) (Wk.to (eC rfl (eC rfl (eC rfl (eC rfl eN)))) (mC rfl mN) rfl (prK rfl)) ⟨v11, (i64 (n2 + 1)), r6.2.L, r6.2.At, hrec1 ▸ h, rfl, rfl⟩
  replace h := iteF h hc5
  refine LH.exit ?_
  refine thenX ?_
  refine roundX ?_
  refine blockH ?_
  refine thenN ?_
  refine LH.wk (Wk.to (el := [(5, .lst 1 (List.map (LV.int .i64) l1))]) (ml := [(7, .box [.lst 1 (List.map (LV.int .i64) l3), .int .i64 n4])]) (eC rfl eN) (mC rfl mN) rfl (prK rfl)) ?_
  refine LH.seqT [(4, .lst 1 (List.map (LV.int .i64) l1))] [(7, .box [.lst 1 (List.map (LV.int .i64) l3), .int .i64 n4])] rfl ?_ ?_
  · refine sN (oM (v := (.lst _ _)) rfl ?_)
    refine sN (oA (v := (.lst _ _)) rfl ?_)
    exact s0 (Wk.to (eC rfl eN) (mC rfl mN) rfl (prK rfl))
  refine LH.ret ?_
  obtain rfl := Option.some.inj h
  exact retE (congrArg Array.toList Try.results41) (lrT rfl (lr0 ⟨memN (mC rfl mN), rfl, prK rfl, Sub.rfl⟩))

theorem GTape_Mixed_ok {F : Nat} {p0 : GTape} {p1 : Int} {r : List Int × GTape} (h : GTape_Mixed F p0 p1 = some r) : LCall Try.prog 27 [.ptr 7 0, .int .i64 p1] (Mem.of [(7, .box [.lst 1 (List.map (LV.int .i64) p0.L), .int .i64 p0.At])]) (.lst 1 (List.map (LV.int .i64) r.1)) (Mem.of [(7, .box [.lst 1 (List.map (LV.int .i64) r.2.L), .int .i64 r.2.At])]) := by
  unfold GTape_Mixed at h
  refine bodyT Try.func27 rfl (by rw [Try.ntmps27]; exact Nat.le_of_ble_eq_true rfl) ?_
  refine LH.wk (Wk.to (el := [(0, .ptr 7 0), (1, .int .i64 p1)]) (ml := [(7, .box [.lst 1 (List.map (LV.int .i64) p0.L), .int .i64 p0.At])]) (eC rfl (eC rfl eN)) (mC rfl mN) rfl (prK rfl)) ?_
  refine LH.seqT [(0, .ptr 7 0), (1, .int .i64 p1)] [(7, .box [.lst 1 (List.map (LV.int .i64) p0.L), .int .i64 p0.At])] rfl ?_ ?_
  · refine sN (oA (v := .nil) rfl ?_)
    exact s0 (Wk.to (eC rfl (eC rfl eN)) (mC rfl mN) rfl (prK rfl))
  obtain ⟨r1, hr1, h⟩ := bindS h
  refine LH.seqT [(0, .ptr 7 0), (1, .int .i64 p1), (5, .lst 1 (List.map (LV.int .i64) r1.1))] [(7, .box [.lst 1 (List.map (LV.int .i64) r1.2.L), .int .i64 r1.2.At])] rfl ?_ ?_
  · refine sN (oM (v := (.ptr _ _)) rfl ?_)
    refine sN (oM (v := (.int _ _)) rfl ?_)
    refine sN (oCM (args := [.ptr 7 0, .int .i64 p1]) (ml := [(7, .box [.lst 1 (List.map (LV.int .i64) p0.L), .int .i64 p0.At])]) (ml' := [(7, .box [.lst 1 (List.map (LV.int .i64) r1.2.L), .int .i64 r1.2.At])]) rfl isF41 rfl (sbR (sbR sbN)) (GTape_Order_ok hr1) (mC rfl mN) (newI rfl newN) rfl ?_)
    refine sN (oA (v := (.lst _ _)) rfl ?_)
    exact s0 (Wk.to (eC rfl (eC rfl (eC rfl eN))) (mC rfl mN) rfl (prK rfl))
  refine LH.seq ?_
  obtain ⟨r2, hr2, h⟩ := bindS h
  refine LH.seqT [(0, .ptr 7 0), (1, .int .i64 p1), (5, .lst 1 (List.map (LV.int .i64) r1.1)), (6, .int .i64 r2.1)] [(7, .box [.lst 1 (List.map (LV.int .i64) r2.2.L), .int .i64 r2.2.At])] rfl ?_ ?_
  · refine sN (oM (v := (.ptr _ _)) rfl ?_)
    refine sN (oCM (args := [.ptr 7 0, .int .i64 4]) (ml := [(7, .box [.lst 1 (List.map (LV.int .i64) r1.2.L), .int .i64 r1.2.At])]) (ml' := [(7, .box [.lst 1 (List.map (LV.int .i64) r2.2.L), .int .i64 r2.2.At])]) rfl isF36 rfl (sbR (sbR sbN)) (GTape_Next_ok hr2) (mC rfl mN) (newI rfl newN) rfl ?_)
    refine sN (oA (v := (.int _ _)) rfl ?_)
    exact s0 (Wk.to (eC rfl (eC rfl (eC rfl (eC rfl eN)))) (mC rfl mN) rfl (prK rfl))
  refine LH.block ?_
  refine LH.loop (fun n e m => ∃ (l3 : List Int) (n4 : Int) (l5 : List Int) (n6 : Int), GTape_Mixed_L1 p1 n l3 n4 l5 n6 = some r ∧ e = Env.of [(0, .ptr 7 0), (1, .int .i64 p1), (5, .lst 1 (List.map (LV.int .i64) l3)), (6, .int .i64 n4)] ∧ m = Mem.of [(7, .box [.lst 1 (List.map (LV.int .i64) l5), .int .i64 n6])]) F ⟨r1.1, r2.1, r2.2.L, r2.2.At, h, rfl, rfl⟩ ?_
  clear h
  rintro n e m ⟨l3, n4, l5, n6, h, rfl, rfl⟩
  rcases n with _ | n
  · cases (show Option.none = some _ from h)
  obtain ⟨rec1, hrec1⟩ : ∃ f, f = GTape_Mixed_L1 p1 n := ⟨_, rfl⟩
  replace h : GTape_Mixed_L1_B p1 rec1 l3 n4 l5 n6 = some r := hrec1 ▸ h
  unfold GTape_Mixed_L1_B at h
  refine LH.seq ?_
  refine LH.seqT [(0, .ptr 7 0), (1, .int .i64 p1), (5, .lst 1 (List.map (LV.int .i64) l3)), (6, .int .i64 n4), (20, .bool ((decide (n4 > 0)) && (decide (p1 > 0))))] [(7, .box [.lst 1 (List.map (LV.int .i64) l5), .int .i64 n6])] rfl ?_ ?_
  · refine sN (oM (v := (.int _ _)) rfl ?_)
    refine sN (oGt rfl rfl ?_)
    refine sN (oM (v := (.bool _)) rfl ?_)
    by_cases hb8 : (decide (n4 > 0)) = true
    · refine sT rfl (congrArg LV.bool hb8) (oM (v := (.int _ _)) rfl ?_)
      refine sT rfl (congrArg LV.bool hb8) (oGt rfl rfl ?_)
      refine sN (oPkT (congrArg LV.bool hb8) (v := (.bool _)) rfl ?_)
      exact s0 (Wk.to (eC rfl (eC rfl (eC rfl (eC rfl (eC (congrArg LV.bool (andT hb8)) eN))))) (mC rfl mN) rfl (prK rfl))
    · replace hb8 := bF hb8
      refine sF rfl rfl hb8 ?_
      refine sF rfl rfl hb8 ?_
      refine sN (oPkF (congrArg LV.bool hb8) (v := (.bool _)) rfl ?_)
      exact s0 (Wk.to (eC rfl (eC rfl (eC rfl (eC rfl (eC (congrArg LV.bool (andF hb8)) eN))))) (mC rfl mN) rfl (prK rfl))
  refine LH.cond (t := ((decide (n4 > 0)) && (decide (p1 > 0)))) rfl (fun hc9 => ?_) (fun hc9 => ?_)
  · replace h := iteT h hc9
    refine LH.skip ?_
    refine thenN ?_
    refine LH.wk (Wk.to (el := [(0, .ptr 7 0), (1, .int .i64 p1), (5, .lst 1 (List.map (LV.int .i64) l3)), (6, .int .i64 n4)]) (ml := [(7, .box [.lst 1 (List.map (LV.int .i64) l5), .int .i64 n6])]) (eC rfl (eC rfl (eC rfl (eC rfl eN)))) (mC rfl mN) rfl (prK rfl)) ?_
    refine LH.seq ?_
    refine LH.block ?_
    obtain ⟨r10, hr10, h⟩ := bindS h
    obtain ⟨r11, hr11, h⟩ := bindS h
    refine LH.seqT [(0, .ptr 7 0), (1, .int .i64 p1), (5, .lst 1 (List.map (LV.int .i64) l3)), (6, .int .i64 n4), (7, .int .i64 r10.1), (8, .int .i64 r11.1)] [(7, .box [.lst 1 (List.map (LV.int .i64) r11.2.L), .int .i64 r11.2.At])] rfl ?_ ?_
    · refine sN (oM (v := (.ptr _ _)) rfl ?_)
      refine sN (oM (v := (.lst _ _)) rfl ?_)
      refine sN (oLnL (f := (LV.int .i64)) te28 rfl ?_)
      refine sN (oAdd rfl rfl ?_)
      refine sN (oCM (args := [.ptr 7 0, .int .i64 (i64 ((l3.length : Int) + 1))]) (ml := [(7, .box [.lst 1 (List.map (LV.int .i64) l5), .int .i64 n6])]) (ml' := [(7, .box [.lst 1 (List.map (LV.int .i64) r10.2.L), .int .i64 r10.2.At])]) rfl isF36 rfl (sbR (sbR sbN)) (GTape_Next_ok hr10) (mC rfl mN) (newI rfl newN) rfl ?_)
      refine sN (oM (v := (.ptr _ _)) rfl ?_)
      refine sN (oM (v := (.int _ _)) rfl ?_)
      refine sN (oCM (args := [.ptr 7 0, .int .i64 p1]) (ml := [(7, .box [.lst 1 (List.map (LV.int .i64) r10.2.L), .int .i64 r10.2.At])]) (ml' := [(7, .box [.lst 1 (List.map (LV.int .i64) r11.2.L), .int .i64 r11.2.At])]) rfl isF36 rfl (sbR (sbR sbN)) (GTape_Next_ok hr11) (mC rfl mN) (newI rfl newN) rfl ?_)
      refine sN (oA (v := (.int _ _)) rfl ?_)
      refine sN (oA (v := (.int _ _)) rfl ?_)
      exact s0 (Wk.to (eC rfl (eC rfl (eC rfl (eC rfl (eC rfl (eC rfl eN)))))) (mC rfl mN) rfl (prK rfl))
    refine LH.seqT [(0, .ptr 7 0), (1, .int .i64 p1), (5, .lst 1 (List.map (LV.int .i64) l3)), (6, .int .i64 n4), (7, .int .i64 r10.1), (8, .int .i64 r11.1), (9, .nil)] [(7, .box [.lst 1 (List.map (LV.int .i64) r11.2.L), .int .i64 r11.2.At])] rfl ?_ ?_
    · refine sN (oA (v := .nil) rfl ?_)
      exact s0 (Wk.to (eC rfl (eC rfl (eC rfl (eC rfl (eC rfl (eC rfl (eC rfl eN))))))) (mC rfl mN) rfl (prK rfl))
    obtain ⟨v12, hv12, h⟩ := bindS h
    obtain ⟨v13, hv13, h⟩ := bindS h
    refine LH.seqT [(0, .ptr 7 0), (1, .int .i64 p1), (5, .lst 1 (List.map (LV.int .i64) l3)), (6, .int .i64 n4), (7, .int .i64 r10.1), (8, .int .i64 r11.1), (9, .arr 135 (List.length v13))] [(7, .box [.lst 1 (List.map (LV.int .i64) r11.2.L), .int .i64 r11.2.At]), (135, .arr 3 1 (List.map (LV.int .i64) v13))] rfl ?_ ?_
    · refine sN (oM (v := .nil) rfl ?_)
      refine sN (oM (v := (.lst _ _)) rfl ?_)
      refine sN (oM (v := (.int _ _)) rfl ?_)
      refine sN (oSl (f := (LV.int .i64)) te28 tk3 ts3 rfl rfl rfl hv12 ?_)
      refine sN (oApN (f := (LV.int .i64)) (id := 135) rfl te28 tr3 ts3 rfl rfl hv13 rfl ?_)
      refine sN (oA (v := (.arr _ _)) rfl ?_)
      exact s0 (Wk.to (eC rfl (eC rfl (eC rfl (eC rfl (eC rfl (eC rfl (eC rfl eN))))))) (mC rfl (mC rfl mN)) rfl (prK rfl))
    obtain ⟨v14, hv14, h⟩ := bindS h
    refine LH.seqT [(0, .ptr 7 0), (1, .int .i64 p1), (5, .lst 1 (List.map (LV.int .i64) l3)), (6, .int .i64 n4), (7, .int .i64 r10.1), (9, .arr 135 (List.length v14))] [(7, .box [.lst 1 (List.map (LV.int .i64) r11.2.L), .int .i64 r11.2.At]), (135, .arr 3 1 (List.map (LV.int .i64) v14))] rfl ?_ ?_
    · refine sN (oM (v := (.arr _ _)) rfl ?_)
      refine sN (oM (v := (.int _ _)) rfl ?_)
      refine sN (oBS (f := (LV.int .i64)) (ys := [r11.1]) te28 tr3 ts3 rfl rfl rfl okI ?_)
      refine sN (oAp (f := (LV.int .i64)) te28 tr3 ts3 rfl rfl (prN rfl) rfl hv14 ?_)
      refine sN (oA (v := (.arr _ _)) rfl ?_)
      exact s0 (Wk.to (eC rfl (eC rfl (eC rfl (eC rfl (eC rfl (eC rfl eN)))))) (mC rfl (mC rfl mN)) rfl (prK rfl))
    obtain ⟨v15, hv15, h⟩ := bindS h
    obtain ⟨v16, hv16, h⟩ := bindS h
    refine LH.loneT [(0, .ptr 7 0), (1, .int .i64 p1), (5, .lst 1 (List.map (LV.int .i64) v16)), (6, .int .i64 n4)] [(7, .box [.lst 1 (List.map (LV.int .i64) r11.2.L), .int .i64 r11.2.At])] rfl ?_ ?_
    · refine sN (oM (v := (.arr _ _)) rfl ?_)
      refine sN (oM (v := (.lst _ _)) rfl ?_)
      refine sN (oM (v := (.int _ _)) rfl ?_)
      refine sN (oSl (f := (LV.int .i64)) te28 tk3 ts3 rfl rfl rfl hv15 ?_)
      refine sN (oAp (f := (LV.int .i64)) te28 tr3 ts3 rfl rfl (prN rfl) rfl hv16 ?_)
      refine sN (oA (v := (.arr _ _)) rfl ?_)
      exact s0 ((Wk.trans (Wk.to (el := [(0, .ptr 7 0), (1, .int .i64 p1), (5, .arr 135 (List.length v16)), (6, .int .i64 n4)]) (ml := [(7, .box [.lst 1 (List.map (LV.int .i64) r11.2.L), .int .i64 r11.2.At]), (135, .arr 3 1 (List.map (LV.int .i64) v16))]) (eC rfl (eC rfl (eC rfl (eC rfl eN)))) (mC rfl (mC rfl mN)) rfl (prK rfl)) (Wk.trans (Wk.frzL (f := (LV.int .i64)) (el' := [(0, .ptr 7 0), (1, .int .i64 p1), (5, .lst 1 (List.map (LV.int .i64) v16)), (6, .int .i64 n4)]) 135 3 1 v16 rfl rfl (prN rfl) (fK rfl (fK rfl (fZ (fK rfl fN))))) (Wk.to (eC rfl (eC rfl (eC rfl (eC rfl eN)))) (mC rfl mN) rfl (prK rfl)))))
    refine blockN ?_
    refine thenN ?_
    refine LH.loneT [(0, .ptr 7 0), (1, .int .i64 p1), (5, .lst 1 (List.map (LV.int .i64) v16)), (6, .int .i64 (i64 (n4 - 1)))] [(7, .box [.lst 1 (List.map (LV.int .i64) r11.2.L), .int .i64 r11.2.At])] rfl ?_ ?_
    · refine sN (oM (v := (.int _ _)) rfl ?_)
      refine sN (oSub rfl rfl ?_)
      refine sN (oA (v := (.int _ _)) rfl ?_)
      exact s0 (Wk.to (eC rfl (eC rfl (eC rfl (eC rfl eN)))) (mC rfl mN) rfl (prK rfl))
    exact roundN (e' := Env.of [(0, .ptr 7 0), (1, .int .i64 p1), (5, .lst 1 (List.map (LV.int .i64) v16)), (6, .int .i64 (i64 (n4 - 1)))]) (m' := Mem.of [(7, .box [.lst 1 (List.map (LV.int .i64) r11.2.L), .int .i64 r11.2.At])]) (Wk.to (eC rfl (eC rfl (eC rfl (eC rfl eN)))) (mC rfl mN) rfl (prK rfl)) ⟨v16, (i64 (n4 - 1)), r11.2.L, r11.2.At, hrec1 ▸ h, rfl, rfl⟩
  replace h := iteF h hc9
  refine LH.exit ?_
  refine thenX ?_
  refine roundX ?_
  refine blockH ?_
  refine thenN ?_
  refine LH.wk (Wk.to (el := [(5, .lst 1 (List.map (LV.int .i64) l3))]) (ml := [(7, .box [.lst 1 (List.map (LV.int .i64) l5), .int .i64 n6])]) (eC rfl eN) (mC rfl mN) rfl (prK rfl)) ?_
  refine LH.seqT [(4, .lst 1 (List.map (LV.int .i64) l3))] [(7, .box [.lst 1 (List.map (LV.int .i64) l5), .int .i64 n6])] rfl ?_ ?_
  · refine sN (oM (v := (.lst _ _)) rfl ?_)
    refine sN (oA (v := (.lst _ _)) rfl ?_)
    exact s0 (Wk.to (eC rfl eN) (mC rfl mN) rfl (prK rfl))
  refine LH.ret ?_
  obtain rfl := Option.some.inj h
  exact retE (congrArg Array.toList Try.results27) (lrT rfl (lr0 ⟨memN (mC rfl mN), rfl, prK rfl, Sub.rfl⟩))

end Go.Proofs.Ytdkhlkihhdjbbaa
