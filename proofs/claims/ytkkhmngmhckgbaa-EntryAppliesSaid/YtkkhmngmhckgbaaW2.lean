/- Walks, printed by program (gen.py): each function computes its plain function. -/
import Derived.Test.YtkkhmngmhckgbaaW1
set_option linter.unusedVariables false
set_option linter.unusedSimpArgs false
set_option maxRecDepth 100000
namespace Go.Proofs.Ytkkhmngmhckgbaa
open Go.L Go.Sh
theorem ref02_Canonical_ok {F : Nat} {p0 : List GStamp} {p1 : List Int} {r : List Int × Int} (h : ref02_Canonical F p0 p1 = some r) : LCall Try.prog 40 [.lst 3 (List.map GStamp.lv p0), .lst 1 (List.map (LV.int .i64) p1)] (Mem.of []) (.tup [.lst 1 (List.map (LV.int .i64) r.1), .int .i64 r.2]) (Mem.of []) := by
  unfold ref02_Canonical at h
  refine bodyT Try.func40 rfl (by rw [Try.ntmps40]; exact Nat.le_of_ble_eq_true rfl) ?_
  refine LH.wk (Wk.to (el := [(0, .lst 3 (List.map GStamp.lv p0)), (1, .lst 1 (List.map (LV.int .i64) p1))]) (ml := []) (eC rfl (eC rfl eN)) mN rfl (prK rfl)) ?_
  refine LH.seqT [(0, .lst 3 (List.map GStamp.lv p0)), (1, .lst 1 (List.map (LV.int .i64) p1))] [] rfl ?_ ?_
  · refine sN (oA (v := .nil) rfl ?_)
    refine sN (oA (v := (.int _ _)) rfl ?_)
    exact s0 (Wk.to (eC rfl (eC rfl eN)) mN rfl (prK rfl))
  refine LH.seq ?_
  refine LH.seqT [(0, .lst 3 (List.map GStamp.lv p0)), (1, .lst 1 (List.map (LV.int .i64) p1)), (14, .bool ((p1.length : Int) != (p0.length : Int)))] [] rfl ?_ ?_
  · refine sN (oM (v := (.lst _ _)) rfl ?_)
    refine sN (oLnL (f := (LV.int .i64)) te22 rfl ?_)
    refine sN (oM (v := (.lst _ _)) rfl ?_)
    refine sN (oLnL (f := GStamp.lv) te71 rfl ?_)
    refine sN (oNe rfl rfl ?_)
    exact s0 (Wk.to (eC rfl (eC rfl (eC rfl eN))) mN rfl (prK rfl))
  refine LH.cond (t := ((p1.length : Int) != (p0.length : Int))) rfl (fun hc1 => ?_) (fun hc1 => ?_)
  · replace h := iteT h hc1
    refine LH.seqT [(4, .nil), (5, .int .i64 1)] [] rfl ?_ ?_
    · refine sN (oA (v := .nil) rfl ?_)
      refine sN (oA (v := (.int _ _)) rfl ?_)
      exact s0 (Wk.to (eC rfl (eC rfl eN)) mN rfl (prK rfl))
    refine LH.ret ?_
    refine thenR ?_
    obtain rfl := Option.some.inj h
    exact retE (congrArg Array.toList Try.results40) (lrT rfl (lrT rfl (lr0 ⟨memN mN, rfl, prK rfl, (Sub.tup (sbL (sbR sbN)))⟩)))
  replace h := iteF h hc1
  refine LH.skip ?_
  refine thenN ?_
  refine LH.wk (Wk.to (el := [(0, .lst 3 (List.map GStamp.lv p0)), (1, .lst 1 (List.map (LV.int .i64) p1))]) (ml := []) (eC rfl (eC rfl eN)) mN rfl (prK rfl)) ?_
  refine LH.seqT [(0, .lst 3 (List.map GStamp.lv p0)), (1, .lst 1 (List.map (LV.int .i64) p1)), (6, .nil)] [] rfl ?_ ?_
  · refine sN (oA (v := .nil) rfl ?_)
    exact s0 (Wk.to (eC rfl (eC rfl (eC rfl eN))) mN rfl (prK rfl))
  refine LH.seq ?_
  refine LH.seqT [(0, .lst 3 (List.map GStamp.lv p0)), (1, .lst 1 (List.map (LV.int .i64) p1)), (6, .nil), (7, .int .i64 0)] [] rfl ?_ ?_
  · refine sN (oA (v := (.int _ _)) rfl ?_)
    exact s0 (Wk.to (eC rfl (eC rfl (eC rfl (eC rfl eN)))) mN rfl (prK rfl))
  refine LH.block ?_
  refine LH.wk (Wk.to (el := [(0, .lst 3 (List.map GStamp.lv p0)), (1, .lst 1 (List.map (LV.int .i64) p1)), (6, .lst 1 (List.map (LV.int .i64) ([] : List Int))), (7, .int .i64 0)]) (ml := []) (eC rfl (eC rfl (eL rfl (eC rfl eN)))) mN rfl (prK rfl)) ?_
  refine LH.loop (fun n e m => ∃ (l2 : List Int) (n3 : Int), ref02_Canonical_L1 F p0 p1 n l2 n3 = some r ∧ e = Env.of [(0, .lst 3 (List.map GStamp.lv p0)), (1, .lst 1 (List.map (LV.int .i64) p1)), (6, .lst 1 (List.map (LV.int .i64) l2)), (7, .int .i64 n3)] ∧ m = Mem.of []) F ⟨([] : List Int), 0, h, rfl, rfl⟩ ?_
  clear h
  rintro n e m ⟨l2, n3, h, rfl, rfl⟩
  rcases n with _ | n
  · cases (show Option.none = some _ from h)
  obtain ⟨rec1, hrec1⟩ : ∃ f, f = ref02_Canonical_L1 F p0 p1 n := ⟨_, rfl⟩
  replace h : ref02_Canonical_L1_B F p0 p1 rec1 l2 n3 = some r := hrec1 ▸ h
  unfold ref02_Canonical_L1_B at h
  refine LH.seq ?_
  refine LH.seqT [(0, .lst 3 (List.map GStamp.lv p0)), (1, .lst 1 (List.map (LV.int .i64) p1)), (6, .lst 1 (List.map (LV.int .i64) l2)), (7, .int .i64 n3), (18, .bool (decide (n3 < (p0.length : Int))))] [] rfl ?_ ?_
  · refine sN (oM (v := (.int _ _)) rfl ?_)
    refine sN (oM (v := (.lst _ _)) rfl ?_)
    refine sN (oLnL (f := GStamp.lv) te71 rfl ?_)
    refine sN (oLt rfl rfl ?_)
    exact s0 (Wk.to (eC rfl (eC rfl (eC rfl (eC rfl (eC rfl eN))))) mN rfl (prK rfl))
  refine LH.cond (t := (decide (n3 < (p0.length : Int)))) rfl (fun hc4 => ?_) (fun hc4 => ?_)
  · replace h := iteT h hc4
    refine LH.skip ?_
    refine thenN ?_
    refine LH.wk (Wk.to (el := [(0, .lst 3 (List.map GStamp.lv p0)), (1, .lst 1 (List.map (LV.int .i64) p1)), (6, .lst 1 (List.map (LV.int .i64) l2)), (7, .int .i64 n3)]) (ml := []) (eC rfl (eC rfl (eC rfl (eC rfl eN)))) mN rfl (prK rfl)) ?_
    refine LH.seq ?_
    refine LH.block ?_
    refine LH.seq ?_
    obtain ⟨r5, hr5, h⟩ := bindS h
    refine LH.seqT [(0, .lst 3 (List.map GStamp.lv p0)), (1, .lst 1 (List.map (LV.int .i64) p1)), (6, .lst 1 (List.map (LV.int .i64) l2)), (7, .int .i64 n3), (25, .bool (!r5))] [] rfl ?_ ?_
    · refine sN (oM (v := (.lst _ _)) rfl ?_)
      refine sN (oM (v := (.lst _ _)) rfl ?_)
      refine sN (oM (v := (.int _ _)) rfl ?_)
      refine sN (oCP (args := [.lst 3 (List.map GStamp.lv p0), .lst 1 (List.map (LV.int .i64) p1), .int .i64 n3]) rfl isF53 rfl (sbR (sbR (sbR sbN))) (ref02_Counts_ok hr5) rfl ?_)
      refine sN (oNot rfl ?_)
      exact s0 (Wk.to (eC rfl (eC rfl (eC rfl (eC rfl (eC rfl eN))))) mN rfl (prK rfl))
    refine LH.cond (t := (!r5)) rfl (fun hc6 => ?_) (fun hc6 => ?_)
    · replace h := iteT h hc6
      refine LH.exit ?_
      refine thenX ?_
      refine blockH ?_
      refine thenN ?_
      refine LH.wk (Wk.to (el := [(0, .lst 3 (List.map GStamp.lv p0)), (1, .lst 1 (List.map (LV.int .i64) p1)), (6, .lst 1 (List.map (LV.int .i64) l2)), (7, .int .i64 n3)]) (ml := []) (eC rfl (eC rfl (eC rfl (eC rfl eN)))) mN rfl (prK rfl)) ?_
      refine LH.loneT [(0, .lst 3 (List.map GStamp.lv p0)), (1, .lst 1 (List.map (LV.int .i64) p1)), (6, .lst 1 (List.map (LV.int .i64) l2)), (7, .int .i64 (i64 (n3 + 1)))] [] rfl ?_ ?_
      · refine sN (oM (v := (.int _ _)) rfl ?_)
        refine sN (oAdd rfl rfl ?_)
        refine sN (oA (v := (.int _ _)) rfl ?_)
        exact s0 (Wk.to (eC rfl (eC rfl (eC rfl (eC rfl eN)))) mN rfl (prK rfl))
      exact roundN (e' := Env.of [(0, .lst 3 (List.map GStamp.lv p0)), (1, .lst 1 (List.map (LV.int .i64) p1)), (6, .lst 1 (List.map (LV.int .i64) l2)), (7, .int .i64 (i64 (n3 + 1)))]) (m' := Mem.of []) (Wk.to (eC rfl (eC rfl (eC rfl (eC rfl eN)))) mN rfl (prK rfl)) ⟨l2, (i64 (n3 + 1)), hrec1 ▸ h, rfl, rfl⟩
    replace h := iteF h hc6
    refine LH.skip ?_
    refine thenN ?_
    refine LH.wk (Wk.to (el := [(0, .lst 3 (List.map GStamp.lv p0)), (1, .lst 1 (List.map (LV.int .i64) p1)), (6, .lst 1 (List.map (LV.int .i64) l2)), (7, .int .i64 n3)]) (ml := []) (eC rfl (eC rfl (eC rfl (eC rfl eN)))) mN rfl (prK rfl)) ?_
    refine LH.seqT [(0, .lst 3 (List.map GStamp.lv p0)), (1, .lst 1 (List.map (LV.int .i64) p1)), (6, .lst 1 (List.map (LV.int .i64) l2)), (7, .int .i64 n3), (8, .int .i64 (l2.length : Int))] [] rfl ?_ ?_
    · refine sN (oM (v := (.lst _ _)) rfl ?_)
      refine sN (oLnL (f := (LV.int .i64)) te22 rfl ?_)
      refine sN (oA (v := (.int _ _)) rfl ?_)
      exact s0 (Wk.to (eC rfl (eC rfl (eC rfl (eC rfl (eC rfl eN))))) mN rfl (prK rfl))
    refine LH.seq ?_
    refine LH.block ?_
    refine LH.loop (fun n e m => ∃ (n7 : Int), ref02_Canonical_L2 rec1 p0 l2 n3 n n7 = some r ∧ e = Env.of [(0, .lst 3 (List.map GStamp.lv p0)), (1, .lst 1 (List.map (LV.int .i64) p1)), (6, .lst 1 (List.map (LV.int .i64) l2)), (7, .int .i64 n3), (8, .int .i64 n7)] ∧ m = Mem.of []) F ⟨(l2.length : Int), h, rfl, rfl⟩ ?_
    clear h
    rintro n e m ⟨n7, h, rfl, rfl⟩
    rcases n with _ | n
    · cases (show Option.none = some _ from h)
    obtain ⟨rec2, hrec2⟩ : ∃ f, f = ref02_Canonical_L2 rec1 p0 l2 n3 n := ⟨_, rfl⟩
    replace h : ref02_Canonical_L2_B rec1 p0 l2 n3 rec2 n7 = some r := hrec2 ▸ h
    unfold ref02_Canonical_L2_B at h
    refine LH.seq ?_
    obtain ⟨w9, hv, h⟩ := bindS h
    refine LH.seqJM mixed [] [0, 0, 0, 0, 0, 0, 0, 0, 0, 0, 0, 0, 0, 0, 0, 0, 0, 0] [(0, .lst 3 (List.map GStamp.lv p0)), (1, .lst 1 (List.map (LV.int .i64) p1)), (6, .lst 1 (List.map (LV.int .i64) l2)), (7, .int .i64 n3), (8, .int .i64 n7), (45, .bool w9)] [] rfl rfl (by kernel_rfl) ?_ ?_
    · refine mN0 (oM (v := (.int _ _)) rfl ⟨rfl, ?_⟩)
      refine mN0 (oGt rfl rfl ⟨rfl, ?_⟩)
      refine mN0 (oM (v := (.bool _)) rfl ⟨rfl, ?_⟩)
      by_cases hb10 : (decide (n7 > 0)) = true
      · replace hv := iteT hv hb10
        refine mT rfl (congrArg LV.bool hb10) (mN0 (oM (v := (.lst _ _)) rfl ⟨rfl, ?_⟩))
        refine mT rfl (congrArg LV.bool hb10) (mN0 (oM (v := (.lst _ _)) rfl ⟨rfl, ?_⟩))
        refine mT rfl (congrArg LV.bool hb10) (mN0 (oM (v := (.int _ _)) rfl ⟨rfl, ?_⟩))
        refine mT rfl (congrArg LV.bool hb10) (mN0 (oSub rfl rfl ⟨rfl, ?_⟩))
        obtain ⟨x11, hx11, hv⟩ := bindS hv
        refine mT rfl (congrArg LV.bool hb10) (mN0 (oIx (f := (LV.int .i64)) te22 tk3 ts3 rfl rfl okI hx11 rfl ⟨rfl, ?_⟩))
        refine mT rfl (congrArg LV.bool hb10) (mN0 (oLd rfl tk3 ta3 ⟨rfl, ?_⟩))
        obtain ⟨x12, hx12, hv⟩ := bindS hv
        refine mT rfl (congrArg LV.bool hb10) (mN0 (oIx (f := GStamp.lv) te71 tk31 ts31 rfl rfl GStamp.ok hx12 rfl ⟨rfl, ?_⟩))
        refine mT rfl (congrArg LV.bool hb10) (mN0 (oLdA rfl tk31 ta31 ts31 rfl rfl ⟨rfl, ?_⟩))
        refine mT rfl (congrArg LV.bool hb10) (mN0 (oM (v := (.lst _ _)) rfl ⟨rfl, ?_⟩))
        refine mT rfl (congrArg LV.bool hb10) (mN0 (oM (v := (.int _ _)) rfl ⟨rfl, ?_⟩))
        obtain ⟨x13, hx13, hv⟩ := bindS hv
        refine mT rfl (congrArg LV.bool hb10) (mN0 (oIx (f := GStamp.lv) te71 tk31 ts31 rfl rfl GStamp.ok hx13 rfl ⟨rfl, ?_⟩))
        refine mT rfl (congrArg LV.bool hb10) (mN0 (oLdA rfl tk31 ta31 ts31 rfl rfl ⟨rfl, ?_⟩))
        obtain ⟨r14, hr14, hv⟩ := bindS hv
        refine mT rfl (congrArg LV.bool hb10) (mN0 (oCP (args := [.agg [.int .i64 x12.Time, .int .i64 x12.Source, .int .i64 x12.Seq], .agg [.int .i64 x13.Time, .int .i64 x13.Source, .int .i64 x13.Seq]]) rfl isF54 rfl (sbR (sbR sbN)) (ref02_Compare_ok hr14) rfl ⟨rfl, ?_⟩))
        refine mT rfl (congrArg LV.bool hb10) (mN0 (oGt rfl rfl ⟨rfl, ?_⟩))
        refine mN0 (oPkT (congrArg LV.bool hb10) (v := (.bool _)) rfl ⟨rfl, ?_⟩)
        obtain rfl := Option.some.inj hv
        exact m0 (Wk.to (eC rfl (eC rfl (eC rfl (eC rfl (eC rfl (eC rfl eN)))))) mN rfl (prK rfl))
      · replace hb10 := bF hb10
        replace hv := iteF hv hb10
        refine mF rfl rfl hb10 ?_
        refine mF rfl rfl hb10 ?_
        refine mF rfl rfl hb10 ?_
        refine mF rfl rfl hb10 ?_
        refine mF rfl rfl hb10 ?_
        refine mF rfl rfl hb10 ?_
        refine mF rfl rfl hb10 ?_
        refine mF rfl rfl hb10 ?_
        refine mF rfl rfl hb10 ?_
        refine mF rfl rfl hb10 ?_
        refine mF rfl rfl hb10 ?_
        refine mF rfl rfl hb10 ?_
        refine mF rfl rfl hb10 ?_
        refine mF rfl rfl hb10 ?_
        refine mN0 (oPkF (congrArg LV.bool hb10) (v := (.bool _)) rfl ⟨rfl, ?_⟩)
        obtain rfl := Option.some.inj hv
        exact m0 (Wk.to (eC rfl (eC rfl (eC rfl (eC rfl (eC rfl (eC rfl eN)))))) mN rfl (prK rfl))
    clear hv
    refine LH.cond (t := w9) rfl (fun hc15 => ?_) (fun hc15 => ?_)
    · replace h := iteT h hc15
      refine LH.skip ?_
      refine thenN ?_
      refine LH.wk (Wk.to (el := [(0, .lst 3 (List.map GStamp.lv p0)), (1, .lst 1 (List.map (LV.int .i64) p1)), (6, .lst 1 (List.map (LV.int .i64) l2)), (7, .int .i64 n3), (8, .int .i64 n7)]) (ml := []) (eC rfl (eC rfl (eC rfl (eC rfl (eC rfl eN))))) mN rfl (prK rfl)) ?_
      refine LH.block ?_
      refine LH.loneT [(0, .lst 3 (List.map GStamp.lv p0)), (1, .lst 1 (List.map (LV.int .i64) p1)), (6, .lst 1 (List.map (LV.int .i64) l2)), (7, .int .i64 n3), (8, .int .i64 (i64 (n7 - 1)))] [] rfl ?_ ?_
      · refine sN (oM (v := (.int _ _)) rfl ?_)
        refine sN (oSub rfl rfl ?_)
        refine sN (oA (v := (.int _ _)) rfl ?_)
        exact s0 (Wk.to (eC rfl (eC rfl (eC rfl (eC rfl (eC rfl eN))))) mN rfl (prK rfl))
      refine blockN ?_
      exact roundN (e' := Env.of [(0, .lst 3 (List.map GStamp.lv p0)), (1, .lst 1 (List.map (LV.int .i64) p1)), (6, .lst 1 (List.map (LV.int .i64) l2)), (7, .int .i64 n3), (8, .int .i64 (i64 (n7 - 1)))]) (m' := Mem.of []) (Wk.to (eC rfl (eC rfl (eC rfl (eC rfl (eC rfl eN))))) mN rfl (prK rfl)) ⟨(i64 (n7 - 1)), hrec2 ▸ h, rfl, rfl⟩
    replace h := iteF h hc15
    refine LH.exit ?_
    refine thenX ?_
    refine roundX ?_
    refine blockH ?_
    refine thenN ?_
    refine LH.wk (Wk.to (el := [(0, .lst 3 (List.map GStamp.lv p0)), (1, .lst 1 (List.map (LV.int .i64) p1)), (6, .lst 1 (List.map (LV.int .i64) l2)), (7, .int .i64 n3), (8, .int .i64 n7)]) (ml := []) (eC rfl (eC rfl (eC rfl (eC rfl (eC rfl eN))))) mN rfl (prK rfl)) ?_
    refine LH.seqT [(0, .lst 3 (List.map GStamp.lv p0)), (1, .lst 1 (List.map (LV.int .i64) p1)), (6, .lst 1 (List.map (LV.int .i64) l2)), (7, .int .i64 n3), (8, .int .i64 n7), (9, .nil)] [] rfl ?_ ?_
    · refine sN (oA (v := .nil) rfl ?_)
      exact s0 (Wk.to (eC rfl (eC rfl (eC rfl (eC rfl (eC rfl (eC rfl eN)))))) mN rfl (prK rfl))
    obtain ⟨v16, hv16, h⟩ := bindS h
    obtain ⟨v17, hv17, h⟩ := bindS h
    refine LH.seqT [(0, .lst 3 (List.map GStamp.lv p0)), (1, .lst 1 (List.map (LV.int .i64) p1)), (6, .lst 1 (List.map (LV.int .i64) l2)), (7, .int .i64 n3), (8, .int .i64 n7), (9, .arr 152 (List.length v17))] [(152, .arr 3 1 (List.map (LV.int .i64) v17))] rfl ?_ ?_
    · refine sN (oM (v := .nil) rfl ?_)
      refine sN (oM (v := (.lst _ _)) rfl ?_)
      refine sN (oM (v := (.int _ _)) rfl ?_)
      refine sN (oSl (f := (LV.int .i64)) te22 tk3 ts3 rfl rfl rfl hv16 ?_)
      refine sN (oApN (f := (LV.int .i64)) (id := 152) rfl te22 tr3 ts3 rfl rfl hv17 rfl ?_)
      refine sN (oA (v := (.arr _ _)) rfl ?_)
      exact s0 (Wk.to (eC rfl (eC rfl (eC rfl (eC rfl (eC rfl (eC rfl eN)))))) (mC rfl mN) rfl (prK rfl))
    obtain ⟨v18, hv18, h⟩ := bindS h
    refine LH.seqT [(0, .lst 3 (List.map GStamp.lv p0)), (1, .lst 1 (List.map (LV.int .i64) p1)), (6, .lst 1 (List.map (LV.int .i64) l2)), (7, .int .i64 n3), (8, .int .i64 n7), (9, .arr 152 (List.length v18))] [(152, .arr 3 1 (List.map (LV.int .i64) v18))] rfl ?_ ?_
    · refine sN (oM (v := (.arr _ _)) rfl ?_)
      refine sN (oM (v := (.int _ _)) rfl ?_)
      refine sN (oBS (f := (LV.int .i64)) (ys := [n3]) te22 tr3 ts3 rfl rfl rfl okI ?_)
      refine sN (oAp (f := (LV.int .i64)) te22 tr3 ts3 rfl rfl (prN rfl) rfl hv18 ?_)
      refine sN (oA (v := (.arr _ _)) rfl ?_)
      exact s0 (Wk.to (eC rfl (eC rfl (eC rfl (eC rfl (eC rfl (eC rfl eN)))))) (mC rfl mN) rfl (prK rfl))
    obtain ⟨v19, hv19, h⟩ := bindS h
    obtain ⟨v20, hv20, h⟩ := bindS h
    refine LH.seqT [(0, .lst 3 (List.map GStamp.lv p0)), (1, .lst 1 (List.map (LV.int .i64) p1)), (7, .int .i64 n3), (9, .lst 1 (List.map (LV.int .i64) v20))] [] rfl ?_ ?_
    · refine sN (oM (v := (.arr _ _)) rfl ?_)
      refine sN (oM (v := (.lst _ _)) rfl ?_)
      refine sN (oM (v := (.int _ _)) rfl ?_)
      refine sN (oSl (f := (LV.int .i64)) te22 tk3 ts3 rfl rfl rfl hv19 ?_)
      refine sN (oAp (f := (LV.int .i64)) te22 tr3 ts3 rfl rfl (prN rfl) rfl hv20 ?_)
      refine sN (oA (v := (.arr _ _)) rfl ?_)
      exact s0 ((Wk.trans (Wk.to (el := [(0, .lst 3 (List.map GStamp.lv p0)), (1, .lst 1 (List.map (LV.int .i64) p1)), (7, .int .i64 n3), (9, .arr 152 (List.length v20))]) (ml := [(152, .arr 3 1 (List.map (LV.int .i64) v20))]) (eC rfl (eC rfl (eC rfl (eC rfl eN)))) (mC rfl mN) rfl (prK rfl)) (Wk.trans (Wk.frzL (f := (LV.int .i64)) (el' := [(0, .lst 3 (List.map GStamp.lv p0)), (1, .lst 1 (List.map (LV.int .i64) p1)), (7, .int .i64 n3), (9, .lst 1 (List.map (LV.int .i64) v20))]) 152 3 1 v20 rfl rfl (prN rfl) (fK rfl (fK rfl (fK rfl (fZ fN))))) (Wk.to (eC rfl (eC rfl (eC rfl (eC rfl eN)))) mN rfl (prK rfl)))))
    refine LH.loneT [(0, .lst 3 (List.map GStamp.lv p0)), (1, .lst 1 (List.map (LV.int .i64) p1)), (6, .lst 1 (List.map (LV.int .i64) v20)), (7, .int .i64 n3)] [] rfl ?_ ?_
    · refine sN (oM (v := (.lst _ _)) rfl ?_)
      refine sN (oA (v := (.lst _ _)) rfl ?_)
      exact s0 (Wk.to (eC rfl (eC rfl (eC rfl (eC rfl eN)))) mN rfl (prK rfl))
    refine blockN ?_
    refine thenN ?_
    refine LH.loneT [(0, .lst 3 (List.map GStamp.lv p0)), (1, .lst 1 (List.map (LV.int .i64) p1)), (6, .lst 1 (List.map (LV.int .i64) v20)), (7, .int .i64 (i64 (n3 + 1)))] [] rfl ?_ ?_
    · refine sN (oM (v := (.int _ _)) rfl ?_)
      refine sN (oAdd rfl rfl ?_)
      refine sN (oA (v := (.int _ _)) rfl ?_)
      exact s0 (Wk.to (eC rfl (eC rfl (eC rfl (eC rfl eN)))) mN rfl (prK rfl))
    exact roundN (e' := Env.of [(0, .lst 3 (List.map GStamp.lv p0)), (1, .lst 1 (List.map (LV.int .i64) p1)), (6, .lst 1 (List.map (LV.int .i64) v20)), (7, .int .i64 (i64 (n3 + 1)))]) (m' := Mem.of []) (Wk.to (eC rfl (eC rfl (eC rfl (eC rfl eN)))) mN rfl (prK rfl)) ⟨v20, (i64 (n3 + 1)), hrec1 ▸ h, rfl, rfl⟩
  replace h := iteF h hc4
  refine LH.exit ?_
  refine thenX ?_
  refine roundX ?_
  refine blockH ?_
  refine thenN ?_
  refine LH.wk (Wk.to (el := [(6, .lst 1 (List.map (LV.int .i64) l2))]) (ml := []) (eC rfl eN) mN rfl (prK rfl)) ?_
  refine LH.seq ?_
  refine LH.seqT [(6, .lst 1 (List.map (LV.int .i64) l2)), (65, .bool (decide ((l2.length : Int) > 300)))] [] rfl ?_ ?_
  · refine sN (oM (v := (.lst _ _)) rfl ?_)
    refine sN (oLnL (f := (LV.int .i64)) te22 rfl ?_)
    refine sN (oGt rfl rfl ?_)
    exact s0 (Wk.to (eC rfl (eC rfl eN)) mN rfl (prK rfl))
  refine LH.cond (t := (decide ((l2.length : Int) > 300))) rfl (fun hc21 => ?_) (fun hc21 => ?_)
  · replace h := iteT h hc21
    refine LH.seqT [(4, .nil), (5, .int .i64 3)] [] rfl ?_ ?_
    · refine sN (oA (v := .nil) rfl ?_)
      refine sN (oA (v := (.int _ _)) rfl ?_)
      exact s0 (Wk.to (eC rfl (eC rfl eN)) mN rfl (prK rfl))
    refine LH.ret ?_
    refine thenR ?_
    obtain rfl := Option.some.inj h
    exact retE (congrArg Array.toList Try.results40) (lrT rfl (lrT rfl (lr0 ⟨memN mN, rfl, prK rfl, (Sub.tup (sbL (sbR sbN)))⟩)))
  replace h := iteF h hc21
  refine LH.skip ?_
  refine thenN ?_
  refine LH.wk (Wk.to (el := [(6, .lst 1 (List.map (LV.int .i64) l2))]) (ml := []) (eC rfl eN) mN rfl (prK rfl)) ?_
  refine LH.seqT [(4, .lst 1 (List.map (LV.int .i64) l2)), (5, .int .i64 0)] [] rfl ?_ ?_
  · refine sN (oM (v := (.lst _ _)) rfl ?_)
    refine sN (oA (v := (.lst _ _)) rfl ?_)
    refine sN (oA (v := (.int _ _)) rfl ?_)
    exact s0 (Wk.to (eC rfl (eC rfl eN)) mN rfl (prK rfl))
  refine LH.ret ?_
  obtain rfl := Option.some.inj h
  exact retE (congrArg Array.toList Try.results40) (lrT rfl (lrT rfl (lr0 ⟨memN mN, rfl, prK rfl, (Sub.tup (sbR (sbR sbN)))⟩)))

theorem ref13_Canonical_ok {F : Nat} {p0 : List GEntryEvent} {r : List GEntryEvent × Int} (h : ref13_Canonical F p0 = some r) : LCall Try.prog 15 [.lst 8 (List.map GEntryEvent.lv p0)] (Mem.of []) (.tup [.lst 8 (List.map GEntryEvent.lv r.1), .int .i64 r.2]) (Mem.of []) := by
  unfold ref13_Canonical at h
  refine bodyT Try.func15 rfl (by rw [Try.ntmps15]; exact Nat.le_of_ble_eq_true rfl) ?_
  refine LH.wk (Wk.to (el := [(0, .lst 8 (List.map GEntryEvent.lv p0))]) (ml := []) (eC rfl eN) mN rfl (prK rfl)) ?_
  refine LH.seqT [(0, .lst 8 (List.map GEntryEvent.lv p0))] [] rfl ?_ ?_
  · refine sN (oA (v := .nil) rfl ?_)
    refine sN (oA (v := (.int _ _)) rfl ?_)
    exact s0 (Wk.to (eC rfl eN) mN rfl (prK rfl))
  refine LH.seqT [(0, .lst 8 (List.map GEntryEvent.lv p0)), (4, .nil)] [] rfl ?_ ?_
  · refine sN (oA (v := .nil) rfl ?_)
    exact s0 (Wk.to (eC rfl (eC rfl eN)) mN rfl (prK rfl))
  refine LH.seqT [(0, .lst 8 (List.map GEntryEvent.lv p0)), (4, .nil), (5, .nil)] [] rfl ?_ ?_
  · refine sN (oA (v := .nil) rfl ?_)
    exact s0 (Wk.to (eC rfl (eC rfl (eC rfl eN))) mN rfl (prK rfl))
  refine LH.seq ?_
  refine LH.seqT [(0, .lst 8 (List.map GEntryEvent.lv p0)), (4, .nil), (5, .nil), (6, .int .i64 0)] [] rfl ?_ ?_
  · refine sN (oA (v := (.int _ _)) rfl ?_)
    exact s0 (Wk.to (eC rfl (eC rfl (eC rfl (eC rfl eN)))) mN rfl (prK rfl))
  refine LH.block ?_
  refine LH.wk ((Wk.trans (Wk.to (el := [(0, .lst 8 (List.map GEntryEvent.lv p0)), (4, .nil), (5, .nil), (6, .int .i64 0)]) (ml := []) (eC rfl (eC rfl (eC rfl (eC rfl eN)))) mN rfl (prK rfl)) (Wk.trans (Wk.to (el := [(0, .lst 8 (List.map GEntryEvent.lv p0)), (4, .nil), (5, .nil), (6, .int .i64 0)]) (ml := []) (eC rfl (eC rfl (eC rfl (eC rfl eN)))) mN rfl (prK rfl)) (Wk.trans (Wk.ownL (el' := [(0, .lst 8 (List.map GEntryEvent.lv p0)), (4, .arr 143 (List.length ([] : List GStamp))), (5, .nil), (6, .int .i64 0)]) 143 31 3 rfl rfl (wK (wO (wK (wK wN))))) (Wk.trans (Wk.to (el := [(0, .lst 8 (List.map GEntryEvent.lv p0)), (4, .arr 143 (List.length ([] : List GStamp))), (5, .nil), (6, .int .i64 0)]) (ml := [(143, .arr 31 3 (List.map GStamp.lv ([] : List GStamp)))]) (eC rfl (eC rfl (eC rfl (eC rfl eN)))) (mC rfl mN) rfl (prK rfl)) (Wk.trans (Wk.ownL (el' := [(0, .lst 8 (List.map GEntryEvent.lv p0)), (4, .arr 143 (List.length ([] : List GStamp))), (5, .arr 147 (List.length ([] : List Int))), (6, .int .i64 0)]) 147 3 1 rfl rfl (wK (wK (wO (wK wN))))) (Wk.to (el := [(0, .lst 8 (List.map GEntryEvent.lv p0)), (4, .arr 143 (List.length ([] : List GStamp))), (5, .arr 147 (List.length ([] : List Int))), (6, .int .i64 0)]) (ml := [(143, .arr 31 3 (List.map GStamp.lv ([] : List GStamp))), (147, .arr 3 1 (List.map (LV.int .i64) ([] : List Int)))]) (eC rfl (eC rfl (eC rfl (eC rfl eN)))) (mC rfl (mC rfl mN)) rfl (prK rfl)))))))) ?_
  refine LH.loop (fun n e m => ∃ (n1 : Int) (l2 : List GStamp) (l3 : List Int), ref13_Canonical_L1 F p0 n n1 l2 l3 = some r ∧ e = Env.of [(0, .lst 8 (List.map GEntryEvent.lv p0)), (4, .arr 143 (List.length l2)), (5, .arr 147 (List.length l3)), (6, .int .i64 n1)] ∧ m = Mem.of [(143, .arr 31 3 (List.map GStamp.lv l2)), (147, .arr 3 1 (List.map (LV.int .i64) l3))]) F ⟨0, ([] : List GStamp), ([] : List Int), h, rfl, rfl⟩ ?_
  clear h
  rintro n e m ⟨n1, l2, l3, h, rfl, rfl⟩
  rcases n with _ | n
  · cases (show Option.none = some _ from h)
  obtain ⟨rec1, hrec1⟩ : ∃ f, f = ref13_Canonical_L1 F p0 n := ⟨_, rfl⟩
  replace h : ref13_Canonical_L1_B F p0 rec1 n1 l2 l3 = some r := hrec1 ▸ h
  unfold ref13_Canonical_L1_B at h
  refine LH.seq ?_
  refine LH.seqT [(0, .lst 8 (List.map GEntryEvent.lv p0)), (4, .arr 143 (List.length l2)), (5, .arr 147 (List.length l3)), (6, .int .i64 n1), (16, .bool (decide (n1 < (p0.length : Int))))] [(143, .arr 31 3 (List.map GStamp.lv l2)), (147, .arr 3 1 (List.map (LV.int .i64) l3))] rfl ?_ ?_
  · refine sN (oM (v := (.int _ _)) rfl ?_)
    refine sN (oM (v := (.lst _ _)) rfl ?_)
    refine sN (oLnL (f := GEntryEvent.lv) te25 rfl ?_)
    refine sN (oLt rfl rfl ?_)
    exact s0 (Wk.to (eC rfl (eC rfl (eC rfl (eC rfl (eC rfl eN))))) (mC rfl (mC rfl mN)) rfl (prK rfl))
  refine LH.cond (t := (decide (n1 < (p0.length : Int)))) rfl (fun hc4 => ?_) (fun hc4 => ?_)
  · replace h := iteT h hc4
    refine LH.skip ?_
    refine thenN ?_
    refine LH.wk (Wk.to (el := [(0, .lst 8 (List.map GEntryEvent.lv p0)), (4, .arr 143 (List.length l2)), (5, .arr 147 (List.length l3)), (6, .int .i64 n1)]) (ml := [(143, .arr 31 3 (List.map GStamp.lv l2)), (147, .arr 3 1 (List.map (LV.int .i64) l3))]) (eC rfl (eC rfl (eC rfl (eC rfl eN)))) (mC rfl (mC rfl mN)) rfl (prK rfl)) ?_
    refine LH.seq ?_
    refine LH.block ?_
    refine LH.seqT [(0, .lst 8 (List.map GEntryEvent.lv p0)), (4, .arr 143 (List.length l2)), (5, .arr 147 (List.length l3)), (6, .int .i64 n1), (7, .int .i64 n1)] [(143, .arr 31 3 (List.map GStamp.lv l2)), (147, .arr 3 1 (List.map (LV.int .i64) l3))] rfl ?_ ?_
    · refine sN (oM (v := (.int _ _)) rfl ?_)
      refine sN (oA (v := (.int _ _)) rfl ?_)
      exact s0 (Wk.to (eC rfl (eC rfl (eC rfl (eC rfl (eC rfl eN))))) (mC rfl (mC rfl mN)) rfl (prK rfl))
    refine LH.seq ?_
    refine LH.seqT [(0, .lst 8 (List.map GEntryEvent.lv p0)), (4, .arr 143 (List.length l2)), (5, .arr 147 (List.length l3)), (6, .int .i64 n1), (7, .int .i64 n1), (8, .int .i64 (i64 (n1 - 1)))] [(143, .arr 31 3 (List.map GStamp.lv l2)), (147, .arr 3 1 (List.map (LV.int .i64) l3))] rfl ?_ ?_
    · refine sN (oM (v := (.int _ _)) rfl ?_)
      refine sN (oSub rfl rfl ?_)
      refine sN (oA (v := (.int _ _)) rfl ?_)
      exact s0 (Wk.to (eC rfl (eC rfl (eC rfl (eC rfl (eC rfl (eC rfl eN)))))) (mC rfl (mC rfl mN)) rfl (prK rfl))
    refine LH.block ?_
    refine LH.loop (fun n e m => ∃ (n5 : Int) (n6 : Int), ref13_Canonical_L2 rec1 p0 n1 l2 l3 n n5 n6 = some r ∧ e = Env.of [(0, .lst 8 (List.map GEntryEvent.lv p0)), (4, .arr 143 (List.length l2)), (5, .arr 147 (List.length l3)), (6, .int .i64 n1), (7, .int .i64 n5), (8, .int .i64 n6)] ∧ m = Mem.of [(143, .arr 31 3 (List.map GStamp.lv l2)), (147, .arr 3 1 (List.map (LV.int .i64) l3))]) F ⟨n1, (i64 (n1 - 1)), h, rfl, rfl⟩ ?_
    clear h
    rintro n e m ⟨n5, n6, h, rfl, rfl⟩
    rcases n with _ | n
    · cases (show Option.none = some _ from h)
    obtain ⟨rec2, hrec2⟩ : ∃ f, f = ref13_Canonical_L2 rec1 p0 n1 l2 l3 n := ⟨_, rfl⟩
    replace h : ref13_Canonical_L2_B rec1 p0 n1 l2 l3 rec2 n5 n6 = some r := hrec2 ▸ h
    unfold ref13_Canonical_L2_B at h
    refine LH.seq ?_
    refine LH.seqT [(0, .lst 8 (List.map GEntryEvent.lv p0)), (4, .arr 143 (List.length l2)), (5, .arr 147 (List.length l3)), (6, .int .i64 n1), (7, .int .i64 n5), (8, .int .i64 n6), (23, .bool (decide (n6 ≥ 0)))] [(143, .arr 31 3 (List.map GStamp.lv l2)), (147, .arr 3 1 (List.map (LV.int .i64) l3))] rfl ?_ ?_
    · refine sN (oM (v := (.int _ _)) rfl ?_)
      refine sN (oGe rfl rfl ?_)
      exact s0 (Wk.to (eC rfl (eC rfl (eC rfl (eC rfl (eC rfl (eC rfl (eC rfl eN))))))) (mC rfl (mC rfl mN)) rfl (prK rfl))
    refine LH.cond (t := (decide (n6 ≥ 0))) rfl (fun hc7 => ?_) (fun hc7 => ?_)
    · replace h := iteT h hc7
      refine LH.skip ?_
      refine thenN ?_
      refine LH.wk (Wk.to (el := [(0, .lst 8 (List.map GEntryEvent.lv p0)), (4, .arr 143 (List.length l2)), (5, .arr 147 (List.length l3)), (6, .int .i64 n1), (7, .int .i64 n5), (8, .int .i64 n6)]) (ml := [(143, .arr 31 3 (List.map GStamp.lv l2)), (147, .arr 3 1 (List.map (LV.int .i64) l3))]) (eC rfl (eC rfl (eC rfl (eC rfl (eC rfl (eC rfl eN)))))) (mC rfl (mC rfl mN)) rfl (prK rfl)) ?_
      refine LH.seq ?_
      refine LH.block ?_
      obtain ⟨x8, hx8, h⟩ := bindS h
      obtain ⟨x9, hx9, h⟩ := bindS h
      refine LH.seqJM mixed [] [0, 0, 0, 0, 0, 0, 0, 0, 0] [(0, .lst 8 (List.map GEntryEvent.lv p0)), (4, .arr 143 (List.length l2)), (5, .arr 147 (List.length l3)), (6, .int .i64 n1), (7, .int .i64 n5), (8, .int .i64 n6), (34, .bool (decide (x8 = x9)))] [(143, .arr 31 3 (List.map GStamp.lv l2)), (147, .arr 3 1 (List.map (LV.int .i64) l3))] rfl rfl (by kernel_rfl) ?_ ?_
      · refine mN0 (oM (v := (.lst _ _)) rfl ⟨rfl, ?_⟩)
        refine mN0 (oM (v := (.int _ _)) rfl ⟨rfl, ?_⟩)
        refine mN0 (oIx (f := GEntryEvent.lv) te25 tk35 ts35 rfl rfl GEntryEvent.ok hx8 rfl ⟨rfl, ?_⟩)
        refine mN0 (oLdA rfl tk35 ta35 ts35 rfl rfl ⟨rfl, ?_⟩)
        refine mN0 (oM (v := (.lst _ _)) rfl ⟨rfl, ?_⟩)
        refine mN0 (oM (v := (.int _ _)) rfl ⟨rfl, ?_⟩)
        refine mN0 (oIx (f := GEntryEvent.lv) te25 tk35 ts35 rfl rfl GEntryEvent.ok hx9 rfl ⟨rfl, ?_⟩)
        refine mN0 (oLdA rfl tk35 ta35 ts35 rfl rfl ⟨rfl, ?_⟩)
        refine mN0 (oEqA rfl rfl (ae35 x8 x9) ⟨rfl, ?_⟩)
        exact m0 (Wk.to (eC rfl (eC rfl (eC rfl (eC rfl (eC rfl (eC rfl (eC rfl eN))))))) (mC rfl (mC rfl mN)) rfl (prK rfl))
      refine LH.cond (t := (decide (x8 = x9))) rfl (fun hc10 => ?_) (fun hc10 => ?_)
      · replace h := iteT h hc10
        refine LH.loneT [(0, .lst 8 (List.map GEntryEvent.lv p0)), (4, .arr 143 (List.length l2)), (5, .arr 147 (List.length l3)), (6, .int .i64 n1), (7, .int .i64 n6), (8, .int .i64 n6)] [(143, .arr 31 3 (List.map GStamp.lv l2)), (147, .arr 3 1 (List.map (LV.int .i64) l3))] rfl ?_ ?_
        · refine sN (oM (v := (.int _ _)) rfl ?_)
          refine sN (oA (v := (.int _ _)) rfl ?_)
          exact s0 (Wk.to (eC rfl (eC rfl (eC rfl (eC rfl (eC rfl (eC rfl eN)))))) (mC rfl (mC rfl mN)) rfl (prK rfl))
        refine blockN ?_
        refine thenN ?_
        refine LH.loneT [(0, .lst 8 (List.map GEntryEvent.lv p0)), (4, .arr 143 (List.length l2)), (5, .arr 147 (List.length l3)), (6, .int .i64 n1), (7, .int .i64 n6), (8, .int .i64 (i64 (n6 - 1)))] [(143, .arr 31 3 (List.map GStamp.lv l2)), (147, .arr 3 1 (List.map (LV.int .i64) l3))] rfl ?_ ?_
        · refine sN (oM (v := (.int _ _)) rfl ?_)
          refine sN (oSub rfl rfl ?_)
          refine sN (oA (v := (.int _ _)) rfl ?_)
          exact s0 (Wk.to (eC rfl (eC rfl (eC rfl (eC rfl (eC rfl (eC rfl eN)))))) (mC rfl (mC rfl mN)) rfl (prK rfl))
        exact roundN (e' := Env.of [(0, .lst 8 (List.map GEntryEvent.lv p0)), (4, .arr 143 (List.length l2)), (5, .arr 147 (List.length l3)), (6, .int .i64 n1), (7, .int .i64 n6), (8, .int .i64 (i64 (n6 - 1)))]) (m' := Mem.of [(143, .arr 31 3 (List.map GStamp.lv l2)), (147, .arr 3 1 (List.map (LV.int .i64) l3))]) (Wk.to (eC rfl (eC rfl (eC rfl (eC rfl (eC rfl (eC rfl eN)))))) (mC rfl (mC rfl mN)) rfl (prK rfl)) ⟨n6, (i64 (n6 - 1)), hrec2 ▸ h, rfl, rfl⟩
      replace h := iteF h hc10
      refine LH.skip ?_
      refine blockN ?_
      refine thenN ?_
      refine LH.wk (Wk.to (el := [(0, .lst 8 (List.map GEntryEvent.lv p0)), (4, .arr 143 (List.length l2)), (5, .arr 147 (List.length l3)), (6, .int .i64 n1), (7, .int .i64 n5), (8, .int .i64 n6)]) (ml := [(143, .arr 31 3 (List.map GStamp.lv l2)), (147, .arr 3 1 (List.map (LV.int .i64) l3))]) (eC rfl (eC rfl (eC rfl (eC rfl (eC rfl (eC rfl eN)))))) (mC rfl (mC rfl mN)) rfl (prK rfl)) ?_
      refine LH.loneT [(0, .lst 8 (List.map GEntryEvent.lv p0)), (4, .arr 143 (List.length l2)), (5, .arr 147 (List.length l3)), (6, .int .i64 n1), (7, .int .i64 n5), (8, .int .i64 (i64 (n6 - 1)))] [(143, .arr 31 3 (List.map GStamp.lv l2)), (147, .arr 3 1 (List.map (LV.int .i64) l3))] rfl ?_ ?_
      · refine sN (oM (v := (.int _ _)) rfl ?_)
        refine sN (oSub rfl rfl ?_)
        refine sN (oA (v := (.int _ _)) rfl ?_)
        exact s0 (Wk.to (eC rfl (eC rfl (eC rfl (eC rfl (eC rfl (eC rfl eN)))))) (mC rfl (mC rfl mN)) rfl (prK rfl))
      exact roundN (e' := Env.of [(0, .lst 8 (List.map GEntryEvent.lv p0)), (4, .arr 143 (List.length l2)), (5, .arr 147 (List.length l3)), (6, .int .i64 n1), (7, .int .i64 n5), (8, .int .i64 (i64 (n6 - 1)))]) (m' := Mem.of [(143, .arr 31 3 (List.map GStamp.lv l2)), (147, .arr 3 1 (List.map (LV.int .i64) l3))]) (Wk.to (eC rfl (eC rfl (eC rfl (eC rfl (eC rfl (eC rfl eN)))))) (mC rfl (mC rfl mN)) rfl (prK rfl)) ⟨n5, (i64 (n6 - 1)), hrec2 ▸ h, rfl, rfl⟩
    replace h := iteF h hc7
    refine LH.exit ?_
    refine thenX ?_
    refine roundX ?_
    refine blockH ?_
    refine thenN ?_
    refine LH.wk (Wk.to (el := [(0, .lst 8 (List.map GEntryEvent.lv p0)), (4, .arr 143 (List.length l2)), (5, .arr 147 (List.length l3)), (6, .int .i64 n1), (7, .int .i64 n5)]) (ml := [(143, .arr 31 3 (List.map GStamp.lv l2)), (147, .arr 3 1 (List.map (LV.int .i64) l3))]) (eC rfl (eC rfl (eC rfl (eC rfl (eC rfl eN))))) (mC rfl (mC rfl mN)) rfl (prK rfl)) ?_
    obtain ⟨x11, hx11, h⟩ := bindS h
    obtain ⟨v12, hv12, h⟩ := bindS h
    obtain ⟨v13, hv13, h⟩ := bindS h
    refine LH.loneT [(0, .lst 8 (List.map GEntryEvent.lv p0)), (4, .arr 143 (List.length v12)), (5, .arr 147 (List.length v13)), (6, .int .i64 n1)] [(143, .arr 31 3 (List.map GStamp.lv v12)), (147, .arr 3 1 (List.map (LV.int .i64) v13))] rfl ?_ ?_
    · refine sN (oM (v := (.arr _ _)) rfl ?_)
      refine sN (oM (v := (.lst _ _)) rfl ?_)
      refine sN (oM (v := (.int _ _)) rfl ?_)
      refine sN (oIx (f := GEntryEvent.lv) te25 tk35 ts35 rfl rfl GEntryEvent.ok hx11 rfl ?_)
      refine sN (oFaS tf35_0 tk31 ts31 rfl rfl rfl ?_)
      refine sN (oLdA rfl tk31 ta31 ts31 rfl rfl ?_)
      refine sN (oBS (f := GStamp.lv) (ys := [x11.Stamp]) te71 tr31 ts31 rfl rfl rfl GStamp.ok ?_)
      refine sN (oAp (f := GStamp.lv) te71 tr31 ts31 rfl rfl (prN rfl) rfl hv12 ?_)
      refine sN (oM (v := (.arr _ _)) rfl ?_)
      refine sN (oM (v := (.int _ _)) rfl ?_)
      refine sN (oBS (f := (LV.int .i64)) (ys := [n5]) te22 tr3 ts3 rfl rfl rfl okI ?_)
      refine sN (oAp (f := (LV.int .i64)) te22 tr3 ts3 rfl rfl (prN rfl) rfl hv13 ?_)
      refine sN (oA (v := (.arr _ _)) rfl ?_)
      refine sN (oA (v := (.arr _ _)) rfl ?_)
      exact s0 (Wk.to (eC rfl (eC rfl (eC rfl (eC rfl eN)))) (mC rfl (mC rfl mN)) rfl (prK rfl))
    refine blockN ?_
    refine thenN ?_
    refine LH.loneT [(0, .lst 8 (List.map GEntryEvent.lv p0)), (4, .arr 143 (List.length v12)), (5, .arr 147 (List.length v13)), (6, .int .i64 (i64 (n1 + 1)))] [(143, .arr 31 3 (List.map GStamp.lv v12)), (147, .arr 3 1 (List.map (LV.int .i64) v13))] rfl ?_ ?_
    · refine sN (oM (v := (.int _ _)) rfl ?_)
      refine sN (oAdd rfl rfl ?_)
      refine sN (oA (v := (.int _ _)) rfl ?_)
      exact s0 (Wk.to (eC rfl (eC rfl (eC rfl (eC rfl eN)))) (mC rfl (mC rfl mN)) rfl (prK rfl))
    exact roundN (e' := Env.of [(0, .lst 8 (List.map GEntryEvent.lv p0)), (4, .arr 143 (List.length v12)), (5, .arr 147 (List.length v13)), (6, .int .i64 (i64 (n1 + 1)))]) (m' := Mem.of [(143, .arr 31 3 (List.map GStamp.lv v12)), (147, .arr 3 1 (List.map (LV.int .i64) v13))]) (Wk.to (eC rfl (eC rfl (eC rfl (eC rfl eN)))) (mC rfl (mC rfl mN)) rfl (prK rfl)) ⟨(i64 (n1 + 1)), v12, v13, hrec1 ▸ h, rfl, rfl⟩
  replace h := iteF h hc4
  refine LH.exit ?_
  refine thenX ?_
  refine roundX ?_
  refine blockH ?_
  refine thenN ?_
  refine LH.wk ((Wk.trans (Wk.to (el := [(0, .lst 8 (List.map GEntryEvent.lv p0)), (4, .arr 143 (List.length l2)), (5, .arr 147 (List.length l3))]) (ml := [(143, .arr 31 3 (List.map GStamp.lv l2)), (147, .arr 3 1 (List.map (LV.int .i64) l3))]) (eC rfl (eC rfl (eC rfl eN))) (mC rfl (mC rfl mN)) rfl (prK rfl)) (Wk.trans (Wk.frzL (f := GStamp.lv) (el' := [(0, .lst 8 (List.map GEntryEvent.lv p0)), (4, .lst 3 (List.map GStamp.lv l2)), (5, .arr 147 (List.length l3))]) 143 31 3 l2 rfl rfl (prN rfl) (fK rfl (fZ (fK rfl fN)))) (Wk.trans (Wk.frzL (f := (LV.int .i64)) (el' := [(0, .lst 8 (List.map GEntryEvent.lv p0)), (4, .lst 3 (List.map GStamp.lv l2)), (5, .lst 1 (List.map (LV.int .i64) l3))]) 147 3 1 l3 rfl rfl (prN rfl) (fK rfl (fK rfl (fZ fN)))) (Wk.to (el := [(0, .lst 8 (List.map GEntryEvent.lv p0)), (4, .lst 3 (List.map GStamp.lv l2)), (5, .lst 1 (List.map (LV.int .i64) l3))]) (ml := []) (eC rfl (eC rfl (eC rfl eN))) mN rfl (prK rfl)))))) ?_
  obtain ⟨r14, hr14, h⟩ := bindS h
  refine LH.seqT [(0, .lst 8 (List.map GEntryEvent.lv p0)), (9, .lst 1 (List.map (LV.int .i64) r14.1)), (10, .int .i64 r14.2)] [] rfl ?_ ?_
  · refine sN (oM (v := (.lst _ _)) rfl ?_)
    refine sN (oM (v := (.lst _ _)) rfl ?_)
    refine sN (oCP (args := [.lst 3 (List.map GStamp.lv l2), .lst 1 (List.map (LV.int .i64) l3)]) rfl isF40 rfl (sbR (sbR sbN)) (ref02_Canonical_ok hr14) rfl ?_)
    refine sN (oM (v := (.tup _)) rfl ?_)
    refine sN (oEx rfl rfl ?_)
    refine sN (oEx rfl rfl ?_)
    refine sN (oA (v := (.lst _ _)) rfl ?_)
    refine sN (oA (v := (.int _ _)) rfl ?_)
    exact s0 (Wk.to (eC rfl (eC rfl (eC rfl eN))) mN rfl (prK rfl))
  refine LH.seq ?_
  refine LH.seqT [(0, .lst 8 (List.map GEntryEvent.lv p0)), (9, .lst 1 (List.map (LV.int .i64) r14.1)), (10, .int .i64 r14.2), (55, .bool (r14.2 != 0))] [] rfl ?_ ?_
  · refine sN (oM (v := (.int _ _)) rfl ?_)
    refine sN (oNe rfl rfl ?_)
    exact s0 (Wk.to (eC rfl (eC rfl (eC rfl (eC rfl eN)))) mN rfl (prK rfl))
  refine LH.cond (t := (r14.2 != 0)) rfl (fun hc15 => ?_) (fun hc15 => ?_)
  · replace h := iteT h hc15
    refine LH.seqT [(2, .nil), (3, .int .i64 r14.2)] [] rfl ?_ ?_
    · refine sN (oM (v := (.int _ _)) rfl ?_)
      refine sN (oA (v := .nil) rfl ?_)
      refine sN (oA (v := (.int _ _)) rfl ?_)
      exact s0 (Wk.to (eC rfl (eC rfl eN)) mN rfl (prK rfl))
    refine LH.ret ?_
    refine thenR ?_
    obtain rfl := Option.some.inj h
    exact retE (congrArg Array.toList Try.results15) (lrT rfl (lrT rfl (lr0 ⟨memN mN, rfl, prK rfl, (Sub.tup (sbL (sbR sbN)))⟩)))
  replace h := iteF h hc15
  refine LH.skip ?_
  refine thenN ?_
  refine LH.wk (Wk.to (el := [(0, .lst 8 (List.map GEntryEvent.lv p0)), (9, .lst 1 (List.map (LV.int .i64) r14.1))]) (ml := []) (eC rfl (eC rfl eN)) mN rfl (prK rfl)) ?_
  refine LH.seqT [(0, .lst 8 (List.map GEntryEvent.lv p0)), (9, .lst 1 (List.map (LV.int .i64) r14.1)), (11, .nil)] [] rfl ?_ ?_
  · refine sN (oA (v := .nil) rfl ?_)
    exact s0 (Wk.to (eC rfl (eC rfl (eC rfl eN))) mN rfl (prK rfl))
  refine LH.seq ?_
  refine LH.seqT [(0, .lst 8 (List.map GEntryEvent.lv p0)), (9, .lst 1 (List.map (LV.int .i64) r14.1)), (11, .nil), (12, .int .i64 0)] [] rfl ?_ ?_
  · refine sN (oA (v := (.int _ _)) rfl ?_)
    exact s0 (Wk.to (eC rfl (eC rfl (eC rfl (eC rfl eN)))) mN rfl (prK rfl))
  refine LH.block ?_
  refine LH.wk ((Wk.trans (Wk.to (el := [(0, .lst 8 (List.map GEntryEvent.lv p0)), (9, .lst 1 (List.map (LV.int .i64) r14.1)), (11, .nil), (12, .int .i64 0)]) (ml := []) (eC rfl (eC rfl (eC rfl (eC rfl eN)))) mN rfl (prK rfl)) (Wk.trans (Wk.to (el := [(0, .lst 8 (List.map GEntryEvent.lv p0)), (9, .lst 1 (List.map (LV.int .i64) r14.1)), (11, .nil), (12, .int .i64 0)]) (ml := []) (eC rfl (eC rfl (eC rfl (eC rfl eN)))) mN rfl (prK rfl)) (Wk.trans (Wk.ownL (el' := [(0, .lst 8 (List.map GEntryEvent.lv p0)), (9, .lst 1 (List.map (LV.int .i64) r14.1)), (11, .arr 172 (List.length ([] : List GEntryEvent))), (12, .int .i64 0)]) 172 35 8 rfl rfl (wK (wK (wO (wK wN))))) (Wk.to (el := [(0, .lst 8 (List.map GEntryEvent.lv p0)), (9, .lst 1 (List.map (LV.int .i64) r14.1)), (11, .arr 172 (List.length ([] : List GEntryEvent))), (12, .int .i64 0)]) (ml := [(172, .arr 35 8 (List.map GEntryEvent.lv ([] : List GEntryEvent)))]) (eC rfl (eC rfl (eC rfl (eC rfl eN)))) (mC rfl mN) rfl (prK rfl)))))) ?_
  refine LH.loop (fun n e m => ∃ (n16 : Int) (l17 : List GEntryEvent), ref13_Canonical_L3 p0 r14 n n16 l17 = some r ∧ e = Env.of [(0, .lst 8 (List.map GEntryEvent.lv p0)), (9, .lst 1 (List.map (LV.int .i64) r14.1)), (11, .arr 172 (List.length l17)), (12, .int .i64 n16)] ∧ m = Mem.of [(172, .arr 35 8 (List.map GEntryEvent.lv l17))]) F ⟨0, ([] : List GEntryEvent), h, rfl, rfl⟩ ?_
  clear h
  rintro n e m ⟨n16, l17, h, rfl, rfl⟩
  rcases n with _ | n
  · cases (show Option.none = some _ from h)
  obtain ⟨rec3, hrec3⟩ : ∃ f, f = ref13_Canonical_L3 p0 r14 n := ⟨_, rfl⟩
  replace h : ref13_Canonical_L3_B p0 r14 rec3 n16 l17 = some r := hrec3 ▸ h
  unfold ref13_Canonical_L3_B at h
  refine LH.seq ?_
  refine LH.seqT [(0, .lst 8 (List.map GEntryEvent.lv p0)), (9, .lst 1 (List.map (LV.int .i64) r14.1)), (11, .arr 172 (List.length l17)), (12, .int .i64 n16), (60, .bool (decide (n16 < (r14.1.length : Int))))] [(172, .arr 35 8 (List.map GEntryEvent.lv l17))] rfl ?_ ?_
  · refine sN (oM (v := (.int _ _)) rfl ?_)
    refine sN (oM (v := (.lst _ _)) rfl ?_)
    refine sN (oLnL (f := (LV.int .i64)) te22 rfl ?_)
    refine sN (oLt rfl rfl ?_)
    exact s0 (Wk.to (eC rfl (eC rfl (eC rfl (eC rfl (eC rfl eN))))) (mC rfl mN) rfl (prK rfl))
  refine LH.cond (t := (decide (n16 < (r14.1.length : Int)))) rfl (fun hc18 => ?_) (fun hc18 => ?_)
  · replace h := iteT h hc18
    refine LH.skip ?_
    refine thenN ?_
    refine LH.wk (Wk.to (el := [(0, .lst 8 (List.map GEntryEvent.lv p0)), (9, .lst 1 (List.map (LV.int .i64) r14.1)), (11, .arr 172 (List.length l17)), (12, .int .i64 n16)]) (ml := [(172, .arr 35 8 (List.map GEntryEvent.lv l17))]) (eC rfl (eC rfl (eC rfl (eC rfl eN)))) (mC rfl mN) rfl (prK rfl)) ?_
    refine LH.seq ?_
    refine LH.block ?_
    obtain ⟨x19, hx19, h⟩ := bindS h
    obtain ⟨x20, hx20, h⟩ := bindS h
    obtain ⟨v21, hv21, h⟩ := bindS h
    refine LH.loneT [(0, .lst 8 (List.map GEntryEvent.lv p0)), (9, .lst 1 (List.map (LV.int .i64) r14.1)), (11, .arr 172 (List.length v21)), (12, .int .i64 n16)] [(172, .arr 35 8 (List.map GEntryEvent.lv v21))] rfl ?_ ?_
    · refine sN (oM (v := (.arr _ _)) rfl ?_)
      refine sN (oM (v := (.lst _ _)) rfl ?_)
      refine sN (oM (v := (.lst _ _)) rfl ?_)
      refine sN (oM (v := (.int _ _)) rfl ?_)
      refine sN (oIx (f := (LV.int .i64)) te22 tk3 ts3 rfl rfl okI hx19 rfl ?_)
      refine sN (oLd rfl tk3 ta3 ?_)
      refine sN (oIx (f := GEntryEvent.lv) te25 tk35 ts35 rfl rfl GEntryEvent.ok hx20 rfl ?_)
      refine sN (oLdA rfl tk35 ta35 ts35 rfl rfl ?_)
      refine sN (oBS (f := GEntryEvent.lv) (ys := [x20]) te25 tr35 ts35 rfl rfl rfl GEntryEvent.ok ?_)
      refine sN (oAp (f := GEntryEvent.lv) te25 tr35 ts35 rfl rfl (prN rfl) rfl hv21 ?_)
      refine sN (oA (v := (.arr _ _)) rfl ?_)
      exact s0 (Wk.to (eC rfl (eC rfl (eC rfl (eC rfl eN)))) (mC rfl mN) rfl (prK rfl))
    refine blockN ?_
    refine thenN ?_
    refine LH.loneT [(0, .lst 8 (List.map GEntryEvent.lv p0)), (9, .lst 1 (List.map (LV.int .i64) r14.1)), (11, .arr 172 (List.length v21)), (12, .int .i64 (i64 (n16 + 1)))] [(172, .arr 35 8 (List.map GEntryEvent.lv v21))] rfl ?_ ?_
    · refine sN (oM (v := (.int _ _)) rfl ?_)
      refine sN (oAdd rfl rfl ?_)
      refine sN (oA (v := (.int _ _)) rfl ?_)
      exact s0 (Wk.to (eC rfl (eC rfl (eC rfl (eC rfl eN)))) (mC rfl mN) rfl (prK rfl))
    exact roundN (e' := Env.of [(0, .lst 8 (List.map GEntryEvent.lv p0)), (9, .lst 1 (List.map (LV.int .i64) r14.1)), (11, .arr 172 (List.length v21)), (12, .int .i64 (i64 (n16 + 1)))]) (m' := Mem.of [(172, .arr 35 8 (List.map GEntryEvent.lv v21))]) (Wk.to (eC rfl (eC rfl (eC rfl (eC rfl eN)))) (mC rfl mN) rfl (prK rfl)) ⟨(i64 (n16 + 1)), v21, hrec3 ▸ h, rfl, rfl⟩
  replace h := iteF h hc18
  refine LH.exit ?_
  refine thenX ?_
  refine roundX ?_
  refine blockH ?_
  refine thenN ?_
  refine LH.wk ((Wk.trans (Wk.to (el := [(11, .arr 172 (List.length l17))]) (ml := [(172, .arr 35 8 (List.map GEntryEvent.lv l17))]) (eC rfl eN) (mC rfl mN) rfl (prK rfl)) (Wk.trans (Wk.frzL (f := GEntryEvent.lv) (el' := [(11, .lst 8 (List.map GEntryEvent.lv l17))]) 172 35 8 l17 rfl rfl (prN rfl) (fZ fN)) (Wk.to (el := [(11, .lst 8 (List.map GEntryEvent.lv l17))]) (ml := []) (eC rfl eN) mN rfl (prK rfl))))) ?_
  refine LH.seqT [(2, .lst 8 (List.map GEntryEvent.lv l17)), (3, .int .i64 0)] [] rfl ?_ ?_
  · refine sN (oM (v := (.lst _ _)) rfl ?_)
    refine sN (oA (v := (.lst _ _)) rfl ?_)
    refine sN (oA (v := (.int _ _)) rfl ?_)
    exact s0 (Wk.to (eC rfl (eC rfl eN)) mN rfl (prK rfl))
  refine LH.ret ?_
  obtain rfl := Option.some.inj h
  exact retE (congrArg Array.toList Try.results15) (lrT rfl (lrT rfl (lr0 ⟨memN mN, rfl, prK rfl, (Sub.tup (sbR (sbR sbN)))⟩)))

theorem entry_validDeadlines_ok {p0 : GDeadlines} {r : Bool} (h : entry_validDeadlines p0 = some r) : LCall Try.prog 42 [.agg [.int .i64 p0.Close, .int .i64 p0.Late]] (Mem.of []) (.bool r) (Mem.of []) := by
  unfold entry_validDeadlines at h
  refine bodyT Try.func42 rfl (by rw [Try.ntmps42]; exact Nat.le_of_ble_eq_true rfl) ?_
  refine LH.wk (Wk.to (el := [(0, .agg [.int .i64 p0.Close, .int .i64 p0.Late])]) (ml := []) (eC rfl eN) mN rfl (prK rfl)) ?_
  refine LH.seqT [(1, .sptr [.int .i64 p0.Close, .int .i64 p0.Late])] [] rfl ?_ ?_
  · refine sB (oBxR rfl rfl rfl rfl rfl ?_)
    refine sN (oA (v := (.bool _)) rfl ?_)
    exact s0 (Wk.to (eC rfl eN) mN rfl (prK rfl))
  refine LH.seqT [(2, .bool ((decide (p0.Close ≥ 0)) && ((decide (p0.Close ≤ p0.Late)) && (decide (p0.Late ≤ 1000000)))))] [] rfl ?_ ?_
  · refine sN (oFaS tf41_0 tk3 ts3 rfl rfl rfl ?_)
    refine sN (oLd rfl tk3 ta3 ?_)
    refine sN (oGe rfl rfl ?_)
    refine sN (oM (v := (.bool _)) rfl ?_)
    by_cases hb2 : (decide (p0.Close ≥ 0)) = true
    · refine sT rfl (congrArg LV.bool hb2) (oFaS tf41_0 tk3 ts3 rfl rfl rfl ?_)
      refine sT rfl (congrArg LV.bool hb2) (oLd rfl tk3 ta3 ?_)
      refine sT rfl (congrArg LV.bool hb2) (oFaS tf41_1 tk3 ts3 rfl rfl rfl ?_)
      refine sT rfl (congrArg LV.bool hb2) (oLd rfl tk3 ta3 ?_)
      refine sT rfl (congrArg LV.bool hb2) (oLe rfl rfl ?_)
      refine sN (oPkT (congrArg LV.bool hb2) (v := (.bool _)) rfl ?_)
      refine sN (oM (v := (.bool _)) rfl ?_)
      by_cases hb3 : (decide (p0.Close ≤ p0.Late)) = true
      · refine sT rfl (congrArg LV.bool hb3) (oFaS tf41_1 tk3 ts3 rfl rfl rfl ?_)
        refine sT rfl (congrArg LV.bool hb3) (oLd rfl tk3 ta3 ?_)
        refine sT rfl (congrArg LV.bool hb3) (oLe rfl rfl ?_)
        refine sN (oPkT (congrArg LV.bool hb3) (v := (.bool _)) rfl ?_)
        refine sN (oA (v := (.bool _)) rfl ?_)
        exact s0 (Wk.to (eC (congrArg LV.bool (Eq.trans (andT hb3) (andT hb2))) eN) mN rfl (prK rfl))
      · replace hb3 := bF hb3
        refine sF rfl rfl hb3 ?_
        refine sF rfl rfl hb3 ?_
        refine sF rfl rfl hb3 ?_
        refine sN (oPkF (congrArg LV.bool hb3) (v := (.bool _)) rfl ?_)
        refine sN (oA (v := (.bool _)) rfl ?_)
        exact s0 (Wk.to (eC (congrArg LV.bool (Eq.trans (andF hb3) (andT hb2))) eN) mN rfl (prK rfl))
    · replace hb2 := bF hb2
      refine sF rfl rfl hb2 ?_
      refine sF rfl rfl hb2 ?_
      refine sF rfl rfl hb2 ?_
      refine sF rfl rfl hb2 ?_
      refine sF rfl rfl hb2 ?_
      refine sN (oPkF (congrArg LV.bool hb2) (v := (.bool _)) rfl ?_)
      refine sN (oM (v := (.bool _)) rfl ?_)
      refine sF rfl rfl rfl ?_
      refine sF rfl rfl rfl ?_
      refine sF rfl rfl rfl ?_
      refine sN (oPkF rfl (v := (.bool _)) rfl ?_)
      refine sN (oA (v := (.bool _)) rfl ?_)
      exact s0 (Wk.to (eC (congrArg LV.bool (andF hb2)) eN) mN rfl (prK rfl))
  refine LH.ret ?_
  obtain rfl := Option.some.inj h
  exact retE (congrArg Array.toList Try.results42) (lrT rfl (lr0 ⟨memN mN, rfl, prK rfl, Sub.rfl⟩))

theorem entry_isCentre_ok {p0 : Int} {r : Bool} (h : entry_isCentre p0 = some r) : LCall Try.prog 70 [.int .i64 p0] (Mem.of []) (.bool r) (Mem.of []) := by
  unfold entry_isCentre at h
  refine bodyT Try.func70 rfl (by rw [Try.ntmps70]; exact Nat.le_of_ble_eq_true rfl) ?_
  refine LH.wk (Wk.to (el := [(0, .int .i64 p0)]) (ml := []) (eC rfl eN) mN rfl (prK rfl)) ?_
  refine LH.seqT [(0, .int .i64 p0)] [] rfl ?_ ?_
  · refine sN (oA (v := (.bool _)) rfl ?_)
    exact s0 (Wk.to (eC rfl eN) mN rfl (prK rfl))
  refine LH.seqT [(2, .bool ((decide (p0 ≥ 1)) && (decide (p0 ≤ 99))))] [] rfl ?_ ?_
  · refine sN (oM (v := (.int _ _)) rfl ?_)
    refine sN (oGe rfl rfl ?_)
    refine sN (oM (v := (.bool _)) rfl ?_)
    by_cases hb2 : (decide (p0 ≥ 1)) = true
    · refine sT rfl (congrArg LV.bool hb2) (oM (v := (.int _ _)) rfl ?_)
      refine sT rfl (congrArg LV.bool hb2) (oLe rfl rfl ?_)
      refine sN (oPkT (congrArg LV.bool hb2) (v := (.bool _)) rfl ?_)
      refine sN (oA (v := (.bool _)) rfl ?_)
      exact s0 (Wk.to (eC (congrArg LV.bool (andT hb2)) eN) mN rfl (prK rfl))
    · replace hb2 := bF hb2
      refine sF rfl rfl hb2 ?_
      refine sF rfl rfl hb2 ?_
      refine sN (oPkF (congrArg LV.bool hb2) (v := (.bool _)) rfl ?_)
      refine sN (oA (v := (.bool _)) rfl ?_)
      exact s0 (Wk.to (eC (congrArg LV.bool (andF hb2)) eN) mN rfl (prK rfl))
  refine LH.ret ?_
  obtain rfl := Option.some.inj h
  exact retE (congrArg Array.toList Try.results70) (lrT rfl (lr0 ⟨memN mN, rfl, prK rfl, Sub.rfl⟩))

theorem entry_validEntry_ok {p0 : GEntry} {r : Bool} (h : entry_validEntry p0 = some r) : LCall Try.prog 61 [.agg [.int .i64 p0.Candidate, .int .i64 p0.Centre, .int .i64 p0.Paper]] (Mem.of []) (.bool r) (Mem.of []) := by
  unfold entry_validEntry at h
  refine bodyT Try.func61 rfl (by rw [Try.ntmps61]; exact Nat.le_of_ble_eq_true rfl) ?_
  refine LH.wk (Wk.to (el := [(0, .agg [.int .i64 p0.Candidate, .int .i64 p0.Centre, .int .i64 p0.Paper])]) (ml := []) (eC rfl eN) mN rfl (prK rfl)) ?_
  refine LH.seqT [(1, .sptr [.int .i64 p0.Candidate, .int .i64 p0.Centre, .int .i64 p0.Paper])] [] rfl ?_ ?_
  · refine sB (oBxR rfl rfl rfl rfl rfl ?_)
    refine sN (oA (v := (.bool _)) rfl ?_)
    exact s0 (Wk.to (eC rfl eN) mN rfl (prK rfl))
  obtain ⟨w2, hv, h⟩ := bindS h
  refine LH.seqT [(2, .bool w2)] [] rfl ?_ ?_
  · refine sN (oFaS tf33_0 tk3 ts3 rfl rfl rfl ?_)
    refine sN (oLd rfl tk3 ta3 ?_)
    refine sN (oGe rfl rfl ?_)
    refine sN (oM (v := (.bool _)) rfl ?_)
    by_cases hb3 : (decide (p0.Candidate ≥ 0)) = true
    · replace hv := iteT hv hb3
      refine sT rfl (congrArg LV.bool hb3) (oFaS tf33_0 tk3 ts3 rfl rfl rfl ?_)
      refine sT rfl (congrArg LV.bool hb3) (oLd rfl tk3 ta3 ?_)
      refine sT rfl (congrArg LV.bool hb3) (oLe rfl rfl ?_)
      refine sN (oPkT (congrArg LV.bool hb3) (v := (.bool _)) rfl ?_)
      refine sN (oM (v := (.bool _)) rfl ?_)
      by_cases hb4 : (decide (p0.Candidate ≤ 9999)) = true
      · replace hv := iteT hv hb4
        refine sT rfl (congrArg LV.bool hb4) (oFaS tf33_1 tk3 ts3 rfl rfl rfl ?_)
        refine sT rfl (congrArg LV.bool hb4) (oLd rfl tk3 ta3 ?_)
        obtain ⟨r5, hr5, hv⟩ := bindS hv
        refine sT rfl (congrArg LV.bool hb4) (oCP (args := [.int .i64 p0.Centre]) rfl isF70 rfl (sbR sbN) (entry_isCentre_ok hr5) rfl ?_)
        refine sN (oPkT (congrArg LV.bool hb4) (v := (.bool _)) rfl ?_)
        refine sN (oM (v := (.bool _)) rfl ?_)
        by_cases hb6 : r5 = true
        · replace hv := iteT hv hb6
          refine sT rfl (congrArg LV.bool hb6) (oFaS tf33_2 tk3 ts3 rfl rfl rfl ?_)
          refine sT rfl (congrArg LV.bool hb6) (oLd rfl tk3 ta3 ?_)
          refine sT rfl (congrArg LV.bool hb6) (oGe rfl rfl ?_)
          refine sN (oPkT (congrArg LV.bool hb6) (v := (.bool _)) rfl ?_)
          refine sN (oM (v := (.bool _)) rfl ?_)
          by_cases hb7 : (decide (p0.Paper ≥ 0)) = true
          · replace hv := iteT hv hb7
            refine sT rfl (congrArg LV.bool hb7) (oFaS tf33_2 tk3 ts3 rfl rfl rfl ?_)
            refine sT rfl (congrArg LV.bool hb7) (oLd rfl tk3 ta3 ?_)
            refine sT rfl (congrArg LV.bool hb7) (oLe rfl rfl ?_)
            refine sN (oPkT (congrArg LV.bool hb7) (v := (.bool _)) rfl ?_)
            refine sN (oA (v := (.bool _)) rfl ?_)
            obtain rfl := Option.some.inj hv
            exact s0 (Wk.to (eC rfl eN) mN rfl (prK rfl))
          · replace hb7 := bF hb7
            replace hv := iteF hv hb7
            refine sF rfl rfl hb7 ?_
            refine sF rfl rfl hb7 ?_
            refine sF rfl rfl hb7 ?_
            refine sN (oPkF (congrArg LV.bool hb7) (v := (.bool _)) rfl ?_)
            refine sN (oA (v := (.bool _)) rfl ?_)
            obtain rfl := Option.some.inj hv
            exact s0 (Wk.to (eC rfl eN) mN rfl (prK rfl))
        · replace hb6 := bF hb6
          replace hv := iteF hv hb6
          refine sF rfl rfl hb6 ?_
          refine sF rfl rfl hb6 ?_
          refine sF rfl rfl hb6 ?_
          refine sN (oPkF (congrArg LV.bool hb6) (v := (.bool _)) rfl ?_)
          refine sN (oM (v := (.bool _)) rfl ?_)
          refine sF rfl rfl rfl ?_
          refine sF rfl rfl rfl ?_
          refine sF rfl rfl rfl ?_
          refine sN (oPkF rfl (v := (.bool _)) rfl ?_)
          refine sN (oA (v := (.bool _)) rfl ?_)
          obtain rfl := Option.some.inj hv
          exact s0 (Wk.to (eC rfl eN) mN rfl (prK rfl))
      · replace hb4 := bF hb4
        replace hv := iteF hv hb4
        refine sF rfl rfl hb4 ?_
        refine sF rfl rfl hb4 ?_
        refine sF rfl rfl hb4 ?_
        refine sN (oPkF (congrArg LV.bool hb4) (v := (.bool _)) rfl ?_)
        refine sN (oM (v := (.bool _)) rfl ?_)
        refine sF rfl rfl rfl ?_
        refine sF rfl rfl rfl ?_
        refine sF rfl rfl rfl ?_
        refine sN (oPkF rfl (v := (.bool _)) rfl ?_)
        refine sN (oM (v := (.bool _)) rfl ?_)
        refine sF rfl rfl rfl ?_
        refine sF rfl rfl rfl ?_
        refine sF rfl rfl rfl ?_
        refine sN (oPkF rfl (v := (.bool _)) rfl ?_)
        refine sN (oA (v := (.bool _)) rfl ?_)
        obtain rfl := Option.some.inj hv
        exact s0 (Wk.to (eC rfl eN) mN rfl (prK rfl))
    · replace hb3 := bF hb3
      replace hv := iteF hv hb3
      refine sF rfl rfl hb3 ?_
      refine sF rfl rfl hb3 ?_
      refine sF rfl rfl hb3 ?_
      refine sN (oPkF (congrArg LV.bool hb3) (v := (.bool _)) rfl ?_)
      refine sN (oM (v := (.bool _)) rfl ?_)
      refine sF rfl rfl rfl ?_
      refine sF rfl rfl rfl ?_
      refine sF rfl rfl rfl ?_
      refine sN (oPkF rfl (v := (.bool _)) rfl ?_)
      refine sN (oM (v := (.bool _)) rfl ?_)
      refine sF rfl rfl rfl ?_
      refine sF rfl rfl rfl ?_
      refine sF rfl rfl rfl ?_
      refine sN (oPkF rfl (v := (.bool _)) rfl ?_)
      refine sN (oM (v := (.bool _)) rfl ?_)
      refine sF rfl rfl rfl ?_
      refine sF rfl rfl rfl ?_
      refine sF rfl rfl rfl ?_
      refine sN (oPkF rfl (v := (.bool _)) rfl ?_)
      refine sN (oA (v := (.bool _)) rfl ?_)
      obtain rfl := Option.some.inj hv
      exact s0 (Wk.to (eC rfl eN) mN rfl (prK rfl))
  clear hv
  refine LH.ret ?_
  obtain rfl := Option.some.inj h
  exact retE (congrArg Array.toList Try.results61) (lrT rfl (lr0 ⟨memN mN, rfl, prK rfl, Sub.rfl⟩))

theorem entry_validEvent_ok {p0 : GEntryEvent} {r : Bool} (h : entry_validEvent p0 = some r) : LCall Try.prog 55 [.agg [.int .i64 p0.Stamp.Time, .int .i64 p0.Stamp.Source, .int .i64 p0.Stamp.Seq, .int .i64 p0.Kind, .int .i64 p0.Entry.Candidate, .int .i64 p0.Entry.Centre, .int .i64 p0.Entry.Paper, .int .i64 p0.To]] (Mem.of []) (.bool r) (Mem.of []) := by
  unfold entry_validEvent at h
  refine bodyT Try.func55 rfl (by rw [Try.ntmps55]; exact Nat.le_of_ble_eq_true rfl) ?_
  refine LH.wk (Wk.to (el := [(0, .agg [.int .i64 p0.Stamp.Time, .int .i64 p0.Stamp.Source, .int .i64 p0.Stamp.Seq, .int .i64 p0.Kind, .int .i64 p0.Entry.Candidate, .int .i64 p0.Entry.Centre, .int .i64 p0.Entry.Paper, .int .i64 p0.To])]) (ml := []) (eC rfl eN) mN rfl (prK rfl)) ?_
  refine LH.seqT [(1, .sptr [.int .i64 p0.Stamp.Time, .int .i64 p0.Stamp.Source, .int .i64 p0.Stamp.Seq, .int .i64 p0.Kind, .int .i64 p0.Entry.Candidate, .int .i64 p0.Entry.Centre, .int .i64 p0.Entry.Paper, .int .i64 p0.To])] [] rfl ?_ ?_
  · refine sB (oBxR rfl rfl rfl rfl rfl ?_)
    refine sN (oA (v := (.bool _)) rfl ?_)
    exact s0 (Wk.to (eC rfl eN) mN rfl (prK rfl))
  refine LH.seq ?_
  refine LH.seqT [(1, .sptr [.int .i64 p0.Stamp.Time, .int .i64 p0.Stamp.Source, .int .i64 p0.Stamp.Seq, .int .i64 p0.Kind, .int .i64 p0.Entry.Candidate, .int .i64 p0.Entry.Centre, .int .i64 p0.Entry.Paper, .int .i64 p0.To]), (4, .int .i64 p0.Kind)] [] rfl ?_ ?_
  · refine sN (oFaS tf35_1 tk3 ts3 rfl rfl rfl ?_)
    refine sN (oLd rfl tk3 ta3 ?_)
    exact s0 (Wk.to (eC rfl (eC rfl eN)) mN rfl (prK rfl))
  refine LH.block ?_
  refine LH.mid (fun e m => ∃ (b1 : Bool), entry_validEvent_J1 p0 b1 = some r ∧ Wk (fun id => Mem.of [] id ≠ .none) e m (Env.of [(1, .sptr [.int .i64 p0.Stamp.Time, .int .i64 p0.Stamp.Source, .int .i64 p0.Stamp.Seq, .int .i64 p0.Kind, .int .i64 p0.Entry.Candidate, .int .i64 p0.Entry.Centre, .int .i64 p0.Entry.Paper, .int .i64 p0.To]), (4, .int .i64 p0.Kind), (5, .bool b1)]) (Mem.of [])) ?_ ?_
  · refine LH.seqT [(1, .sptr [.int .i64 p0.Stamp.Time, .int .i64 p0.Stamp.Source, .int .i64 p0.Stamp.Seq, .int .i64 p0.Kind, .int .i64 p0.Entry.Candidate, .int .i64 p0.Entry.Centre, .int .i64 p0.Entry.Paper, .int .i64 p0.To]), (4, .int .i64 p0.Kind), (5, .bool (p0.Kind == 1))] [] rfl ?_ ?_
    · refine sN (oEq rfl rfl ?_)
      refine sN (oA (v := (.bool _)) rfl ?_)
      exact s0 (Wk.to (eC rfl (eC rfl (eC rfl eN))) mN rfl (prK rfl))
    refine LH.cond (t := (p0.Kind == 1)) rfl (fun hc11 => ?_) (fun hc11 => ?_)
    · replace h := iteT h hc11
      refine LH.skip ?_
      exact thenN ⟨(p0.Kind == 1), h, Wk.to (eC rfl (eC rfl (eC rfl eN))) mN rfl (prK rfl)⟩
    replace h := iteF h hc11
    refine LH.loneT [(1, .sptr [.int .i64 p0.Stamp.Time, .int .i64 p0.Stamp.Source, .int .i64 p0.Stamp.Seq, .int .i64 p0.Kind, .int .i64 p0.Entry.Candidate, .int .i64 p0.Entry.Centre, .int .i64 p0.Entry.Paper, .int .i64 p0.To]), (4, .int .i64 p0.Kind), (5, .bool (p0.Kind == 2))] [] rfl ?_ ?_
    · refine sN (oEq rfl rfl ?_)
      refine sN (oA (v := (.bool _)) rfl ?_)
      exact s0 (Wk.to (eC rfl (eC rfl (eC rfl eN))) mN rfl (prK rfl))
    exact thenN ⟨(p0.Kind == 2), h, Wk.to (eC rfl (eC rfl (eC rfl eN))) mN rfl (prK rfl)⟩
  clear h
  rintro e m ⟨b1, h, hw⟩
  refine LH.wk hw ?_
  clear hw
  unfold entry_validEvent_J1 at h
  refine LH.cond (t := b1) rfl (fun hc2 => ?_) (fun hc2 => ?_)
  · replace h := iteT h hc2
    obtain ⟨r3, hr3, h⟩ := bindS h
    refine LH.seqT [(2, .bool r3)] [] rfl ?_ ?_
    · refine sN (oFaS tf35_2 tk33 ts33 rfl rfl rfl ?_)
      refine sN (oLdA rfl tk33 ta33 ts33 rfl rfl ?_)
      refine sN (oCP (args := [.agg [.int .i64 p0.Entry.Candidate, .int .i64 p0.Entry.Centre, .int .i64 p0.Entry.Paper]]) rfl isF61 rfl (sbR sbN) (entry_validEntry_ok hr3) rfl ?_)
      refine sN (oA (v := (.bool _)) rfl ?_)
      exact s0 (Wk.to (eC rfl eN) mN rfl (prK rfl))
    refine LH.ret ?_
    refine blockR ?_
    refine thenR ?_
    obtain rfl := Option.some.inj h
    exact retE (congrArg Array.toList Try.results55) (lrT rfl (lr0 ⟨memN mN, rfl, prK rfl, Sub.rfl⟩))
  replace h := iteF h hc2
  refine LH.seqT [(1, .sptr [.int .i64 p0.Stamp.Time, .int .i64 p0.Stamp.Source, .int .i64 p0.Stamp.Seq, .int .i64 p0.Kind, .int .i64 p0.Entry.Candidate, .int .i64 p0.Entry.Centre, .int .i64 p0.Entry.Paper, .int .i64 p0.To]), (11, .bool (p0.Kind == 3))] [] rfl ?_ ?_
  · refine sN (oEq rfl rfl ?_)
    refine sN (oA (v := (.bool _)) rfl ?_)
    exact s0 (Wk.to (eC rfl (eC rfl eN)) mN rfl (prK rfl))
  refine LH.cond (t := (p0.Kind == 3)) rfl (fun hc4 => ?_) (fun hc4 => ?_)
  · replace h := iteT h hc4
    obtain ⟨w6, hv, h⟩ := bindS h
    refine LH.seqT [(2, .bool w6)] [] rfl ?_ ?_
    · refine sN (oFaS tf35_2 tk33 ts33 rfl rfl rfl ?_)
      refine sN (oLdA rfl tk33 ta33 ts33 rfl rfl ?_)
      obtain ⟨r7, hr7, hv⟩ := bindS hv
      refine sN (oCP (args := [.agg [.int .i64 p0.Entry.Candidate, .int .i64 p0.Entry.Centre, .int .i64 p0.Entry.Paper]]) rfl isF61 rfl (sbR sbN) (entry_validEntry_ok hr7) rfl ?_)
      refine sN (oM (v := (.bool _)) rfl ?_)
      by_cases hb8 : r7 = true
      · replace hv := iteT hv hb8
        refine sT rfl (congrArg LV.bool hb8) (oFaS tf35_3 tk3 ts3 rfl rfl rfl ?_)
        refine sT rfl (congrArg LV.bool hb8) (oLd rfl tk3 ta3 ?_)
        obtain ⟨r9, hr9, hv⟩ := bindS hv
        refine sT rfl (congrArg LV.bool hb8) (oCP (args := [.int .i64 p0.To]) rfl isF70 rfl (sbR sbN) (entry_isCentre_ok hr9) rfl ?_)
        refine sN (oPkT (congrArg LV.bool hb8) (v := (.bool _)) rfl ?_)
        refine sN (oM (v := (.bool _)) rfl ?_)
        by_cases hb10 : r9 = true
        · replace hv := iteT hv hb10
          refine sT rfl (congrArg LV.bool hb10) (oFaS tf35_3 tk3 ts3 rfl rfl rfl ?_)
          refine sT rfl (congrArg LV.bool hb10) (oLd rfl tk3 ta3 ?_)
          refine sT rfl (congrArg LV.bool hb10) (oFaS tf35_2 tk33 ts33 rfl rfl rfl ?_)
          refine sT rfl (congrArg LV.bool hb10) (oFaS tf33_1 tk3 ts3 rfl rfl rfl ?_)
          refine sT rfl (congrArg LV.bool hb10) (oLd rfl tk3 ta3 ?_)
          refine sT rfl (congrArg LV.bool hb10) (oNe rfl rfl ?_)
          refine sN (oPkT (congrArg LV.bool hb10) (v := (.bool _)) rfl ?_)
          refine sN (oA (v := (.bool _)) rfl ?_)
          obtain rfl := Option.some.inj hv
          exact s0 (Wk.to (eC rfl eN) mN rfl (prK rfl))
        · replace hb10 := bF hb10
          replace hv := iteF hv hb10
          refine sF rfl rfl hb10 ?_
          refine sF rfl rfl hb10 ?_
          refine sF rfl rfl hb10 ?_
          refine sF rfl rfl hb10 ?_
          refine sF rfl rfl hb10 ?_
          refine sF rfl rfl hb10 ?_
          refine sN (oPkF (congrArg LV.bool hb10) (v := (.bool _)) rfl ?_)
          refine sN (oA (v := (.bool _)) rfl ?_)
          obtain rfl := Option.some.inj hv
          exact s0 (Wk.to (eC rfl eN) mN rfl (prK rfl))
      · replace hb8 := bF hb8
        replace hv := iteF hv hb8
        refine sF rfl rfl hb8 ?_
        refine sF rfl rfl hb8 ?_
        refine sF rfl rfl hb8 ?_
        refine sN (oPkF (congrArg LV.bool hb8) (v := (.bool _)) rfl ?_)
        refine sN (oM (v := (.bool _)) rfl ?_)
        refine sF rfl rfl rfl ?_
        refine sF rfl rfl rfl ?_
        refine sF rfl rfl rfl ?_
        refine sF rfl rfl rfl ?_
        refine sF rfl rfl rfl ?_
        refine sF rfl rfl rfl ?_
        refine sN (oPkF rfl (v := (.bool _)) rfl ?_)
        refine sN (oA (v := (.bool _)) rfl ?_)
        obtain rfl := Option.some.inj hv
        exact s0 (Wk.to (eC rfl eN) mN rfl (prK rfl))
    clear hv
    refine LH.ret ?_
    refine blockR ?_
    refine thenR ?_
    obtain rfl := Option.some.inj h
    exact retE (congrArg Array.toList Try.results55) (lrT rfl (lr0 ⟨memN mN, rfl, prK rfl, Sub.rfl⟩))
  replace h := iteF h hc4
  refine LH.skip ?_
  refine blockN ?_
  refine thenN ?_
  refine LH.wk (Wk.to (el := []) (ml := []) eN mN rfl (prK rfl)) ?_
  refine LH.seqT [(2, .bool false)] [] rfl ?_ ?_
  · refine sN (oA (v := (.bool _)) rfl ?_)
    exact s0 (Wk.to (eC rfl eN) mN rfl (prK rfl))
  refine LH.ret ?_
  obtain rfl := Option.some.inj h
  exact retE (congrArg Array.toList Try.results55) (lrT rfl (lr0 ⟨memN mN, rfl, prK rfl, Sub.rfl⟩))

theorem slices_BinarySearchFunc_Enrolment_Enrolment_Entry_ok {F : Nat} {p0 : List GEnrolment} {p1 : GEntry} {p2 : (GEnrolment → GEntry → Option Int)} {r : Int × Bool} {p2_f : Nat} {p2_c : List LV} (p2_i : ∃ fn, Try.prog.funcs[p2_f]? = some fn ∧ (fn.name == "runtime.NumGoroutine") = false ∧ fn.body.isNone = false) (p2_q : LV.pureL p2_c = true) (p2_k : ∀ (x0 : GEnrolment) (x1 : GEntry) (q : Int), p2 x0 x1 = some q → LCall Try.prog p2_f ([.agg [.int .i64 x0.Entry.Candidate, .int .i64 x0.Entry.Centre, .int .i64 x0.Entry.Paper, .bool x0.Late], .agg [.int .i64 x1.Candidate, .int .i64 x1.Centre, .int .i64 x1.Paper]] ++ p2_c) (Mem.of []) (.int .i64 q) (Mem.of [])) (h : slices_BinarySearchFunc_Enrolment_Enrolment_Entry F p0 p1 p2 = some r) : LCall Try.prog 56 [.lst 4 (List.map GEnrolment.lv p0), .agg [.int .i64 p1.Candidate, .int .i64 p1.Centre, .int .i64 p1.Paper], .fn p2_f p2_c] (Mem.of []) (.tup [.int .i64 r.1, .bool r.2]) (Mem.of []) := by
  have p2_p : ∀ {l : List LV}, LV.pureL l = true → LV.pureL (l ++ p2_c) = true := pnC p2_q
  have p2_r : LV.refsL p2_c = [] := refsL_pure p2_q
  unfold slices_BinarySearchFunc_Enrolment_Enrolment_Entry at h
  refine bodyT Try.func56 rfl (by rw [Try.ntmps56]; exact Nat.le_of_ble_eq_true rfl) ?_
  refine LH.wk (Wk.to (el := [(0, .lst 4 (List.map GEnrolment.lv p0)), (1, .agg [.int .i64 p1.Candidate, .int .i64 p1.Centre, .int .i64 p1.Paper]), (2, .fn p2_f p2_c)]) (ml := []) (eC rfl (eC rfl (eC rfl eN))) mN (by simp [keptRefs, LV.refs, LV.refsL, Env.args, Env.of, Env.put, Env.drop, p2_r]) (prK rfl)) ?_
  refine LH.seqT [(0, .lst 4 (List.map GEnrolment.lv p0)), (2, .fn p2_f p2_c), (4, .sptr [.int .i64 p1.Candidate, .int .i64 p1.Centre, .int .i64 p1.Paper])] [] rfl ?_ ?_
  · refine sB (oBxR rfl rfl rfl rfl rfl ?_)
    refine sN (oA (v := (.int _ _)) rfl ?_)
    refine sN (oA (v := (.bool _)) rfl ?_)
    exact s0 (Wk.to (eC rfl (eC rfl (eC rfl eN))) mN (by simp [keptRefs, LV.refs, LV.refsL, Env.args, Env.of, Env.put, Env.drop, p2_r]) (prK rfl))
  refine LH.seqT [(0, .lst 4 (List.map GEnrolment.lv p0)), (2, .fn p2_f p2_c), (4, .sptr [.int .i64 p1.Candidate, .int .i64 p1.Centre, .int .i64 p1.Paper]), (8, .int .i64 (p0.length : Int))] [] rfl ?_ ?_
  · refine sN (oM (v := (.lst _ _)) rfl ?_)
    refine sN (oLnL (f := GEnrolment.lv) te44 rfl ?_)
    refine sN (oA (v := (.int _ _)) rfl ?_)
    exact s0 (Wk.to (eC rfl (eC rfl (eC rfl (eC rfl eN)))) mN (by simp [keptRefs, LV.refs, LV.refsL, Env.args, Env.of, Env.put, Env.drop, p2_r]) (prK rfl))
  refine LH.seqT [(0, .lst 4 (List.map GEnrolment.lv p0)), (2, .fn p2_f p2_c), (4, .sptr [.int .i64 p1.Candidate, .int .i64 p1.Centre, .int .i64 p1.Paper]), (8, .int .i64 (p0.length : Int)), (9, .int .i64 0), (10, .int .i64 (p0.length : Int))] [] rfl ?_ ?_
  · refine sN (oM (v := (.int _ _)) rfl ?_)
    refine sN (oA (v := (.int _ _)) rfl ?_)
    refine sN (oA (v := (.int _ _)) rfl ?_)
    exact s0 (Wk.to (eC rfl (eC rfl (eC rfl (eC rfl (eC rfl (eC rfl eN)))))) mN (by simp [keptRefs, LV.refs, LV.refsL, Env.args, Env.of, Env.put, Env.drop, p2_r]) (prK rfl))
  refine LH.seq ?_
  refine LH.block ?_
  refine LH.loop (fun n e m => ∃ (n1 : Int) (n2 : Int), slices_BinarySearchFunc_Enrolment_Enrolment_Entry_L1 p0 p1 p2 n n1 n2 = some r ∧ e = Env.of [(0, .lst 4 (List.map GEnrolment.lv p0)), (2, .fn p2_f p2_c), (4, .sptr [.int .i64 p1.Candidate, .int .i64 p1.Centre, .int .i64 p1.Paper]), (8, .int .i64 (p0.length : Int)), (9, .int .i64 n1), (10, .int .i64 n2)] ∧ m = Mem.of []) F ⟨0, (p0.length : Int), h, rfl, rfl⟩ ?_
  clear h
  rintro n e m ⟨n1, n2, h, rfl, rfl⟩
  rcases n with _ | n
  · cases (show Option.none = some _ from h)
  obtain ⟨rec1, hrec1⟩ : ∃ f, f = slices_BinarySearchFunc_Enrolment_Enrolment_Entry_L1 p0 p1 p2 n := ⟨_, rfl⟩
  replace h : slices_BinarySearchFunc_Enrolment_Enrolment_Entry_L1_B p0 p1 p2 rec1 n1 n2 = some r := hrec1 ▸ h
  unfold slices_BinarySearchFunc_Enrolment_Enrolment_Entry_L1_B at h
  refine LH.seq ?_
  refine LH.seqT [(0, .lst 4 (List.map GEnrolment.lv p0)), (2, .fn p2_f p2_c), (4, .sptr [.int .i64 p1.Candidate, .int .i64 p1.Centre, .int .i64 p1.Paper]), (8, .int .i64 (p0.length : Int)), (9, .int .i64 n1), (10, .int .i64 n2), (17, .bool (decide (n1 < n2)))] [] rfl ?_ ?_
  · refine sN (oM (v := (.int _ _)) rfl ?_)
    refine sN (oM (v := (.int _ _)) rfl ?_)
    refine sN (oLt rfl rfl ?_)
    exact s0 (Wk.to (eC rfl (eC rfl (eC rfl (eC rfl (eC rfl (eC rfl (eC rfl eN))))))) mN (by simp [keptRefs, LV.refs, LV.refsL, Env.args, Env.of, Env.put, Env.drop, p2_r]) (prK rfl))
  refine LH.cond (t := (decide (n1 < n2))) rfl (fun hc3 => ?_) (fun hc3 => ?_)
  · replace h := iteT h hc3
    refine LH.skip ?_
    refine thenN ?_
    refine LH.wk (Wk.to (el := [(0, .lst 4 (List.map GEnrolment.lv p0)), (2, .fn p2_f p2_c), (4, .sptr [.int .i64 p1.Candidate, .int .i64 p1.Centre, .int .i64 p1.Paper]), (8, .int .i64 (p0.length : Int)), (9, .int .i64 n1), (10, .int .i64 n2)]) (ml := []) (eC rfl (eC rfl (eC rfl (eC rfl (eC rfl (eC rfl eN)))))) mN (by simp [keptRefs, LV.refs, LV.refsL, Env.args, Env.of, Env.put, Env.drop, p2_r]) (prK rfl)) ?_
    refine LH.block ?_
    refine LH.seqT [(0, .lst 4 (List.map GEnrolment.lv p0)), (2, .fn p2_f p2_c), (4, .sptr [.int .i64 p1.Candidate, .int .i64 p1.Centre, .int .i64 p1.Paper]), (8, .int .i64 (p0.length : Int)), (9, .int .i64 n1), (10, .int .i64 n2), (11, .int .i64 (i64 (shrI .u64 (IntKind.u64.wrap (i64 (n1 + n2))) 1)))] [] rfl ?_ ?_
    · refine sN (oM (v := (.int _ _)) rfl ?_)
      refine sN (oM (v := (.int _ _)) rfl ?_)
      refine sN (oAdd rfl rfl ?_)
      refine sN (oCv tk3 ti101 rfl ?_)
      refine sX ((ok_shr rfl rfl (by decide)).ok) ?_
      refine sN (oCv tk101 ti3 rfl ?_)
      refine sN (oA (v := (.int _ _)) rfl ?_)
      exact s0 (Wk.to (eC rfl (eC rfl (eC rfl (eC rfl (eC rfl (eC rfl (eC rfl eN))))))) mN (by simp [keptRefs, LV.refs, LV.refsL, Env.args, Env.of, Env.put, Env.drop, p2_r]) (prK rfl))
    obtain ⟨x4, hx4, h⟩ := bindS h
    obtain ⟨r5, hr5, h⟩ := bindS h
    refine LH.seqJM mixed [] [0, 0, 0, 0, 0, 0, 0, 0] [(0, .lst 4 (List.map GEnrolment.lv p0)), (2, .fn p2_f p2_c), (4, .sptr [.int .i64 p1.Candidate, .int .i64 p1.Centre, .int .i64 p1.Paper]), (8, .int .i64 (p0.length : Int)), (9, .int .i64 n1), (10, .int .i64 n2), (11, .int .i64 (i64 (shrI .u64 (IntKind.u64.wrap (i64 (n1 + n2))) 1))), (31, .bool (decide (r5 < 0)))] [] rfl rfl (by kernel_rfl) ?_ ?_
    · refine mN0 (oM (v := (.fn _ _)) rfl ⟨rfl, ?_⟩)
      refine mN0 (oM (v := (.lst _ _)) rfl ⟨rfl, ?_⟩)
      refine mN0 (oM (v := (.int _ _)) rfl ⟨rfl, ?_⟩)
      refine mN0 (oIx (f := GEnrolment.lv) te44 tk53 ts53 rfl rfl GEnrolment.ok hx4 rfl ⟨rfl, ?_⟩)
      refine mN0 (oLdA rfl tk53 ta53 ts53 rfl rfl ⟨rfl, ?_⟩)
      refine mN0 (oLdA rfl tk33 ta33 ts33 rfl rfl ⟨rfl, ?_⟩)
      refine mN0 (oCP (args := [.agg [.int .i64 x4.Entry.Candidate, .int .i64 x4.Entry.Centre, .int .i64 x4.Entry.Paper, .bool x4.Late], .agg [.int .i64 p1.Candidate, .int .i64 p1.Centre, .int .i64 p1.Paper]] ++ p2_c) (args' := [.agg [.int .i64 x4.Entry.Candidate, .int .i64 x4.Entry.Centre, .int .i64 x4.Entry.Paper, .bool x4.Late], .agg [.int .i64 p1.Candidate, .int .i64 p1.Centre, .int .i64 p1.Paper]] ++ p2_c) rfl p2_i rfl SubL.rfl (p2_k _ _ _ hr5) (p2_p rfl) ⟨rfl, ?_⟩)
      refine mN0 (oLt rfl rfl ⟨rfl, ?_⟩)
      exact m0 (Wk.to (eC rfl (eC rfl (eC rfl (eC rfl (eC rfl (eC rfl (eC rfl (eC rfl eN)))))))) mN (by simp [keptRefs, LV.refs, LV.refsL, Env.args, Env.of, Env.put, Env.drop, p2_r]) (prK rfl))
    refine LH.cond (t := (decide (r5 < 0))) rfl (fun hc6 => ?_) (fun hc6 => ?_)
    · replace h := iteT h hc6
      refine LH.loneT [(0, .lst 4 (List.map GEnrolment.lv p0)), (2, .fn p2_f p2_c), (4, .sptr [.int .i64 p1.Candidate, .int .i64 p1.Centre, .int .i64 p1.Paper]), (8, .int .i64 (p0.length : Int)), (9, .int .i64 (i64 ((i64 (shrI .u64 (IntKind.u64.wrap (i64 (n1 + n2))) 1)) + 1))), (10, .int .i64 n2)] [] rfl ?_ ?_
      · refine sN (oM (v := (.int _ _)) rfl ?_)
        refine sN (oAdd rfl rfl ?_)
        refine sN (oA (v := (.int _ _)) rfl ?_)
        exact s0 (Wk.to (eC rfl (eC rfl (eC rfl (eC rfl (eC rfl (eC rfl eN)))))) mN (by simp [keptRefs, LV.refs, LV.refsL, Env.args, Env.of, Env.put, Env.drop, p2_r]) (prK rfl))
      refine blockN ?_
      exact roundN (e' := Env.of [(0, .lst 4 (List.map GEnrolment.lv p0)), (2, .fn p2_f p2_c), (4, .sptr [.int .i64 p1.Candidate, .int .i64 p1.Centre, .int .i64 p1.Paper]), (8, .int .i64 (p0.length : Int)), (9, .int .i64 (i64 ((i64 (shrI .u64 (IntKind.u64.wrap (i64 (n1 + n2))) 1)) + 1))), (10, .int .i64 n2)]) (m' := Mem.of []) (Wk.to (eC rfl (eC rfl (eC rfl (eC rfl (eC rfl (eC rfl eN)))))) mN (by simp [keptRefs, LV.refs, LV.refsL, Env.args, Env.of, Env.put, Env.drop, p2_r]) (prK rfl)) ⟨(i64 ((i64 (shrI .u64 (IntKind.u64.wrap (i64 (n1 + n2))) 1)) + 1)), n2, hrec1 ▸ h, rfl, rfl⟩
    replace h := iteF h hc6
    refine LH.loneT [(0, .lst 4 (List.map GEnrolment.lv p0)), (2, .fn p2_f p2_c), (4, .sptr [.int .i64 p1.Candidate, .int .i64 p1.Centre, .int .i64 p1.Paper]), (8, .int .i64 (p0.length : Int)), (9, .int .i64 n1), (10, .int .i64 (i64 (shrI .u64 (IntKind.u64.wrap (i64 (n1 + n2))) 1)))] [] rfl ?_ ?_
    · refine sN (oM (v := (.int _ _)) rfl ?_)
      refine sN (oA (v := (.int _ _)) rfl ?_)
      exact s0 (Wk.to (eC rfl (eC rfl (eC rfl (eC rfl (eC rfl (eC rfl eN)))))) mN (by simp [keptRefs, LV.refs, LV.refsL, Env.args, Env.of, Env.put, Env.drop, p2_r]) (prK rfl))
    refine blockN ?_
    exact roundN (e' := Env.of [(0, .lst 4 (List.map GEnrolment.lv p0)), (2, .fn p2_f p2_c), (4, .sptr [.int .i64 p1.Candidate, .int .i64 p1.Centre, .int .i64 p1.Paper]), (8, .int .i64 (p0.length : Int)), (9, .int .i64 n1), (10, .int .i64 (i64 (shrI .u64 (IntKind.u64.wrap (i64 (n1 + n2))) 1)))]) (m' := Mem.of []) (Wk.to (eC rfl (eC rfl (eC rfl (eC rfl (eC rfl (eC rfl eN)))))) mN (by simp [keptRefs, LV.refs, LV.refsL, Env.args, Env.of, Env.put, Env.drop, p2_r]) (prK rfl)) ⟨n1, (i64 (shrI .u64 (IntKind.u64.wrap (i64 (n1 + n2))) 1)), hrec1 ▸ h, rfl, rfl⟩
  replace h := iteF h hc3
  refine LH.exit ?_
  refine thenX ?_
  refine roundX ?_
  refine blockH ?_
  refine thenN ?_
  refine LH.wk (Wk.to (el := [(0, .lst 4 (List.map GEnrolment.lv p0)), (2, .fn p2_f p2_c), (4, .sptr [.int .i64 p1.Candidate, .int .i64 p1.Centre, .int .i64 p1.Paper]), (8, .int .i64 (p0.length : Int)), (9, .int .i64 n1)]) (ml := []) (eC rfl (eC rfl (eC rfl (eC rfl (eC rfl eN))))) mN (by simp [keptRefs, LV.refs, LV.refsL, Env.args, Env.of, Env.put, Env.drop, p2_r]) (prK rfl)) ?_
  obtain ⟨w8, hv, h⟩ := bindS h
  refine LH.seqJM mixed [] [0, 0, 0, 0, 0, 0, 0, 0, 0, 0, 0, 0, 0, 0, 0, 0] [(6, .int .i64 n1), (7, .bool w8)] [] rfl rfl (by kernel_rfl) ?_ ?_
  · refine mN0 (oM (v := (.int _ _)) rfl ⟨rfl, ?_⟩)
    refine mN0 (oM (v := (.int _ _)) rfl ⟨rfl, ?_⟩)
    refine mN0 (oM (v := (.int _ _)) rfl ⟨rfl, ?_⟩)
    refine mN0 (oLt rfl rfl ⟨rfl, ?_⟩)
    refine mN0 (oM (v := (.bool _)) rfl ⟨rfl, ?_⟩)
    by_cases hb9 : (decide (n1 < (p0.length : Int))) = true
    · replace hv := iteT hv hb9
      refine mT rfl (congrArg LV.bool hb9) (mN0 (oM (v := (.fn _ _)) rfl ⟨rfl, ?_⟩))
      refine mT rfl (congrArg LV.bool hb9) (mN0 (oM (v := (.lst _ _)) rfl ⟨rfl, ?_⟩))
      refine mT rfl (congrArg LV.bool hb9) (mN0 (oM (v := (.int _ _)) rfl ⟨rfl, ?_⟩))
      obtain ⟨x10, hx10, hv⟩ := bindS hv
      refine mT rfl (congrArg LV.bool hb9) (mN0 (oIx (f := GEnrolment.lv) te44 tk53 ts53 rfl rfl GEnrolment.ok hx10 rfl ⟨rfl, ?_⟩))
      refine mT rfl (congrArg LV.bool hb9) (mN0 (oLdA rfl tk53 ta53 ts53 rfl rfl ⟨rfl, ?_⟩))
      refine mT rfl (congrArg LV.bool hb9) (mN0 (oLdA rfl tk33 ta33 ts33 rfl rfl ⟨rfl, ?_⟩))
      obtain ⟨r11, hr11, hv⟩ := bindS hv
      refine mT rfl (congrArg LV.bool hb9) (mN0 (oCP (args := [.agg [.int .i64 x10.Entry.Candidate, .int .i64 x10.Entry.Centre, .int .i64 x10.Entry.Paper, .bool x10.Late], .agg [.int .i64 p1.Candidate, .int .i64 p1.Centre, .int .i64 p1.Paper]] ++ p2_c) (args' := [.agg [.int .i64 x10.Entry.Candidate, .int .i64 x10.Entry.Centre, .int .i64 x10.Entry.Paper, .bool x10.Late], .agg [.int .i64 p1.Candidate, .int .i64 p1.Centre, .int .i64 p1.Paper]] ++ p2_c) rfl p2_i rfl SubL.rfl (p2_k _ _ _ hr11) (p2_p rfl) ⟨rfl, ?_⟩))
      refine mT rfl (congrArg LV.bool hb9) (mN0 (oEq rfl rfl ⟨rfl, ?_⟩))
      refine mN0 (oPkT (congrArg LV.bool hb9) (v := (.bool _)) rfl ⟨rfl, ?_⟩)
      refine mN0 (oA (v := (.int _ _)) rfl ⟨rfl, ?_⟩)
      refine mN0 (oA (v := (.bool _)) rfl ⟨rfl, ?_⟩)
      obtain rfl := Option.some.inj hv
      exact m0 (Wk.to (eC rfl (eC rfl eN)) mN (by simp [keptRefs, LV.refs, LV.refsL, Env.args, Env.of, Env.put, Env.drop, p2_r]) (prK rfl))
    · replace hb9 := bF hb9
      replace hv := iteF hv hb9
      refine mF rfl rfl hb9 ?_
      refine mF rfl rfl hb9 ?_
      refine mF rfl rfl hb9 ?_
      refine mF rfl rfl hb9 ?_
      refine mF rfl rfl hb9 ?_
      refine mF rfl rfl hb9 ?_
      refine mF rfl rfl hb9 ?_
      refine mF rfl rfl hb9 ?_
      refine mN0 (oPkF (congrArg LV.bool hb9) (v := (.bool _)) rfl ⟨rfl, ?_⟩)
      refine mN0 (oA (v := (.int _ _)) rfl ⟨rfl, ?_⟩)
      refine mN0 (oA (v := (.bool _)) rfl ⟨rfl, ?_⟩)
      obtain rfl := Option.some.inj hv
      exact m0 (Wk.to (eC rfl (eC rfl eN)) mN (by simp [keptRefs, LV.refs, LV.refsL, Env.args, Env.of, Env.put, Env.drop, p2_r]) (prK rfl))
  clear hv
  refine LH.ret ?_
  obtain rfl := Option.some.inj h
  exact retE (congrArg Array.toList Try.results56) (lrT rfl (lrT rfl (lr0 ⟨memN mN, rfl, prK rfl, (Sub.tup (sbR (sbR sbN)))⟩)))

theorem entry_compare_ok {F : Nat} {p0 : GEnrolment} {p1 : GEntry} {r : Int} (h : entry_compare F p0 p1 = some r) : LCall Try.prog 57 [.agg [.int .i64 p0.Entry.Candidate, .int .i64 p0.Entry.Centre, .int .i64 p0.Entry.Paper, .bool p0.Late], .agg [.int .i64 p1.Candidate, .int .i64 p1.Centre, .int .i64 p1.Paper]] (Mem.of []) (.int .i64 r) (Mem.of []) := by
  unfold entry_compare at h
  refine bodyT Try.func57 rfl (by rw [Try.ntmps57]; exact Nat.le_of_ble_eq_true rfl) ?_
  refine LH.wk (Wk.to (el := [(0, .agg [.int .i64 p0.Entry.Candidate, .int .i64 p0.Entry.Centre, .int .i64 p0.Entry.Paper, .bool p0.Late]), (1, .agg [.int .i64 p1.Candidate, .int .i64 p1.Centre, .int .i64 p1.Paper])]) (ml := []) (eC rfl (eC rfl eN)) mN rfl (prK rfl)) ?_
  refine LH.seqT [(2, .sptr [.int .i64 p0.Entry.Candidate, .int .i64 p0.Entry.Centre, .int .i64 p0.Entry.Paper, .bool p0.Late]), (3, .sptr [.int .i64 p1.Candidate, .int .i64 p1.Centre, .int .i64 p1.Paper])] [] rfl ?_ ?_
  · refine sB (oBxR rfl rfl rfl rfl rfl ?_)
    refine sB (oBxR rfl rfl rfl rfl rfl ?_)
    refine sN (oA (v := (.int _ _)) rfl ?_)
    exact s0 (Wk.to (eC rfl (eC rfl eN)) mN rfl (prK rfl))
  obtain ⟨r1, hr1, h⟩ := bindS h
  obtain ⟨r2, hr2, h⟩ := bindS h
  obtain ⟨r3, hr3, h⟩ := bindS h
  refine LH.seqJM mixed [] [0, 0, 0, 0, 0, 0, 0, 0, 0, 0, 0, 0, 0, 0, 0] [(4, .int .i64 r3)] [] rfl rfl (by kernel_rfl) ?_ ?_
  · refine mN0 (oFaS tf53_0 tk33 ts33 rfl rfl rfl ⟨rfl, ?_⟩)
    refine mN0 (oFaS tf33_0 tk3 ts3 rfl rfl rfl ⟨rfl, ?_⟩)
    refine mN0 (oLd rfl tk3 ta3 ⟨rfl, ?_⟩)
    refine mN0 (oFaS tf33_0 tk3 ts3 rfl rfl rfl ⟨rfl, ?_⟩)
    refine mN0 (oLd rfl tk3 ta3 ⟨rfl, ?_⟩)
    refine mN0 (oCP (args := [.int .i64 p0.Entry.Candidate, .int .i64 p1.Candidate]) rfl isF72 rfl (sbR (sbR sbN)) (cmp_Compare_int_ok hr1) rfl ⟨rfl, ?_⟩)
    refine mN0 (oFaS tf53_0 tk33 ts33 rfl rfl rfl ⟨rfl, ?_⟩)
    refine mN0 (oFaS tf33_2 tk3 ts3 rfl rfl rfl ⟨rfl, ?_⟩)
    refine mN0 (oLd rfl tk3 ta3 ⟨rfl, ?_⟩)
    refine mN0 (oFaS tf33_2 tk3 ts3 rfl rfl rfl ⟨rfl, ?_⟩)
    refine mN0 (oLd rfl tk3 ta3 ⟨rfl, ?_⟩)
    refine mN0 (oCP (args := [.int .i64 p0.Entry.Paper, .int .i64 p1.Paper]) rfl isF72 rfl (sbR (sbR sbN)) (cmp_Compare_int_ok hr2) rfl ⟨rfl, ?_⟩)
    refine mN0 (oBS (f := (LV.int .i64)) (ys := [r1, r2]) te22 tr3 ts3 rfl rfl rfl okI ⟨rfl, ?_⟩)
    refine mN0 (oCP (args := [.lst 1 (List.map (LV.int .i64) [r1, r2])]) rfl isF71 rfl (sbR sbN) (cmp_Or_int_ok hr3) rfl ⟨rfl, ?_⟩)
    refine mN0 (oA (v := (.int _ _)) rfl ⟨rfl, ?_⟩)
    exact m0 (Wk.to (eC rfl eN) mN rfl (prK rfl))
  refine LH.ret ?_
  obtain rfl := Option.some.inj h
  exact retE (congrArg Array.toList Try.results57) (lrT rfl (lr0 ⟨memN mN, rfl, prK rfl, Sub.rfl⟩))

theorem entry_step_ok {F : Nat} {p0 : List GEnrolment} {p1 : GDeadlines} {p2 : GEntryEvent} {r : List GEnrolment × Int} (h : entry_step F p0 p1 p2 = some r) : LCall Try.prog 43 [.lst 4 (List.map GEnrolment.lv p0), .agg [.int .i64 p1.Close, .int .i64 p1.Late], .agg [.int .i64 p2.Stamp.Time, .int .i64 p2.Stamp.Source, .int .i64 p2.Stamp.Seq, .int .i64 p2.Kind, .int .i64 p2.Entry.Candidate, .int .i64 p2.Entry.Centre, .int .i64 p2.Entry.Paper, .int .i64 p2.To]] (Mem.of []) (.tup [.lst 4 (List.map GEnrolment.lv r.1), .int .i64 r.2]) (Mem.of []) := by
  unfold entry_step at h
  refine bodyT Try.func43 rfl (by rw [Try.ntmps43]; exact Nat.le_of_ble_eq_true rfl) ?_
  refine LH.wk (Wk.to (el := [(0, .lst 4 (List.map GEnrolment.lv p0)), (1, .agg [.int .i64 p1.Close, .int .i64 p1.Late]), (2, .agg [.int .i64 p2.Stamp.Time, .int .i64 p2.Stamp.Source, .int .i64 p2.Stamp.Seq, .int .i64 p2.Kind, .int .i64 p2.Entry.Candidate, .int .i64 p2.Entry.Centre, .int .i64 p2.Entry.Paper, .int .i64 p2.To])]) (ml := []) (eC rfl (eC rfl (eC rfl eN))) mN rfl (prK rfl)) ?_
  refine LH.seqT [(0, .lst 4 (List.map GEnrolment.lv p0)), (4, .sptr [.int .i64 p1.Close, .int .i64 p1.Late]), (5, .sptr [.int .i64 p2.Stamp.Time, .int .i64 p2.Stamp.Source, .int .i64 p2.Stamp.Seq, .int .i64 p2.Kind, .int .i64 p2.Entry.Candidate, .int .i64 p2.Entry.Centre, .int .i64 p2.Entry.Paper, .int .i64 p2.To])] [] rfl ?_ ?_
  · refine sB (oBxR rfl rfl rfl rfl rfl ?_)
    refine sB (oBxR rfl rfl rfl rfl rfl ?_)
    refine sN (oA (v := .nil) rfl ?_)
    refine sN (oA (v := (.int _ _)) rfl ?_)
    exact s0 (Wk.to (eC rfl (eC rfl (eC rfl eN))) mN rfl (prK rfl))
  refine LH.seq ?_
  obtain ⟨r1, hr1, h⟩ := bindS h
  refine LH.seqT [(0, .lst 4 (List.map GEnrolment.lv p0)), (4, .sptr [.int .i64 p1.Close, .int .i64 p1.Late]), (5, .sptr [.int .i64 p2.Stamp.Time, .int .i64 p2.Stamp.Source, .int .i64 p2.Stamp.Seq, .int .i64 p2.Kind, .int .i64 p2.Entry.Candidate, .int .i64 p2.Entry.Centre, .int .i64 p2.Entry.Paper, .int .i64 p2.To]), (14, .bool (!r1))] [] rfl ?_ ?_
  · refine sN (oLdA rfl tk35 ta35 ts35 rfl rfl ?_)
    refine sN (oCP (args := [.agg [.int .i64 p2.Stamp.Time, .int .i64 p2.Stamp.Source, .int .i64 p2.Stamp.Seq, .int .i64 p2.Kind, .int .i64 p2.Entry.Candidate, .int .i64 p2.Entry.Centre, .int .i64 p2.Entry.Paper, .int .i64 p2.To]]) rfl isF55 rfl (sbR sbN) (entry_validEvent_ok hr1) rfl ?_)
    refine sN (oNot rfl ?_)
    exact s0 (Wk.to (eC rfl (eC rfl (eC rfl (eC rfl eN)))) mN rfl (prK rfl))
  refine LH.cond (t := (!r1)) rfl (fun hc2 => ?_) (fun hc2 => ?_)
  · replace h := iteT h hc2
    refine LH.seqT [(6, .nil), (7, .int .i64 2)] [] rfl ?_ ?_
    · refine sN (oA (v := .nil) rfl ?_)
      refine sN (oA (v := (.int _ _)) rfl ?_)
      exact s0 (Wk.to (eC rfl (eC rfl eN)) mN rfl (prK rfl))
    refine LH.ret ?_
    refine thenR ?_
    obtain rfl := Option.some.inj h
    exact retE (congrArg Array.toList Try.results43) (lrT rfl (lrT rfl (lr0 ⟨memN mN, rfl, prK rfl, (Sub.tup (sbL (sbR sbN)))⟩)))
  replace h := iteF h hc2
  refine LH.skip ?_
  refine thenN ?_
  refine LH.wk (Wk.to (el := [(0, .lst 4 (List.map GEnrolment.lv p0)), (4, .sptr [.int .i64 p1.Close, .int .i64 p1.Late]), (5, .sptr [.int .i64 p2.Stamp.Time, .int .i64 p2.Stamp.Source, .int .i64 p2.Stamp.Seq, .int .i64 p2.Kind, .int .i64 p2.Entry.Candidate, .int .i64 p2.Entry.Centre, .int .i64 p2.Entry.Paper, .int .i64 p2.To])]) (ml := []) (eC rfl (eC rfl (eC rfl eN))) mN rfl (prK rfl)) ?_
  refine LH.seq ?_
  refine LH.seqT [(0, .lst 4 (List.map GEnrolment.lv p0)), (4, .sptr [.int .i64 p1.Close, .int .i64 p1.Late]), (5, .sptr [.int .i64 p2.Stamp.Time, .int .i64 p2.Stamp.Source, .int .i64 p2.Stamp.Seq, .int .i64 p2.Kind, .int .i64 p2.Entry.Candidate, .int .i64 p2.Entry.Centre, .int .i64 p2.Entry.Paper, .int .i64 p2.To]), (27, .bool ((p2.Stamp.Source != 0) && (p2.Stamp.Source != p2.Entry.Centre)))] [] rfl ?_ ?_
  · refine sN (oFaS tf35_0 tk31 ts31 rfl rfl rfl ?_)
    refine sN (oFaS tf31_1 tk3 ts3 rfl rfl rfl ?_)
    refine sN (oLd rfl tk3 ta3 ?_)
    refine sN (oNe rfl rfl ?_)
    refine sN (oM (v := (.bool _)) rfl ?_)
    by_cases hb4 : (p2.Stamp.Source != 0) = true
    · refine sT rfl (congrArg LV.bool hb4) (oFaS tf35_0 tk31 ts31 rfl rfl rfl ?_)
      refine sT rfl (congrArg LV.bool hb4) (oFaS tf31_1 tk3 ts3 rfl rfl rfl ?_)
      refine sT rfl (congrArg LV.bool hb4) (oLd rfl tk3 ta3 ?_)
      refine sT rfl (congrArg LV.bool hb4) (oFaS tf35_2 tk33 ts33 rfl rfl rfl ?_)
      refine sT rfl (congrArg LV.bool hb4) (oFaS tf33_1 tk3 ts3 rfl rfl rfl ?_)
      refine sT rfl (congrArg LV.bool hb4) (oLd rfl tk3 ta3 ?_)
      refine sT rfl (congrArg LV.bool hb4) (oNe rfl rfl ?_)
      refine sN (oPkT (congrArg LV.bool hb4) (v := (.bool _)) rfl ?_)
      exact s0 (Wk.to (eC rfl (eC rfl (eC rfl (eC (congrArg LV.bool (andT hb4)) eN)))) mN rfl (prK rfl))
    · replace hb4 := bF hb4
      refine sF rfl rfl hb4 ?_
      refine sF rfl rfl hb4 ?_
      refine sF rfl rfl hb4 ?_
      refine sF rfl rfl hb4 ?_
      refine sF rfl rfl hb4 ?_
      refine sF rfl rfl hb4 ?_
      refine sF rfl rfl hb4 ?_
      refine sN (oPkF (congrArg LV.bool hb4) (v := (.bool _)) rfl ?_)
      exact s0 (Wk.to (eC rfl (eC rfl (eC rfl (eC (congrArg LV.bool (andF hb4)) eN)))) mN rfl (prK rfl))
  refine LH.cond (t := ((p2.Stamp.Source != 0) && (p2.Stamp.Source != p2.Entry.Centre))) rfl (fun hc5 => ?_) (fun hc5 => ?_)
  · replace h := iteT h hc5
    refine LH.seqT [(6, .nil), (7, .int .i64 28)] [] rfl ?_ ?_
    · refine sN (oA (v := .nil) rfl ?_)
      refine sN (oA (v := (.int _ _)) rfl ?_)
      exact s0 (Wk.to (eC rfl (eC rfl eN)) mN rfl (prK rfl))
    refine LH.ret ?_
    refine thenR ?_
    obtain rfl := Option.some.inj h
    exact retE (congrArg Array.toList Try.results43) (lrT rfl (lrT rfl (lr0 ⟨memN mN, rfl, prK rfl, (Sub.tup (sbL (sbR sbN)))⟩)))
  replace h := iteF h hc5
  refine LH.skip ?_
  refine thenN ?_
  refine LH.wk (Wk.to (el := [(0, .lst 4 (List.map GEnrolment.lv p0)), (4, .sptr [.int .i64 p1.Close, .int .i64 p1.Late]), (5, .sptr [.int .i64 p2.Stamp.Time, .int .i64 p2.Stamp.Source, .int .i64 p2.Stamp.Seq, .int .i64 p2.Kind, .int .i64 p2.Entry.Candidate, .int .i64 p2.Entry.Centre, .int .i64 p2.Entry.Paper, .int .i64 p2.To])]) (ml := []) (eC rfl (eC rfl (eC rfl eN))) mN rfl (prK rfl)) ?_
  refine LH.seq ?_
  refine LH.seqT [(0, .lst 4 (List.map GEnrolment.lv p0)), (4, .sptr [.int .i64 p1.Close, .int .i64 p1.Late]), (5, .sptr [.int .i64 p2.Stamp.Time, .int .i64 p2.Stamp.Source, .int .i64 p2.Stamp.Seq, .int .i64 p2.Kind, .int .i64 p2.Entry.Candidate, .int .i64 p2.Entry.Centre, .int .i64 p2.Entry.Paper, .int .i64 p2.To]), (33, .bool (decide (p2.Stamp.Time > p1.Late)))] [] rfl ?_ ?_
  · refine sN (oFaS tf35_0 tk31 ts31 rfl rfl rfl ?_)
    refine sN (oFaS tf31_0 tk3 ts3 rfl rfl rfl ?_)
    refine sN (oLd rfl tk3 ta3 ?_)
    refine sN (oFaS tf41_1 tk3 ts3 rfl rfl rfl ?_)
    refine sN (oLd rfl tk3 ta3 ?_)
    refine sN (oGt rfl rfl ?_)
    exact s0 (Wk.to (eC rfl (eC rfl (eC rfl (eC rfl eN)))) mN rfl (prK rfl))
  refine LH.cond (t := (decide (p2.Stamp.Time > p1.Late))) rfl (fun hc6 => ?_) (fun hc6 => ?_)
  · replace h := iteT h hc6
    refine LH.seqT [(6, .nil), (7, .int .i64 27)] [] rfl ?_ ?_
    · refine sN (oA (v := .nil) rfl ?_)
      refine sN (oA (v := (.int _ _)) rfl ?_)
      exact s0 (Wk.to (eC rfl (eC rfl eN)) mN rfl (prK rfl))
    refine LH.ret ?_
    refine thenR ?_
    obtain rfl := Option.some.inj h
    exact retE (congrArg Array.toList Try.results43) (lrT rfl (lrT rfl (lr0 ⟨memN mN, rfl, prK rfl, (Sub.tup (sbL (sbR sbN)))⟩)))
  replace h := iteF h hc6
  refine LH.skip ?_
  refine thenN ?_
  refine LH.wk (Wk.to (el := [(0, .lst 4 (List.map GEnrolment.lv p0)), (4, .sptr [.int .i64 p1.Close, .int .i64 p1.Late]), (5, .sptr [.int .i64 p2.Stamp.Time, .int .i64 p2.Stamp.Source, .int .i64 p2.Stamp.Seq, .int .i64 p2.Kind, .int .i64 p2.Entry.Candidate, .int .i64 p2.Entry.Centre, .int .i64 p2.Entry.Paper, .int .i64 p2.To])]) (ml := []) (eC rfl (eC rfl (eC rfl eN))) mN rfl (prK rfl)) ?_
  obtain ⟨r7, hr7, h⟩ := bindS h
  refine LH.seqT [(0, .lst 4 (List.map GEnrolment.lv p0)), (4, .sptr [.int .i64 p1.Close, .int .i64 p1.Late]), (5, .sptr [.int .i64 p2.Stamp.Time, .int .i64 p2.Stamp.Source, .int .i64 p2.Stamp.Seq, .int .i64 p2.Kind, .int .i64 p2.Entry.Candidate, .int .i64 p2.Entry.Centre, .int .i64 p2.Entry.Paper, .int .i64 p2.To]), (8, .int .i64 r7.1), (9, .bool r7.2)] [] rfl ?_ ?_
  · refine sN (oM (v := (.lst _ _)) rfl ?_)
    refine sN (oFaS tf35_2 tk33 ts33 rfl rfl rfl ?_)
    refine sN (oLdA rfl tk33 ta33 ts33 rfl rfl ?_)
    refine sN (oCP (args := [.lst 4 (List.map GEnrolment.lv p0), .agg [.int .i64 p2.Entry.Candidate, .int .i64 p2.Entry.Centre, .int .i64 p2.Entry.Paper], .fn 57 []]) rfl isF56 rfl (sbR (sbR (sbR sbN))) (slices_BinarySearchFunc_Enrolment_Enrolment_Entry_ok (p2_f := 57) (p2_c := []) isF57 rfl (fun _ _ _ h => entry_compare_ok h) hr7) rfl ?_)
    refine sN (oM (v := (.tup _)) rfl ?_)
    refine sN (oEx rfl rfl ?_)
    refine sN (oEx rfl rfl ?_)
    refine sN (oA (v := (.int _ _)) rfl ?_)
    refine sN (oA (v := (.bool _)) rfl ?_)
    exact s0 (Wk.to (eC rfl (eC rfl (eC rfl (eC rfl (eC rfl eN))))) mN rfl (prK rfl))
  obtain ⟨w9, hv, h⟩ := bindS h
  refine LH.seqJM mixed [] [0, 0, 0, 0, 0, 0, 0, 0, 0, 0, 0, 0, 0, 0] [(0, .lst 4 (List.map GEnrolment.lv p0)), (4, .sptr [.int .i64 p1.Close, .int .i64 p1.Late]), (5, .sptr [.int .i64 p2.Stamp.Time, .int .i64 p2.Stamp.Source, .int .i64 p2.Stamp.Seq, .int .i64 p2.Kind, .int .i64 p2.Entry.Candidate, .int .i64 p2.Entry.Centre, .int .i64 p2.Entry.Paper, .int .i64 p2.To]), (8, .int .i64 r7.1), (9, .bool r7.2), (10, .bool w9)] [] rfl rfl (by kernel_rfl) ?_ ?_
  · refine mN0 (oM (v := (.bool _)) rfl ⟨rfl, ?_⟩)
    refine mN0 (oM (v := (.bool _)) rfl ⟨rfl, ?_⟩)
    by_cases hb10 : r7.2 = true
    · replace hv := iteT hv hb10
      refine mT rfl (congrArg LV.bool hb10) (mN0 (oM (v := (.lst _ _)) rfl ⟨rfl, ?_⟩))
      refine mT rfl (congrArg LV.bool hb10) (mN0 (oM (v := (.int _ _)) rfl ⟨rfl, ?_⟩))
      obtain ⟨x11, hx11, hv⟩ := bindS hv
      refine mT rfl (congrArg LV.bool hb10) (mN0 (oIx (f := GEnrolment.lv) te44 tk53 ts53 rfl rfl GEnrolment.ok hx11 rfl ⟨rfl, ?_⟩))
      refine mT rfl (congrArg LV.bool hb10) (mN0 (oFaS tf53_0 tk33 ts33 rfl rfl rfl ⟨rfl, ?_⟩))
      refine mT rfl (congrArg LV.bool hb10) (mN0 (oFaS tf33_1 tk3 ts3 rfl rfl rfl ⟨rfl, ?_⟩))
      refine mT rfl (congrArg LV.bool hb10) (mN0 (oLd rfl tk3 ta3 ⟨rfl, ?_⟩))
      refine mT rfl (congrArg LV.bool hb10) (mN0 (oFaS tf35_2 tk33 ts33 rfl rfl rfl ⟨rfl, ?_⟩))
      refine mT rfl (congrArg LV.bool hb10) (mN0 (oFaS tf33_1 tk3 ts3 rfl rfl rfl ⟨rfl, ?_⟩))
      refine mT rfl (congrArg LV.bool hb10) (mN0 (oLd rfl tk3 ta3 ⟨rfl, ?_⟩))
      refine mT rfl (congrArg LV.bool hb10) (mN0 (oEq rfl rfl ⟨rfl, ?_⟩))
      refine mN0 (oPkT (congrArg LV.bool hb10) (v := (.bool _)) rfl ⟨rfl, ?_⟩)
      refine mN0 (oA (v := (.bool _)) rfl ⟨rfl, ?_⟩)
      obtain rfl := Option.some.inj hv
      exact m0 (Wk.to (eC rfl (eC rfl (eC rfl (eC rfl (eC rfl (eC rfl eN)))))) mN rfl (prK rfl))
    · replace hb10 := bF hb10
      replace hv := iteF hv hb10
      refine mF rfl rfl hb10 ?_
      refine mF rfl rfl hb10 ?_
      refine mF rfl rfl hb10 ?_
      refine mF rfl rfl hb10 ?_
      refine mF rfl rfl hb10 ?_
      refine mF rfl rfl hb10 ?_
      refine mF rfl rfl hb10 ?_
      refine mF rfl rfl hb10 ?_
      refine mF rfl rfl hb10 ?_
      refine mF rfl rfl hb10 ?_
      refine mN0 (oPkF (congrArg LV.bool hb10) (v := (.bool _)) rfl ⟨rfl, ?_⟩)
      refine mN0 (oA (v := (.bool _)) rfl ⟨rfl, ?_⟩)
      obtain rfl := Option.some.inj hv
      exact m0 (Wk.to (eC rfl (eC rfl (eC rfl (eC rfl (eC rfl (eC rfl eN)))))) mN rfl (prK rfl))
  clear hv
  obtain ⟨v12, hv12, h⟩ := bindS h
  refine LH.seqT [(0, .lst 4 (List.map GEnrolment.lv p0)), (4, .sptr [.int .i64 p1.Close, .int .i64 p1.Late]), (5, .sptr [.int .i64 p2.Stamp.Time, .int .i64 p2.Stamp.Source, .int .i64 p2.Stamp.Seq, .int .i64 p2.Kind, .int .i64 p2.Entry.Candidate, .int .i64 p2.Entry.Centre, .int .i64 p2.Entry.Paper, .int .i64 p2.To]), (8, .int .i64 r7.1), (9, .bool r7.2), (10, .bool w9), (11, .arr 155 (List.length v12))] [(155, .arr 53 4 (List.map GEnrolment.lv v12))] rfl ?_ ?_
  · refine sN (oM (v := (.lst _ _)) rfl ?_)
    refine sN (oCM (args := [.lst 4 (List.map GEnrolment.lv p0)]) (ml := []) (ml' := [(155, .arr 53 4 (List.map GEnrolment.lv v12))]) rfl isF58 rfl (sbR sbN) (clone_ok (g := GEnrolment.lv) cloneW58 rfl 155 hv12) mN (newF rfl newN) rfl ?_)
    refine sN (oA (v := (.arr _ _)) rfl ?_)
    exact s0 (Wk.to (eC rfl (eC rfl (eC rfl (eC rfl (eC rfl (eC rfl (eC rfl eN))))))) (mC rfl mN) rfl (prK rfl))
  refine LH.seq ?_
  refine LH.seqT [(0, .lst 4 (List.map GEnrolment.lv p0)), (4, .sptr [.int .i64 p1.Close, .int .i64 p1.Late]), (5, .sptr [.int .i64 p2.Stamp.Time, .int .i64 p2.Stamp.Source, .int .i64 p2.Stamp.Seq, .int .i64 p2.Kind, .int .i64 p2.Entry.Candidate, .int .i64 p2.Entry.Centre, .int .i64 p2.Entry.Paper, .int .i64 p2.To]), (8, .int .i64 r7.1), (9, .bool r7.2), (10, .bool w9), (11, .arr 155 (List.length v12)), (58, .bool (p2.Kind == 1))] [(155, .arr 53 4 (List.map GEnrolment.lv v12))] rfl ?_ ?_
  · refine sN (oFaS tf35_1 tk3 ts3 rfl rfl rfl ?_)
    refine sN (oLd rfl tk3 ta3 ?_)
    refine sN (oEq rfl rfl ?_)
    exact s0 (Wk.to (eC rfl (eC rfl (eC rfl (eC rfl (eC rfl (eC rfl (eC rfl (eC rfl eN)))))))) (mC rfl mN) rfl (prK rfl))
  refine LH.cond (t := (p2.Kind == 1)) rfl (fun hc13 => ?_) (fun hc13 => ?_)
  · replace h := iteT h hc13
    refine LH.seq ?_
    refine LH.block ?_
    refine LH.seqT [(0, .lst 4 (List.map GEnrolment.lv p0)), (4, .sptr [.int .i64 p1.Close, .int .i64 p1.Late]), (5, .sptr [.int .i64 p2.Stamp.Time, .int .i64 p2.Stamp.Source, .int .i64 p2.Stamp.Seq, .int .i64 p2.Kind, .int .i64 p2.Entry.Candidate, .int .i64 p2.Entry.Centre, .int .i64 p2.Entry.Paper, .int .i64 p2.To]), (8, .int .i64 r7.1), (9, .bool r7.2), (11, .arr 155 (List.length v12)), (59, .bool w9)] [(155, .arr 53 4 (List.map GEnrolment.lv v12))] rfl ?_ ?_
    · refine sN (oM (v := (.bool _)) rfl ?_)
      refine sN (oA (v := (.bool _)) rfl ?_)
      exact s0 (Wk.to (eC rfl (eC rfl (eC rfl (eC rfl (eC rfl (eC rfl (eC rfl eN))))))) (mC rfl mN) rfl (prK rfl))
    refine LH.cond (t := w9) rfl (fun hc14 => ?_) (fun hc14 => ?_)
    · replace h := iteT h hc14
      refine LH.seqT [(6, .nil), (7, .int .i64 5)] [] rfl ?_ ?_
      · refine sN (oA (v := .nil) rfl ?_)
        refine sN (oA (v := (.int _ _)) rfl ?_)
        exact s0 (Wk.to (eC rfl (eC rfl eN)) mN rfl (prK rfl))
      refine LH.ret ?_
      refine blockR ?_
      refine thenR ?_
      refine thenR ?_
      obtain rfl := Option.some.inj h
      exact retE (congrArg Array.toList Try.results43) (lrT rfl (lrT rfl (lr0 ⟨memN mN, rfl, prK rfl, (Sub.tup (sbL (sbR sbN)))⟩)))
    replace h := iteF h hc14
    refine LH.seqT [(0, .lst 4 (List.map GEnrolment.lv p0)), (4, .sptr [.int .i64 p1.Close, .int .i64 p1.Late]), (5, .sptr [.int .i64 p2.Stamp.Time, .int .i64 p2.Stamp.Source, .int .i64 p2.Stamp.Seq, .int .i64 p2.Kind, .int .i64 p2.Entry.Candidate, .int .i64 p2.Entry.Centre, .int .i64 p2.Entry.Paper, .int .i64 p2.To]), (8, .int .i64 r7.1), (11, .arr 155 (List.length v12)), (61, .bool r7.2)] [(155, .arr 53 4 (List.map GEnrolment.lv v12))] rfl ?_ ?_
    · refine sN (oM (v := (.bool _)) rfl ?_)
      refine sN (oA (v := (.bool _)) rfl ?_)
      exact s0 (Wk.to (eC rfl (eC rfl (eC rfl (eC rfl (eC rfl (eC rfl eN)))))) (mC rfl mN) rfl (prK rfl))
    refine LH.cond (t := r7.2) rfl (fun hc15 => ?_) (fun hc15 => ?_)
    · replace h := iteT h hc15
      refine LH.seqT [(6, .nil), (7, .int .i64 9)] [] rfl ?_ ?_
      · refine sN (oA (v := .nil) rfl ?_)
        refine sN (oA (v := (.int _ _)) rfl ?_)
        exact s0 (Wk.to (eC rfl (eC rfl eN)) mN rfl (prK rfl))
      refine LH.ret ?_
      refine blockR ?_
      refine thenR ?_
      refine thenR ?_
      obtain rfl := Option.some.inj h
      exact retE (congrArg Array.toList Try.results43) (lrT rfl (lrT rfl (lr0 ⟨memN mN, rfl, prK rfl, (Sub.tup (sbL (sbR sbN)))⟩)))
    replace h := iteF h hc15
    refine LH.seqT [(4, .sptr [.int .i64 p1.Close, .int .i64 p1.Late]), (5, .sptr [.int .i64 p2.Stamp.Time, .int .i64 p2.Stamp.Source, .int .i64 p2.Stamp.Seq, .int .i64 p2.Kind, .int .i64 p2.Entry.Candidate, .int .i64 p2.Entry.Centre, .int .i64 p2.Entry.Paper, .int .i64 p2.To]), (8, .int .i64 r7.1), (11, .arr 155 (List.length v12)), (63, .bool (decide ((p0.length : Int) ≥ 300)))] [(155, .arr 53 4 (List.map GEnrolment.lv v12))] rfl ?_ ?_
    · refine sN (oM (v := (.lst _ _)) rfl ?_)
      refine sN (oLnL (f := GEnrolment.lv) te44 rfl ?_)
      refine sN (oGe rfl rfl ?_)
      refine sN (oA (v := (.bool _)) rfl ?_)
      exact s0 (Wk.to (eC rfl (eC rfl (eC rfl (eC rfl (eC rfl eN))))) (mC rfl mN) rfl (prK rfl))
    refine LH.cond (t := (decide ((p0.length : Int) ≥ 300))) rfl (fun hc16 => ?_) (fun hc16 => ?_)
    · replace h := iteT h hc16
      refine LH.seqT [(6, .nil), (7, .int .i64 3)] [] rfl ?_ ?_
      · refine sN (oA (v := .nil) rfl ?_)
        refine sN (oA (v := (.int _ _)) rfl ?_)
        exact s0 (Wk.to (eC rfl (eC rfl eN)) mN rfl (prK rfl))
      refine LH.ret ?_
      refine blockR ?_
      refine thenR ?_
      refine thenR ?_
      obtain rfl := Option.some.inj h
      exact retE (congrArg Array.toList Try.results43) (lrT rfl (lrT rfl (lr0 ⟨memN mN, rfl, prK rfl, (Sub.tup (sbL (sbR sbN)))⟩)))
    replace h := iteF h hc16
    refine LH.skip ?_
    refine blockN ?_
    refine thenN ?_
    refine LH.wk (Wk.to (el := [(4, .sptr [.int .i64 p1.Close, .int .i64 p1.Late]), (5, .sptr [.int .i64 p2.Stamp.Time, .int .i64 p2.Stamp.Source, .int .i64 p2.Stamp.Seq, .int .i64 p2.Kind, .int .i64 p2.Entry.Candidate, .int .i64 p2.Entry.Centre, .int .i64 p2.Entry.Paper, .int .i64 p2.To]), (8, .int .i64 r7.1), (11, .arr 155 (List.length v12))]) (ml := [(155, .arr 53 4 (List.map GEnrolment.lv v12))]) (eC rfl (eC rfl (eC rfl (eC rfl eN)))) (mC rfl mN) rfl (prK rfl)) ?_
    obtain ⟨v17, hv17, h⟩ := bindS h
    refine LH.seqT [(6, .lst 4 (List.map GEnrolment.lv v17)), (7, .int .i64 0)] [] rfl ?_ ?_
    · refine sN (oM (v := (.arr _ _)) rfl ?_)
      refine sN (oM (v := (.int _ _)) rfl ?_)
      refine sN (oFaS tf35_2 tk33 ts33 rfl rfl rfl ?_)
      refine sN (oLdA rfl tk33 ta33 ts33 rfl rfl ?_)
      refine sN (oFaS tf35_0 tk31 ts31 rfl rfl rfl ?_)
      refine sN (oFaS tf31_0 tk3 ts3 rfl rfl rfl ?_)
      refine sN (oLd rfl tk3 ta3 ?_)
      refine sN (oFaS tf41_0 tk3 ts3 rfl rfl rfl ?_)
      refine sN (oLd rfl tk3 ta3 ?_)
      refine sN (oGt rfl rfl ?_)
      refine sN (oBd (vs := [(0, .agg [.int .i64 p2.Entry.Candidate, .int .i64 p2.Entry.Centre, .int .i64 p2.Entry.Paper]), (1, .bool (decide (p2.Stamp.Time > p1.Close)))]) tu53 tz53 rfl (lf tf53_0 ts33 tk33 rfl rfl rfl (lf tf53_1 ts4 tk4 rfl rfl rfl lf0)) ?_)
      refine sX (ok_bsA (g := GEnrolment.lv) (ys := [(GEnrolment.mk p2.Entry (decide (p2.Stamp.Time > p1.Close)))]) (id := 178) te44 tr53 ts53 rfl rfl rfl GEnrolment.ok rfl) ?_
      refine SOps.wk (Wk.to (el := [(67, .arr 155 (List.length v12)), (68, .int .i64 r7.1), (78, .arr 178 (List.length [(GEnrolment.mk p2.Entry (decide (p2.Stamp.Time > p1.Close)))]))]) (ml := [(155, .arr 53 4 (List.map GEnrolment.lv v12)), (178, .arr 53 4 (List.map GEnrolment.lv [(GEnrolment.mk p2.Entry (decide (p2.Stamp.Time > p1.Close)))]))]) (eC rfl (eC rfl (eC rfl eN))) (mC rfl (mC rfl mN)) rfl (prK rfl)) ?_
      refine sTake (ok_insert (g := GEnrolment.lv) (xs := v12) (z0 := (GEnrolment.mk p2.Entry (decide (p2.Stamp.Time > p1.Close)))) isF59 insW59 rfl rfl rfl rfl rfl (by decide) (prN rfl) (HB.of rfl) hv17) ?_
      refine sN (oA (v := (.arr _ _)) rfl ?_)
      refine sN (oA (v := (.int _ _)) rfl ?_)
      exact s0 ((Wk.trans (Wk.to (el := [(6, .arr 155 (List.length v17)), (7, .int .i64 0)]) (ml := [(155, .arr 53 4 (List.map GEnrolment.lv v17))]) (eC rfl (eC rfl eN)) (mC rfl mN) rfl (prK rfl)) (Wk.trans (Wk.frzL (f := GEnrolment.lv) (el' := [(6, .lst 4 (List.map GEnrolment.lv v17)), (7, .int .i64 0)]) 155 53 4 v17 rfl rfl (prN rfl) (fZ (fK rfl fN))) (Wk.to (eC rfl (eC rfl eN)) mN rfl (prK rfl)))))
    refine LH.ret ?_
    refine thenR ?_
    obtain rfl := Option.some.inj h
    exact retE (congrArg Array.toList Try.results43) (lrT rfl (lrT rfl (lr0 ⟨memN mN, rfl, prK rfl, (Sub.tup (sbR (sbR sbN)))⟩)))
  replace h := iteF h hc13
  refine LH.skip ?_
  refine thenN ?_
  refine LH.wk (Wk.to (el := [(5, .sptr [.int .i64 p2.Stamp.Time, .int .i64 p2.Stamp.Source, .int .i64 p2.Stamp.Seq, .int .i64 p2.Kind, .int .i64 p2.Entry.Candidate, .int .i64 p2.Entry.Centre, .int .i64 p2.Entry.Paper, .int .i64 p2.To]), (8, .int .i64 r7.1), (10, .bool w9), (11, .arr 155 (List.length v12))]) (ml := [(155, .arr 53 4 (List.map GEnrolment.lv v12))]) (eC rfl (eC rfl (eC rfl (eC rfl eN)))) (mC rfl mN) rfl (prK rfl)) ?_
  refine LH.seq ?_
  refine LH.seqT [(5, .sptr [.int .i64 p2.Stamp.Time, .int .i64 p2.Stamp.Source, .int .i64 p2.Stamp.Seq, .int .i64 p2.Kind, .int .i64 p2.Entry.Candidate, .int .i64 p2.Entry.Centre, .int .i64 p2.Entry.Paper, .int .i64 p2.To]), (8, .int .i64 r7.1), (11, .arr 155 (List.length v12)), (81, .bool (!w9))] [(155, .arr 53 4 (List.map GEnrolment.lv v12))] rfl ?_ ?_
  · refine sN (oM (v := (.bool _)) rfl ?_)
    refine sN (oNot rfl ?_)
    exact s0 (Wk.to (eC rfl (eC rfl (eC rfl (eC rfl eN)))) (mC rfl mN) rfl (prK rfl))
  refine LH.cond (t := (!w9)) rfl (fun hc18 => ?_) (fun hc18 => ?_)
  · replace h := iteT h hc18
    refine LH.seqT [(6, .nil), (7, .int .i64 4)] [] rfl ?_ ?_
    · refine sN (oA (v := .nil) rfl ?_)
      refine sN (oA (v := (.int _ _)) rfl ?_)
      exact s0 (Wk.to (eC rfl (eC rfl eN)) mN rfl (prK rfl))
    refine LH.ret ?_
    refine thenR ?_
    obtain rfl := Option.some.inj h
    exact retE (congrArg Array.toList Try.results43) (lrT rfl (lrT rfl (lr0 ⟨memN mN, rfl, prK rfl, (Sub.tup (sbL (sbR sbN)))⟩)))
  replace h := iteF h hc18
  refine LH.skip ?_
  refine thenN ?_
  refine LH.wk (Wk.to (el := [(5, .sptr [.int .i64 p2.Stamp.Time, .int .i64 p2.Stamp.Source, .int .i64 p2.Stamp.Seq, .int .i64 p2.Kind, .int .i64 p2.Entry.Candidate, .int .i64 p2.Entry.Centre, .int .i64 p2.Entry.Paper, .int .i64 p2.To]), (8, .int .i64 r7.1), (11, .arr 155 (List.length v12))]) (ml := [(155, .arr 53 4 (List.map GEnrolment.lv v12))]) (eC rfl (eC rfl (eC rfl eN))) (mC rfl mN) rfl (prK rfl)) ?_
  refine LH.seq ?_
  refine LH.seqT [(5, .sptr [.int .i64 p2.Stamp.Time, .int .i64 p2.Stamp.Source, .int .i64 p2.Stamp.Seq, .int .i64 p2.Kind, .int .i64 p2.Entry.Candidate, .int .i64 p2.Entry.Centre, .int .i64 p2.Entry.Paper, .int .i64 p2.To]), (8, .int .i64 r7.1), (11, .arr 155 (List.length v12)), (84, .bool (p2.Kind == 2))] [(155, .arr 53 4 (List.map GEnrolment.lv v12))] rfl ?_ ?_
  · refine sN (oFaS tf35_1 tk3 ts3 rfl rfl rfl ?_)
    refine sN (oLd rfl tk3 ta3 ?_)
    refine sN (oEq rfl rfl ?_)
    exact s0 (Wk.to (eC rfl (eC rfl (eC rfl (eC rfl eN)))) (mC rfl mN) rfl (prK rfl))
  refine LH.cond (t := (p2.Kind == 2)) rfl (fun hc19 => ?_) (fun hc19 => ?_)
  · replace h := iteT h hc19
    obtain ⟨v20, hv20, h⟩ := bindS h
    refine LH.seqT [(6, .lst 4 (List.map GEnrolment.lv v20)), (7, .int .i64 0)] [] rfl ?_ ?_
    · refine sN (oM (v := (.arr _ _)) rfl ?_)
      refine sN (oM (v := (.int _ _)) rfl ?_)
      refine sN (oM (v := (.int _ _)) rfl ?_)
      refine sN (oAdd rfl rfl ?_)
      refine SOps.wk (Wk.to (el := [(85, .arr 155 (List.length v12)), (86, .int .i64 r7.1), (88, .int .i64 (i64 (r7.1 + 1)))]) (ml := [(155, .arr 53 4 (List.map GEnrolment.lv v12))]) (eC rfl (eC rfl (eC rfl eN))) (mC rfl mN) rfl (prK rfl)) ?_
      refine sTake (ok_delete (g := GEnrolment.lv) (xs := v12) isF60 delW60 rfl rfl rfl rfl (prN rfl) (HB.of rfl) hv20) ?_
      refine sN (oA (v := (.arr _ _)) rfl ?_)
      refine sN (oA (v := (.int _ _)) rfl ?_)
      exact s0 ((Wk.trans (Wk.to (el := [(6, .arr 155 (List.length v20)), (7, .int .i64 0)]) (ml := [(155, .arr 53 4 (List.map GEnrolment.lv v20))]) (eC rfl (eC rfl eN)) (mC rfl mN) rfl (prK rfl)) (Wk.trans (Wk.frzL (f := GEnrolment.lv) (el' := [(6, .lst 4 (List.map GEnrolment.lv v20)), (7, .int .i64 0)]) 155 53 4 v20 rfl rfl (prN rfl) (fZ (fK rfl fN))) (Wk.to (eC rfl (eC rfl eN)) mN rfl (prK rfl)))))
    refine LH.ret ?_
    refine thenR ?_
    obtain rfl := Option.some.inj h
    exact retE (congrArg Array.toList Try.results43) (lrT rfl (lrT rfl (lr0 ⟨memN mN, rfl, prK rfl, (Sub.tup (sbR (sbR sbN)))⟩)))
  replace h := iteF h hc19
  refine LH.skip ?_
  refine thenN ?_
  refine LH.wk (Wk.to (el := [(5, .sptr [.int .i64 p2.Stamp.Time, .int .i64 p2.Stamp.Source, .int .i64 p2.Stamp.Seq, .int .i64 p2.Kind, .int .i64 p2.Entry.Candidate, .int .i64 p2.Entry.Centre, .int .i64 p2.Entry.Paper, .int .i64 p2.To]), (8, .int .i64 r7.1), (11, .arr 155 (List.length v12))]) (ml := [(155, .arr 53 4 (List.map GEnrolment.lv v12))]) (eC rfl (eC rfl (eC rfl eN))) (mC rfl mN) rfl (prK rfl)) ?_
  obtain ⟨x21, hx21, h⟩ := bindS h
  refine LH.seqT [(11, .lst 4 (List.map GEnrolment.lv (v12.set r7.1.toNat (GEnrolment.mk (GEntry.mk x21.Entry.Candidate p2.To x21.Entry.Paper) x21.Late))))] [] rfl ?_ ?_
  · refine sN (oM (v := (.arr _ _)) rfl ?_)
    refine sN (oM (v := (.int _ _)) rfl ?_)
    refine sN (oFaS tf35_3 tk3 ts3 rfl rfl rfl ?_)
    refine sN (oLd rfl tk3 ta3 ?_)
    refine sN (oIxA (f := GEnrolment.lv) te44 tk53 ts53 rfl rfl rfl hx21 ?_)
    refine sN (oFaE (f := GEnrolment.lv) tf53_0 tk33 ts33 rfl rfl rfl ?_)
    refine sN (oFaE (f := GEnrolment.lv) tf33_1 tk3 ts3 rfl rfl rfl ?_)
    refine s_ (oStE (f := GEnrolment.lv) (z' := (GEnrolment.mk (GEntry.mk x21.Entry.Candidate p2.To x21.Entry.Paper) x21.Late)) rfl rfl rfl rfl tk3 ts3 rfl (idxOk hx21).2 rfl ?_)
    exact s0 ((Wk.trans (Wk.to (el := [(11, .arr 155 (List.length (v12.set r7.1.toNat (GEnrolment.mk (GEntry.mk x21.Entry.Candidate p2.To x21.Entry.Paper) x21.Late))))]) (ml := [(155, .arr 53 4 (List.map GEnrolment.lv (v12.set r7.1.toNat (GEnrolment.mk (GEntry.mk x21.Entry.Candidate p2.To x21.Entry.Paper) x21.Late))))]) (eC (congrArg (LV.arr 155) (by simp)) eN) (mC rfl mN) rfl (prK rfl)) (Wk.trans (Wk.frzL (f := GEnrolment.lv) (el' := [(11, .lst 4 (List.map GEnrolment.lv (v12.set r7.1.toNat (GEnrolment.mk (GEntry.mk x21.Entry.Candidate p2.To x21.Entry.Paper) x21.Late))))]) 155 53 4 (v12.set r7.1.toNat (GEnrolment.mk (GEntry.mk x21.Entry.Candidate p2.To x21.Entry.Paper) x21.Late)) rfl rfl (prN rfl) (fZ fN)) (Wk.to (eC rfl eN) mN rfl (prK rfl)))))
  refine LH.seqT [(6, .lst 4 (List.map GEnrolment.lv (v12.set r7.1.toNat (GEnrolment.mk (GEntry.mk x21.Entry.Candidate p2.To x21.Entry.Paper) x21.Late)))), (7, .int .i64 0)] [] rfl ?_ ?_
  · refine sN (oM (v := (.lst _ _)) rfl ?_)
    refine sN (oA (v := (.lst _ _)) rfl ?_)
    refine sN (oA (v := (.int _ _)) rfl ?_)
    exact s0 (Wk.to (eC rfl (eC rfl eN)) mN rfl (prK rfl))
  refine LH.ret ?_
  obtain rfl := Option.some.inj h
  exact retE (congrArg Array.toList Try.results43) (lrT rfl (lrT rfl (lr0 ⟨memN mN, rfl, prK rfl, (Sub.tup (sbR (sbR sbN)))⟩)))

theorem entry_Fold_ok {F : Nat} {p0 : List GEntryEvent} {p1 : GDeadlines} {p2 : Int} {r : List GEnrolment × List GRefusal × Int} (h : entry_Fold F p0 p1 p2 = some r) : LCall Try.prog 21 [.lst 8 (List.map GEntryEvent.lv p0), .agg [.int .i64 p1.Close, .int .i64 p1.Late], .int .i64 p2] (Mem.of []) (.tup [.lst 4 (List.map GEnrolment.lv r.1), .lst 3 (List.map GRefusal.lv r.2.1), .int .i64 r.2.2]) (Mem.of []) := by
  unfold entry_Fold at h
  refine bodyT Try.func21 rfl (by rw [Try.ntmps21]; exact Nat.le_of_ble_eq_true rfl) ?_
  refine LH.wk (Wk.to (el := [(0, .lst 8 (List.map GEntryEvent.lv p0)), (1, .agg [.int .i64 p1.Close, .int .i64 p1.Late]), (2, .int .i64 p2)]) (ml := []) (eC rfl (eC rfl (eC rfl eN))) mN rfl (prK rfl)) ?_
  refine LH.seqT [(0, .lst 8 (List.map GEntryEvent.lv p0)), (2, .int .i64 p2), (4, .sptr [.int .i64 p1.Close, .int .i64 p1.Late])] [] rfl ?_ ?_
  · refine sB (oBxR rfl rfl rfl rfl rfl ?_)
    refine sN (oA (v := .nil) rfl ?_)
    refine sN (oA (v := .nil) rfl ?_)
    refine sN (oA (v := (.int _ _)) rfl ?_)
    exact s0 (Wk.to (eC rfl (eC rfl (eC rfl eN))) mN rfl (prK rfl))
  refine LH.seq ?_
  obtain ⟨r1, hr1, h⟩ := bindS h
  refine LH.seqT [(0, .lst 8 (List.map GEntryEvent.lv p0)), (2, .int .i64 p2), (4, .sptr [.int .i64 p1.Close, .int .i64 p1.Late]), (19, .bool (!r1))] [] rfl ?_ ?_
  · refine sN (oLdA rfl tk41 ta41 ts41 rfl rfl ?_)
    refine sN (oCP (args := [.agg [.int .i64 p1.Close, .int .i64 p1.Late]]) rfl isF42 rfl (sbR sbN) (entry_validDeadlines_ok hr1) rfl ?_)
    refine sN (oNot rfl ?_)
    exact s0 (Wk.to (eC rfl (eC rfl (eC rfl (eC rfl eN)))) mN rfl (prK rfl))
  refine LH.cond (t := (!r1)) rfl (fun hc2 => ?_) (fun hc2 => ?_)
  · replace h := iteT h hc2
    refine LH.seqT [(6, .nil), (7, .nil), (8, .int .i64 1)] [] rfl ?_ ?_
    · refine sN (oA (v := .nil) rfl ?_)
      refine sN (oA (v := .nil) rfl ?_)
      refine sN (oA (v := (.int _ _)) rfl ?_)
      exact s0 (Wk.to (eC rfl (eC rfl (eC rfl eN))) mN rfl (prK rfl))
    refine LH.ret ?_
    refine thenR ?_
    obtain rfl := Option.some.inj h
    exact retE (congrArg Array.toList Try.results21) (lrT rfl (lrT rfl (lrT rfl (lr0 ⟨memN mN, rfl, prK rfl, (Sub.tup (sbL (sbL (sbR sbN))))⟩))))
  replace h := iteF h hc2
  refine LH.skip ?_
  refine thenN ?_
  refine LH.wk (Wk.to (el := [(0, .lst 8 (List.map GEntryEvent.lv p0)), (2, .int .i64 p2), (4, .sptr [.int .i64 p1.Close, .int .i64 p1.Late])]) (ml := []) (eC rfl (eC rfl (eC rfl eN))) mN rfl (prK rfl)) ?_
  obtain ⟨r3, hr3, h⟩ := bindS h
  refine LH.seqT [(2, .int .i64 p2), (4, .sptr [.int .i64 p1.Close, .int .i64 p1.Late]), (9, .lst 8 (List.map GEntryEvent.lv r3.1)), (10, .int .i64 r3.2)] [] rfl ?_ ?_
  · refine sN (oM (v := (.lst _ _)) rfl ?_)
    refine sN (oCP (args := [.lst 8 (List.map GEntryEvent.lv p0)]) rfl isF14 rfl (sbR sbN) (entry_Canonical_ok hr3) rfl ?_)
    refine sN (oM (v := (.tup _)) rfl ?_)
    refine sN (oEx rfl rfl ?_)
    refine sN (oEx rfl rfl ?_)
    refine sN (oA (v := (.lst _ _)) rfl ?_)
    refine sN (oA (v := (.int _ _)) rfl ?_)
    exact s0 (Wk.to (eC rfl (eC rfl (eC rfl (eC rfl eN)))) mN rfl (prK rfl))
  refine LH.seq ?_
  refine LH.seqT [(2, .int .i64 p2), (4, .sptr [.int .i64 p1.Close, .int .i64 p1.Late]), (9, .lst 8 (List.map GEntryEvent.lv r3.1)), (10, .int .i64 r3.2), (26, .bool (r3.2 != 0))] [] rfl ?_ ?_
  · refine sN (oM (v := (.int _ _)) rfl ?_)
    refine sN (oNe rfl rfl ?_)
    exact s0 (Wk.to (eC rfl (eC rfl (eC rfl (eC rfl (eC rfl eN))))) mN rfl (prK rfl))
  refine LH.cond (t := (r3.2 != 0)) rfl (fun hc4 => ?_) (fun hc4 => ?_)
  · replace h := iteT h hc4
    refine LH.seqT [(6, .nil), (7, .nil), (8, .int .i64 r3.2)] [] rfl ?_ ?_
    · refine sN (oM (v := (.int _ _)) rfl ?_)
      refine sN (oA (v := .nil) rfl ?_)
      refine sN (oA (v := .nil) rfl ?_)
      refine sN (oA (v := (.int _ _)) rfl ?_)
      exact s0 (Wk.to (eC rfl (eC rfl (eC rfl eN))) mN rfl (prK rfl))
    refine LH.ret ?_
    refine thenR ?_
    obtain rfl := Option.some.inj h
    exact retE (congrArg Array.toList Try.results21) (lrT rfl (lrT rfl (lrT rfl (lr0 ⟨memN mN, rfl, prK rfl, (Sub.tup (sbL (sbL (sbR sbN))))⟩))))
  replace h := iteF h hc4
  refine LH.skip ?_
  refine thenN ?_
  refine LH.wk (Wk.to (el := [(2, .int .i64 p2), (4, .sptr [.int .i64 p1.Close, .int .i64 p1.Late]), (9, .lst 8 (List.map GEntryEvent.lv r3.1))]) (ml := []) (eC rfl (eC rfl (eC rfl eN))) mN rfl (prK rfl)) ?_
  refine LH.seqT [(2, .int .i64 p2), (4, .sptr [.int .i64 p1.Close, .int .i64 p1.Late]), (9, .lst 8 (List.map GEntryEvent.lv r3.1)), (11, .nil)] [] rfl ?_ ?_
  · refine sN (oA (v := .nil) rfl ?_)
    exact s0 (Wk.to (eC rfl (eC rfl (eC rfl (eC rfl eN)))) mN rfl (prK rfl))
  refine LH.seqT [(2, .int .i64 p2), (4, .sptr [.int .i64 p1.Close, .int .i64 p1.Late]), (9, .lst 8 (List.map GEntryEvent.lv r3.1)), (11, .nil), (12, .nil)] [] rfl ?_ ?_
  · refine sN (oA (v := .nil) rfl ?_)
    exact s0 (Wk.to (eC rfl (eC rfl (eC rfl (eC rfl (eC rfl eN))))) mN rfl (prK rfl))
  refine LH.seq ?_
  refine LH.seqT [(2, .int .i64 p2), (4, .sptr [.int .i64 p1.Close, .int .i64 p1.Late]), (11, .nil), (12, .nil), (28, .lst 8 (List.map GEntryEvent.lv r3.1)), (29, .int .i64 (r3.1.length : Int)), (30, .int .i64 0)] [] rfl ?_ ?_
  · refine sN (oM (v := (.lst _ _)) rfl ?_)
    refine sN (oLnL (f := GEntryEvent.lv) te25 rfl ?_)
    refine sN (oM (v := (.int _ _)) rfl ?_)
    exact s0 (Wk.to (eC rfl (eC rfl (eC rfl (eC rfl (eC rfl (eC rfl (eC rfl eN))))))) mN rfl (prK rfl))
  refine LH.block ?_
  refine LH.wk ((Wk.trans (Wk.to (el := [(2, .int .i64 p2), (4, .sptr [.int .i64 p1.Close, .int .i64 p1.Late]), (11, .nil), (12, .nil), (28, .lst 8 (List.map GEntryEvent.lv r3.1)), (29, .int .i64 (r3.1.length : Int)), (30, .int .i64 0)]) (ml := []) (eC rfl (eC rfl (eC rfl (eC rfl (eC rfl (eC rfl (eC rfl eN))))))) mN rfl (prK rfl)) (Wk.trans (Wk.to (el := [(2, .int .i64 p2), (4, .sptr [.int .i64 p1.Close, .int .i64 p1.Late]), (11, .nil), (12, .nil), (28, .lst 8 (List.map GEntryEvent.lv r3.1)), (29, .int .i64 (r3.1.length : Int)), (30, .int .i64 0)]) (ml := []) (eC rfl (eC rfl (eC rfl (eC rfl (eC rfl (eC rfl (eC rfl eN))))))) mN rfl (prK rfl)) (Wk.trans (Wk.ownL (el' := [(2, .int .i64 p2), (4, .sptr [.int .i64 p1.Close, .int .i64 p1.Late]), (11, .nil), (12, .arr 159 (List.length ([] : List GRefusal))), (28, .lst 8 (List.map GEntryEvent.lv r3.1)), (29, .int .i64 (r3.1.length : Int)), (30, .int .i64 0)]) 159 76 3 rfl rfl (wK (wK (wK (wO (wK (wK (wK wN)))))))) (Wk.to (el := [(2, .int .i64 p2), (4, .sptr [.int .i64 p1.Close, .int .i64 p1.Late]), (11, .lst 4 (List.map GEnrolment.lv ([] : List GEnrolment))), (12, .arr 159 (List.length ([] : List GRefusal))), (28, .lst 8 (List.map GEntryEvent.lv r3.1)), (29, .int .i64 (r3.1.length : Int)), (30, .int .i64 0)]) (ml := [(159, .arr 76 3 (List.map GRefusal.lv ([] : List GRefusal)))]) (eC rfl (eC rfl (eL rfl (eC rfl (eC rfl (eC rfl (eC rfl eN))))))) (mC rfl mN) rfl (prK rfl)))))) ?_
  refine LH.loop (fun n e m => ∃ (l5 : List GEnrolment) (n6 : Int) (l7 : List GRefusal), entry_Fold_L1 F p1 p2 r3 n l5 n6 l7 = some r ∧ e = Env.of [(2, .int .i64 p2), (4, .sptr [.int .i64 p1.Close, .int .i64 p1.Late]), (11, .lst 4 (List.map GEnrolment.lv l5)), (12, .arr 159 (List.length l7)), (28, .lst 8 (List.map GEntryEvent.lv r3.1)), (29, .int .i64 (r3.1.length : Int)), (30, .int .i64 n6)] ∧ m = Mem.of [(159, .arr 76 3 (List.map GRefusal.lv l7))]) F ⟨([] : List GEnrolment), 0, ([] : List GRefusal), h, rfl, rfl⟩ ?_
  clear h
  rintro n e m ⟨l5, n6, l7, h, rfl, rfl⟩
  rcases n with _ | n
  · cases (show Option.none = some _ from h)
  obtain ⟨rec1, hrec1⟩ : ∃ f, f = entry_Fold_L1 F p1 p2 r3 n := ⟨_, rfl⟩
  replace h : entry_Fold_L1_B F p1 p2 r3 rec1 l5 n6 l7 = some r := hrec1 ▸ h
  unfold entry_Fold_L1_B at h
  refine LH.seqT [(2, .int .i64 p2), (4, .sptr [.int .i64 p1.Close, .int .i64 p1.Late]), (11, .lst 4 (List.map GEnrolment.lv l5)), (12, .arr 159 (List.length l7)), (28, .lst 8 (List.map GEntryEvent.lv r3.1)), (29, .int .i64 (r3.1.length : Int)), (30, .int .i64 n6), (31, .bool (decide (n6 < (r3.1.length : Int))))] [(159, .arr 76 3 (List.map GRefusal.lv l7))] rfl ?_ ?_
  · refine sN (oLt rfl rfl ?_)
    exact s0 (Wk.to (eC rfl (eC rfl (eC rfl (eC rfl (eC rfl (eC rfl (eC rfl (eC rfl eN)))))))) (mC rfl mN) rfl (prK rfl))
  refine LH.seq ?_
  refine LH.cond (t := (decide (n6 < (r3.1.length : Int)))) rfl (fun hc8 => ?_) (fun hc8 => ?_)
  · replace h := iteT h hc8
    refine LH.skip ?_
    refine thenN ?_
    refine LH.wk (Wk.to (el := [(2, .int .i64 p2), (4, .sptr [.int .i64 p1.Close, .int .i64 p1.Late]), (11, .lst 4 (List.map GEnrolment.lv l5)), (12, .arr 159 (List.length l7)), (28, .lst 8 (List.map GEntryEvent.lv r3.1)), (29, .int .i64 (r3.1.length : Int)), (30, .int .i64 n6)]) (ml := [(159, .arr 76 3 (List.map GRefusal.lv l7))]) (eC rfl (eC rfl (eC rfl (eC rfl (eC rfl (eC rfl (eC rfl eN))))))) (mC rfl mN) rfl (prK rfl)) ?_
    refine LH.seq ?_
    refine LH.block ?_
    obtain ⟨x9, hx9, h⟩ := bindS h
    refine LH.seqT [(2, .int .i64 p2), (4, .sptr [.int .i64 p1.Close, .int .i64 p1.Late]), (11, .lst 4 (List.map GEnrolment.lv l5)), (12, .arr 159 (List.length l7)), (14, .sptr [.int .i64 x9.Stamp.Time, .int .i64 x9.Stamp.Source, .int .i64 x9.Stamp.Seq, .int .i64 x9.Kind, .int .i64 x9.Entry.Candidate, .int .i64 x9.Entry.Centre, .int .i64 x9.Entry.Paper, .int .i64 x9.To]), (28, .lst 8 (List.map GEntryEvent.lv r3.1)), (29, .int .i64 (r3.1.length : Int)), (30, .int .i64 n6)] [(159, .arr 76 3 (List.map GRefusal.lv l7))] rfl ?_ ?_
    · refine sN (oIx (f := GEntryEvent.lv) te25 tk35 ts35 rfl rfl GEntryEvent.ok hx9 rfl ?_)
      refine sN (oLdA rfl tk35 ta35 ts35 rfl rfl ?_)
      refine sN (oAl (id := 114) rfl tz35 rfl rfl ?_)
      refine s_ (oSt rfl rfl rfl tk35 ts35 rfl rfl rfl ?_)
      exact s0 ((Wk.trans (Wk.to (el := [(2, .int .i64 p2), (4, .sptr [.int .i64 p1.Close, .int .i64 p1.Late]), (11, .lst 4 (List.map GEnrolment.lv l5)), (12, .arr 159 (List.length l7)), (14, .ptr 114 0), (28, .lst 8 (List.map GEntryEvent.lv r3.1)), (29, .int .i64 (r3.1.length : Int)), (30, .int .i64 n6)]) (ml := [(114, .box [.int .i64 x9.Stamp.Time, .int .i64 x9.Stamp.Source, .int .i64 x9.Stamp.Seq, .int .i64 x9.Kind, .int .i64 x9.Entry.Candidate, .int .i64 x9.Entry.Centre, .int .i64 x9.Entry.Paper, .int .i64 x9.To]), (159, .arr 76 3 (List.map GRefusal.lv l7))]) (eC rfl (eC rfl (eC rfl (eC rfl (eC rfl (eC rfl (eC rfl (eC rfl eN)))))))) (mC rfl (mC rfl mN)) rfl (prK rfl)) (Wk.trans (Wk.frzB 114 [.int .i64 x9.Stamp.Time, .int .i64 x9.Stamp.Source, .int .i64 x9.Stamp.Seq, .int .i64 x9.Kind, .int .i64 x9.Entry.Candidate, .int .i64 x9.Entry.Centre, .int .i64 x9.Entry.Paper, .int .i64 x9.To] rfl rfl rfl (prN rfl)) (Wk.to (eC rfl (eC rfl (eC rfl (eC rfl (eC rfl (eC rfl (eC rfl (eC rfl eN)))))))) (mC rfl mN) rfl (prK rfl)))))
    refine LH.seq ?_
    refine LH.seqT [(2, .int .i64 p2), (4, .sptr [.int .i64 p1.Close, .int .i64 p1.Late]), (11, .lst 4 (List.map GEnrolment.lv l5)), (12, .arr 159 (List.length l7)), (14, .sptr [.int .i64 x9.Stamp.Time, .int .i64 x9.Stamp.Source, .int .i64 x9.Stamp.Seq, .int .i64 x9.Kind, .int .i64 x9.Entry.Candidate, .int .i64 x9.Entry.Centre, .int .i64 x9.Entry.Paper, .int .i64 x9.To]), (28, .lst 8 (List.map GEntryEvent.lv r3.1)), (29, .int .i64 (r3.1.length : Int)), (30, .int .i64 n6), (38, .bool (decide (x9.Stamp.Time > p2)))] [(159, .arr 76 3 (List.map GRefusal.lv l7))] rfl ?_ ?_
    · refine sN (oFaS tf35_0 tk31 ts31 rfl rfl rfl ?_)
      refine sN (oFaS tf31_0 tk3 ts3 rfl rfl rfl ?_)
      refine sN (oLd rfl tk3 ta3 ?_)
      refine sN (oM (v := (.int _ _)) rfl ?_)
      refine sN (oGt rfl rfl ?_)
      exact s0 (Wk.to (eC rfl (eC rfl (eC rfl (eC rfl (eC rfl (eC rfl (eC rfl (eC rfl (eC rfl eN))))))))) (mC rfl mN) rfl (prK rfl))
    refine LH.cond (t := (decide (x9.Stamp.Time > p2))) rfl (fun hc10 => ?_) (fun hc10 => ?_)
    · replace h := iteT h hc10
      refine LH.exit ?_
      refine thenX ?_
      refine blockX rfl ?_
      refine thenX ?_
      refine roundX ?_
      refine blockH ?_
      refine thenN ?_
      refine LH.wk ((Wk.trans (Wk.to (el := [(11, .lst 4 (List.map GEnrolment.lv l5)), (12, .arr 159 (List.length l7))]) (ml := [(159, .arr 76 3 (List.map GRefusal.lv l7))]) (eC rfl (eC rfl eN)) (mC rfl mN) rfl (prK rfl)) (Wk.trans (Wk.frzL (f := GRefusal.lv) (el' := [(11, .lst 4 (List.map GEnrolment.lv l5)), (12, .lst 3 (List.map GRefusal.lv l7))]) 159 76 3 l7 rfl rfl (prN rfl) (fK rfl (fZ fN))) (Wk.to (el := [(11, .lst 4 (List.map GEnrolment.lv l5)), (12, .lst 3 (List.map GRefusal.lv l7))]) (ml := []) (eC rfl (eC rfl eN)) mN rfl (prK rfl))))) ?_
      refine LH.seqT [(6, .lst 4 (List.map GEnrolment.lv l5)), (7, .lst 3 (List.map GRefusal.lv l7)), (8, .int .i64 0)] [] rfl ?_ ?_
      · refine sN (oM (v := (.lst _ _)) rfl ?_)
        refine sN (oM (v := (.lst _ _)) rfl ?_)
        refine sN (oA (v := (.lst _ _)) rfl ?_)
        refine sN (oA (v := (.lst _ _)) rfl ?_)
        refine sN (oA (v := (.int _ _)) rfl ?_)
        exact s0 (Wk.to (eC rfl (eC rfl (eC rfl eN))) mN rfl (prK rfl))
      refine LH.ret ?_
      obtain rfl := Option.some.inj h
      exact retE (congrArg Array.toList Try.results21) (lrT rfl (lrT rfl (lrT rfl (lr0 ⟨memN mN, rfl, prK rfl, (Sub.tup (sbR (sbR (sbR sbN))))⟩))))
    replace h := iteF h hc10
    refine LH.skip ?_
    refine thenN ?_
    refine LH.wk (Wk.to (el := [(2, .int .i64 p2), (4, .sptr [.int .i64 p1.Close, .int .i64 p1.Late]), (11, .lst 4 (List.map GEnrolment.lv l5)), (12, .arr 159 (List.length l7)), (14, .sptr [.int .i64 x9.Stamp.Time, .int .i64 x9.Stamp.Source, .int .i64 x9.Stamp.Seq, .int .i64 x9.Kind, .int .i64 x9.Entry.Candidate, .int .i64 x9.Entry.Centre, .int .i64 x9.Entry.Paper, .int .i64 x9.To]), (28, .lst 8 (List.map GEntryEvent.lv r3.1)), (29, .int .i64 (r3.1.length : Int)), (30, .int .i64 n6)]) (ml := [(159, .arr 76 3 (List.map GRefusal.lv l7))]) (eC rfl (eC rfl (eC rfl (eC rfl (eC rfl (eC rfl (eC rfl (eC rfl eN)))))))) (mC rfl mN) rfl (prK rfl)) ?_
    obtain ⟨r11, hr11, h⟩ := bindS h
    refine LH.seqT [(2, .int .i64 p2), (4, .sptr [.int .i64 p1.Close, .int .i64 p1.Late]), (11, .lst 4 (List.map GEnrolment.lv l5)), (12, .arr 159 (List.length l7)), (14, .sptr [.int .i64 x9.Stamp.Time, .int .i64 x9.Stamp.Source, .int .i64 x9.Stamp.Seq, .int .i64 x9.Kind, .int .i64 x9.Entry.Candidate, .int .i64 x9.Entry.Centre, .int .i64 x9.Entry.Paper, .int .i64 x9.To]), (15, .lst 4 (List.map GEnrolment.lv r11.1)), (16, .int .i64 r11.2), (28, .lst 8 (List.map GEntryEvent.lv r3.1)), (29, .int .i64 (r3.1.length : Int)), (30, .int .i64 n6)] [(159, .arr 76 3 (List.map GRefusal.lv l7))] rfl ?_ ?_
    · refine sN (oM (v := (.lst _ _)) rfl ?_)
      refine sN (oLdA rfl tk41 ta41 ts41 rfl rfl ?_)
      refine sN (oLdA rfl tk35 ta35 ts35 rfl rfl ?_)
      refine sN (oCP (args := [.lst 4 (List.map GEnrolment.lv l5), .agg [.int .i64 p1.Close, .int .i64 p1.Late], .agg [.int .i64 x9.Stamp.Time, .int .i64 x9.Stamp.Source, .int .i64 x9.Stamp.Seq, .int .i64 x9.Kind, .int .i64 x9.Entry.Candidate, .int .i64 x9.Entry.Centre, .int .i64 x9.Entry.Paper, .int .i64 x9.To]]) rfl isF43 rfl (sbR (sbR (sbR sbN))) (entry_step_ok hr11) rfl ?_)
      refine sN (oM (v := (.tup _)) rfl ?_)
      refine sN (oEx rfl rfl ?_)
      refine sN (oEx rfl rfl ?_)
      refine sN (oA (v := (.lst _ _)) rfl ?_)
      refine sN (oA (v := (.int _ _)) rfl ?_)
      exact s0 (Wk.to (eC rfl (eC rfl (eC rfl (eC rfl (eC rfl (eC rfl (eC rfl (eC rfl (eC rfl (eC rfl eN)))))))))) (mC rfl mN) rfl (prK rfl))
    refine LH.seq ?_
    refine LH.seqT [(2, .int .i64 p2), (4, .sptr [.int .i64 p1.Close, .int .i64 p1.Late]), (11, .lst 4 (List.map GEnrolment.lv l5)), (12, .arr 159 (List.length l7)), (14, .sptr [.int .i64 x9.Stamp.Time, .int .i64 x9.Stamp.Source, .int .i64 x9.Stamp.Seq, .int .i64 x9.Kind, .int .i64 x9.Entry.Candidate, .int .i64 x9.Entry.Centre, .int .i64 x9.Entry.Paper, .int .i64 x9.To]), (15, .lst 4 (List.map GEnrolment.lv r11.1)), (16, .int .i64 r11.2), (28, .lst 8 (List.map GEntryEvent.lv r3.1)), (29, .int .i64 (r3.1.length : Int)), (30, .int .i64 n6), (47, .bool (r11.2 != 0))] [(159, .arr 76 3 (List.map GRefusal.lv l7))] rfl ?_ ?_
    · refine sN (oM (v := (.int _ _)) rfl ?_)
      refine sN (oNe rfl rfl ?_)
      exact s0 (Wk.to (eC rfl (eC rfl (eC rfl (eC rfl (eC rfl (eC rfl (eC rfl (eC rfl (eC rfl (eC rfl (eC rfl eN))))))))))) (mC rfl mN) rfl (prK rfl))
    refine LH.cond (t := (r11.2 != 0)) rfl (fun hc12 => ?_) (fun hc12 => ?_)
    · replace h := iteT h hc12
      obtain ⟨v13, hv13, h⟩ := bindS h
      refine LH.seqT [(2, .int .i64 p2), (4, .sptr [.int .i64 p1.Close, .int .i64 p1.Late]), (11, .lst 4 (List.map GEnrolment.lv l5)), (12, .arr 159 (List.length v13)), (28, .lst 8 (List.map GEntryEvent.lv r3.1)), (29, .int .i64 (r3.1.length : Int)), (30, .int .i64 n6)] [(159, .arr 76 3 (List.map GRefusal.lv v13))] rfl ?_ ?_
      · refine sN (oM (v := (.arr _ _)) rfl ?_)
        refine sN (oFaS tf35_0 tk31 ts31 rfl rfl rfl ?_)
        refine sN (oFaS tf31_1 tk3 ts3 rfl rfl rfl ?_)
        refine sN (oLd rfl tk3 ta3 ?_)
        refine sN (oFaS tf35_0 tk31 ts31 rfl rfl rfl ?_)
        refine sN (oFaS tf31_2 tk3 ts3 rfl rfl rfl ?_)
        refine sN (oLd rfl tk3 ta3 ?_)
        refine sN (oBd (vs := [(0, .int .i64 x9.Stamp.Source), (1, .int .i64 x9.Stamp.Seq)]) tu74 tz74 rfl (lf tf74_0 ts3 tk3 rfl rfl rfl (lf tf74_1 ts3 tk3 rfl rfl rfl lf0)) ?_)
        refine sN (oM (v := (.int _ _)) rfl ?_)
        refine sN (oBd (vs := [(0, .agg [.int .i64 x9.Stamp.Source, .int .i64 x9.Stamp.Seq]), (1, .int .i64 r11.2)]) tu76 tz76 rfl (lf tf76_0 ts74 tk74 rfl rfl rfl (lf tf76_1 ts27 tk27 rfl rfl rfl lf0)) ?_)
        refine sN (oBS (f := GRefusal.lv) (ys := [(GRefusal.mk (GIdentity.mk x9.Stamp.Source x9.Stamp.Seq) r11.2)]) te45 tr76 ts76 rfl rfl rfl GRefusal.ok ?_)
        refine sN (oAp (f := GRefusal.lv) te45 tr76 ts76 rfl rfl (prN rfl) rfl hv13 ?_)
        refine sN (oA (v := (.arr _ _)) rfl ?_)
        exact s0 (Wk.to (eC rfl (eC rfl (eC rfl (eC rfl (eC rfl (eC rfl (eC rfl eN))))))) (mC rfl mN) rfl (prK rfl))
      refine LH.exit ?_
      refine thenX ?_
      refine blockH ?_
      refine thenN ?_
      refine LH.loneT [(2, .int .i64 p2), (4, .sptr [.int .i64 p1.Close, .int .i64 p1.Late]), (11, .lst 4 (List.map GEnrolment.lv l5)), (12, .arr 159 (List.length v13)), (28, .lst 8 (List.map GEntryEvent.lv r3.1)), (29, .int .i64 (r3.1.length : Int)), (30, .int .i64 (i64 (n6 + 1)))] [(159, .arr 76 3 (List.map GRefusal.lv v13))] rfl ?_ ?_
      · refine sN (oAdd rfl rfl ?_)
        refine sN (oM (v := (.int _ _)) rfl ?_)
        exact s0 (Wk.to (eC rfl (eC rfl (eC rfl (eC rfl (eC rfl (eC rfl (eC rfl eN))))))) (mC rfl mN) rfl (prK rfl))
      exact roundN (e' := Env.of [(2, .int .i64 p2), (4, .sptr [.int .i64 p1.Close, .int .i64 p1.Late]), (11, .lst 4 (List.map GEnrolment.lv l5)), (12, .arr 159 (List.length v13)), (28, .lst 8 (List.map GEntryEvent.lv r3.1)), (29, .int .i64 (r3.1.length : Int)), (30, .int .i64 (i64 (n6 + 1)))]) (m' := Mem.of [(159, .arr 76 3 (List.map GRefusal.lv v13))]) (Wk.to (eC rfl (eC rfl (eC rfl (eC rfl (eC rfl (eC rfl (eC rfl eN))))))) (mC rfl mN) rfl (prK rfl)) ⟨l5, (i64 (n6 + 1)), v13, hrec1 ▸ h, rfl, rfl⟩
    replace h := iteF h hc12
    refine LH.skip ?_
    refine thenN ?_
    refine LH.wk (Wk.to (el := [(2, .int .i64 p2), (4, .sptr [.int .i64 p1.Close, .int .i64 p1.Late]), (12, .arr 159 (List.length l7)), (15, .lst 4 (List.map GEnrolment.lv r11.1)), (28, .lst 8 (List.map GEntryEvent.lv r3.1)), (29, .int .i64 (r3.1.length : Int)), (30, .int .i64 n6)]) (ml := [(159, .arr 76 3 (List.map GRefusal.lv l7))]) (eC rfl (eC rfl (eC rfl (eC rfl (eC rfl (eC rfl (eC rfl eN))))))) (mC rfl mN) rfl (prK rfl)) ?_
    refine LH.loneT [(2, .int .i64 p2), (4, .sptr [.int .i64 p1.Close, .int .i64 p1.Late]), (11, .lst 4 (List.map GEnrolment.lv r11.1)), (12, .arr 159 (List.length l7)), (28, .lst 8 (List.map GEntryEvent.lv r3.1)), (29, .int .i64 (r3.1.length : Int)), (30, .int .i64 n6)] [(159, .arr 76 3 (List.map GRefusal.lv l7))] rfl ?_ ?_
    · refine sN (oM (v := (.lst _ _)) rfl ?_)
      refine sN (oA (v := (.lst _ _)) rfl ?_)
      exact s0 (Wk.to (eC rfl (eC rfl (eC rfl (eC rfl (eC rfl (eC rfl (eC rfl eN))))))) (mC rfl mN) rfl (prK rfl))
    refine blockN ?_
    refine thenN ?_
    refine LH.loneT [(2, .int .i64 p2), (4, .sptr [.int .i64 p1.Close, .int .i64 p1.Late]), (11, .lst 4 (List.map GEnrolment.lv r11.1)), (12, .arr 159 (List.length l7)), (28, .lst 8 (List.map GEntryEvent.lv r3.1)), (29, .int .i64 (r3.1.length : Int)), (30, .int .i64 (i64 (n6 + 1)))] [(159, .arr 76 3 (List.map GRefusal.lv l7))] rfl ?_ ?_
    · refine sN (oAdd rfl rfl ?_)
      refine sN (oM (v := (.int _ _)) rfl ?_)
      exact s0 (Wk.to (eC rfl (eC rfl (eC rfl (eC rfl (eC rfl (eC rfl (eC rfl eN))))))) (mC rfl mN) rfl (prK rfl))
    exact roundN (e' := Env.of [(2, .int .i64 p2), (4, .sptr [.int .i64 p1.Close, .int .i64 p1.Late]), (11, .lst 4 (List.map GEnrolment.lv r11.1)), (12, .arr 159 (List.length l7)), (28, .lst 8 (List.map GEntryEvent.lv r3.1)), (29, .int .i64 (r3.1.length : Int)), (30, .int .i64 (i64 (n6 + 1)))]) (m' := Mem.of [(159, .arr 76 3 (List.map GRefusal.lv l7))]) (Wk.to (eC rfl (eC rfl (eC rfl (eC rfl (eC rfl (eC rfl (eC rfl eN))))))) (mC rfl mN) rfl (prK rfl)) ⟨r11.1, (i64 (n6 + 1)), l7, hrec1 ▸ h, rfl, rfl⟩
  replace h := iteF h hc8
  refine LH.exit ?_
  refine thenX ?_
  refine roundX ?_
  refine blockH ?_
  refine thenN ?_
  refine LH.wk ((Wk.trans (Wk.to (el := [(11, .lst 4 (List.map GEnrolment.lv l5)), (12, .arr 159 (List.length l7))]) (ml := [(159, .arr 76 3 (List.map GRefusal.lv l7))]) (eC rfl (eC rfl eN)) (mC rfl mN) rfl (prK rfl)) (Wk.trans (Wk.frzL (f := GRefusal.lv) (el' := [(11, .lst 4 (List.map GEnrolment.lv l5)), (12, .lst 3 (List.map GRefusal.lv l7))]) 159 76 3 l7 rfl rfl (prN rfl) (fK rfl (fZ fN))) (Wk.to (el := [(11, .lst 4 (List.map GEnrolment.lv l5)), (12, .lst 3 (List.map GRefusal.lv l7))]) (ml := []) (eC rfl (eC rfl eN)) mN rfl (prK rfl))))) ?_
  refine LH.seqT [(6, .lst 4 (List.map GEnrolment.lv l5)), (7, .lst 3 (List.map GRefusal.lv l7)), (8, .int .i64 0)] [] rfl ?_ ?_
  · refine sN (oM (v := (.lst _ _)) rfl ?_)
    refine sN (oM (v := (.lst _ _)) rfl ?_)
    refine sN (oA (v := (.lst _ _)) rfl ?_)
    refine sN (oA (v := (.lst _ _)) rfl ?_)
    refine sN (oA (v := (.int _ _)) rfl ?_)
    exact s0 (Wk.to (eC rfl (eC rfl (eC rfl eN))) mN rfl (prK rfl))
  refine LH.ret ?_
  obtain rfl := Option.some.inj h
  exact retE (congrArg Array.toList Try.results21) (lrT rfl (lrT rfl (lrT rfl (lr0 ⟨memN mN, rfl, prK rfl, (Sub.tup (sbR (sbR (sbR sbN))))⟩))))

theorem law13_awake_ok {F : Nat} {r : Bool} (h : law13_awake F = some r) : LCall Try.prog 18 [] (Mem.of []) (.bool r) (Mem.of []) := by
  unfold law13_awake at h
  refine bodyT Try.func18 rfl (by rw [Try.ntmps18]; exact Nat.le_of_ble_eq_true rfl) ?_
  refine LH.wk (Wk.to (el := []) (ml := []) eN mN rfl (prK rfl)) ?_
  refine LH.seqT [] [] rfl ?_ ?_
  · refine sN (oA (v := (.bool _)) rfl ?_)
    exact s0 (Wk.to eN mN rfl (prK rfl))
  refine LH.seqT [(1, .sptr [.int .i64 5, .int .i64 7, .int .i64 1])] [] rfl ?_ ?_
  · refine sN (oBd (vs := [(0, .int .i64 5), (1, .int .i64 7), (2, .int .i64 1)]) tu33 tz33 rfl (lf tf33_0 ts3 tk3 rfl rfl rfl (lf tf33_1 ts3 tk3 rfl rfl rfl (lf tf33_2 ts3 tk3 rfl rfl rfl lf0))) ?_)
    refine sN (oAl (id := 101) rfl tz33 rfl rfl ?_)
    refine s_ (oSt rfl rfl rfl tk33 ts33 rfl rfl rfl ?_)
    exact s0 ((Wk.trans (Wk.to (el := [(1, .ptr 101 0)]) (ml := [(101, .box [.int .i64 5, .int .i64 7, .int .i64 1])]) (eC rfl eN) (mC rfl mN) rfl (prK rfl)) (Wk.trans (Wk.frzB 101 [.int .i64 5, .int .i64 7, .int .i64 1] rfl rfl rfl (prN rfl)) (Wk.to (eC rfl eN) mN rfl (prK rfl)))))
  refine LH.seqT [(2, .lst 8 (List.map GEntryEvent.lv [(GEntryEvent.mk (GStamp.mk 16 7 2) 1 (GEntry.mk 5 7 1) 0), (GEntryEvent.mk (GStamp.mk 8 7 0) 1 (GEntry.mk 5 7 1) 0), (GEntryEvent.mk (GStamp.mk 15 7 1) 3 (GEntry.mk 5 7 1) 9)]))] [] rfl ?_ ?_
  · refine sN (oBd (vs := [(0, .int .i64 16), (1, .int .i64 7), (2, .int .i64 2)]) tu31 tz31 rfl (lf tf31_0 ts3 tk3 rfl rfl rfl (lf tf31_1 ts3 tk3 rfl rfl rfl (lf tf31_2 ts3 tk3 rfl rfl rfl lf0))) ?_)
    refine sN (oLdA rfl tk33 ta33 ts33 rfl rfl ?_)
    refine sN (oBd (vs := [(0, .agg [.int .i64 16, .int .i64 7, .int .i64 2]), (1, .int .i64 1), (2, .agg [.int .i64 5, .int .i64 7, .int .i64 1])]) tu35 tz35 rfl (lf tf35_0 ts31 tk31 rfl rfl rfl (lf tf35_1 ts3 tk3 rfl rfl rfl (lf tf35_2 ts33 tk33 rfl rfl rfl lf0))) ?_)
    refine sN (oBd (vs := [(0, .int .i64 8), (1, .int .i64 7)]) tu31 tz31 rfl (lf tf31_0 ts3 tk3 rfl rfl rfl (lf tf31_1 ts3 tk3 rfl rfl rfl lf0)) ?_)
    refine sN (oLdA rfl tk33 ta33 ts33 rfl rfl ?_)
    refine sN (oBd (vs := [(0, .agg [.int .i64 8, .int .i64 7, .int .i64 0]), (1, .int .i64 1), (2, .agg [.int .i64 5, .int .i64 7, .int .i64 1])]) tu35 tz35 rfl (lf tf35_0 ts31 tk31 rfl rfl rfl (lf tf35_1 ts3 tk3 rfl rfl rfl (lf tf35_2 ts33 tk33 rfl rfl rfl lf0))) ?_)
    refine sN (oBd (vs := [(0, .int .i64 15), (1, .int .i64 7), (2, .int .i64 1)]) tu31 tz31 rfl (lf tf31_0 ts3 tk3 rfl rfl rfl (lf tf31_1 ts3 tk3 rfl rfl rfl (lf tf31_2 ts3 tk3 rfl rfl rfl lf0))) ?_)
    refine sN (oLdA rfl tk33 ta33 ts33 rfl rfl ?_)
    refine sN (oBd (vs := [(0, .agg [.int .i64 15, .int .i64 7, .int .i64 1]), (1, .int .i64 3), (2, .agg [.int .i64 5, .int .i64 7, .int .i64 1]), (3, .int .i64 9)]) tu35 tz35 rfl (lf tf35_0 ts31 tk31 rfl rfl rfl (lf tf35_1 ts3 tk3 rfl rfl rfl (lf tf35_2 ts33 tk33 rfl rfl rfl (lf tf35_3 ts3 tk3 rfl rfl rfl lf0)))) ?_)
    refine sN (oBS (f := GEntryEvent.lv) (ys := [(GEntryEvent.mk (GStamp.mk 16 7 2) 1 (GEntry.mk 5 7 1) 0), (GEntryEvent.mk (GStamp.mk 8 7 0) 1 (GEntry.mk 5 7 1) 0), (GEntryEvent.mk (GStamp.mk 15 7 1) 3 (GEntry.mk 5 7 1) 9)]) te25 tr35 ts35 rfl rfl rfl GEntryEvent.ok ?_)
    refine sN (oA (v := (.lst _ _)) rfl ?_)
    exact s0 (Wk.to (eC rfl eN) mN rfl (prK rfl))
  obtain ⟨r1, hr1, h⟩ := bindS h
  refine LH.seqT [(3, .lst 4 (List.map GEnrolment.lv r1.1)), (4, .lst 3 (List.map GRefusal.lv r1.2.1)), (5, .int .i64 r1.2.2)] [] rfl ?_ ?_
  · refine sN (oM (v := (.lst _ _)) rfl ?_)
    refine sN (oBd (vs := [(0, .int .i64 10), (1, .int .i64 20)]) tu41 tz41 rfl (lf tf41_0 ts3 tk3 rfl rfl rfl (lf tf41_1 ts3 tk3 rfl rfl rfl lf0)) ?_)
    refine sN (oCP (args := [.lst 8 (List.map GEntryEvent.lv [(GEntryEvent.mk (GStamp.mk 16 7 2) 1 (GEntry.mk 5 7 1) 0), (GEntryEvent.mk (GStamp.mk 8 7 0) 1 (GEntry.mk 5 7 1) 0), (GEntryEvent.mk (GStamp.mk 15 7 1) 3 (GEntry.mk 5 7 1) 9)]), .agg [.int .i64 10, .int .i64 20], .int .i64 100]) rfl isF21 rfl (sbR (sbR (sbR sbN))) (entry_Fold_ok hr1) rfl ?_)
    refine sN (oM (v := (.tup _)) rfl ?_)
    refine sN (oEx rfl rfl ?_)
    refine sN (oEx rfl rfl ?_)
    refine sN (oEx rfl rfl ?_)
    refine sN (oA (v := (.lst _ _)) rfl ?_)
    refine sN (oA (v := (.lst _ _)) rfl ?_)
    refine sN (oA (v := (.int _ _)) rfl ?_)
    exact s0 (Wk.to (eC rfl (eC rfl (eC rfl eN))) mN rfl (prK rfl))
  obtain ⟨w3, hv, h⟩ := bindS h
  refine LH.seqT [(0, .bool w3)] [] rfl ?_ ?_
  · refine sN (oM (v := (.int _ _)) rfl ?_)
    refine sN (oEq rfl rfl ?_)
    refine sN (oM (v := (.bool _)) rfl ?_)
    by_cases hb4 : (r1.2.2 == 0) = true
    · replace hv := iteT hv hb4
      refine sT rfl (congrArg LV.bool hb4) (oM (v := (.lst _ _)) rfl ?_)
      refine sT rfl (congrArg LV.bool hb4) (oLnL (f := GEnrolment.lv) te44 rfl ?_)
      refine sT rfl (congrArg LV.bool hb4) (oEq rfl rfl ?_)
      refine sN (oPkT (congrArg LV.bool hb4) (v := (.bool _)) rfl ?_)
      refine sN (oM (v := (.bool _)) rfl ?_)
      by_cases hb5 : ((r1.1.length : Int) == 1) = true
      · replace hv := iteT hv hb5
        refine sT rfl (congrArg LV.bool hb5) (oM (v := (.lst _ _)) rfl ?_)
        obtain ⟨x6, hx6, hv⟩ := bindS hv
        refine sT rfl (congrArg LV.bool hb5) (oIx (f := GEnrolment.lv) te44 tk53 ts53 rfl rfl GEnrolment.ok hx6 rfl ?_)
        refine sT rfl (congrArg LV.bool hb5) (oLdA rfl tk53 ta53 ts53 rfl rfl ?_)
        refine sT rfl (congrArg LV.bool hb5) (oBd (vs := [(0, .int .i64 5), (1, .int .i64 9), (2, .int .i64 1)]) tu33 tz33 rfl (lf tf33_0 ts3 tk3 rfl rfl rfl (lf tf33_1 ts3 tk3 rfl rfl rfl (lf tf33_2 ts3 tk3 rfl rfl rfl lf0))) ?_)
        refine sT rfl (congrArg LV.bool hb5) (oBd (vs := [(0, .agg [.int .i64 5, .int .i64 9, .int .i64 1])]) tu53 tz53 rfl (lf tf53_0 ts33 tk33 rfl rfl rfl lf0) ?_)
        refine sT rfl (congrArg LV.bool hb5) (oEqA rfl rfl (ae53 x6 (GEnrolment.mk (GEntry.mk 5 9 1) false)) ?_)
        refine sN (oPkT (congrArg LV.bool hb5) (v := (.bool _)) rfl ?_)
        refine sN (oM (v := (.bool _)) rfl ?_)
        by_cases hb7 : (decide (x6 = (GEnrolment.mk (GEntry.mk 5 9 1) false))) = true
        · replace hv := iteT hv hb7
          refine sT rfl (congrArg LV.bool hb7) (oM (v := (.lst _ _)) rfl ?_)
          refine sT rfl (congrArg LV.bool hb7) (oLnL (f := GRefusal.lv) te45 rfl ?_)
          refine sT rfl (congrArg LV.bool hb7) (oEq rfl rfl ?_)
          refine sN (oPkT (congrArg LV.bool hb7) (v := (.bool _)) rfl ?_)
          refine sN (oM (v := (.bool _)) rfl ?_)
          by_cases hb8 : ((r1.2.1.length : Int) == 1) = true
          · replace hv := iteT hv hb8
            refine sT rfl (congrArg LV.bool hb8) (oM (v := (.lst _ _)) rfl ?_)
            obtain ⟨x9, hx9, hv⟩ := bindS hv
            refine sT rfl (congrArg LV.bool hb8) (oIx (f := GRefusal.lv) te45 tk76 ts76 rfl rfl GRefusal.ok hx9 rfl ?_)
            refine sT rfl (congrArg LV.bool hb8) (oLdA rfl tk76 ta76 ts76 rfl rfl ?_)
            refine sT rfl (congrArg LV.bool hb8) (oBd (vs := [(0, .int .i64 7), (1, .int .i64 2)]) tu74 tz74 rfl (lf tf74_0 ts3 tk3 rfl rfl rfl (lf tf74_1 ts3 tk3 rfl rfl rfl lf0)) ?_)
            refine sT rfl (congrArg LV.bool hb8) (oBd (vs := [(0, .agg [.int .i64 7, .int .i64 2]), (1, .int .i64 9)]) tu76 tz76 rfl (lf tf76_0 ts74 tk74 rfl rfl rfl (lf tf76_1 ts27 tk27 rfl rfl rfl lf0)) ?_)
            refine sT rfl (congrArg LV.bool hb8) (oEqA rfl rfl (ae76 x9 (GRefusal.mk (GIdentity.mk 7 2) 9)) ?_)
            refine sN (oPkT (congrArg LV.bool hb8) (v := (.bool _)) rfl ?_)
            refine sN (oA (v := (.bool _)) rfl ?_)
            obtain rfl := Option.some.inj hv
            exact s0 (Wk.to (eC rfl eN) mN rfl (prK rfl))
          · replace hb8 := bF hb8
            replace hv := iteF hv hb8
            refine sF rfl rfl hb8 ?_
            refine sF rfl rfl hb8 ?_
            refine sF rfl rfl hb8 ?_
            refine sF rfl rfl hb8 ?_
            refine sF rfl rfl hb8 ?_
            refine sF rfl rfl hb8 ?_
            refine sN (oPkF (congrArg LV.bool hb8) (v := (.bool _)) rfl ?_)
            refine sN (oA (v := (.bool _)) rfl ?_)
            obtain rfl := Option.some.inj hv
            exact s0 (Wk.to (eC rfl eN) mN rfl (prK rfl))
        · replace hb7 := bF hb7
          replace hv := iteF hv hb7
          refine sF rfl rfl hb7 ?_
          refine sF rfl rfl hb7 ?_
          refine sF rfl rfl hb7 ?_
          refine sN (oPkF (congrArg LV.bool hb7) (v := (.bool _)) rfl ?_)
          refine sN (oM (v := (.bool _)) rfl ?_)
          refine sF rfl rfl rfl ?_
          refine sF rfl rfl rfl ?_
          refine sF rfl rfl rfl ?_
          refine sF rfl rfl rfl ?_
          refine sF rfl rfl rfl ?_
          refine sF rfl rfl rfl ?_
          refine sN (oPkF rfl (v := (.bool _)) rfl ?_)
          refine sN (oA (v := (.bool _)) rfl ?_)
          obtain rfl := Option.some.inj hv
          exact s0 (Wk.to (eC rfl eN) mN rfl (prK rfl))
      · replace hb5 := bF hb5
        replace hv := iteF hv hb5
        refine sF rfl rfl hb5 ?_
        refine sF rfl rfl hb5 ?_
        refine sF rfl rfl hb5 ?_
        refine sF rfl rfl hb5 ?_
        refine sF rfl rfl hb5 ?_
        refine sF rfl rfl hb5 ?_
        refine sN (oPkF (congrArg LV.bool hb5) (v := (.bool _)) rfl ?_)
        refine sN (oM (v := (.bool _)) rfl ?_)
        refine sF rfl rfl rfl ?_
        refine sF rfl rfl rfl ?_
        refine sF rfl rfl rfl ?_
        refine sN (oPkF rfl (v := (.bool _)) rfl ?_)
        refine sN (oM (v := (.bool _)) rfl ?_)
        refine sF rfl rfl rfl ?_
        refine sF rfl rfl rfl ?_
        refine sF rfl rfl rfl ?_
        refine sF rfl rfl rfl ?_
        refine sF rfl rfl rfl ?_
        refine sF rfl rfl rfl ?_
        refine sN (oPkF rfl (v := (.bool _)) rfl ?_)
        refine sN (oA (v := (.bool _)) rfl ?_)
        obtain rfl := Option.some.inj hv
        exact s0 (Wk.to (eC rfl eN) mN rfl (prK rfl))
    · replace hb4 := bF hb4
      replace hv := iteF hv hb4
      refine sF rfl rfl hb4 ?_
      refine sF rfl rfl hb4 ?_
      refine sF rfl rfl hb4 ?_
      refine sN (oPkF (congrArg LV.bool hb4) (v := (.bool _)) rfl ?_)
      refine sN (oM (v := (.bool _)) rfl ?_)
      refine sF rfl rfl rfl ?_
      refine sF rfl rfl rfl ?_
      refine sF rfl rfl rfl ?_
      refine sF rfl rfl rfl ?_
      refine sF rfl rfl rfl ?_
      refine sF rfl rfl rfl ?_
      refine sN (oPkF rfl (v := (.bool _)) rfl ?_)
      refine sN (oM (v := (.bool _)) rfl ?_)
      refine sF rfl rfl rfl ?_
      refine sF rfl rfl rfl ?_
      refine sF rfl rfl rfl ?_
      refine sN (oPkF rfl (v := (.bool _)) rfl ?_)
      refine sN (oM (v := (.bool _)) rfl ?_)
      refine sF rfl rfl rfl ?_
      refine sF rfl rfl rfl ?_
      refine sF rfl rfl rfl ?_
      refine sF rfl rfl rfl ?_
      refine sF rfl rfl rfl ?_
      refine sF rfl rfl rfl ?_
      refine sN (oPkF rfl (v := (.bool _)) rfl ?_)
      refine sN (oA (v := (.bool _)) rfl ?_)
      obtain rfl := Option.some.inj hv
      exact s0 (Wk.to (eC rfl eN) mN rfl (prK rfl))
  clear hv
  refine LH.ret ?_
  obtain rfl := Option.some.inj h
  exact retE (congrArg Array.toList Try.results18) (lrT rfl (lr0 ⟨memN mN, rfl, prK rfl, Sub.rfl⟩))

theorem GTape_Deadlines_ok {p0 : GTape} {p1 : Int} {r : GDeadlines × GTape} (h : GTape_Deadlines p0 p1 = some r) : LCall Try.prog 19 [.ptr 7 0, .int .i64 p1] (Mem.of [(7, .box [.lst 1 (List.map (LV.int .i64) p0.L), .int .i64 p0.At])]) (.agg [.int .i64 r.1.Close, .int .i64 r.1.Late]) (Mem.of [(7, .box [.lst 1 (List.map (LV.int .i64) r.2.L), .int .i64 r.2.At])]) := by
  unfold GTape_Deadlines at h
  refine bodyT Try.func19 rfl (by rw [Try.ntmps19]; exact Nat.le_of_ble_eq_true rfl) ?_
  refine LH.wk (Wk.to (el := [(0, .ptr 7 0), (1, .int .i64 p1)]) (ml := [(7, .box [.lst 1 (List.map (LV.int .i64) p0.L), .int .i64 p0.At])]) (eC rfl (eC rfl eN)) (mC rfl mN) rfl (prK rfl)) ?_
  refine LH.seqT [(0, .ptr 7 0), (1, .int .i64 p1), (4, .ptr 104 0)] [(7, .box [.lst 1 (List.map (LV.int .i64) p0.L), .int .i64 p0.At]), (104, .box [.int .i64 0, .int .i64 0])] rfl ?_ ?_
  · refine sN (oAl (id := 104) rfl tz41 rfl rfl ?_)
    exact s0 (Wk.to (eC rfl (eC rfl (eC rfl eN))) (mC rfl (mC rfl mN)) rfl (prK rfl))
  obtain ⟨r1, hr1, h⟩ := bindS h
  refine LH.seqT [(0, .ptr 7 0), (1, .int .i64 p1), (4, .ptr 104 0), (5, .int .i64 r1.1)] [(7, .box [.lst 1 (List.map (LV.int .i64) r1.2.L), .int .i64 r1.2.At]), (104, .box [.int .i64 0, .int .i64 0])] rfl ?_ ?_
  · refine sN (oM (v := (.ptr _ _)) rfl ?_)
    refine sN (oCM (args := [.ptr 7 0, .int .i64 4, .int .i64 14]) (ml := [(7, .box [.lst 1 (List.map (LV.int .i64) p0.L), .int .i64 p0.At])]) (ml' := [(7, .box [.lst 1 (List.map (LV.int .i64) r1.2.L), .int .i64 r1.2.At])]) rfl isF20 rfl (sbR (sbR (sbR sbN))) (GTape_Range_ok hr1) (mC rfl mN) (newI rfl newN) rfl ?_)
    refine sN (oA (v := (.int _ _)) rfl ?_)
    exact s0 (Wk.to (eC rfl (eC rfl (eC rfl (eC rfl eN)))) (mC rfl (mC rfl mN)) rfl (prK rfl))
  obtain ⟨r2, hr2, h⟩ := bindS h
  refine LH.seqT [(0, .ptr 7 0), (1, .int .i64 p1), (4, .ptr 104 0), (6, .ptr 106 0)] [(7, .box [.lst 1 (List.map (LV.int .i64) r2.2.L), .int .i64 r2.2.At]), (104, .box [.int .i64 0, .int .i64 0]), (106, .box [.int .i64 r1.1, .int .i64 (i64 (r1.1 + r2.1))])] rfl ?_ ?_
  · refine sN (oM (v := (.int _ _)) rfl ?_)
    refine sN (oM (v := (.int _ _)) rfl ?_)
    refine sN (oM (v := (.ptr _ _)) rfl ?_)
    refine sN (oCM (args := [.ptr 7 0, .int .i64 10]) (ml := [(7, .box [.lst 1 (List.map (LV.int .i64) r1.2.L), .int .i64 r1.2.At])]) (ml' := [(7, .box [.lst 1 (List.map (LV.int .i64) r2.2.L), .int .i64 r2.2.At])]) rfl isF16 rfl (sbR (sbR sbN)) (GTape_Next_ok hr2) (mC rfl mN) (newI rfl newN) rfl ?_)
    refine sN (oAdd rfl rfl ?_)
    refine sN (oBd (vs := [(0, .int .i64 r1.1), (1, .int .i64 (i64 (r1.1 + r2.1)))]) tu41 tz41 rfl (lf tf41_0 ts3 tk3 rfl rfl rfl (lf tf41_1 ts3 tk3 rfl rfl rfl lf0)) ?_)
    refine sN (oAl (id := 106) rfl tz41 rfl rfl ?_)
    refine s_ (oSt rfl rfl rfl tk41 ts41 rfl rfl rfl ?_)
    exact s0 (Wk.to (eC rfl (eC rfl (eC rfl (eC rfl eN)))) (mC rfl (mC rfl (mC rfl mN))) rfl (prK rfl))
  refine LH.seq ?_
  obtain ⟨w6, hv, h⟩ := bindS h
  refine LH.seqT [(0, .ptr 7 0), (4, .ptr 104 0), (6, .ptr 106 0), (21, .bool w6.1)] [(7, .box [.lst 1 (List.map (LV.int .i64) w6.2.1), .int .i64 w6.2.2]), (104, .box [.int .i64 0, .int .i64 0]), (106, .box [.int .i64 r1.1, .int .i64 (i64 (r1.1 + r2.1))])] rfl ?_ ?_
  · refine sN (oM (v := (.int _ _)) rfl ?_)
    refine sN (oGt rfl rfl ?_)
    refine sN (oM (v := (.bool _)) rfl ?_)
    by_cases hb7 : (decide (p1 > 0)) = true
    · replace hv := iteT hv hb7
      refine sT rfl (congrArg LV.bool hb7) (oM (v := (.ptr _ _)) rfl ?_)
      refine sT rfl (congrArg LV.bool hb7) (oM (v := (.int _ _)) rfl ?_)
      obtain ⟨r8, hr8, hv⟩ := bindS hv
      refine sT rfl (congrArg LV.bool hb7) (oCM (args := [.ptr 7 0, .int .i64 p1]) (ml := [(7, .box [.lst 1 (List.map (LV.int .i64) r2.2.L), .int .i64 r2.2.At])]) (ml' := [(7, .box [.lst 1 (List.map (LV.int .i64) r8.2.L), .int .i64 r8.2.At])]) rfl isF29 rfl (sbR (sbR sbN)) (GTape_One_ok hr8) (mC rfl mN) (newI rfl newN) rfl ?_)
      refine sN (oPkT (congrArg LV.bool hb7) (v := (.bool _)) rfl ?_)
      obtain rfl := Option.some.inj hv
      exact s0 (Wk.to (eC rfl (eC rfl (eC rfl (eC rfl eN)))) (mC rfl (mC rfl (mC rfl mN))) rfl (prK rfl))
    · replace hb7 := bF hb7
      replace hv := iteF hv hb7
      refine sF rfl rfl hb7 ?_
      refine sF rfl rfl hb7 ?_
      refine sF rfl rfl hb7 ?_
      refine sN (oPkF (congrArg LV.bool hb7) (v := (.bool _)) rfl ?_)
      obtain rfl := Option.some.inj hv
      exact s0 (Wk.to (eC rfl (eC rfl (eC rfl (eC rfl eN)))) (mC rfl (mC rfl (mC rfl mN))) rfl (prK rfl))
  clear hv
  refine LH.cond (t := w6.1) rfl (fun hc9 => ?_) (fun hc9 => ?_)
  · replace h := iteT h hc9
    obtain ⟨r10, hr10, h⟩ := bindS h
    obtain ⟨r11, hr11, h⟩ := bindS h
    refine LH.loneT [(4, .ptr 104 0), (6, .sptr [.int .i64 r10.1, .int .i64 r11.1])] [(7, .box [.lst 1 (List.map (LV.int .i64) r11.2.L), .int .i64 r11.2.At]), (104, .box [.int .i64 0, .int .i64 0])] rfl ?_ ?_
    · refine sN (oM (v := (.ptr _ _)) rfl ?_)
      refine sN (oCM (args := [.ptr 7 0]) (ml := [(7, .box [.lst 1 (List.map (LV.int .i64) w6.2.1), .int .i64 w6.2.2])]) (ml' := [(7, .box [.lst 1 (List.map (LV.int .i64) r10.2.L), .int .i64 r10.2.At])]) rfl isF36 rfl (sbR sbN) (GTape_Wild_ok hr10) (mC rfl mN) (newI rfl newN) rfl ?_)
      refine sN (oM (v := (.ptr _ _)) rfl ?_)
      refine sN (oCM (args := [.ptr 7 0]) (ml := [(7, .box [.lst 1 (List.map (LV.int .i64) r10.2.L), .int .i64 r10.2.At])]) (ml' := [(7, .box [.lst 1 (List.map (LV.int .i64) r11.2.L), .int .i64 r11.2.At])]) rfl isF36 rfl (sbR sbN) (GTape_Wild_ok hr11) (mC rfl mN) (newI rfl newN) rfl ?_)
      refine sN (oBd (vs := [(0, .int .i64 r10.1), (1, .int .i64 r11.1)]) tu41 tz41 rfl (lf tf41_0 ts3 tk3 rfl rfl rfl (lf tf41_1 ts3 tk3 rfl rfl rfl lf0)) ?_)
      refine s_ (oSt rfl rfl rfl tk41 ts41 rfl rfl rfl ?_)
      exact s0 ((Wk.trans (Wk.to (el := [(4, .ptr 104 0), (6, .ptr 106 0)]) (ml := [(7, .box [.lst 1 (List.map (LV.int .i64) r11.2.L), .int .i64 r11.2.At]), (104, .box [.int .i64 0, .int .i64 0]), (106, .box [.int .i64 r10.1, .int .i64 r11.1])]) (eC rfl (eC rfl eN)) (mC rfl (mC rfl (mC rfl mN))) rfl (prK rfl)) (Wk.trans (Wk.frzB 106 [.int .i64 r10.1, .int .i64 r11.1] rfl rfl rfl (prN rfl)) (Wk.to (eC rfl (eC rfl eN)) (mC rfl (mC rfl mN)) rfl (prK rfl)))))
    refine thenN ?_
    refine LH.seqT [(4, .sptr [.int .i64 r10.1, .int .i64 r11.1])] [(7, .box [.lst 1 (List.map (LV.int .i64) r11.2.L), .int .i64 r11.2.At])] rfl ?_ ?_
    · refine sN (oLdA rfl tk41 ta41 ts41 rfl rfl ?_)
      refine s_ (oSt rfl rfl rfl tk41 ts41 rfl rfl rfl ?_)
      exact s0 ((Wk.trans (Wk.to (el := [(4, .ptr 104 0)]) (ml := [(7, .box [.lst 1 (List.map (LV.int .i64) r11.2.L), .int .i64 r11.2.At]), (104, .box [.int .i64 r10.1, .int .i64 r11.1])]) (eC rfl eN) (mC rfl (mC rfl mN)) rfl (prK rfl)) (Wk.trans (Wk.frzB 104 [.int .i64 r10.1, .int .i64 r11.1] rfl rfl rfl (prN rfl)) (Wk.to (eC rfl eN) (mC rfl mN) rfl (prK rfl)))))
    refine LH.ret ?_
    obtain rfl := Option.some.inj h
    exact retE (congrArg Array.toList Try.results19) (lrSA rfl tk41 ta41 ts41 rfl rfl (lr0 ⟨memN (mC rfl mN), rfl, prK rfl, Sub.rfl⟩))
  replace h := iteF h hc9
  refine LH.skip ?_
  refine thenN ?_
  refine LH.wk ((Wk.trans (Wk.to (el := [(4, .ptr 104 0), (6, .ptr 106 0)]) (ml := [(7, .box [.lst 1 (List.map (LV.int .i64) w6.2.1), .int .i64 w6.2.2]), (104, .box [.int .i64 0, .int .i64 0]), (106, .box [.int .i64 r1.1, .int .i64 (i64 (r1.1 + r2.1))])]) (eC rfl (eC rfl eN)) (mC rfl (mC rfl (mC rfl mN))) rfl (prK rfl)) (Wk.trans (Wk.frzB 106 [.int .i64 r1.1, .int .i64 (i64 (r1.1 + r2.1))] rfl rfl rfl (prN rfl)) (Wk.to (el := [(4, .ptr 104 0), (6, .sptr [.int .i64 r1.1, .int .i64 (i64 (r1.1 + r2.1))])]) (ml := [(7, .box [.lst 1 (List.map (LV.int .i64) w6.2.1), .int .i64 w6.2.2]), (104, .box [.int .i64 0, .int .i64 0])]) (eC rfl (eC rfl eN)) (mC rfl (mC rfl mN)) rfl (prK rfl))))) ?_
  refine LH.seqT [(4, .sptr [.int .i64 r1.1, .int .i64 (i64 (r1.1 + r2.1))])] [(7, .box [.lst 1 (List.map (LV.int .i64) w6.2.1), .int .i64 w6.2.2])] rfl ?_ ?_
  · refine sN (oLdA rfl tk41 ta41 ts41 rfl rfl ?_)
    refine s_ (oSt rfl rfl rfl tk41 ts41 rfl rfl rfl ?_)
    exact s0 ((Wk.trans (Wk.to (el := [(4, .ptr 104 0)]) (ml := [(7, .box [.lst 1 (List.map (LV.int .i64) w6.2.1), .int .i64 w6.2.2]), (104, .box [.int .i64 r1.1, .int .i64 (i64 (r1.1 + r2.1))])]) (eC rfl eN) (mC rfl (mC rfl mN)) rfl (prK rfl)) (Wk.trans (Wk.frzB 104 [.int .i64 r1.1, .int .i64 (i64 (r1.1 + r2.1))] rfl rfl rfl (prN rfl)) (Wk.to (eC rfl eN) (mC rfl mN) rfl (prK rfl)))))
  refine LH.ret ?_
  obtain rfl := Option.some.inj h
  exact retE (congrArg Array.toList Try.results19) (lrSA rfl tk41 ta41 ts41 rfl rfl (lr0 ⟨memN (mC rfl mN), rfl, prK rfl, Sub.rfl⟩))

theorem ref13_Deadlines_ok {p0 : GDeadlines} {r : Bool} (h : ref13_Deadlines p0 = some r) : LCall Try.prog 44 [.agg [.int .i64 p0.Close, .int .i64 p0.Late]] (Mem.of []) (.bool r) (Mem.of []) := by
  unfold ref13_Deadlines at h
  refine bodyT Try.func44 rfl (by rw [Try.ntmps44]; exact Nat.le_of_ble_eq_true rfl) ?_
  refine LH.wk (Wk.to (el := [(0, .agg [.int .i64 p0.Close, .int .i64 p0.Late])]) (ml := []) (eC rfl eN) mN rfl (prK rfl)) ?_
  refine LH.seqT [(1, .sptr [.int .i64 p0.Close, .int .i64 p0.Late])] [] rfl ?_ ?_
  · refine sB (oBxR rfl rfl rfl rfl rfl ?_)
    refine sN (oA (v := (.bool _)) rfl ?_)
    exact s0 (Wk.to (eC rfl eN) mN rfl (prK rfl))
  refine LH.seqT [(2, .bool ((decide (p0.Close ≥ 0)) && ((decide (p0.Close ≤ p0.Late)) && (decide (p0.Late ≤ 1000000)))))] [] rfl ?_ ?_
  · refine sN (oFaS tf41_0 tk3 ts3 rfl rfl rfl ?_)
    refine sN (oLd rfl tk3 ta3 ?_)
    refine sN (oGe rfl rfl ?_)
    refine sN (oM (v := (.bool _)) rfl ?_)
    by_cases hb2 : (decide (p0.Close ≥ 0)) = true
    · refine sT rfl (congrArg LV.bool hb2) (oFaS tf41_0 tk3 ts3 rfl rfl rfl ?_)
      refine sT rfl (congrArg LV.bool hb2) (oLd rfl tk3 ta3 ?_)
      refine sT rfl (congrArg LV.bool hb2) (oFaS tf41_1 tk3 ts3 rfl rfl rfl ?_)
      refine sT rfl (congrArg LV.bool hb2) (oLd rfl tk3 ta3 ?_)
      refine sT rfl (congrArg LV.bool hb2) (oLe rfl rfl ?_)
      refine sN (oPkT (congrArg LV.bool hb2) (v := (.bool _)) rfl ?_)
      refine sN (oM (v := (.bool _)) rfl ?_)
      by_cases hb3 : (decide (p0.Close ≤ p0.Late)) = true
      · refine sT rfl (congrArg LV.bool hb3) (oFaS tf41_1 tk3 ts3 rfl rfl rfl ?_)
        refine sT rfl (congrArg LV.bool hb3) (oLd rfl tk3 ta3 ?_)
        refine sT rfl (congrArg LV.bool hb3) (oLe rfl rfl ?_)
        refine sN (oPkT (congrArg LV.bool hb3) (v := (.bool _)) rfl ?_)
        refine sN (oA (v := (.bool _)) rfl ?_)
        exact s0 (Wk.to (eC (congrArg LV.bool (Eq.trans (andT hb3) (andT hb2))) eN) mN rfl (prK rfl))
      · replace hb3 := bF hb3
        refine sF rfl rfl hb3 ?_
        refine sF rfl rfl hb3 ?_
        refine sF rfl rfl hb3 ?_
        refine sN (oPkF (congrArg LV.bool hb3) (v := (.bool _)) rfl ?_)
        refine sN (oA (v := (.bool _)) rfl ?_)
        exact s0 (Wk.to (eC (congrArg LV.bool (Eq.trans (andF hb3) (andT hb2))) eN) mN rfl (prK rfl))
    · replace hb2 := bF hb2
      refine sF rfl rfl hb2 ?_
      refine sF rfl rfl hb2 ?_
      refine sF rfl rfl hb2 ?_
      refine sF rfl rfl hb2 ?_
      refine sF rfl rfl hb2 ?_
      refine sN (oPkF (congrArg LV.bool hb2) (v := (.bool _)) rfl ?_)
      refine sN (oM (v := (.bool _)) rfl ?_)
      refine sF rfl rfl rfl ?_
      refine sF rfl rfl rfl ?_
      refine sF rfl rfl rfl ?_
      refine sN (oPkF rfl (v := (.bool _)) rfl ?_)
      refine sN (oA (v := (.bool _)) rfl ?_)
      exact s0 (Wk.to (eC (congrArg LV.bool (andF hb2)) eN) mN rfl (prK rfl))
  refine LH.ret ?_
  obtain rfl := Option.some.inj h
  exact retE (congrArg Array.toList Try.results44) (lrT rfl (lr0 ⟨memN mN, rfl, prK rfl, Sub.rfl⟩))

theorem ref13_Entry_ok {p0 : GEntry} {r : Bool} (h : ref13_Entry p0 = some r) : LCall Try.prog 28 [.agg [.int .i64 p0.Candidate, .int .i64 p0.Centre, .int .i64 p0.Paper]] (Mem.of []) (.bool r) (Mem.of []) := by
  unfold ref13_Entry at h
  refine bodyT Try.func28 rfl (by rw [Try.ntmps28]; exact Nat.le_of_ble_eq_true rfl) ?_
  refine LH.wk (Wk.to (el := [(0, .agg [.int .i64 p0.Candidate, .int .i64 p0.Centre, .int .i64 p0.Paper])]) (ml := []) (eC rfl eN) mN rfl (prK rfl)) ?_
  refine LH.seqT [(1, .sptr [.int .i64 p0.Candidate, .int .i64 p0.Centre, .int .i64 p0.Paper])] [] rfl ?_ ?_
  · refine sB (oBxR rfl rfl rfl rfl rfl ?_)
    refine sN (oA (v := (.bool _)) rfl ?_)
    exact s0 (Wk.to (eC rfl eN) mN rfl (prK rfl))
  refine LH.seqT [(2, .bool ((decide (p0.Candidate ≥ 0)) && ((decide (p0.Candidate ≤ 9999)) && ((decide (p0.Centre ≥ 1)) && ((decide (p0.Centre ≤ 99)) && ((decide (p0.Paper ≥ 0)) && (decide (p0.Paper ≤ 31))))))))] [] rfl ?_ ?_
  · refine sN (oFaS tf33_0 tk3 ts3 rfl rfl rfl ?_)
    refine sN (oLd rfl tk3 ta3 ?_)
    refine sN (oGe rfl rfl ?_)
    refine sN (oM (v := (.bool _)) rfl ?_)
    by_cases hb2 : (decide (p0.Candidate ≥ 0)) = true
    · refine sT rfl (congrArg LV.bool hb2) (oFaS tf33_0 tk3 ts3 rfl rfl rfl ?_)
      refine sT rfl (congrArg LV.bool hb2) (oLd rfl tk3 ta3 ?_)
      refine sT rfl (congrArg LV.bool hb2) (oLe rfl rfl ?_)
      refine sN (oPkT (congrArg LV.bool hb2) (v := (.bool _)) rfl ?_)
      refine sN (oM (v := (.bool _)) rfl ?_)
      by_cases hb3 : (decide (p0.Candidate ≤ 9999)) = true
      · refine sT rfl (congrArg LV.bool hb3) (oFaS tf33_1 tk3 ts3 rfl rfl rfl ?_)
        refine sT rfl (congrArg LV.bool hb3) (oLd rfl tk3 ta3 ?_)
        refine sT rfl (congrArg LV.bool hb3) (oGe rfl rfl ?_)
        refine sN (oPkT (congrArg LV.bool hb3) (v := (.bool _)) rfl ?_)
        refine sN (oM (v := (.bool _)) rfl ?_)
        by_cases hb4 : (decide (p0.Centre ≥ 1)) = true
        · refine sT rfl (congrArg LV.bool hb4) (oFaS tf33_1 tk3 ts3 rfl rfl rfl ?_)
          refine sT rfl (congrArg LV.bool hb4) (oLd rfl tk3 ta3 ?_)
          refine sT rfl (congrArg LV.bool hb4) (oLe rfl rfl ?_)
          refine sN (oPkT (congrArg LV.bool hb4) (v := (.bool _)) rfl ?_)
          refine sN (oM (v := (.bool _)) rfl ?_)
          by_cases hb5 : (decide (p0.Centre ≤ 99)) = true
          · refine sT rfl (congrArg LV.bool hb5) (oFaS tf33_2 tk3 ts3 rfl rfl rfl ?_)
            refine sT rfl (congrArg LV.bool hb5) (oLd rfl tk3 ta3 ?_)
            refine sT rfl (congrArg LV.bool hb5) (oGe rfl rfl ?_)
            refine sN (oPkT (congrArg LV.bool hb5) (v := (.bool _)) rfl ?_)
            refine sN (oM (v := (.bool _)) rfl ?_)
            by_cases hb6 : (decide (p0.Paper ≥ 0)) = true
            · refine sT rfl (congrArg LV.bool hb6) (oFaS tf33_2 tk3 ts3 rfl rfl rfl ?_)
              refine sT rfl (congrArg LV.bool hb6) (oLd rfl tk3 ta3 ?_)
              refine sT rfl (congrArg LV.bool hb6) (oLe rfl rfl ?_)
              refine sN (oPkT (congrArg LV.bool hb6) (v := (.bool _)) rfl ?_)
              refine sN (oA (v := (.bool _)) rfl ?_)
              exact s0 (Wk.to (eC (congrArg LV.bool (Eq.trans (Eq.trans (Eq.trans (Eq.trans (andT hb6) (andT hb5)) (andT hb4)) (andT hb3)) (andT hb2))) eN) mN rfl (prK rfl))
            · replace hb6 := bF hb6
              refine sF rfl rfl hb6 ?_
              refine sF rfl rfl hb6 ?_
              refine sF rfl rfl hb6 ?_
              refine sN (oPkF (congrArg LV.bool hb6) (v := (.bool _)) rfl ?_)
              refine sN (oA (v := (.bool _)) rfl ?_)
              exact s0 (Wk.to (eC (congrArg LV.bool (Eq.trans (Eq.trans (Eq.trans (Eq.trans (andF hb6) (andT hb5)) (andT hb4)) (andT hb3)) (andT hb2))) eN) mN rfl (prK rfl))
          · replace hb5 := bF hb5
            refine sF rfl rfl hb5 ?_
            refine sF rfl rfl hb5 ?_
            refine sF rfl rfl hb5 ?_
            refine sN (oPkF (congrArg LV.bool hb5) (v := (.bool _)) rfl ?_)
            refine sN (oM (v := (.bool _)) rfl ?_)
            refine sF rfl rfl rfl ?_
            refine sF rfl rfl rfl ?_
            refine sF rfl rfl rfl ?_
            refine sN (oPkF rfl (v := (.bool _)) rfl ?_)
            refine sN (oA (v := (.bool _)) rfl ?_)
            exact s0 (Wk.to (eC (congrArg LV.bool (Eq.trans (Eq.trans (Eq.trans (andF hb5) (andT hb4)) (andT hb3)) (andT hb2))) eN) mN rfl (prK rfl))
        · replace hb4 := bF hb4
          refine sF rfl rfl hb4 ?_
          refine sF rfl rfl hb4 ?_
          refine sF rfl rfl hb4 ?_
          refine sN (oPkF (congrArg LV.bool hb4) (v := (.bool _)) rfl ?_)
          refine sN (oM (v := (.bool _)) rfl ?_)
          refine sF rfl rfl rfl ?_
          refine sF rfl rfl rfl ?_
          refine sF rfl rfl rfl ?_
          refine sN (oPkF rfl (v := (.bool _)) rfl ?_)
          refine sN (oM (v := (.bool _)) rfl ?_)
          refine sF rfl rfl rfl ?_
          refine sF rfl rfl rfl ?_
          refine sF rfl rfl rfl ?_
          refine sN (oPkF rfl (v := (.bool _)) rfl ?_)
          refine sN (oA (v := (.bool _)) rfl ?_)
          exact s0 (Wk.to (eC (congrArg LV.bool (Eq.trans (Eq.trans (andF hb4) (andT hb3)) (andT hb2))) eN) mN rfl (prK rfl))
      · replace hb3 := bF hb3
        refine sF rfl rfl hb3 ?_
        refine sF rfl rfl hb3 ?_
        refine sF rfl rfl hb3 ?_
        refine sN (oPkF (congrArg LV.bool hb3) (v := (.bool _)) rfl ?_)
        refine sN (oM (v := (.bool _)) rfl ?_)
        refine sF rfl rfl rfl ?_
        refine sF rfl rfl rfl ?_
        refine sF rfl rfl rfl ?_
        refine sN (oPkF rfl (v := (.bool _)) rfl ?_)
        refine sN (oM (v := (.bool _)) rfl ?_)
        refine sF rfl rfl rfl ?_
        refine sF rfl rfl rfl ?_
        refine sF rfl rfl rfl ?_
        refine sN (oPkF rfl (v := (.bool _)) rfl ?_)
        refine sN (oM (v := (.bool _)) rfl ?_)
        refine sF rfl rfl rfl ?_
        refine sF rfl rfl rfl ?_
        refine sF rfl rfl rfl ?_
        refine sN (oPkF rfl (v := (.bool _)) rfl ?_)
        refine sN (oA (v := (.bool _)) rfl ?_)
        exact s0 (Wk.to (eC (congrArg LV.bool (Eq.trans (andF hb3) (andT hb2))) eN) mN rfl (prK rfl))
    · replace hb2 := bF hb2
      refine sF rfl rfl hb2 ?_
      refine sF rfl rfl hb2 ?_
      refine sF rfl rfl hb2 ?_
      refine sN (oPkF (congrArg LV.bool hb2) (v := (.bool _)) rfl ?_)
      refine sN (oM (v := (.bool _)) rfl ?_)
      refine sF rfl rfl rfl ?_
      refine sF rfl rfl rfl ?_
      refine sF rfl rfl rfl ?_
      refine sN (oPkF rfl (v := (.bool _)) rfl ?_)
      refine sN (oM (v := (.bool _)) rfl ?_)
      refine sF rfl rfl rfl ?_
      refine sF rfl rfl rfl ?_
      refine sF rfl rfl rfl ?_
      refine sN (oPkF rfl (v := (.bool _)) rfl ?_)
      refine sN (oM (v := (.bool _)) rfl ?_)
      refine sF rfl rfl rfl ?_
      refine sF rfl rfl rfl ?_
      refine sF rfl rfl rfl ?_
      refine sN (oPkF rfl (v := (.bool _)) rfl ?_)
      refine sN (oM (v := (.bool _)) rfl ?_)
      refine sF rfl rfl rfl ?_
      refine sF rfl rfl rfl ?_
      refine sF rfl rfl rfl ?_
      refine sN (oPkF rfl (v := (.bool _)) rfl ?_)
      refine sN (oA (v := (.bool _)) rfl ?_)
      exact s0 (Wk.to (eC (congrArg LV.bool (andF hb2)) eN) mN rfl (prK rfl))
  refine LH.ret ?_
  obtain rfl := Option.some.inj h
  exact retE (congrArg Array.toList Try.results28) (lrT rfl (lr0 ⟨memN mN, rfl, prK rfl, Sub.rfl⟩))

theorem ref13_before_ok {p0 : GEntry} {p1 : GEntry} {r : Bool} (h : ref13_before p0 p1 = some r) : LCall Try.prog 62 [.agg [.int .i64 p0.Candidate, .int .i64 p0.Centre, .int .i64 p0.Paper], .agg [.int .i64 p1.Candidate, .int .i64 p1.Centre, .int .i64 p1.Paper]] (Mem.of []) (.bool r) (Mem.of []) := by
  unfold ref13_before at h
  refine bodyT Try.func62 rfl (by rw [Try.ntmps62]; exact Nat.le_of_ble_eq_true rfl) ?_
  refine LH.wk (Wk.to (el := [(0, .agg [.int .i64 p0.Candidate, .int .i64 p0.Centre, .int .i64 p0.Paper]), (1, .agg [.int .i64 p1.Candidate, .int .i64 p1.Centre, .int .i64 p1.Paper])]) (ml := []) (eC rfl (eC rfl eN)) mN rfl (prK rfl)) ?_
  refine LH.seqT [(2, .sptr [.int .i64 p0.Candidate, .int .i64 p0.Centre, .int .i64 p0.Paper]), (3, .sptr [.int .i64 p1.Candidate, .int .i64 p1.Centre, .int .i64 p1.Paper])] [] rfl ?_ ?_
  · refine sB (oBxR rfl rfl rfl rfl rfl ?_)
    refine sB (oBxR rfl rfl rfl rfl rfl ?_)
    refine sN (oA (v := (.bool _)) rfl ?_)
    exact s0 (Wk.to (eC rfl (eC rfl eN)) mN rfl (prK rfl))
  refine LH.seqT [(4, .bool ((decide (p0.Candidate < p1.Candidate)) || ((p0.Candidate == p1.Candidate) && (decide (p0.Paper < p1.Paper)))))] [] rfl ?_ ?_
  · refine sN (oFaS tf33_0 tk3 ts3 rfl rfl rfl ?_)
    refine sN (oLd rfl tk3 ta3 ?_)
    refine sN (oFaS tf33_0 tk3 ts3 rfl rfl rfl ?_)
    refine sN (oLd rfl tk3 ta3 ?_)
    refine sN (oLt rfl rfl ?_)
    refine sN (oM (v := (.bool _)) rfl ?_)
    by_cases hb2 : (decide (p0.Candidate < p1.Candidate)) = true
    · refine sF rfl rfl hb2 ?_
      refine sF rfl rfl hb2 ?_
      refine sF rfl rfl hb2 ?_
      refine sF rfl rfl hb2 ?_
      refine sF rfl rfl hb2 ?_
      refine sF rfl rfl hb2 ?_
      refine sU rfl rfl ?_
      refine sU rfl rfl ?_
      refine sU rfl rfl ?_
      refine sU rfl rfl ?_
      refine sU rfl rfl ?_
      refine sF rfl rfl hb2 ?_
      refine sN (oPkT (congrArg LV.bool hb2) (v := (.bool _)) rfl ?_)
      refine sN (oA (v := (.bool _)) rfl ?_)
      exact s0 (Wk.to (eC (congrArg LV.bool (orT hb2)) eN) mN rfl (prK rfl))
    · replace hb2 := bF hb2
      refine sT rfl (congrArg LV.bool hb2) (oFaS tf33_0 tk3 ts3 rfl rfl rfl ?_)
      refine sT rfl (congrArg LV.bool hb2) (oLd rfl tk3 ta3 ?_)
      refine sT rfl (congrArg LV.bool hb2) (oFaS tf33_0 tk3 ts3 rfl rfl rfl ?_)
      refine sT rfl (congrArg LV.bool hb2) (oLd rfl tk3 ta3 ?_)
      refine sT rfl (congrArg LV.bool hb2) (oEq rfl rfl ?_)
      refine sT rfl (congrArg LV.bool hb2) (oM (v := (.bool _)) rfl ?_)
      by_cases hb3 : (p0.Candidate == p1.Candidate) = true
      · refine sT rfl (congrArg LV.bool hb3) (oFaS tf33_2 tk3 ts3 rfl rfl rfl ?_)
        refine sT rfl (congrArg LV.bool hb3) (oLd rfl tk3 ta3 ?_)
        refine sT rfl (congrArg LV.bool hb3) (oFaS tf33_2 tk3 ts3 rfl rfl rfl ?_)
        refine sT rfl (congrArg LV.bool hb3) (oLd rfl tk3 ta3 ?_)
        refine sT rfl (congrArg LV.bool hb3) (oLt rfl rfl ?_)
        refine sT rfl (congrArg LV.bool hb2) (oPkT (congrArg LV.bool hb3) (v := (.bool _)) rfl ?_)
        refine sN (oPkF (congrArg LV.bool hb2) (v := (.bool _)) rfl ?_)
        refine sN (oA (v := (.bool _)) rfl ?_)
        exact s0 (Wk.to (eC (congrArg LV.bool (Eq.trans (andT hb3) (orF hb2))) eN) mN rfl (prK rfl))
      · replace hb3 := bF hb3
        refine sF rfl rfl hb3 ?_
        refine sF rfl rfl hb3 ?_
        refine sF rfl rfl hb3 ?_
        refine sF rfl rfl hb3 ?_
        refine sF rfl rfl hb3 ?_
        refine sT rfl (congrArg LV.bool hb2) (oPkF (congrArg LV.bool hb3) (v := (.bool _)) rfl ?_)
        refine sN (oPkF (congrArg LV.bool hb2) (v := (.bool _)) rfl ?_)
        refine sN (oA (v := (.bool _)) rfl ?_)
        exact s0 (Wk.to (eC (congrArg LV.bool (Eq.trans (andF hb3) (orF hb2))) eN) mN rfl (prK rfl))
  refine LH.ret ?_
  obtain rfl := Option.some.inj h
  exact retE (congrArg Array.toList Try.results62) (lrT rfl (lr0 ⟨memN mN, rfl, prK rfl, Sub.rfl⟩))

theorem ref13_Valid_ok {F : Nat} {p0 : List GEnrolment} {r : Bool} (h : ref13_Valid F p0 = some r) : LCall Try.prog 47 [.lst 4 (List.map GEnrolment.lv p0)] (Mem.of []) (.bool r) (Mem.of []) := by
  unfold ref13_Valid at h
  refine bodyT Try.func47 rfl (by rw [Try.ntmps47]; exact Nat.le_of_ble_eq_true rfl) ?_
  refine LH.wk (Wk.to (el := [(0, .lst 4 (List.map GEnrolment.lv p0))]) (ml := []) (eC rfl eN) mN rfl (prK rfl)) ?_
  refine LH.seqT [(0, .lst 4 (List.map GEnrolment.lv p0))] [] rfl ?_ ?_
  · refine sN (oA (v := (.bool _)) rfl ?_)
    exact s0 (Wk.to (eC rfl eN) mN rfl (prK rfl))
  refine LH.seq ?_
  refine LH.seqT [(0, .lst 4 (List.map GEnrolment.lv p0)), (6, .bool (decide ((p0.length : Int) > 300)))] [] rfl ?_ ?_
  · refine sN (oM (v := (.lst _ _)) rfl ?_)
    refine sN (oLnL (f := GEnrolment.lv) te44 rfl ?_)
    refine sN (oGt rfl rfl ?_)
    exact s0 (Wk.to (eC rfl (eC rfl eN)) mN rfl (prK rfl))
  refine LH.cond (t := (decide ((p0.length : Int) > 300))) rfl (fun hc1 => ?_) (fun hc1 => ?_)
  · replace h := iteT h hc1
    refine LH.seqT [(2, .bool false)] [] rfl ?_ ?_
    · refine sN (oA (v := (.bool _)) rfl ?_)
      exact s0 (Wk.to (eC rfl eN) mN rfl (prK rfl))
    refine LH.ret ?_
    refine thenR ?_
    obtain rfl := Option.some.inj h
    exact retE (congrArg Array.toList Try.results47) (lrT rfl (lr0 ⟨memN mN, rfl, prK rfl, Sub.rfl⟩))
  replace h := iteF h hc1
  refine LH.skip ?_
  refine thenN ?_
  refine LH.wk (Wk.to (el := [(0, .lst 4 (List.map GEnrolment.lv p0))]) (ml := []) (eC rfl eN) mN rfl (prK rfl)) ?_
  refine LH.seq ?_
  refine LH.seqT [(0, .lst 4 (List.map GEnrolment.lv p0)), (3, .int .i64 0)] [] rfl ?_ ?_
  · refine sN (oA (v := (.int _ _)) rfl ?_)
    exact s0 (Wk.to (eC rfl (eC rfl eN)) mN rfl (prK rfl))
  refine LH.block ?_
  refine LH.loop (fun n e m => ∃ (n2 : Int), ref13_Valid_L1 p0 n n2 = some r ∧ e = Env.of [(0, .lst 4 (List.map GEnrolment.lv p0)), (3, .int .i64 n2)] ∧ m = Mem.of []) F ⟨0, h, rfl, rfl⟩ ?_
  clear h
  rintro n e m ⟨n2, h, rfl, rfl⟩
  rcases n with _ | n
  · cases (show Option.none = some _ from h)
  obtain ⟨rec1, hrec1⟩ : ∃ f, f = ref13_Valid_L1 p0 n := ⟨_, rfl⟩
  replace h : ref13_Valid_L1_B p0 rec1 n2 = some r := hrec1 ▸ h
  unfold ref13_Valid_L1_B at h
  refine LH.seq ?_
  refine LH.seqT [(0, .lst 4 (List.map GEnrolment.lv p0)), (3, .int .i64 n2), (10, .bool (decide (n2 < (p0.length : Int))))] [] rfl ?_ ?_
  · refine sN (oM (v := (.int _ _)) rfl ?_)
    refine sN (oM (v := (.lst _ _)) rfl ?_)
    refine sN (oLnL (f := GEnrolment.lv) te44 rfl ?_)
    refine sN (oLt rfl rfl ?_)
    exact s0 (Wk.to (eC rfl (eC rfl (eC rfl eN))) mN rfl (prK rfl))
  refine LH.cond (t := (decide (n2 < (p0.length : Int)))) rfl (fun hc3 => ?_) (fun hc3 => ?_)
  · replace h := iteT h hc3
    refine LH.skip ?_
    refine thenN ?_
    refine LH.wk (Wk.to (el := [(0, .lst 4 (List.map GEnrolment.lv p0)), (3, .int .i64 n2)]) (ml := []) (eC rfl (eC rfl eN)) mN rfl (prK rfl)) ?_
    refine LH.seq ?_
    refine LH.block ?_
    obtain ⟨w5, hv, h⟩ := bindS h
    refine LH.seqJM mixed [] [0, 0, 0, 0, 0, 0, 0, 0, 0, 0, 0, 0, 0, 0, 0, 0, 0, 0, 0, 0, 0, 0, 0, 0, 0, 0] [(0, .lst 4 (List.map GEnrolment.lv p0)), (3, .int .i64 n2), (38, .bool w5)] [] rfl rfl (by kernel_rfl) ?_ ?_
    · refine mN0 (oM (v := (.lst _ _)) rfl ⟨rfl, ?_⟩)
      refine mN0 (oM (v := (.int _ _)) rfl ⟨rfl, ?_⟩)
      obtain ⟨x6, hx6, hv⟩ := bindS hv
      refine mN0 (oIx (f := GEnrolment.lv) te44 tk53 ts53 rfl rfl GEnrolment.ok hx6 rfl ⟨rfl, ?_⟩)
      refine mN0 (oFaS tf53_0 tk33 ts33 rfl rfl rfl ⟨rfl, ?_⟩)
      refine mN0 (oLdA rfl tk33 ta33 ts33 rfl rfl ⟨rfl, ?_⟩)
      obtain ⟨r7, hr7, hv⟩ := bindS hv
      refine mN0 (oCP (args := [.agg [.int .i64 x6.Entry.Candidate, .int .i64 x6.Entry.Centre, .int .i64 x6.Entry.Paper]]) rfl isF28 rfl (sbR sbN) (ref13_Entry_ok hr7) rfl ⟨rfl, ?_⟩)
      refine mN0 (oNot rfl ⟨rfl, ?_⟩)
      refine mN0 (oM (v := (.bool _)) rfl ⟨rfl, ?_⟩)
      by_cases hb8 : (!r7) = true
      · replace hv := iteT hv hb8
        refine mF rfl rfl hb8 ?_
        refine mF rfl rfl hb8 ?_
        refine mF rfl rfl hb8 ?_
        refine mU rfl rfl ?_
        refine mU rfl rfl ?_
        refine mU rfl rfl ?_
        refine mU rfl rfl ?_
        refine mU rfl rfl ?_
        refine mU rfl rfl ?_
        refine mU rfl rfl ?_
        refine mU rfl rfl ?_
        refine mU rfl rfl ?_
        refine mU rfl rfl ?_
        refine mU rfl rfl ?_
        refine mU rfl rfl ?_
        refine mU rfl rfl ?_
        refine mF rfl rfl hb8 ?_
        refine mN0 (oPkT (congrArg LV.bool hb8) (v := (.bool _)) rfl ⟨rfl, ?_⟩)
        obtain rfl := Option.some.inj hv
        exact m0 (Wk.to (eC rfl (eC rfl (eC rfl eN))) mN rfl (prK rfl))
      · replace hb8 := bF hb8
        replace hv := iteF hv hb8
        refine mT rfl (congrArg LV.bool hb8) (mN0 (oM (v := (.int _ _)) rfl ⟨rfl, ?_⟩))
        refine mT rfl (congrArg LV.bool hb8) (mN0 (oGt rfl rfl ⟨rfl, ?_⟩))
        refine mT rfl (congrArg LV.bool hb8) (mN0 (oM (v := (.bool _)) rfl ⟨rfl, ?_⟩))
        by_cases hb9 : (decide (n2 > 0)) = true
        · replace hv := iteT hv hb9
          refine mT rfl (congrArg LV.bool hb9) (mN0 (oM (v := (.lst _ _)) rfl ⟨rfl, ?_⟩))
          refine mT rfl (congrArg LV.bool hb9) (mN0 (oM (v := (.int _ _)) rfl ⟨rfl, ?_⟩))
          refine mT rfl (congrArg LV.bool hb9) (mN0 (oSub rfl rfl ⟨rfl, ?_⟩))
          obtain ⟨x10, hx10, hv⟩ := bindS hv
          refine mT rfl (congrArg LV.bool hb9) (mN0 (oIx (f := GEnrolment.lv) te44 tk53 ts53 rfl rfl GEnrolment.ok hx10 rfl ⟨rfl, ?_⟩))
          refine mT rfl (congrArg LV.bool hb9) (mN0 (oFaS tf53_0 tk33 ts33 rfl rfl rfl ⟨rfl, ?_⟩))
          refine mT rfl (congrArg LV.bool hb9) (mN0 (oLdA rfl tk33 ta33 ts33 rfl rfl ⟨rfl, ?_⟩))
          refine mT rfl (congrArg LV.bool hb9) (mN0 (oM (v := (.lst _ _)) rfl ⟨rfl, ?_⟩))
          refine mT rfl (congrArg LV.bool hb9) (mN0 (oM (v := (.int _ _)) rfl ⟨rfl, ?_⟩))
          obtain ⟨x11, hx11, hv⟩ := bindS hv
          refine mT rfl (congrArg LV.bool hb9) (mN0 (oIx (f := GEnrolment.lv) te44 tk53 ts53 rfl rfl GEnrolment.ok hx11 rfl ⟨rfl, ?_⟩))
          refine mT rfl (congrArg LV.bool hb9) (mN0 (oFaS tf53_0 tk33 ts33 rfl rfl rfl ⟨rfl, ?_⟩))
          refine mT rfl (congrArg LV.bool hb9) (mN0 (oLdA rfl tk33 ta33 ts33 rfl rfl ⟨rfl, ?_⟩))
          obtain ⟨r12, hr12, hv⟩ := bindS hv
          refine mT rfl (congrArg LV.bool hb9) (mN0 (oCP (args := [.agg [.int .i64 x10.Entry.Candidate, .int .i64 x10.Entry.Centre, .int .i64 x10.Entry.Paper], .agg [.int .i64 x11.Entry.Candidate, .int .i64 x11.Entry.Centre, .int .i64 x11.Entry.Paper]]) rfl isF62 rfl (sbR (sbR sbN)) (ref13_before_ok hr12) rfl ⟨rfl, ?_⟩))
          refine mT rfl (congrArg LV.bool hb9) (mN0 (oNot rfl ⟨rfl, ?_⟩))
          refine mT rfl (congrArg LV.bool hb8) (mN0 (oPkT (congrArg LV.bool hb9) (v := (.bool _)) rfl ⟨rfl, ?_⟩))
          refine mN0 (oPkF (congrArg LV.bool hb8) (v := (.bool _)) rfl ⟨rfl, ?_⟩)
          obtain rfl := Option.some.inj hv
          exact m0 (Wk.to (eC rfl (eC rfl (eC rfl eN))) mN rfl (prK rfl))
        · replace hb9 := bF hb9
          replace hv := iteF hv hb9
          refine mF rfl rfl hb9 ?_
          refine mF rfl rfl hb9 ?_
          refine mF rfl rfl hb9 ?_
          refine mF rfl rfl hb9 ?_
          refine mF rfl rfl hb9 ?_
          refine mF rfl rfl hb9 ?_
          refine mF rfl rfl hb9 ?_
          refine mF rfl rfl hb9 ?_
          refine mF rfl rfl hb9 ?_
          refine mF rfl rfl hb9 ?_
          refine mF rfl rfl hb9 ?_
          refine mF rfl rfl hb9 ?_
          refine mF rfl rfl hb9 ?_
          refine mT rfl (congrArg LV.bool hb8) (mN0 (oPkF (congrArg LV.bool hb9) (v := (.bool _)) rfl ⟨rfl, ?_⟩))
          refine mN0 (oPkF (congrArg LV.bool hb8) (v := (.bool _)) rfl ⟨rfl, ?_⟩)
          obtain rfl := Option.some.inj hv
          exact m0 (Wk.to (eC rfl (eC rfl (eC rfl eN))) mN rfl (prK rfl))
    clear hv
    refine LH.cond (t := w5) rfl (fun hc13 => ?_) (fun hc13 => ?_)
    · replace h := iteT h hc13
      refine LH.seqT [(2, .bool false)] [] rfl ?_ ?_
      · refine sN (oA (v := (.bool _)) rfl ?_)
        exact s0 (Wk.to (eC rfl eN) mN rfl (prK rfl))
      refine LH.ret ?_
      refine blockR ?_
      refine thenR ?_
      refine roundR ?_
      refine blockR ?_
      refine thenR ?_
      obtain rfl := Option.some.inj h
      exact retE (congrArg Array.toList Try.results47) (lrT rfl (lr0 ⟨memN mN, rfl, prK rfl, Sub.rfl⟩))
    replace h := iteF h hc13
    refine LH.skip ?_
    refine blockN ?_
    refine thenN ?_
    refine LH.wk (Wk.to (el := [(0, .lst 4 (List.map GEnrolment.lv p0)), (3, .int .i64 n2)]) (ml := []) (eC rfl (eC rfl eN)) mN rfl (prK rfl)) ?_
    refine LH.loneT [(0, .lst 4 (List.map GEnrolment.lv p0)), (3, .int .i64 (i64 (n2 + 1)))] [] rfl ?_ ?_
    · refine sN (oM (v := (.int _ _)) rfl ?_)
      refine sN (oAdd rfl rfl ?_)
      refine sN (oA (v := (.int _ _)) rfl ?_)
      exact s0 (Wk.to (eC rfl (eC rfl eN)) mN rfl (prK rfl))
    exact roundN (e' := Env.of [(0, .lst 4 (List.map GEnrolment.lv p0)), (3, .int .i64 (i64 (n2 + 1)))]) (m' := Mem.of []) (Wk.to (eC rfl (eC rfl eN)) mN rfl (prK rfl)) ⟨(i64 (n2 + 1)), hrec1 ▸ h, rfl, rfl⟩
  replace h := iteF h hc3
  refine LH.exit ?_
  refine thenX ?_
  refine roundX ?_
  refine blockH ?_
  refine thenN ?_
  refine LH.wk (Wk.to (el := []) (ml := []) eN mN rfl (prK rfl)) ?_
  refine LH.seqT [(2, .bool true)] [] rfl ?_ ?_
  · refine sN (oA (v := (.bool _)) rfl ?_)
    exact s0 (Wk.to (eC rfl eN) mN rfl (prK rfl))
  refine LH.ret ?_
  obtain rfl := Option.some.inj h
  exact retE (congrArg Array.toList Try.results47) (lrT rfl (lr0 ⟨memN mN, rfl, prK rfl, Sub.rfl⟩))

theorem ref13_index_ok {F : Nat} {p0 : List GEnrolment} {p1 : Int} {p2 : Int} {r : Int} (h : ref13_index F p0 p1 p2 = some r) : LCall Try.prog 48 [.lst 4 (List.map GEnrolment.lv p0), .int .i64 p1, .int .i64 p2] (Mem.of []) (.int .i64 r) (Mem.of []) := by
  unfold ref13_index at h
  refine bodyT Try.func48 rfl (by rw [Try.ntmps48]; exact Nat.le_of_ble_eq_true rfl) ?_
  refine LH.wk (Wk.to (el := [(0, .lst 4 (List.map GEnrolment.lv p0)), (1, .int .i64 p1), (2, .int .i64 p2)]) (ml := []) (eC rfl (eC rfl (eC rfl eN))) mN rfl (prK rfl)) ?_
  refine LH.seqT [(0, .lst 4 (List.map GEnrolment.lv p0)), (1, .int .i64 p1), (2, .int .i64 p2)] [] rfl ?_ ?_
  · refine sN (oA (v := (.int _ _)) rfl ?_)
    exact s0 (Wk.to (eC rfl (eC rfl (eC rfl eN))) mN rfl (prK rfl))
  refine LH.seq ?_
  refine LH.seqT [(0, .lst 4 (List.map GEnrolment.lv p0)), (1, .int .i64 p1), (2, .int .i64 p2), (7, .int .i64 0)] [] rfl ?_ ?_
  · refine sN (oA (v := (.int _ _)) rfl ?_)
    exact s0 (Wk.to (eC rfl (eC rfl (eC rfl (eC rfl eN)))) mN rfl (prK rfl))
  refine LH.block ?_
  refine LH.loop (fun n e m => ∃ (n1 : Int), ref13_index_L1 p0 p1 p2 n n1 = some r ∧ e = Env.of [(0, .lst 4 (List.map GEnrolment.lv p0)), (1, .int .i64 p1), (2, .int .i64 p2), (7, .int .i64 n1)] ∧ m = Mem.of []) F ⟨0, h, rfl, rfl⟩ ?_
  clear h
  rintro n e m ⟨n1, h, rfl, rfl⟩
  rcases n with _ | n
  · cases (show Option.none = some _ from h)
  obtain ⟨rec1, hrec1⟩ : ∃ f, f = ref13_index_L1 p0 p1 p2 n := ⟨_, rfl⟩
  replace h : ref13_index_L1_B p0 p1 p2 rec1 n1 = some r := hrec1 ▸ h
  unfold ref13_index_L1_B at h
  refine LH.seq ?_
  refine LH.seqT [(0, .lst 4 (List.map GEnrolment.lv p0)), (1, .int .i64 p1), (2, .int .i64 p2), (7, .int .i64 n1), (11, .bool (decide (n1 < (p0.length : Int))))] [] rfl ?_ ?_
  · refine sN (oM (v := (.int _ _)) rfl ?_)
    refine sN (oM (v := (.lst _ _)) rfl ?_)
    refine sN (oLnL (f := GEnrolment.lv) te44 rfl ?_)
    refine sN (oLt rfl rfl ?_)
    exact s0 (Wk.to (eC rfl (eC rfl (eC rfl (eC rfl (eC rfl eN))))) mN rfl (prK rfl))
  refine LH.cond (t := (decide (n1 < (p0.length : Int)))) rfl (fun hc2 => ?_) (fun hc2 => ?_)
  · replace h := iteT h hc2
    refine LH.skip ?_
    refine thenN ?_
    refine LH.wk (Wk.to (el := [(0, .lst 4 (List.map GEnrolment.lv p0)), (1, .int .i64 p1), (2, .int .i64 p2), (7, .int .i64 n1)]) (ml := []) (eC rfl (eC rfl (eC rfl (eC rfl eN)))) mN rfl (prK rfl)) ?_
    refine LH.seq ?_
    refine LH.block ?_
    obtain ⟨w4, hv, h⟩ := bindS h
    refine LH.seqT [(0, .lst 4 (List.map GEnrolment.lv p0)), (1, .int .i64 p1), (2, .int .i64 p2), (7, .int .i64 n1), (31, .bool w4)] [] rfl ?_ ?_
    · refine sN (oM (v := (.lst _ _)) rfl ?_)
      refine sN (oM (v := (.int _ _)) rfl ?_)
      obtain ⟨x5, hx5, hv⟩ := bindS hv
      refine sN (oIx (f := GEnrolment.lv) te44 tk53 ts53 rfl rfl GEnrolment.ok hx5 rfl ?_)
      refine sN (oFaS tf53_0 tk33 ts33 rfl rfl rfl ?_)
      refine sN (oFaS tf33_0 tk3 ts3 rfl rfl rfl ?_)
      refine sN (oLd rfl tk3 ta3 ?_)
      refine sN (oM (v := (.int _ _)) rfl ?_)
      refine sN (oEq rfl rfl ?_)
      refine sN (oM (v := (.bool _)) rfl ?_)
      by_cases hb6 : (x5.Entry.Candidate == p1) = true
      · replace hv := iteT hv hb6
        refine sT rfl (congrArg LV.bool hb6) (oM (v := (.lst _ _)) rfl ?_)
        refine sT rfl (congrArg LV.bool hb6) (oM (v := (.int _ _)) rfl ?_)
        obtain ⟨x7, hx7, hv⟩ := bindS hv
        refine sT rfl (congrArg LV.bool hb6) (oIx (f := GEnrolment.lv) te44 tk53 ts53 rfl rfl GEnrolment.ok hx7 rfl ?_)
        refine sT rfl (congrArg LV.bool hb6) (oFaS tf53_0 tk33 ts33 rfl rfl rfl ?_)
        refine sT rfl (congrArg LV.bool hb6) (oFaS tf33_2 tk3 ts3 rfl rfl rfl ?_)
        refine sT rfl (congrArg LV.bool hb6) (oLd rfl tk3 ta3 ?_)
        refine sT rfl (congrArg LV.bool hb6) (oM (v := (.int _ _)) rfl ?_)
        refine sT rfl (congrArg LV.bool hb6) (oEq rfl rfl ?_)
        refine sN (oPkT (congrArg LV.bool hb6) (v := (.bool _)) rfl ?_)
        obtain rfl := Option.some.inj hv
        exact s0 (Wk.to (eC rfl (eC rfl (eC rfl (eC rfl (eC rfl eN))))) mN rfl (prK rfl))
      · replace hb6 := bF hb6
        replace hv := iteF hv hb6
        refine sF rfl rfl hb6 ?_
        refine sF rfl rfl hb6 ?_
        refine sF rfl rfl hb6 ?_
        refine sF rfl rfl hb6 ?_
        refine sF rfl rfl hb6 ?_
        refine sF rfl rfl hb6 ?_
        refine sF rfl rfl hb6 ?_
        refine sF rfl rfl hb6 ?_
        refine sN (oPkF (congrArg LV.bool hb6) (v := (.bool _)) rfl ?_)
        obtain rfl := Option.some.inj hv
        exact s0 (Wk.to (eC rfl (eC rfl (eC rfl (eC rfl (eC rfl eN))))) mN rfl (prK rfl))
    clear hv
    refine LH.cond (t := w4) rfl (fun hc8 => ?_) (fun hc8 => ?_)
    · replace h := iteT h hc8
      refine LH.seqT [(6, .int .i64 n1)] [] rfl ?_ ?_
      · refine sN (oM (v := (.int _ _)) rfl ?_)
        refine sN (oA (v := (.int _ _)) rfl ?_)
        exact s0 (Wk.to (eC rfl eN) mN rfl (prK rfl))
      refine LH.ret ?_
      refine blockR ?_
      refine thenR ?_
      refine roundR ?_
      refine blockR ?_
      refine thenR ?_
      obtain rfl := Option.some.inj h
      exact retE (congrArg Array.toList Try.results48) (lrT rfl (lr0 ⟨memN mN, rfl, prK rfl, Sub.rfl⟩))
    replace h := iteF h hc8
    refine LH.skip ?_
    refine blockN ?_
    refine thenN ?_
    refine LH.wk (Wk.to (el := [(0, .lst 4 (List.map GEnrolment.lv p0)), (1, .int .i64 p1), (2, .int .i64 p2), (7, .int .i64 n1)]) (ml := []) (eC rfl (eC rfl (eC rfl (eC rfl eN)))) mN rfl (prK rfl)) ?_
    refine LH.loneT [(0, .lst 4 (List.map GEnrolment.lv p0)), (1, .int .i64 p1), (2, .int .i64 p2), (7, .int .i64 (i64 (n1 + 1)))] [] rfl ?_ ?_
    · refine sN (oM (v := (.int _ _)) rfl ?_)
      refine sN (oAdd rfl rfl ?_)
      refine sN (oA (v := (.int _ _)) rfl ?_)
      exact s0 (Wk.to (eC rfl (eC rfl (eC rfl (eC rfl eN)))) mN rfl (prK rfl))
    exact roundN (e' := Env.of [(0, .lst 4 (List.map GEnrolment.lv p0)), (1, .int .i64 p1), (2, .int .i64 p2), (7, .int .i64 (i64 (n1 + 1)))]) (m' := Mem.of []) (Wk.to (eC rfl (eC rfl (eC rfl (eC rfl eN)))) mN rfl (prK rfl)) ⟨(i64 (n1 + 1)), hrec1 ▸ h, rfl, rfl⟩
  replace h := iteF h hc2
  refine LH.exit ?_
  refine thenX ?_
  refine roundX ?_
  refine blockH ?_
  refine thenN ?_
  refine LH.wk (Wk.to (el := []) (ml := []) eN mN rfl (prK rfl)) ?_
  refine LH.seqT [(6, .int .i64 (-1))] [] rfl ?_ ?_
  · refine sN (oA (v := (.int _ _)) rfl ?_)
    exact s0 (Wk.to (eC rfl eN) mN rfl (prK rfl))
  refine LH.ret ?_
  obtain rfl := Option.some.inj h
  exact retE (congrArg Array.toList Try.results48) (lrT rfl (lr0 ⟨memN mN, rfl, prK rfl, Sub.rfl⟩))

theorem ref13_add_ok {F : Nat} {p0 : List GEnrolment} {p1 : GEnrolment} {r : List GEnrolment} (h : ref13_add F p0 p1 = some r) : LCall Try.prog 49 [.lst 4 (List.map GEnrolment.lv p0), .agg [.int .i64 p1.Entry.Candidate, .int .i64 p1.Entry.Centre, .int .i64 p1.Entry.Paper, .bool p1.Late]] (Mem.of []) (.arr 900 (List.length r)) (Mem.of [(900, .arr 53 4 (List.map GEnrolment.lv r))]) := by
  unfold ref13_add at h
  refine bodyT Try.func49 rfl (by rw [Try.ntmps49]; exact Nat.le_of_ble_eq_true rfl) ?_
  refine LH.wk (Wk.to (el := [(0, .lst 4 (List.map GEnrolment.lv p0)), (1, .agg [.int .i64 p1.Entry.Candidate, .int .i64 p1.Entry.Centre, .int .i64 p1.Entry.Paper, .bool p1.Late])]) (ml := []) (eC rfl (eC rfl eN)) mN rfl (prK rfl)) ?_
  refine LH.seqT [(0, .lst 4 (List.map GEnrolment.lv p0)), (3, .sptr [.int .i64 p1.Entry.Candidate, .int .i64 p1.Entry.Centre, .int .i64 p1.Entry.Paper, .bool p1.Late])] [] rfl ?_ ?_
  · refine sB (oBxR rfl rfl rfl rfl rfl ?_)
    refine sN (oA (v := .nil) rfl ?_)
    exact s0 (Wk.to (eC rfl (eC rfl eN)) mN rfl (prK rfl))
  refine LH.seqT [(0, .lst 4 (List.map GEnrolment.lv p0)), (3, .sptr [.int .i64 p1.Entry.Candidate, .int .i64 p1.Entry.Centre, .int .i64 p1.Entry.Paper, .bool p1.Late]), (5, .int .i64 0)] [] rfl ?_ ?_
  · refine sN (oA (v := (.int _ _)) rfl ?_)
    exact s0 (Wk.to (eC rfl (eC rfl (eC rfl eN))) mN rfl (prK rfl))
  refine LH.seq ?_
  refine LH.block ?_
  refine LH.loop (fun n e m => ∃ (n1 : Int), ref13_add_L1 p0 p1 n n1 = some r ∧ e = Env.of [(0, .lst 4 (List.map GEnrolment.lv p0)), (3, .sptr [.int .i64 p1.Entry.Candidate, .int .i64 p1.Entry.Centre, .int .i64 p1.Entry.Paper, .bool p1.Late]), (5, .int .i64 n1)] ∧ m = Mem.of []) F ⟨0, h, rfl, rfl⟩ ?_
  clear h
  rintro n e m ⟨n1, h, rfl, rfl⟩
  rcases n with _ | n
  · cases (show Option.none = some _ from h)
  obtain ⟨rec1, hrec1⟩ : ∃ f, f = ref13_add_L1 p0 p1 n := ⟨_, rfl⟩
  replace h : ref13_add_L1_B p0 p1 rec1 n1 = some r := hrec1 ▸ h
  unfold ref13_add_L1_B at h
  refine LH.seq ?_
  obtain ⟨w3, hv, h⟩ := bindS h
  refine LH.seqJM mixed [] [0, 0, 0, 0, 0, 0, 0, 0, 0, 0, 0, 0, 0, 0] [(0, .lst 4 (List.map GEnrolment.lv p0)), (3, .sptr [.int .i64 p1.Entry.Candidate, .int .i64 p1.Entry.Centre, .int .i64 p1.Entry.Paper, .bool p1.Late]), (5, .int .i64 n1), (20, .bool w3)] [] rfl rfl (by kernel_rfl) ?_ ?_
  · refine mN0 (oM (v := (.int _ _)) rfl ⟨rfl, ?_⟩)
    refine mN0 (oM (v := (.lst _ _)) rfl ⟨rfl, ?_⟩)
    refine mN0 (oLnL (f := GEnrolment.lv) te44 rfl ⟨rfl, ?_⟩)
    refine mN0 (oLt rfl rfl ⟨rfl, ?_⟩)
    refine mN0 (oM (v := (.bool _)) rfl ⟨rfl, ?_⟩)
    by_cases hb4 : (decide (n1 < (p0.length : Int))) = true
    · replace hv := iteT hv hb4
      refine mT rfl (congrArg LV.bool hb4) (mN0 (oM (v := (.lst _ _)) rfl ⟨rfl, ?_⟩))
      refine mT rfl (congrArg LV.bool hb4) (mN0 (oM (v := (.int _ _)) rfl ⟨rfl, ?_⟩))
      obtain ⟨x5, hx5, hv⟩ := bindS hv
      refine mT rfl (congrArg LV.bool hb4) (mN0 (oIx (f := GEnrolment.lv) te44 tk53 ts53 rfl rfl GEnrolment.ok hx5 rfl ⟨rfl, ?_⟩))
      refine mT rfl (congrArg LV.bool hb4) (mN0 (oFaS tf53_0 tk33 ts33 rfl rfl rfl ⟨rfl, ?_⟩))
      refine mT rfl (congrArg LV.bool hb4) (mN0 (oLdA rfl tk33 ta33 ts33 rfl rfl ⟨rfl, ?_⟩))
      refine mT rfl (congrArg LV.bool hb4) (mN0 (oFaS tf53_0 tk33 ts33 rfl rfl rfl ⟨rfl, ?_⟩))
      refine mT rfl (congrArg LV.bool hb4) (mN0 (oLdA rfl tk33 ta33 ts33 rfl rfl ⟨rfl, ?_⟩))
      obtain ⟨r6, hr6, hv⟩ := bindS hv
      refine mT rfl (congrArg LV.bool hb4) (mN0 (oCP (args := [.agg [.int .i64 x5.Entry.Candidate, .int .i64 x5.Entry.Centre, .int .i64 x5.Entry.Paper], .agg [.int .i64 p1.Entry.Candidate, .int .i64 p1.Entry.Centre, .int .i64 p1.Entry.Paper]]) rfl isF62 rfl (sbR (sbR sbN)) (ref13_before_ok hr6) rfl ⟨rfl, ?_⟩))
      refine mN0 (oPkT (congrArg LV.bool hb4) (v := (.bool _)) rfl ⟨rfl, ?_⟩)
      obtain rfl := Option.some.inj hv
      exact m0 (Wk.to (eC rfl (eC rfl (eC rfl (eC rfl eN)))) mN rfl (prK rfl))
    · replace hb4 := bF hb4
      replace hv := iteF hv hb4
      refine mF rfl rfl hb4 ?_
      refine mF rfl rfl hb4 ?_
      refine mF rfl rfl hb4 ?_
      refine mF rfl rfl hb4 ?_
      refine mF rfl rfl hb4 ?_
      refine mF rfl rfl hb4 ?_
      refine mF rfl rfl hb4 ?_
      refine mF rfl rfl hb4 ?_
      refine mN0 (oPkF (congrArg LV.bool hb4) (v := (.bool _)) rfl ⟨rfl, ?_⟩)
      obtain rfl := Option.some.inj hv
      exact m0 (Wk.to (eC rfl (eC rfl (eC rfl (eC rfl eN)))) mN rfl (prK rfl))
  clear hv
  refine LH.cond (t := w3) rfl (fun hc7 => ?_) (fun hc7 => ?_)
  · replace h := iteT h hc7
    refine LH.skip ?_
    refine thenN ?_
    refine LH.wk (Wk.to (el := [(0, .lst 4 (List.map GEnrolment.lv p0)), (3, .sptr [.int .i64 p1.Entry.Candidate, .int .i64 p1.Entry.Centre, .int .i64 p1.Entry.Paper, .bool p1.Late]), (5, .int .i64 n1)]) (ml := []) (eC rfl (eC rfl (eC rfl eN))) mN rfl (prK rfl)) ?_
    refine LH.block ?_
    refine LH.loneT [(0, .lst 4 (List.map GEnrolment.lv p0)), (3, .sptr [.int .i64 p1.Entry.Candidate, .int .i64 p1.Entry.Centre, .int .i64 p1.Entry.Paper, .bool p1.Late]), (5, .int .i64 (i64 (n1 + 1)))] [] rfl ?_ ?_
    · refine sN (oM (v := (.int _ _)) rfl ?_)
      refine sN (oAdd rfl rfl ?_)
      refine sN (oA (v := (.int _ _)) rfl ?_)
      exact s0 (Wk.to (eC rfl (eC rfl (eC rfl eN))) mN rfl (prK rfl))
    refine blockN ?_
    exact roundN (e' := Env.of [(0, .lst 4 (List.map GEnrolment.lv p0)), (3, .sptr [.int .i64 p1.Entry.Candidate, .int .i64 p1.Entry.Centre, .int .i64 p1.Entry.Paper, .bool p1.Late]), (5, .int .i64 (i64 (n1 + 1)))]) (m' := Mem.of []) (Wk.to (eC rfl (eC rfl (eC rfl eN))) mN rfl (prK rfl)) ⟨(i64 (n1 + 1)), hrec1 ▸ h, rfl, rfl⟩
  replace h := iteF h hc7
  refine LH.exit ?_
  refine thenX ?_
  refine roundX ?_
  refine blockH ?_
  refine thenN ?_
  refine LH.wk (Wk.to (el := [(0, .lst 4 (List.map GEnrolment.lv p0)), (3, .sptr [.int .i64 p1.Entry.Candidate, .int .i64 p1.Entry.Centre, .int .i64 p1.Entry.Paper, .bool p1.Late]), (5, .int .i64 n1)]) (ml := []) (eC rfl (eC rfl (eC rfl eN))) mN rfl (prK rfl)) ?_
  refine LH.seqT [(0, .lst 4 (List.map GEnrolment.lv p0)), (3, .sptr [.int .i64 p1.Entry.Candidate, .int .i64 p1.Entry.Centre, .int .i64 p1.Entry.Paper, .bool p1.Late]), (5, .int .i64 n1), (6, .nil)] [] rfl ?_ ?_
  · refine sN (oA (v := .nil) rfl ?_)
    exact s0 (Wk.to (eC rfl (eC rfl (eC rfl (eC rfl eN)))) mN rfl (prK rfl))
  obtain ⟨v8, hv8, h⟩ := bindS h
  obtain ⟨v9, hv9, h⟩ := bindS h
  refine LH.seqT [(0, .lst 4 (List.map GEnrolment.lv p0)), (3, .sptr [.int .i64 p1.Entry.Candidate, .int .i64 p1.Entry.Centre, .int .i64 p1.Entry.Paper, .bool p1.Late]), (5, .int .i64 n1), (6, .arr 127 (List.length v9))] [(127, .arr 53 4 (List.map GEnrolment.lv v9))] rfl ?_ ?_
  · refine sN (oM (v := .nil) rfl ?_)
    refine sN (oM (v := (.lst _ _)) rfl ?_)
    refine sN (oM (v := (.int _ _)) rfl ?_)
    refine sN (oSl (f := GEnrolment.lv) te44 tk53 ts53 rfl rfl rfl hv8 ?_)
    refine sN (oApN (f := GEnrolment.lv) (id := 127) rfl te44 tr53 ts53 rfl rfl hv9 rfl ?_)
    refine sN (oA (v := (.arr _ _)) rfl ?_)
    exact s0 (Wk.to (eC rfl (eC rfl (eC rfl (eC rfl eN)))) (mC rfl mN) rfl (prK rfl))
  obtain ⟨v10, hv10, h⟩ := bindS h
  refine LH.seqT [(0, .lst 4 (List.map GEnrolment.lv p0)), (5, .int .i64 n1), (6, .arr 127 (List.length v10))] [(127, .arr 53 4 (List.map GEnrolment.lv v10))] rfl ?_ ?_
  · refine sN (oM (v := (.arr _ _)) rfl ?_)
    refine sN (oLdA rfl tk53 ta53 ts53 rfl rfl ?_)
    refine sN (oBS (f := GEnrolment.lv) (ys := [p1]) te44 tr53 ts53 rfl rfl rfl GEnrolment.ok ?_)
    refine sN (oAp (f := GEnrolment.lv) te44 tr53 ts53 rfl rfl (prN rfl) rfl hv10 ?_)
    refine sN (oA (v := (.arr _ _)) rfl ?_)
    exact s0 (Wk.to (eC rfl (eC rfl (eC rfl eN))) (mC rfl mN) rfl (prK rfl))
  obtain ⟨v11, hv11, h⟩ := bindS h
  obtain ⟨v12, hv12, h⟩ := bindS h
  refine LH.seqT [(4, .arr 127 (List.length v12))] [(127, .arr 53 4 (List.map GEnrolment.lv v12))] rfl ?_ ?_
  · refine sN (oM (v := (.arr _ _)) rfl ?_)
    refine sN (oM (v := (.lst _ _)) rfl ?_)
    refine sN (oM (v := (.int _ _)) rfl ?_)
    refine sN (oSl (f := GEnrolment.lv) te44 tk53 ts53 rfl rfl rfl hv11 ?_)
    refine sN (oAp (f := GEnrolment.lv) te44 tr53 ts53 rfl rfl (prN rfl) rfl hv12 ?_)
    refine sN (oA (v := (.arr _ _)) rfl ?_)
    exact s0 (Wk.to (eC rfl eN) (mC rfl mN) rfl (prK rfl))
  refine LH.wk ((Wk.trans (Wk.to (el := [(4, .arr 127 (List.length v12))]) (ml := [(127, .arr 53 4 (List.map GEnrolment.lv v12))]) (eC rfl eN) (mC rfl mN) rfl (prK rfl)) (Wk.trans (Wk.ren 127 900 rfl rfl rfl rfl rfl (prN rfl)) (Wk.to (el := [(4, .arr 900 (List.length v12))]) (ml := [(900, .arr 53 4 (List.map GEnrolment.lv v12))]) (eC rfl eN) (mC rfl mN) rfl (prK rfl))))) ?_
  refine LH.ret ?_
  obtain rfl := Option.some.inj h
  exact retE (congrArg Array.toList Try.results49) (lrT rfl (lr0 ⟨memN (mC rfl mN), rfl, prK rfl, Sub.rfl⟩))

theorem ref13_without_ok {p0 : List GEnrolment} {p1 : Int} {r : List GEnrolment} (h : ref13_without p0 p1 = some r) : LCall Try.prog 50 [.lst 4 (List.map GEnrolment.lv p0), .int .i64 p1] (Mem.of []) (.arr 900 (List.length r)) (Mem.of [(900, .arr 53 4 (List.map GEnrolment.lv r))]) := by
  unfold ref13_without at h
  refine bodyT Try.func50 rfl (by rw [Try.ntmps50]; exact Nat.le_of_ble_eq_true rfl) ?_
  refine LH.wk (Wk.to (el := [(0, .lst 4 (List.map GEnrolment.lv p0)), (1, .int .i64 p1)]) (ml := []) (eC rfl (eC rfl eN)) mN rfl (prK rfl)) ?_
  refine LH.seqT [(0, .lst 4 (List.map GEnrolment.lv p0)), (1, .int .i64 p1)] [] rfl ?_ ?_
  · refine sN (oA (v := .nil) rfl ?_)
    exact s0 (Wk.to (eC rfl (eC rfl eN)) mN rfl (prK rfl))
  refine LH.seqT [(0, .lst 4 (List.map GEnrolment.lv p0)), (1, .int .i64 p1), (5, .nil)] [] rfl ?_ ?_
  · refine sN (oA (v := .nil) rfl ?_)
    exact s0 (Wk.to (eC rfl (eC rfl (eC rfl eN))) mN rfl (prK rfl))
  obtain ⟨v1, hv1, h⟩ := bindS h
  obtain ⟨v2, hv2, h⟩ := bindS h
  refine LH.seqT [(0, .lst 4 (List.map GEnrolment.lv p0)), (1, .int .i64 p1), (5, .arr 110 (List.length v2))] [(110, .arr 53 4 (List.map GEnrolment.lv v2))] rfl ?_ ?_
  · refine sN (oM (v := .nil) rfl ?_)
    refine sN (oM (v := (.lst _ _)) rfl ?_)
    refine sN (oM (v := (.int _ _)) rfl ?_)
    refine sN (oSl (f := GEnrolment.lv) te44 tk53 ts53 rfl rfl rfl hv1 ?_)
    refine sN (oApN (f := GEnrolment.lv) (id := 110) rfl te44 tr53 ts53 rfl rfl hv2 rfl ?_)
    refine sN (oA (v := (.arr _ _)) rfl ?_)
    exact s0 (Wk.to (eC rfl (eC rfl (eC rfl eN))) (mC rfl mN) rfl (prK rfl))
  obtain ⟨v3, hv3, h⟩ := bindS h
  obtain ⟨v4, hv4, h⟩ := bindS h
  refine LH.seqT [(4, .arr 110 (List.length v4))] [(110, .arr 53 4 (List.map GEnrolment.lv v4))] rfl ?_ ?_
  · refine sN (oM (v := (.arr _ _)) rfl ?_)
    refine sN (oM (v := (.lst _ _)) rfl ?_)
    refine sN (oM (v := (.int _ _)) rfl ?_)
    refine sN (oAdd rfl rfl ?_)
    refine sN (oSl (f := GEnrolment.lv) te44 tk53 ts53 rfl rfl rfl hv3 ?_)
    refine sN (oAp (f := GEnrolment.lv) te44 tr53 ts53 rfl rfl (prN rfl) rfl hv4 ?_)
    refine sN (oA (v := (.arr _ _)) rfl ?_)
    exact s0 (Wk.to (eC rfl eN) (mC rfl mN) rfl (prK rfl))
  refine LH.wk ((Wk.trans (Wk.to (el := [(4, .arr 110 (List.length v4))]) (ml := [(110, .arr 53 4 (List.map GEnrolment.lv v4))]) (eC rfl eN) (mC rfl mN) rfl (prK rfl)) (Wk.trans (Wk.ren 110 900 rfl rfl rfl rfl rfl (prN rfl)) (Wk.to (el := [(4, .arr 900 (List.length v4))]) (ml := [(900, .arr 53 4 (List.map GEnrolment.lv v4))]) (eC rfl eN) (mC rfl mN) rfl (prK rfl))))) ?_
  refine LH.ret ?_
  obtain rfl := Option.some.inj h
  exact retE (congrArg Array.toList Try.results50) (lrT rfl (lr0 ⟨memN (mC rfl mN), rfl, prK rfl, Sub.rfl⟩))

theorem ref13_Apply_ok {F : Nat} {p0 : List GEnrolment} {p1 : GDeadlines} {p2 : GEntryEvent} {r : List GEnrolment × Int} (h : ref13_Apply F p0 p1 p2 = some r) : LCall Try.prog 31 [.lst 4 (List.map GEnrolment.lv p0), .agg [.int .i64 p1.Close, .int .i64 p1.Late], .agg [.int .i64 p2.Stamp.Time, .int .i64 p2.Stamp.Source, .int .i64 p2.Stamp.Seq, .int .i64 p2.Kind, .int .i64 p2.Entry.Candidate, .int .i64 p2.Entry.Centre, .int .i64 p2.Entry.Paper, .int .i64 p2.To]] (Mem.of []) (.tup [.arr 900 (List.length r.1), .int .i64 r.2]) (Mem.of [(900, .arr 53 4 (List.map GEnrolment.lv r.1))]) := by
  unfold ref13_Apply at h
  refine bodyT Try.func31 rfl (by rw [Try.ntmps31]; exact Nat.le_of_ble_eq_true rfl) ?_
  refine LH.wk (Wk.to (el := [(0, .lst 4 (List.map GEnrolment.lv p0)), (1, .agg [.int .i64 p1.Close, .int .i64 p1.Late]), (2, .agg [.int .i64 p2.Stamp.Time, .int .i64 p2.Stamp.Source, .int .i64 p2.Stamp.Seq, .int .i64 p2.Kind, .int .i64 p2.Entry.Candidate, .int .i64 p2.Entry.Centre, .int .i64 p2.Entry.Paper, .int .i64 p2.To])]) (ml := []) (eC rfl (eC rfl (eC rfl eN))) mN rfl (prK rfl)) ?_
  refine LH.seqT [(0, .lst 4 (List.map GEnrolment.lv p0)), (4, .sptr [.int .i64 p1.Close, .int .i64 p1.Late]), (5, .sptr [.int .i64 p2.Stamp.Time, .int .i64 p2.Stamp.Source, .int .i64 p2.Stamp.Seq, .int .i64 p2.Kind, .int .i64 p2.Entry.Candidate, .int .i64 p2.Entry.Centre, .int .i64 p2.Entry.Paper, .int .i64 p2.To])] [] rfl ?_ ?_
  · refine sB (oBxR rfl rfl rfl rfl rfl ?_)
    refine sB (oBxR rfl rfl rfl rfl rfl ?_)
    refine sN (oA (v := .nil) rfl ?_)
    refine sN (oA (v := (.int _ _)) rfl ?_)
    exact s0 (Wk.to (eC rfl (eC rfl (eC rfl eN))) mN rfl (prK rfl))
  refine LH.seq ?_
  obtain ⟨w2, hv, h⟩ := bindS h
  refine LH.seqT [(0, .lst 4 (List.map GEnrolment.lv p0)), (4, .sptr [.int .i64 p1.Close, .int .i64 p1.Late]), (5, .sptr [.int .i64 p2.Stamp.Time, .int .i64 p2.Stamp.Source, .int .i64 p2.Stamp.Seq, .int .i64 p2.Kind, .int .i64 p2.Entry.Candidate, .int .i64 p2.Entry.Centre, .int .i64 p2.Entry.Paper, .int .i64 p2.To]), (17, .bool w2)] [] rfl ?_ ?_
  · refine sN (oM (v := (.lst _ _)) rfl ?_)
    obtain ⟨r3, hr3, hv⟩ := bindS hv
    refine sN (oCP (args := [.lst 4 (List.map GEnrolment.lv p0)]) rfl isF47 rfl (sbR sbN) (ref13_Valid_ok hr3) rfl ?_)
    refine sN (oNot rfl ?_)
    refine sN (oM (v := (.bool _)) rfl ?_)
    by_cases hb4 : (!r3) = true
    · replace hv := iteT hv hb4
      refine sF rfl rfl hb4 ?_
      refine sF rfl rfl hb4 ?_
      refine sF rfl rfl hb4 ?_
      refine sN (oPkT (congrArg LV.bool hb4) (v := (.bool _)) rfl ?_)
      obtain rfl := Option.some.inj hv
      exact s0 (Wk.to (eC rfl (eC rfl (eC rfl (eC rfl eN)))) mN rfl (prK rfl))
    · replace hb4 := bF hb4
      replace hv := iteF hv hb4
      refine sT rfl (congrArg LV.bool hb4) (oLdA rfl tk41 ta41 ts41 rfl rfl ?_)
      obtain ⟨r5, hr5, hv⟩ := bindS hv
      refine sT rfl (congrArg LV.bool hb4) (oCP (args := [.agg [.int .i64 p1.Close, .int .i64 p1.Late]]) rfl isF44 rfl (sbR sbN) (ref13_Deadlines_ok hr5) rfl ?_)
      refine sT rfl (congrArg LV.bool hb4) (oNot rfl ?_)
      refine sN (oPkF (congrArg LV.bool hb4) (v := (.bool _)) rfl ?_)
      obtain rfl := Option.some.inj hv
      exact s0 (Wk.to (eC rfl (eC rfl (eC rfl (eC rfl eN)))) mN rfl (prK rfl))
  clear hv
  refine LH.cond (t := w2) rfl (fun hc6 => ?_) (fun hc6 => ?_)
  · replace h := iteT h hc6
    refine LH.seqT [(6, .nil), (7, .int .i64 1)] [] rfl ?_ ?_
    · refine sN (oA (v := .nil) rfl ?_)
      refine sN (oA (v := (.int _ _)) rfl ?_)
      exact s0 (Wk.to (eC rfl (eC rfl eN)) mN rfl (prK rfl))
    refine LH.wk ((Wk.trans (Wk.to (el := [(6, .nil), (7, .int .i64 1)]) (ml := []) (eC rfl (eC rfl eN)) mN rfl (prK rfl)) (Wk.trans (Wk.to (el := [(6, .nil), (7, .int .i64 1)]) (ml := []) (eC rfl (eC rfl eN)) mN rfl (prK rfl)) (Wk.trans (Wk.ownL (el' := [(6, .arr 900 (List.length ([] : List GEnrolment))), (7, .int .i64 1)]) 900 53 4 rfl rfl (wO (wK wN))) (Wk.to (el := [(6, .arr 900 (List.length ([] : List GEnrolment))), (7, .int .i64 1)]) (ml := [(900, .arr 53 4 (List.map GEnrolment.lv ([] : List GEnrolment)))]) (eC rfl (eC rfl eN)) (mC rfl mN) rfl (prK rfl)))))) ?_
    refine LH.ret ?_
    refine thenR ?_
    obtain rfl := Option.some.inj h
    exact retE (congrArg Array.toList Try.results31) (lrT rfl (lrT rfl (lr0 ⟨memN (mC rfl mN), rfl, prK rfl, (Sub.tup (sbR (sbR sbN)))⟩)))
  replace h := iteF h hc6
  refine LH.skip ?_
  refine thenN ?_
  refine LH.wk (Wk.to (el := [(0, .lst 4 (List.map GEnrolment.lv p0)), (4, .sptr [.int .i64 p1.Close, .int .i64 p1.Late]), (5, .sptr [.int .i64 p2.Stamp.Time, .int .i64 p2.Stamp.Source, .int .i64 p2.Stamp.Seq, .int .i64 p2.Kind, .int .i64 p2.Entry.Candidate, .int .i64 p2.Entry.Centre, .int .i64 p2.Entry.Paper, .int .i64 p2.To])]) (ml := []) (eC rfl (eC rfl (eC rfl eN))) mN rfl (prK rfl)) ?_
  refine LH.seq ?_
  obtain ⟨w8, hv, h⟩ := bindS h
  refine LH.seqT [(0, .lst 4 (List.map GEnrolment.lv p0)), (4, .sptr [.int .i64 p1.Close, .int .i64 p1.Late]), (5, .sptr [.int .i64 p2.Stamp.Time, .int .i64 p2.Stamp.Source, .int .i64 p2.Stamp.Seq, .int .i64 p2.Kind, .int .i64 p2.Entry.Candidate, .int .i64 p2.Entry.Centre, .int .i64 p2.Entry.Paper, .int .i64 p2.To]), (36, .bool w8)] [] rfl ?_ ?_
  · refine sN (oFaS tf35_1 tk3 ts3 rfl rfl rfl ?_)
    refine sN (oLd rfl tk3 ta3 ?_)
    refine sN (oNe rfl rfl ?_)
    refine sN (oM (v := (.bool _)) rfl ?_)
    by_cases hb9 : (p2.Kind != 1) = true
    · replace hv := iteT hv hb9
      refine sT rfl (congrArg LV.bool hb9) (oFaS tf35_1 tk3 ts3 rfl rfl rfl ?_)
      refine sT rfl (congrArg LV.bool hb9) (oLd rfl tk3 ta3 ?_)
      refine sT rfl (congrArg LV.bool hb9) (oNe rfl rfl ?_)
      refine sN (oPkT (congrArg LV.bool hb9) (v := (.bool _)) rfl ?_)
      refine sN (oM (v := (.bool _)) rfl ?_)
      by_cases hb10 : (p2.Kind != 2) = true
      · replace hv := iteT hv hb10
        refine sT rfl (congrArg LV.bool hb10) (oFaS tf35_1 tk3 ts3 rfl rfl rfl ?_)
        refine sT rfl (congrArg LV.bool hb10) (oLd rfl tk3 ta3 ?_)
        refine sT rfl (congrArg LV.bool hb10) (oNe rfl rfl ?_)
        refine sN (oPkT (congrArg LV.bool hb10) (v := (.bool _)) rfl ?_)
        refine sN (oM (v := (.bool _)) rfl ?_)
        by_cases hb11 : (p2.Kind != 3) = true
        · replace hv := iteT hv hb11
          refine sF rfl rfl hb11 ?_
          refine sF rfl rfl hb11 ?_
          refine sF rfl rfl hb11 ?_
          refine sF rfl rfl hb11 ?_
          refine sN (oPkT (congrArg LV.bool hb11) (v := (.bool _)) rfl ?_)
          obtain rfl := Option.some.inj hv
          exact s0 (Wk.to (eC rfl (eC rfl (eC rfl (eC rfl eN)))) mN rfl (prK rfl))
        · replace hb11 := bF hb11
          replace hv := iteF hv hb11
          refine sT rfl (congrArg LV.bool hb11) (oFaS tf35_2 tk33 ts33 rfl rfl rfl ?_)
          refine sT rfl (congrArg LV.bool hb11) (oLdA rfl tk33 ta33 ts33 rfl rfl ?_)
          obtain ⟨r12, hr12, hv⟩ := bindS hv
          refine sT rfl (congrArg LV.bool hb11) (oCP (args := [.agg [.int .i64 p2.Entry.Candidate, .int .i64 p2.Entry.Centre, .int .i64 p2.Entry.Paper]]) rfl isF28 rfl (sbR sbN) (ref13_Entry_ok hr12) rfl ?_)
          refine sT rfl (congrArg LV.bool hb11) (oNot rfl ?_)
          refine sN (oPkF (congrArg LV.bool hb11) (v := (.bool _)) rfl ?_)
          obtain rfl := Option.some.inj hv
          exact s0 (Wk.to (eC rfl (eC rfl (eC rfl (eC rfl eN)))) mN rfl (prK rfl))
      · replace hb10 := bF hb10
        replace hv := iteF hv hb10
        refine sF rfl rfl hb10 ?_
        refine sF rfl rfl hb10 ?_
        refine sF rfl rfl hb10 ?_
        refine sN (oPkF (congrArg LV.bool hb10) (v := (.bool _)) rfl ?_)
        refine sN (oM (v := (.bool _)) rfl ?_)
        refine sT rfl rfl (oFaS tf35_2 tk33 ts33 rfl rfl rfl ?_)
        refine sT rfl rfl (oLdA rfl tk33 ta33 ts33 rfl rfl ?_)
        obtain ⟨r13, hr13, hv⟩ := bindS hv
        refine sT rfl rfl (oCP (args := [.agg [.int .i64 p2.Entry.Candidate, .int .i64 p2.Entry.Centre, .int .i64 p2.Entry.Paper]]) rfl isF28 rfl (sbR sbN) (ref13_Entry_ok hr13) rfl ?_)
        refine sT rfl rfl (oNot rfl ?_)
        refine sN (oPkF rfl (v := (.bool _)) rfl ?_)
        obtain rfl := Option.some.inj hv
        exact s0 (Wk.to (eC rfl (eC rfl (eC rfl (eC rfl eN)))) mN rfl (prK rfl))
    · replace hb9 := bF hb9
      replace hv := iteF hv hb9
      refine sF rfl rfl hb9 ?_
      refine sF rfl rfl hb9 ?_
      refine sF rfl rfl hb9 ?_
      refine sN (oPkF (congrArg LV.bool hb9) (v := (.bool _)) rfl ?_)
      refine sN (oM (v := (.bool _)) rfl ?_)
      refine sF rfl rfl rfl ?_
      refine sF rfl rfl rfl ?_
      refine sF rfl rfl rfl ?_
      refine sN (oPkF rfl (v := (.bool _)) rfl ?_)
      refine sN (oM (v := (.bool _)) rfl ?_)
      refine sT rfl rfl (oFaS tf35_2 tk33 ts33 rfl rfl rfl ?_)
      refine sT rfl rfl (oLdA rfl tk33 ta33 ts33 rfl rfl ?_)
      obtain ⟨r14, hr14, hv⟩ := bindS hv
      refine sT rfl rfl (oCP (args := [.agg [.int .i64 p2.Entry.Candidate, .int .i64 p2.Entry.Centre, .int .i64 p2.Entry.Paper]]) rfl isF28 rfl (sbR sbN) (ref13_Entry_ok hr14) rfl ?_)
      refine sT rfl rfl (oNot rfl ?_)
      refine sN (oPkF rfl (v := (.bool _)) rfl ?_)
      obtain rfl := Option.some.inj hv
      exact s0 (Wk.to (eC rfl (eC rfl (eC rfl (eC rfl eN)))) mN rfl (prK rfl))
  clear hv
  refine LH.cond (t := w8) rfl (fun hc15 => ?_) (fun hc15 => ?_)
  · replace h := iteT h hc15
    refine LH.seqT [(6, .nil), (7, .int .i64 2)] [] rfl ?_ ?_
    · refine sN (oA (v := .nil) rfl ?_)
      refine sN (oA (v := (.int _ _)) rfl ?_)
      exact s0 (Wk.to (eC rfl (eC rfl eN)) mN rfl (prK rfl))
    refine LH.wk ((Wk.trans (Wk.to (el := [(6, .nil), (7, .int .i64 2)]) (ml := []) (eC rfl (eC rfl eN)) mN rfl (prK rfl)) (Wk.trans (Wk.to (el := [(6, .nil), (7, .int .i64 2)]) (ml := []) (eC rfl (eC rfl eN)) mN rfl (prK rfl)) (Wk.trans (Wk.ownL (el' := [(6, .arr 900 (List.length ([] : List GEnrolment))), (7, .int .i64 2)]) 900 53 4 rfl rfl (wO (wK wN))) (Wk.to (el := [(6, .arr 900 (List.length ([] : List GEnrolment))), (7, .int .i64 2)]) (ml := [(900, .arr 53 4 (List.map GEnrolment.lv ([] : List GEnrolment)))]) (eC rfl (eC rfl eN)) (mC rfl mN) rfl (prK rfl)))))) ?_
    refine LH.ret ?_
    refine thenR ?_
    obtain rfl := Option.some.inj h
    exact retE (congrArg Array.toList Try.results31) (lrT rfl (lrT rfl (lr0 ⟨memN (mC rfl mN), rfl, prK rfl, (Sub.tup (sbR (sbR sbN)))⟩)))
  replace h := iteF h hc15
  refine LH.skip ?_
  refine thenN ?_
  refine LH.wk (Wk.to (el := [(0, .lst 4 (List.map GEnrolment.lv p0)), (4, .sptr [.int .i64 p1.Close, .int .i64 p1.Late]), (5, .sptr [.int .i64 p2.Stamp.Time, .int .i64 p2.Stamp.Source, .int .i64 p2.Stamp.Seq, .int .i64 p2.Kind, .int .i64 p2.Entry.Candidate, .int .i64 p2.Entry.Centre, .int .i64 p2.Entry.Paper, .int .i64 p2.To])]) (ml := []) (eC rfl (eC rfl (eC rfl eN))) mN rfl (prK rfl)) ?_
  refine LH.seq ?_
  refine LH.seqT [(0, .lst 4 (List.map GEnrolment.lv p0)), (4, .sptr [.int .i64 p1.Close, .int .i64 p1.Late]), (5, .sptr [.int .i64 p2.Stamp.Time, .int .i64 p2.Stamp.Source, .int .i64 p2.Stamp.Seq, .int .i64 p2.Kind, .int .i64 p2.Entry.Candidate, .int .i64 p2.Entry.Centre, .int .i64 p2.Entry.Paper, .int .i64 p2.To]), (57, .bool ((p2.Kind == 3) && ((decide (p2.To < 1)) || ((decide (p2.To > 99)) || (p2.To == p2.Entry.Centre)))))] [] rfl ?_ ?_
  · refine sN (oFaS tf35_1 tk3 ts3 rfl rfl rfl ?_)
    refine sN (oLd rfl tk3 ta3 ?_)
    refine sN (oEq rfl rfl ?_)
    refine sN (oM (v := (.bool _)) rfl ?_)
    by_cases hb17 : (p2.Kind == 3) = true
    · refine sT rfl (congrArg LV.bool hb17) (oFaS tf35_3 tk3 ts3 rfl rfl rfl ?_)
      refine sT rfl (congrArg LV.bool hb17) (oLd rfl tk3 ta3 ?_)
      refine sT rfl (congrArg LV.bool hb17) (oLt rfl rfl ?_)
      refine sT rfl (congrArg LV.bool hb17) (oM (v := (.bool _)) rfl ?_)
      by_cases hb18 : (decide (p2.To < 1)) = true
      · refine sF rfl rfl hb18 ?_
        refine sF rfl rfl hb18 ?_
        refine sF rfl rfl hb18 ?_
        refine sT rfl (congrArg LV.bool hb17) (oPkT (congrArg LV.bool hb18) (v := (.bool _)) rfl ?_)
        refine sT rfl (congrArg LV.bool hb17) (oM (v := (.bool _)) rfl ?_)
        refine sF rfl rfl rfl ?_
        refine sF rfl rfl rfl ?_
        refine sF rfl rfl rfl ?_
        refine sF rfl rfl rfl ?_
        refine sF rfl rfl rfl ?_
        refine sF rfl rfl rfl ?_
        refine sT rfl (congrArg LV.bool hb17) (oPkT rfl (v := (.bool _)) rfl ?_)
        refine sN (oPkT (congrArg LV.bool hb17) (v := (.bool _)) rfl ?_)
        exact s0 (Wk.to (eC rfl (eC rfl (eC rfl (eC (congrArg LV.bool (Eq.trans (orT hb18) (andT hb17))) eN)))) mN rfl (prK rfl))
      · replace hb18 := bF hb18
        refine sT rfl (congrArg LV.bool hb18) (oFaS tf35_3 tk3 ts3 rfl rfl rfl ?_)
        refine sT rfl (congrArg LV.bool hb18) (oLd rfl tk3 ta3 ?_)
        refine sT rfl (congrArg LV.bool hb18) (oGt rfl rfl ?_)
        refine sT rfl (congrArg LV.bool hb17) (oPkF (congrArg LV.bool hb18) (v := (.bool _)) rfl ?_)
        refine sT rfl (congrArg LV.bool hb17) (oM (v := (.bool _)) rfl ?_)
        by_cases hb19 : (decide (p2.To > 99)) = true
        · refine sF rfl rfl hb19 ?_
          refine sF rfl rfl hb19 ?_
          refine sF rfl rfl hb19 ?_
          refine sF rfl rfl hb19 ?_
          refine sF rfl rfl hb19 ?_
          refine sF rfl rfl hb19 ?_
          refine sT rfl (congrArg LV.bool hb17) (oPkT (congrArg LV.bool hb19) (v := (.bool _)) rfl ?_)
          refine sN (oPkT (congrArg LV.bool hb17) (v := (.bool _)) rfl ?_)
          exact s0 (Wk.to (eC rfl (eC rfl (eC rfl (eC (congrArg LV.bool (Eq.trans (Eq.trans (orT hb19) (orF hb18)) (andT hb17))) eN)))) mN rfl (prK rfl))
        · replace hb19 := bF hb19
          refine sT rfl (congrArg LV.bool hb19) (oFaS tf35_3 tk3 ts3 rfl rfl rfl ?_)
          refine sT rfl (congrArg LV.bool hb19) (oLd rfl tk3 ta3 ?_)
          refine sT rfl (congrArg LV.bool hb19) (oFaS tf35_2 tk33 ts33 rfl rfl rfl ?_)
          refine sT rfl (congrArg LV.bool hb19) (oFaS tf33_1 tk3 ts3 rfl rfl rfl ?_)
          refine sT rfl (congrArg LV.bool hb19) (oLd rfl tk3 ta3 ?_)
          refine sT rfl (congrArg LV.bool hb19) (oEq rfl rfl ?_)
          refine sT rfl (congrArg LV.bool hb17) (oPkF (congrArg LV.bool hb19) (v := (.bool _)) rfl ?_)
          refine sN (oPkT (congrArg LV.bool hb17) (v := (.bool _)) rfl ?_)
          exact s0 (Wk.to (eC rfl (eC rfl (eC rfl (eC (congrArg LV.bool (Eq.trans (Eq.trans (orF hb19) (orF hb18)) (andT hb17))) eN)))) mN rfl (prK rfl))
    · replace hb17 := bF hb17
      refine sF rfl rfl hb17 ?_
      refine sF rfl rfl hb17 ?_
      refine sF rfl rfl hb17 ?_
      refine sF rfl rfl hb17 ?_
      refine sU rfl rfl ?_
      refine sU rfl rfl ?_
      refine sU rfl rfl ?_
      refine sF rfl rfl hb17 ?_
      refine sF rfl rfl hb17 ?_
      refine sU rfl rfl ?_
      refine sU rfl rfl ?_
      refine sU rfl rfl ?_
      refine sU rfl rfl ?_
      refine sU rfl rfl ?_
      refine sU rfl rfl ?_
      refine sF rfl rfl hb17 ?_
      refine sN (oPkF (congrArg LV.bool hb17) (v := (.bool _)) rfl ?_)
      exact s0 (Wk.to (eC rfl (eC rfl (eC rfl (eC (congrArg LV.bool (andF hb17)) eN)))) mN rfl (prK rfl))
  refine LH.cond (t := ((p2.Kind == 3) && ((decide (p2.To < 1)) || ((decide (p2.To > 99)) || (p2.To == p2.Entry.Centre))))) rfl (fun hc20 => ?_) (fun hc20 => ?_)
  · replace h := iteT h hc20
    refine LH.seqT [(6, .nil), (7, .int .i64 2)] [] rfl ?_ ?_
    · refine sN (oA (v := .nil) rfl ?_)
      refine sN (oA (v := (.int _ _)) rfl ?_)
      exact s0 (Wk.to (eC rfl (eC rfl eN)) mN rfl (prK rfl))
    refine LH.wk ((Wk.trans (Wk.to (el := [(6, .nil), (7, .int .i64 2)]) (ml := []) (eC rfl (eC rfl eN)) mN rfl (prK rfl)) (Wk.trans (Wk.to (el := [(6, .nil), (7, .int .i64 2)]) (ml := []) (eC rfl (eC rfl eN)) mN rfl (prK rfl)) (Wk.trans (Wk.ownL (el' := [(6, .arr 900 (List.length ([] : List GEnrolment))), (7, .int .i64 2)]) 900 53 4 rfl rfl (wO (wK wN))) (Wk.to (el := [(6, .arr 900 (List.length ([] : List GEnrolment))), (7, .int .i64 2)]) (ml := [(900, .arr 53 4 (List.map GEnrolment.lv ([] : List GEnrolment)))]) (eC rfl (eC rfl eN)) (mC rfl mN) rfl (prK rfl)))))) ?_
    refine LH.ret ?_
    refine thenR ?_
    obtain rfl := Option.some.inj h
    exact retE (congrArg Array.toList Try.results31) (lrT rfl (lrT rfl (lr0 ⟨memN (mC rfl mN), rfl, prK rfl, (Sub.tup (sbR (sbR sbN)))⟩)))
  replace h := iteF h hc20
  refine LH.skip ?_
  refine thenN ?_
  refine LH.wk (Wk.to (el := [(0, .lst 4 (List.map GEnrolment.lv p0)), (4, .sptr [.int .i64 p1.Close, .int .i64 p1.Late]), (5, .sptr [.int .i64 p2.Stamp.Time, .int .i64 p2.Stamp.Source, .int .i64 p2.Stamp.Seq, .int .i64 p2.Kind, .int .i64 p2.Entry.Candidate, .int .i64 p2.Entry.Centre, .int .i64 p2.Entry.Paper, .int .i64 p2.To])]) (ml := []) (eC rfl (eC rfl (eC rfl eN))) mN rfl (prK rfl)) ?_
  refine LH.seq ?_
  refine LH.seqT [(0, .lst 4 (List.map GEnrolment.lv p0)), (4, .sptr [.int .i64 p1.Close, .int .i64 p1.Late]), (5, .sptr [.int .i64 p2.Stamp.Time, .int .i64 p2.Stamp.Source, .int .i64 p2.Stamp.Seq, .int .i64 p2.Kind, .int .i64 p2.Entry.Candidate, .int .i64 p2.Entry.Centre, .int .i64 p2.Entry.Paper, .int .i64 p2.To]), (70, .bool ((p2.Stamp.Source != 0) && (p2.Stamp.Source != p2.Entry.Centre)))] [] rfl ?_ ?_
  · refine sN (oFaS tf35_0 tk31 ts31 rfl rfl rfl ?_)
    refine sN (oFaS tf31_1 tk3 ts3 rfl rfl rfl ?_)
    refine sN (oLd rfl tk3 ta3 ?_)
    refine sN (oNe rfl rfl ?_)
    refine sN (oM (v := (.bool _)) rfl ?_)
    by_cases hb22 : (p2.Stamp.Source != 0) = true
    · refine sT rfl (congrArg LV.bool hb22) (oFaS tf35_0 tk31 ts31 rfl rfl rfl ?_)
      refine sT rfl (congrArg LV.bool hb22) (oFaS tf31_1 tk3 ts3 rfl rfl rfl ?_)
      refine sT rfl (congrArg LV.bool hb22) (oLd rfl tk3 ta3 ?_)
      refine sT rfl (congrArg LV.bool hb22) (oFaS tf35_2 tk33 ts33 rfl rfl rfl ?_)
      refine sT rfl (congrArg LV.bool hb22) (oFaS tf33_1 tk3 ts3 rfl rfl rfl ?_)
      refine sT rfl (congrArg LV.bool hb22) (oLd rfl tk3 ta3 ?_)
      refine sT rfl (congrArg LV.bool hb22) (oNe rfl rfl ?_)
      refine sN (oPkT (congrArg LV.bool hb22) (v := (.bool _)) rfl ?_)
      exact s0 (Wk.to (eC rfl (eC rfl (eC rfl (eC (congrArg LV.bool (andT hb22)) eN)))) mN rfl (prK rfl))
    · replace hb22 := bF hb22
      refine sF rfl rfl hb22 ?_
      refine sF rfl rfl hb22 ?_
      refine sF rfl rfl hb22 ?_
      refine sF rfl rfl hb22 ?_
      refine sF rfl rfl hb22 ?_
      refine sF rfl rfl hb22 ?_
      refine sF rfl rfl hb22 ?_
      refine sN (oPkF (congrArg LV.bool hb22) (v := (.bool _)) rfl ?_)
      exact s0 (Wk.to (eC rfl (eC rfl (eC rfl (eC (congrArg LV.bool (andF hb22)) eN)))) mN rfl (prK rfl))
  refine LH.cond (t := ((p2.Stamp.Source != 0) && (p2.Stamp.Source != p2.Entry.Centre))) rfl (fun hc23 => ?_) (fun hc23 => ?_)
  · replace h := iteT h hc23
    refine LH.seqT [(6, .nil), (7, .int .i64 28)] [] rfl ?_ ?_
    · refine sN (oA (v := .nil) rfl ?_)
      refine sN (oA (v := (.int _ _)) rfl ?_)
      exact s0 (Wk.to (eC rfl (eC rfl eN)) mN rfl (prK rfl))
    refine LH.wk ((Wk.trans (Wk.to (el := [(6, .nil), (7, .int .i64 28)]) (ml := []) (eC rfl (eC rfl eN)) mN rfl (prK rfl)) (Wk.trans (Wk.to (el := [(6, .nil), (7, .int .i64 28)]) (ml := []) (eC rfl (eC rfl eN)) mN rfl (prK rfl)) (Wk.trans (Wk.ownL (el' := [(6, .arr 900 (List.length ([] : List GEnrolment))), (7, .int .i64 28)]) 900 53 4 rfl rfl (wO (wK wN))) (Wk.to (el := [(6, .arr 900 (List.length ([] : List GEnrolment))), (7, .int .i64 28)]) (ml := [(900, .arr 53 4 (List.map GEnrolment.lv ([] : List GEnrolment)))]) (eC rfl (eC rfl eN)) (mC rfl mN) rfl (prK rfl)))))) ?_
    refine LH.ret ?_
    refine thenR ?_
    obtain rfl := Option.some.inj h
    exact retE (congrArg Array.toList Try.results31) (lrT rfl (lrT rfl (lr0 ⟨memN (mC rfl mN), rfl, prK rfl, (Sub.tup (sbR (sbR sbN)))⟩)))
  replace h := iteF h hc23
  refine LH.skip ?_
  refine thenN ?_
  refine LH.wk (Wk.to (el := [(0, .lst 4 (List.map GEnrolment.lv p0)), (4, .sptr [.int .i64 p1.Close, .int .i64 p1.Late]), (5, .sptr [.int .i64 p2.Stamp.Time, .int .i64 p2.Stamp.Source, .int .i64 p2.Stamp.Seq, .int .i64 p2.Kind, .int .i64 p2.Entry.Candidate, .int .i64 p2.Entry.Centre, .int .i64 p2.Entry.Paper, .int .i64 p2.To])]) (ml := []) (eC rfl (eC rfl (eC rfl eN))) mN rfl (prK rfl)) ?_
  refine LH.seq ?_
  refine LH.seqT [(0, .lst 4 (List.map GEnrolment.lv p0)), (4, .sptr [.int .i64 p1.Close, .int .i64 p1.Late]), (5, .sptr [.int .i64 p2.Stamp.Time, .int .i64 p2.Stamp.Source, .int .i64 p2.Stamp.Seq, .int .i64 p2.Kind, .int .i64 p2.Entry.Candidate, .int .i64 p2.Entry.Centre, .int .i64 p2.Entry.Paper, .int .i64 p2.To]), (76, .bool (decide (p2.Stamp.Time > p1.Late)))] [] rfl ?_ ?_
  · refine sN (oFaS tf35_0 tk31 ts31 rfl rfl rfl ?_)
    refine sN (oFaS tf31_0 tk3 ts3 rfl rfl rfl ?_)
    refine sN (oLd rfl tk3 ta3 ?_)
    refine sN (oFaS tf41_1 tk3 ts3 rfl rfl rfl ?_)
    refine sN (oLd rfl tk3 ta3 ?_)
    refine sN (oGt rfl rfl ?_)
    exact s0 (Wk.to (eC rfl (eC rfl (eC rfl (eC rfl eN)))) mN rfl (prK rfl))
  refine LH.cond (t := (decide (p2.Stamp.Time > p1.Late))) rfl (fun hc24 => ?_) (fun hc24 => ?_)
  · replace h := iteT h hc24
    refine LH.seqT [(6, .nil), (7, .int .i64 27)] [] rfl ?_ ?_
    · refine sN (oA (v := .nil) rfl ?_)
      refine sN (oA (v := (.int _ _)) rfl ?_)
      exact s0 (Wk.to (eC rfl (eC rfl eN)) mN rfl (prK rfl))
    refine LH.wk ((Wk.trans (Wk.to (el := [(6, .nil), (7, .int .i64 27)]) (ml := []) (eC rfl (eC rfl eN)) mN rfl (prK rfl)) (Wk.trans (Wk.to (el := [(6, .nil), (7, .int .i64 27)]) (ml := []) (eC rfl (eC rfl eN)) mN rfl (prK rfl)) (Wk.trans (Wk.ownL (el' := [(6, .arr 900 (List.length ([] : List GEnrolment))), (7, .int .i64 27)]) 900 53 4 rfl rfl (wO (wK wN))) (Wk.to (el := [(6, .arr 900 (List.length ([] : List GEnrolment))), (7, .int .i64 27)]) (ml := [(900, .arr 53 4 (List.map GEnrolment.lv ([] : List GEnrolment)))]) (eC rfl (eC rfl eN)) (mC rfl mN) rfl (prK rfl)))))) ?_
    refine LH.ret ?_
    refine thenR ?_
    obtain rfl := Option.some.inj h
    exact retE (congrArg Array.toList Try.results31) (lrT rfl (lrT rfl (lr0 ⟨memN (mC rfl mN), rfl, prK rfl, (Sub.tup (sbR (sbR sbN)))⟩)))
  replace h := iteF h hc24
  refine LH.skip ?_
  refine thenN ?_
  refine LH.wk (Wk.to (el := [(0, .lst 4 (List.map GEnrolment.lv p0)), (4, .sptr [.int .i64 p1.Close, .int .i64 p1.Late]), (5, .sptr [.int .i64 p2.Stamp.Time, .int .i64 p2.Stamp.Source, .int .i64 p2.Stamp.Seq, .int .i64 p2.Kind, .int .i64 p2.Entry.Candidate, .int .i64 p2.Entry.Centre, .int .i64 p2.Entry.Paper, .int .i64 p2.To])]) (ml := []) (eC rfl (eC rfl (eC rfl eN))) mN rfl (prK rfl)) ?_
  obtain ⟨r25, hr25, h⟩ := bindS h
  refine LH.seqT [(0, .lst 4 (List.map GEnrolment.lv p0)), (4, .sptr [.int .i64 p1.Close, .int .i64 p1.Late]), (5, .sptr [.int .i64 p2.Stamp.Time, .int .i64 p2.Stamp.Source, .int .i64 p2.Stamp.Seq, .int .i64 p2.Kind, .int .i64 p2.Entry.Candidate, .int .i64 p2.Entry.Centre, .int .i64 p2.Entry.Paper, .int .i64 p2.To]), (8, .int .i64 r25)] [] rfl ?_ ?_
  · refine sN (oM (v := (.lst _ _)) rfl ?_)
    refine sN (oFaS tf35_2 tk33 ts33 rfl rfl rfl ?_)
    refine sN (oFaS tf33_0 tk3 ts3 rfl rfl rfl ?_)
    refine sN (oLd rfl tk3 ta3 ?_)
    refine sN (oFaS tf35_2 tk33 ts33 rfl rfl rfl ?_)
    refine sN (oFaS tf33_2 tk3 ts3 rfl rfl rfl ?_)
    refine sN (oLd rfl tk3 ta3 ?_)
    refine sN (oCP (args := [.lst 4 (List.map GEnrolment.lv p0), .int .i64 p2.Entry.Candidate, .int .i64 p2.Entry.Paper]) rfl isF48 rfl (sbR (sbR (sbR sbN))) (ref13_index_ok hr25) rfl ?_)
    refine sN (oA (v := (.int _ _)) rfl ?_)
    exact s0 (Wk.to (eC rfl (eC rfl (eC rfl (eC rfl eN)))) mN rfl (prK rfl))
  refine LH.seq ?_
  refine LH.seqT [(0, .lst 4 (List.map GEnrolment.lv p0)), (4, .sptr [.int .i64 p1.Close, .int .i64 p1.Late]), (5, .sptr [.int .i64 p2.Stamp.Time, .int .i64 p2.Stamp.Source, .int .i64 p2.Stamp.Seq, .int .i64 p2.Kind, .int .i64 p2.Entry.Candidate, .int .i64 p2.Entry.Centre, .int .i64 p2.Entry.Paper, .int .i64 p2.To]), (8, .int .i64 r25), (87, .bool (p2.Kind == 1))] [] rfl ?_ ?_
  · refine sN (oFaS tf35_1 tk3 ts3 rfl rfl rfl ?_)
    refine sN (oLd rfl tk3 ta3 ?_)
    refine sN (oEq rfl rfl ?_)
    exact s0 (Wk.to (eC rfl (eC rfl (eC rfl (eC rfl (eC rfl eN))))) mN rfl (prK rfl))
  refine LH.cond (t := (p2.Kind == 1)) rfl (fun hc26 => ?_) (fun hc26 => ?_)
  · replace h := iteT h hc26
    refine LH.seq ?_
    obtain ⟨w28, hv, h⟩ := bindS h
    refine LH.seqJM mixed [] [0, 0, 0, 0, 0, 0, 0, 0, 0, 0, 0, 0, 0, 0] [(0, .lst 4 (List.map GEnrolment.lv p0)), (4, .sptr [.int .i64 p1.Close, .int .i64 p1.Late]), (5, .sptr [.int .i64 p2.Stamp.Time, .int .i64 p2.Stamp.Source, .int .i64 p2.Stamp.Seq, .int .i64 p2.Kind, .int .i64 p2.Entry.Candidate, .int .i64 p2.Entry.Centre, .int .i64 p2.Entry.Paper, .int .i64 p2.To]), (8, .int .i64 r25), (101, .bool w28)] [] rfl rfl (by kernel_rfl) ?_ ?_
    · refine mN0 (oM (v := (.int _ _)) rfl ⟨rfl, ?_⟩)
      refine mN0 (oGe rfl rfl ⟨rfl, ?_⟩)
      refine mN0 (oM (v := (.bool _)) rfl ⟨rfl, ?_⟩)
      by_cases hb29 : (decide (r25 ≥ 0)) = true
      · replace hv := iteT hv hb29
        refine mT rfl (congrArg LV.bool hb29) (mN0 (oM (v := (.lst _ _)) rfl ⟨rfl, ?_⟩))
        refine mT rfl (congrArg LV.bool hb29) (mN0 (oM (v := (.int _ _)) rfl ⟨rfl, ?_⟩))
        obtain ⟨x30, hx30, hv⟩ := bindS hv
        refine mT rfl (congrArg LV.bool hb29) (mN0 (oIx (f := GEnrolment.lv) te44 tk53 ts53 rfl rfl GEnrolment.ok hx30 rfl ⟨rfl, ?_⟩))
        refine mT rfl (congrArg LV.bool hb29) (mN0 (oFaS tf53_0 tk33 ts33 rfl rfl rfl ⟨rfl, ?_⟩))
        refine mT rfl (congrArg LV.bool hb29) (mN0 (oFaS tf33_1 tk3 ts3 rfl rfl rfl ⟨rfl, ?_⟩))
        refine mT rfl (congrArg LV.bool hb29) (mN0 (oLd rfl tk3 ta3 ⟨rfl, ?_⟩))
        refine mT rfl (congrArg LV.bool hb29) (mN0 (oFaS tf35_2 tk33 ts33 rfl rfl rfl ⟨rfl, ?_⟩))
        refine mT rfl (congrArg LV.bool hb29) (mN0 (oFaS tf33_1 tk3 ts3 rfl rfl rfl ⟨rfl, ?_⟩))
        refine mT rfl (congrArg LV.bool hb29) (mN0 (oLd rfl tk3 ta3 ⟨rfl, ?_⟩))
        refine mT rfl (congrArg LV.bool hb29) (mN0 (oEq rfl rfl ⟨rfl, ?_⟩))
        refine mN0 (oPkT (congrArg LV.bool hb29) (v := (.bool _)) rfl ⟨rfl, ?_⟩)
        obtain rfl := Option.some.inj hv
        exact m0 (Wk.to (eC rfl (eC rfl (eC rfl (eC rfl (eC rfl eN))))) mN rfl (prK rfl))
      · replace hb29 := bF hb29
        replace hv := iteF hv hb29
        refine mF rfl rfl hb29 ?_
        refine mF rfl rfl hb29 ?_
        refine mF rfl rfl hb29 ?_
        refine mF rfl rfl hb29 ?_
        refine mF rfl rfl hb29 ?_
        refine mF rfl rfl hb29 ?_
        refine mF rfl rfl hb29 ?_
        refine mF rfl rfl hb29 ?_
        refine mF rfl rfl hb29 ?_
        refine mF rfl rfl hb29 ?_
        refine mN0 (oPkF (congrArg LV.bool hb29) (v := (.bool _)) rfl ⟨rfl, ?_⟩)
        obtain rfl := Option.some.inj hv
        exact m0 (Wk.to (eC rfl (eC rfl (eC rfl (eC rfl (eC rfl eN))))) mN rfl (prK rfl))
    clear hv
    refine LH.cond (t := w28) rfl (fun hc31 => ?_) (fun hc31 => ?_)
    · replace h := iteT h hc31
      refine LH.seqT [(6, .nil), (7, .int .i64 5)] [] rfl ?_ ?_
      · refine sN (oA (v := .nil) rfl ?_)
        refine sN (oA (v := (.int _ _)) rfl ?_)
        exact s0 (Wk.to (eC rfl (eC rfl eN)) mN rfl (prK rfl))
      refine LH.wk ((Wk.trans (Wk.to (el := [(6, .nil), (7, .int .i64 5)]) (ml := []) (eC rfl (eC rfl eN)) mN rfl (prK rfl)) (Wk.trans (Wk.to (el := [(6, .nil), (7, .int .i64 5)]) (ml := []) (eC rfl (eC rfl eN)) mN rfl (prK rfl)) (Wk.trans (Wk.ownL (el' := [(6, .arr 900 (List.length ([] : List GEnrolment))), (7, .int .i64 5)]) 900 53 4 rfl rfl (wO (wK wN))) (Wk.to (el := [(6, .arr 900 (List.length ([] : List GEnrolment))), (7, .int .i64 5)]) (ml := [(900, .arr 53 4 (List.map GEnrolment.lv ([] : List GEnrolment)))]) (eC rfl (eC rfl eN)) (mC rfl mN) rfl (prK rfl)))))) ?_
      refine LH.ret ?_
      refine thenR ?_
      refine thenR ?_
      obtain rfl := Option.some.inj h
      exact retE (congrArg Array.toList Try.results31) (lrT rfl (lrT rfl (lr0 ⟨memN (mC rfl mN), rfl, prK rfl, (Sub.tup (sbR (sbR sbN)))⟩)))
    replace h := iteF h hc31
    refine LH.skip ?_
    refine thenN ?_
    refine LH.wk (Wk.to (el := [(0, .lst 4 (List.map GEnrolment.lv p0)), (4, .sptr [.int .i64 p1.Close, .int .i64 p1.Late]), (5, .sptr [.int .i64 p2.Stamp.Time, .int .i64 p2.Stamp.Source, .int .i64 p2.Stamp.Seq, .int .i64 p2.Kind, .int .i64 p2.Entry.Candidate, .int .i64 p2.Entry.Centre, .int .i64 p2.Entry.Paper, .int .i64 p2.To]), (8, .int .i64 r25)]) (ml := []) (eC rfl (eC rfl (eC rfl (eC rfl eN)))) mN rfl (prK rfl)) ?_
    refine LH.seq ?_
    refine LH.seqT [(0, .lst 4 (List.map GEnrolment.lv p0)), (4, .sptr [.int .i64 p1.Close, .int .i64 p1.Late]), (5, .sptr [.int .i64 p2.Stamp.Time, .int .i64 p2.Stamp.Source, .int .i64 p2.Stamp.Seq, .int .i64 p2.Kind, .int .i64 p2.Entry.Candidate, .int .i64 p2.Entry.Centre, .int .i64 p2.Entry.Paper, .int .i64 p2.To]), (103, .bool (decide (r25 ≥ 0)))] [] rfl ?_ ?_
    · refine sN (oM (v := (.int _ _)) rfl ?_)
      refine sN (oGe rfl rfl ?_)
      exact s0 (Wk.to (eC rfl (eC rfl (eC rfl (eC rfl eN)))) mN rfl (prK rfl))
    refine LH.cond (t := (decide (r25 ≥ 0))) rfl (fun hc32 => ?_) (fun hc32 => ?_)
    · replace h := iteT h hc32
      refine LH.seqT [(6, .nil), (7, .int .i64 9)] [] rfl ?_ ?_
      · refine sN (oA (v := .nil) rfl ?_)
        refine sN (oA (v := (.int _ _)) rfl ?_)
        exact s0 (Wk.to (eC rfl (eC rfl eN)) mN rfl (prK rfl))
      refine LH.wk ((Wk.trans (Wk.to (el := [(6, .nil), (7, .int .i64 9)]) (ml := []) (eC rfl (eC rfl eN)) mN rfl (prK rfl)) (Wk.trans (Wk.to (el := [(6, .nil), (7, .int .i64 9)]) (ml := []) (eC rfl (eC rfl eN)) mN rfl (prK rfl)) (Wk.trans (Wk.ownL (el' := [(6, .arr 900 (List.length ([] : List GEnrolment))), (7, .int .i64 9)]) 900 53 4 rfl rfl (wO (wK wN))) (Wk.to (el := [(6, .arr 900 (List.length ([] : List GEnrolment))), (7, .int .i64 9)]) (ml := [(900, .arr 53 4 (List.map GEnrolment.lv ([] : List GEnrolment)))]) (eC rfl (eC rfl eN)) (mC rfl mN) rfl (prK rfl)))))) ?_
      refine LH.ret ?_
      refine thenR ?_
      refine thenR ?_
      obtain rfl := Option.some.inj h
      exact retE (congrArg Array.toList Try.results31) (lrT rfl (lrT rfl (lr0 ⟨memN (mC rfl mN), rfl, prK rfl, (Sub.tup (sbR (sbR sbN)))⟩)))
    replace h := iteF h hc32
    refine LH.skip ?_
    refine thenN ?_
    refine LH.wk (Wk.to (el := [(0, .lst 4 (List.map GEnrolment.lv p0)), (4, .sptr [.int .i64 p1.Close, .int .i64 p1.Late]), (5, .sptr [.int .i64 p2.Stamp.Time, .int .i64 p2.Stamp.Source, .int .i64 p2.Stamp.Seq, .int .i64 p2.Kind, .int .i64 p2.Entry.Candidate, .int .i64 p2.Entry.Centre, .int .i64 p2.Entry.Paper, .int .i64 p2.To])]) (ml := []) (eC rfl (eC rfl (eC rfl eN))) mN rfl (prK rfl)) ?_
    refine LH.seq ?_
    refine LH.seqT [(0, .lst 4 (List.map GEnrolment.lv p0)), (4, .sptr [.int .i64 p1.Close, .int .i64 p1.Late]), (5, .sptr [.int .i64 p2.Stamp.Time, .int .i64 p2.Stamp.Source, .int .i64 p2.Stamp.Seq, .int .i64 p2.Kind, .int .i64 p2.Entry.Candidate, .int .i64 p2.Entry.Centre, .int .i64 p2.Entry.Paper, .int .i64 p2.To]), (106, .bool ((p0.length : Int) == 300))] [] rfl ?_ ?_
    · refine sN (oM (v := (.lst _ _)) rfl ?_)
      refine sN (oLnL (f := GEnrolment.lv) te44 rfl ?_)
      refine sN (oEq rfl rfl ?_)
      exact s0 (Wk.to (eC rfl (eC rfl (eC rfl (eC rfl eN)))) mN rfl (prK rfl))
    refine LH.cond (t := ((p0.length : Int) == 300)) rfl (fun hc33 => ?_) (fun hc33 => ?_)
    · replace h := iteT h hc33
      refine LH.seqT [(6, .nil), (7, .int .i64 3)] [] rfl ?_ ?_
      · refine sN (oA (v := .nil) rfl ?_)
        refine sN (oA (v := (.int _ _)) rfl ?_)
        exact s0 (Wk.to (eC rfl (eC rfl eN)) mN rfl (prK rfl))
      refine LH.wk ((Wk.trans (Wk.to (el := [(6, .nil), (7, .int .i64 3)]) (ml := []) (eC rfl (eC rfl eN)) mN rfl (prK rfl)) (Wk.trans (Wk.to (el := [(6, .nil), (7, .int .i64 3)]) (ml := []) (eC rfl (eC rfl eN)) mN rfl (prK rfl)) (Wk.trans (Wk.ownL (el' := [(6, .arr 900 (List.length ([] : List GEnrolment))), (7, .int .i64 3)]) 900 53 4 rfl rfl (wO (wK wN))) (Wk.to (el := [(6, .arr 900 (List.length ([] : List GEnrolment))), (7, .int .i64 3)]) (ml := [(900, .arr 53 4 (List.map GEnrolment.lv ([] : List GEnrolment)))]) (eC rfl (eC rfl eN)) (mC rfl mN) rfl (prK rfl)))))) ?_
      refine LH.ret ?_
      refine thenR ?_
      refine thenR ?_
      obtain rfl := Option.some.inj h
      exact retE (congrArg Array.toList Try.results31) (lrT rfl (lrT rfl (lr0 ⟨memN (mC rfl mN), rfl, prK rfl, (Sub.tup (sbR (sbR sbN)))⟩)))
    replace h := iteF h hc33
    refine LH.skip ?_
    refine thenN ?_
    refine LH.wk (Wk.to (el := [(0, .lst 4 (List.map GEnrolment.lv p0)), (4, .sptr [.int .i64 p1.Close, .int .i64 p1.Late]), (5, .sptr [.int .i64 p2.Stamp.Time, .int .i64 p2.Stamp.Source, .int .i64 p2.Stamp.Seq, .int .i64 p2.Kind, .int .i64 p2.Entry.Candidate, .int .i64 p2.Entry.Centre, .int .i64 p2.Entry.Paper, .int .i64 p2.To])]) (ml := []) (eC rfl (eC rfl (eC rfl eN))) mN rfl (prK rfl)) ?_
    obtain ⟨r34, hr34, h⟩ := bindS h
    refine LH.seqT [(6, .arr 900 (List.length r34)), (7, .int .i64 0)] [(900, .arr 53 4 (List.map GEnrolment.lv r34))] rfl ?_ ?_
    · refine sN (oM (v := (.lst _ _)) rfl ?_)
      refine sN (oFaS tf35_2 tk33 ts33 rfl rfl rfl ?_)
      refine sN (oLdA rfl tk33 ta33 ts33 rfl rfl ?_)
      refine sN (oFaS tf35_0 tk31 ts31 rfl rfl rfl ?_)
      refine sN (oFaS tf31_0 tk3 ts3 rfl rfl rfl ?_)
      refine sN (oLd rfl tk3 ta3 ?_)
      refine sN (oFaS tf41_0 tk3 ts3 rfl rfl rfl ?_)
      refine sN (oLd rfl tk3 ta3 ?_)
      refine sN (oGt rfl rfl ?_)
      refine sN (oBd (vs := [(0, .agg [.int .i64 p2.Entry.Candidate, .int .i64 p2.Entry.Centre, .int .i64 p2.Entry.Paper]), (1, .bool (decide (p2.Stamp.Time > p1.Close)))]) tu53 tz53 rfl (lf tf53_0 ts33 tk33 rfl rfl rfl (lf tf53_1 ts4 tk4 rfl rfl rfl lf0)) ?_)
      refine sN (oCM (args := [.lst 4 (List.map GEnrolment.lv p0), .agg [.int .i64 p2.Entry.Candidate, .int .i64 p2.Entry.Centre, .int .i64 p2.Entry.Paper, .bool (decide (p2.Stamp.Time > p1.Close))]]) (ml := []) (ml' := [(900, .arr 53 4 (List.map GEnrolment.lv r34))]) rfl isF49 rfl (sbR (sbR sbN)) (ref13_add_ok hr34) mN (newF rfl newN) rfl ?_)
      refine sN (oA (v := (.arr _ _)) rfl ?_)
      refine sN (oA (v := (.int _ _)) rfl ?_)
      exact s0 (Wk.to (eC rfl (eC rfl eN)) (mC rfl mN) rfl (prK rfl))
    refine LH.ret ?_
    refine thenR ?_
    obtain rfl := Option.some.inj h
    exact retE (congrArg Array.toList Try.results31) (lrT rfl (lrT rfl (lr0 ⟨memN (mC rfl mN), rfl, prK rfl, (Sub.tup (sbR (sbR sbN)))⟩)))
  replace h := iteF h hc26
  refine LH.skip ?_
  refine thenN ?_
  refine LH.wk (Wk.to (el := [(0, .lst 4 (List.map GEnrolment.lv p0)), (5, .sptr [.int .i64 p2.Stamp.Time, .int .i64 p2.Stamp.Source, .int .i64 p2.Stamp.Seq, .int .i64 p2.Kind, .int .i64 p2.Entry.Candidate, .int .i64 p2.Entry.Centre, .int .i64 p2.Entry.Paper, .int .i64 p2.To]), (8, .int .i64 r25)]) (ml := []) (eC rfl (eC rfl (eC rfl eN))) mN rfl (prK rfl)) ?_
  refine LH.seq ?_
  obtain ⟨w36, hv, h⟩ := bindS h
  refine LH.seqJM mixed [] [0, 0, 0, 0, 0, 0, 0, 0, 0, 0, 0, 0, 0, 0] [(0, .lst 4 (List.map GEnrolment.lv p0)), (5, .sptr [.int .i64 p2.Stamp.Time, .int .i64 p2.Stamp.Source, .int .i64 p2.Stamp.Seq, .int .i64 p2.Kind, .int .i64 p2.Entry.Candidate, .int .i64 p2.Entry.Centre, .int .i64 p2.Entry.Paper, .int .i64 p2.To]), (8, .int .i64 r25), (131, .bool w36)] [] rfl rfl (by kernel_rfl) ?_ ?_
  · refine mN0 (oM (v := (.int _ _)) rfl ⟨rfl, ?_⟩)
    refine mN0 (oLt rfl rfl ⟨rfl, ?_⟩)
    refine mN0 (oM (v := (.bool _)) rfl ⟨rfl, ?_⟩)
    by_cases hb37 : (decide (r25 < 0)) = true
    · replace hv := iteT hv hb37
      refine mF rfl rfl hb37 ?_
      refine mF rfl rfl hb37 ?_
      refine mF rfl rfl hb37 ?_
      refine mF rfl rfl hb37 ?_
      refine mF rfl rfl hb37 ?_
      refine mF rfl rfl hb37 ?_
      refine mF rfl rfl hb37 ?_
      refine mF rfl rfl hb37 ?_
      refine mF rfl rfl hb37 ?_
      refine mF rfl rfl hb37 ?_
      refine mN0 (oPkT (congrArg LV.bool hb37) (v := (.bool _)) rfl ⟨rfl, ?_⟩)
      obtain rfl := Option.some.inj hv
      exact m0 (Wk.to (eC rfl (eC rfl (eC rfl (eC rfl eN)))) mN rfl (prK rfl))
    · replace hb37 := bF hb37
      replace hv := iteF hv hb37
      refine mT rfl (congrArg LV.bool hb37) (mN0 (oM (v := (.lst _ _)) rfl ⟨rfl, ?_⟩))
      refine mT rfl (congrArg LV.bool hb37) (mN0 (oM (v := (.int _ _)) rfl ⟨rfl, ?_⟩))
      obtain ⟨x38, hx38, hv⟩ := bindS hv
      refine mT rfl (congrArg LV.bool hb37) (mN0 (oIx (f := GEnrolment.lv) te44 tk53 ts53 rfl rfl GEnrolment.ok hx38 rfl ⟨rfl, ?_⟩))
      refine mT rfl (congrArg LV.bool hb37) (mN0 (oFaS tf53_0 tk33 ts33 rfl rfl rfl ⟨rfl, ?_⟩))
      refine mT rfl (congrArg LV.bool hb37) (mN0 (oFaS tf33_1 tk3 ts3 rfl rfl rfl ⟨rfl, ?_⟩))
      refine mT rfl (congrArg LV.bool hb37) (mN0 (oLd rfl tk3 ta3 ⟨rfl, ?_⟩))
      refine mT rfl (congrArg LV.bool hb37) (mN0 (oFaS tf35_2 tk33 ts33 rfl rfl rfl ⟨rfl, ?_⟩))
      refine mT rfl (congrArg LV.bool hb37) (mN0 (oFaS tf33_1 tk3 ts3 rfl rfl rfl ⟨rfl, ?_⟩))
      refine mT rfl (congrArg LV.bool hb37) (mN0 (oLd rfl tk3 ta3 ⟨rfl, ?_⟩))
      refine mT rfl (congrArg LV.bool hb37) (mN0 (oNe rfl rfl ⟨rfl, ?_⟩))
      refine mN0 (oPkF (congrArg LV.bool hb37) (v := (.bool _)) rfl ⟨rfl, ?_⟩)
      obtain rfl := Option.some.inj hv
      exact m0 (Wk.to (eC rfl (eC rfl (eC rfl (eC rfl eN)))) mN rfl (prK rfl))
  clear hv
  refine LH.cond (t := w36) rfl (fun hc39 => ?_) (fun hc39 => ?_)
  · replace h := iteT h hc39
    refine LH.seqT [(6, .nil), (7, .int .i64 4)] [] rfl ?_ ?_
    · refine sN (oA (v := .nil) rfl ?_)
      refine sN (oA (v := (.int _ _)) rfl ?_)
      exact s0 (Wk.to (eC rfl (eC rfl eN)) mN rfl (prK rfl))
    refine LH.wk ((Wk.trans (Wk.to (el := [(6, .nil), (7, .int .i64 4)]) (ml := []) (eC rfl (eC rfl eN)) mN rfl (prK rfl)) (Wk.trans (Wk.to (el := [(6, .nil), (7, .int .i64 4)]) (ml := []) (eC rfl (eC rfl eN)) mN rfl (prK rfl)) (Wk.trans (Wk.ownL (el' := [(6, .arr 900 (List.length ([] : List GEnrolment))), (7, .int .i64 4)]) 900 53 4 rfl rfl (wO (wK wN))) (Wk.to (el := [(6, .arr 900 (List.length ([] : List GEnrolment))), (7, .int .i64 4)]) (ml := [(900, .arr 53 4 (List.map GEnrolment.lv ([] : List GEnrolment)))]) (eC rfl (eC rfl eN)) (mC rfl mN) rfl (prK rfl)))))) ?_
    refine LH.ret ?_
    refine thenR ?_
    obtain rfl := Option.some.inj h
    exact retE (congrArg Array.toList Try.results31) (lrT rfl (lrT rfl (lr0 ⟨memN (mC rfl mN), rfl, prK rfl, (Sub.tup (sbR (sbR sbN)))⟩)))
  replace h := iteF h hc39
  refine LH.skip ?_
  refine thenN ?_
  refine LH.wk (Wk.to (el := [(0, .lst 4 (List.map GEnrolment.lv p0)), (5, .sptr [.int .i64 p2.Stamp.Time, .int .i64 p2.Stamp.Source, .int .i64 p2.Stamp.Seq, .int .i64 p2.Kind, .int .i64 p2.Entry.Candidate, .int .i64 p2.Entry.Centre, .int .i64 p2.Entry.Paper, .int .i64 p2.To]), (8, .int .i64 r25)]) (ml := []) (eC rfl (eC rfl (eC rfl eN))) mN rfl (prK rfl)) ?_
  refine LH.seq ?_
  refine LH.seqT [(0, .lst 4 (List.map GEnrolment.lv p0)), (5, .sptr [.int .i64 p2.Stamp.Time, .int .i64 p2.Stamp.Source, .int .i64 p2.Stamp.Seq, .int .i64 p2.Kind, .int .i64 p2.Entry.Candidate, .int .i64 p2.Entry.Centre, .int .i64 p2.Entry.Paper, .int .i64 p2.To]), (8, .int .i64 r25), (134, .bool (p2.Kind == 2))] [] rfl ?_ ?_
  · refine sN (oFaS tf35_1 tk3 ts3 rfl rfl rfl ?_)
    refine sN (oLd rfl tk3 ta3 ?_)
    refine sN (oEq rfl rfl ?_)
    exact s0 (Wk.to (eC rfl (eC rfl (eC rfl (eC rfl eN)))) mN rfl (prK rfl))
  refine LH.cond (t := (p2.Kind == 2)) rfl (fun hc40 => ?_) (fun hc40 => ?_)
  · replace h := iteT h hc40
    obtain ⟨r41, hr41, h⟩ := bindS h
    refine LH.seqT [(6, .arr 900 (List.length r41)), (7, .int .i64 0)] [(900, .arr 53 4 (List.map GEnrolment.lv r41))] rfl ?_ ?_
    · refine sN (oM (v := (.lst _ _)) rfl ?_)
      refine sN (oM (v := (.int _ _)) rfl ?_)
      refine sN (oCM (args := [.lst 4 (List.map GEnrolment.lv p0), .int .i64 r25]) (ml := []) (ml' := [(900, .arr 53 4 (List.map GEnrolment.lv r41))]) rfl isF50 rfl (sbR (sbR sbN)) (ref13_without_ok hr41) mN (newF rfl newN) rfl ?_)
      refine sN (oA (v := (.arr _ _)) rfl ?_)
      refine sN (oA (v := (.int _ _)) rfl ?_)
      exact s0 (Wk.to (eC rfl (eC rfl eN)) (mC rfl mN) rfl (prK rfl))
    refine LH.ret ?_
    refine thenR ?_
    obtain rfl := Option.some.inj h
    exact retE (congrArg Array.toList Try.results31) (lrT rfl (lrT rfl (lr0 ⟨memN (mC rfl mN), rfl, prK rfl, (Sub.tup (sbR (sbR sbN)))⟩)))
  replace h := iteF h hc40
  refine LH.skip ?_
  refine thenN ?_
  refine LH.wk (Wk.to (el := [(0, .lst 4 (List.map GEnrolment.lv p0)), (5, .sptr [.int .i64 p2.Stamp.Time, .int .i64 p2.Stamp.Source, .int .i64 p2.Stamp.Seq, .int .i64 p2.Kind, .int .i64 p2.Entry.Candidate, .int .i64 p2.Entry.Centre, .int .i64 p2.Entry.Paper, .int .i64 p2.To]), (8, .int .i64 r25)]) (ml := []) (eC rfl (eC rfl (eC rfl eN))) mN rfl (prK rfl)) ?_
  obtain ⟨x42, hx42, h⟩ := bindS h
  refine LH.seqT [(0, .lst 4 (List.map GEnrolment.lv p0)), (5, .sptr [.int .i64 p2.Stamp.Time, .int .i64 p2.Stamp.Source, .int .i64 p2.Stamp.Seq, .int .i64 p2.Kind, .int .i64 p2.Entry.Candidate, .int .i64 p2.Entry.Centre, .int .i64 p2.Entry.Paper, .int .i64 p2.To]), (8, .int .i64 r25), (9, .ptr 109 0)] [(109, .box [.int .i64 x42.Entry.Candidate, .int .i64 x42.Entry.Centre, .int .i64 x42.Entry.Paper, .bool x42.Late])] rfl ?_ ?_
  · refine sN (oM (v := (.lst _ _)) rfl ?_)
    refine sN (oM (v := (.int _ _)) rfl ?_)
    refine sN (oIx (f := GEnrolment.lv) te44 tk53 ts53 rfl rfl GEnrolment.ok hx42 rfl ?_)
    refine sN (oLdA rfl tk53 ta53 ts53 rfl rfl ?_)
    refine sN (oAl (id := 109) rfl tz53 rfl rfl ?_)
    refine s_ (oSt rfl rfl rfl tk53 ts53 rfl rfl rfl ?_)
    exact s0 (Wk.to (eC rfl (eC rfl (eC rfl (eC rfl eN)))) (mC rfl mN) rfl (prK rfl))
  refine LH.seqT [(0, .lst 4 (List.map GEnrolment.lv p0)), (8, .int .i64 r25), (9, .sptr [.int .i64 x42.Entry.Candidate, .int .i64 p2.To, .int .i64 x42.Entry.Paper, .bool x42.Late])] [] rfl ?_ ?_
  · refine sN (oFaS tf35_3 tk3 ts3 rfl rfl rfl ?_)
    refine sN (oLd rfl tk3 ta3 ?_)
    refine sN (oFa tf53_0 tk33 ts33 rfl rfl ?_)
    refine sN (oFa tf33_1 tk3 ts3 rfl rfl ?_)
    refine s_ (oSt rfl rfl rfl tk3 ts3 rfl rfl rfl ?_)
    exact s0 ((Wk.trans (Wk.to (el := [(0, .lst 4 (List.map GEnrolment.lv p0)), (8, .int .i64 r25), (9, .ptr 109 0)]) (ml := [(109, .box [.int .i64 x42.Entry.Candidate, .int .i64 p2.To, .int .i64 x42.Entry.Paper, .bool x42.Late])]) (eC rfl (eC rfl (eC rfl eN))) (mC rfl mN) rfl (prK rfl)) (Wk.trans (Wk.frzB 109 [.int .i64 x42.Entry.Candidate, .int .i64 p2.To, .int .i64 x42.Entry.Paper, .bool x42.Late] rfl rfl rfl (prN rfl)) (Wk.to (eC rfl (eC rfl (eC rfl eN))) mN rfl (prK rfl)))))
  obtain ⟨r43, hr43, h⟩ := bindS h
  obtain ⟨r44, hr44, h⟩ := bindS h
  refine LH.seqJM mixed [] [0, 0, 2, 0, 2, 0, 0] [(6, .arr 1150 (List.length r44)), (7, .int .i64 0)] [(1150, .arr 53 4 (List.map GEnrolment.lv r44))] rfl rfl (by kernel_rfl) ?_ ?_
  · refine mN0 (oM (v := (.lst _ _)) rfl ⟨rfl, ?_⟩)
    refine mN0 (oM (v := (.int _ _)) rfl ⟨rfl, ?_⟩)
    refine mN2 (oCM (args := [.lst 4 (List.map GEnrolment.lv p0), .int .i64 r25]) (ml := []) (ml' := [(900, .arr 53 4 (List.map GEnrolment.lv r43))]) rfl isF50 rfl (sbR (sbR sbN)) (ref13_without_ok hr43) mN (newF rfl newN) rfl ?_)
    refine mN0 (oLdA rfl tk53 ta53 ts53 rfl rfl ⟨rfl, ?_⟩)
    refine mN2 (oCM (args := [.arr 900 (List.length r43), .agg [.int .i64 x42.Entry.Candidate, .int .i64 p2.To, .int .i64 x42.Entry.Paper, .bool x42.Late]]) (ml := [(900, .arr 53 4 (List.map GEnrolment.lv r43))]) (ml' := [(900, .arr 53 4 (List.map GEnrolment.lv r43)), (1150, .arr 53 4 (List.map GEnrolment.lv r44))]) rfl isF49 rfl (sbR (sbR sbN)) (LCall.lend 900 53 4 (xs := List.map GEnrolment.lv r43) (LCall.renT 1150 rfl rfl (ref13_add_ok hr44)) (.row (by simp) (.keep rfl .nil)) rfl rfl rfl rfl rfl (plC (plA (fun _ => rfl)) plN)) (mC rfl mN) (newI rfl (newF rfl newN)) rfl ?_)
    refine mN0 (oA (v := (.arr _ _)) rfl ⟨rfl, ?_⟩)
    refine mN0 (oA (v := (.int _ _)) rfl ⟨rfl, ?_⟩)
    exact m0 (Wk.to (eC rfl (eC rfl eN)) (mC rfl mN) rfl (prK rfl))
  refine LH.wk ((Wk.trans (Wk.to (el := [(6, .arr 1150 (List.length r44)), (7, .int .i64 0)]) (ml := [(1150, .arr 53 4 (List.map GEnrolment.lv r44))]) (eC rfl (eC rfl eN)) (mC rfl mN) rfl (prK rfl)) (Wk.trans (Wk.ren 1150 900 rfl rfl rfl rfl rfl (prN rfl)) (Wk.to (el := [(6, .arr 900 (List.length r44)), (7, .int .i64 0)]) (ml := [(900, .arr 53 4 (List.map GEnrolment.lv r44))]) (eC rfl (eC rfl eN)) (mC rfl mN) rfl (prK rfl))))) ?_
  refine LH.ret ?_
  obtain rfl := Option.some.inj h
  exact retE (congrArg Array.toList Try.results31) (lrT rfl (lrT rfl (lr0 ⟨memN (mC rfl mN), rfl, prK rfl, (Sub.tup (sbR (sbR sbN)))⟩)))

end Go.Proofs.Ytkkhmngmhckgbaa
