/- Walks, printed by program (gen.py): each function computes its plain function. -/
import Derived.Test.YtdkhlkihhdjbbaaW4
set_option linter.unusedVariables false
set_option linter.unusedSimpArgs false
set_option maxRecDepth 100000
namespace Go.Proofs.Ytdkhlkihhdjbbaa
open Go.L Go.Sh
theorem ref02_Canonical_ok {F : Nat} {p0 : List GStamp} {p1 : List Int} {r : List Int × Int} (h : ref02_Canonical F p0 p1 = some r) : LCall Try.prog 21 [.lst 3 (List.map GStamp.lv p0), .lst 1 (List.map (LV.int .i64) p1)] (Mem.of []) (.tup [.lst 1 (List.map (LV.int .i64) r.1), .int .i64 r.2]) (Mem.of []) := by
  unfold ref02_Canonical at h
  refine bodyT Try.func21 rfl (by rw [Try.ntmps21]; exact Nat.le_of_ble_eq_true rfl) ?_
  refine LH.wk (Wk.to (el := [(0, .lst 3 (List.map GStamp.lv p0)), (1, .lst 1 (List.map (LV.int .i64) p1))]) (ml := []) (eC rfl (eC rfl eN)) mN rfl (prK rfl)) ?_
  refine LH.seqT [(0, .lst 3 (List.map GStamp.lv p0)), (1, .lst 1 (List.map (LV.int .i64) p1))] [] rfl ?_ ?_
  · refine sN (oA (v := .nil) rfl ?_)
    refine sN (oA (v := (.int _ _)) rfl ?_)
    exact s0 (Wk.to (eC rfl (eC rfl eN)) mN rfl (prK rfl))
  refine LH.seq ?_
  refine LH.seqT [(0, .lst 3 (List.map GStamp.lv p0)), (1, .lst 1 (List.map (LV.int .i64) p1)), (14, .bool ((p1.length : Int) != (p0.length : Int)))] [] rfl ?_ ?_
  · refine sN (oM (v := (.lst _ _)) rfl ?_)
    refine sN (oLnL (f := (LV.int .i64)) te28 rfl ?_)
    refine sN (oM (v := (.lst _ _)) rfl ?_)
    refine sN (oLnL (f := GStamp.lv) te31 rfl ?_)
    refine sN (oNe rfl rfl ?_)
    exact s0 (Wk.to (eC rfl (eC rfl (eC rfl eN))) mN rfl (prK rfl))
  refine LH.cond (t := ((p1.length : Int) != (p0.length : Int))) rfl (fun hc1 => ?_) (fun hc1 => ?_)
  · replace h := iteT h hc1
    refine LH.seqT [(4, .nil), (5, .int .i64 1)] [] rfl ?_ ?_
    · refine sN (oA (v := .nil) rfl ?_)
      refine sN (oA (v := (.int _ _)) rfl ?_)
      exact s0 (Wk.to (eC rfl (eC rfl eN)) mN rfl (prK rfl))
    refine LH.ret ?_
    refine thenR ?_
    obtain rfl := Option.some.inj h
    exact retE (congrArg Array.toList Try.results21) (lrT rfl (lrT rfl (lr0 ⟨memN mN, rfl, prK rfl, (Sub.tup (sbL (sbR sbN)))⟩)))
  replace h := iteF h hc1
  refine LH.skip ?_
  refine thenN ?_
  refine LH.wk (Wk.to (el := [(0, .lst 3 (List.map GStamp.lv p0)), (1, .lst 1 (List.map (LV.int .i64) p1))]) (ml := []) (eC rfl (eC rfl eN)) mN rfl (prK rfl)) ?_
  refine LH.seqT [(0, .lst 3 (List.map GStamp.lv p0)), (1, .lst 1 (List.map (LV.int .i64) p1)), (6, .nil)] [] rfl ?_ ?_
  · refine sN (oA (v := .nil) rfl ?_)
    exact s0 (Wk.to (eC rfl (eC rfl (eC rfl eN))) mN rfl (prK rfl))
  refine LH.seq ?_
  refine LH.seqT [(0, .lst 3 (List.map GStamp.lv p0)), (1, .lst 1 (List.map (LV.int .i64) p1)), (6, .nil), (7, .int .i64 0)] [] rfl ?_ ?_
  · refine sN (oA (v := (.int _ _)) rfl ?_)
    exact s0 (Wk.to (eC rfl (eC rfl (eC rfl (eC rfl eN)))) mN rfl (prK rfl))
  refine LH.block ?_
  refine LH.wk (Wk.to (el := [(0, .lst 3 (List.map GStamp.lv p0)), (1, .lst 1 (List.map (LV.int .i64) p1)), (6, .lst 1 (List.map (LV.int .i64) ([] : List Int))), (7, .int .i64 0)]) (ml := []) (eC rfl (eC rfl (eL rfl (eC rfl eN)))) mN rfl (prK rfl)) ?_
  refine LH.loop (fun n e m => ∃ (l2 : List Int) (n3 : Int), ref02_Canonical_L1 F p0 p1 n l2 n3 = some r ∧ e = Env.of [(0, .lst 3 (List.map GStamp.lv p0)), (1, .lst 1 (List.map (LV.int .i64) p1)), (6, .lst 1 (List.map (LV.int .i64) l2)), (7, .int .i64 n3)] ∧ m = Mem.of []) F ⟨([] : List Int), 0, h, rfl, rfl⟩ ?_
  clear h
  rintro n e m ⟨l2, n3, h, rfl, rfl⟩
  rcases n with _ | n
  · cases (show Option.none = some _ from h)
  obtain ⟨rec1, hrec1⟩ : ∃ f, f = ref02_Canonical_L1 F p0 p1 n := ⟨_, rfl⟩
  replace h : ref02_Canonical_L1_B F p0 p1 rec1 l2 n3 = some r := hrec1 ▸ h
  unfold ref02_Canonical_L1_B at h
  refine LH.seq ?_
  refine LH.seqT [(0, .lst 3 (List.map GStamp.lv p0)), (1, .lst 1 (List.map (LV.int .i64) p1)), (6, .lst 1 (List.map (LV.int .i64) l2)), (7, .int .i64 n3), (18, .bool (decide (n3 < (p0.length : Int))))] [] rfl ?_ ?_
  · refine sN (oM (v := (.int _ _)) rfl ?_)
    refine sN (oM (v := (.lst _ _)) rfl ?_)
    refine sN (oLnL (f := GStamp.lv) te31 rfl ?_)
    refine sN (oLt rfl rfl ?_)
    exact s0 (Wk.to (eC rfl (eC rfl (eC rfl (eC rfl (eC rfl eN))))) mN rfl (prK rfl))
  refine LH.cond (t := (decide (n3 < (p0.length : Int)))) rfl (fun hc4 => ?_) (fun hc4 => ?_)
  · replace h := iteT h hc4
    refine LH.skip ?_
    refine thenN ?_
    refine LH.wk (Wk.to (el := [(0, .lst 3 (List.map GStamp.lv p0)), (1, .lst 1 (List.map (LV.int .i64) p1)), (6, .lst 1 (List.map (LV.int .i64) l2)), (7, .int .i64 n3)]) (ml := []) (eC rfl (eC rfl (eC rfl (eC rfl eN)))) mN rfl (prK rfl)) ?_
    refine LH.seq ?_
    refine LH.block ?_
    refine LH.seq ?_
    obtain ⟨r5, hr5, h⟩ := bindS h
    refine LH.seqT [(0, .lst 3 (List.map GStamp.lv p0)), (1, .lst 1 (List.map (LV.int .i64) p1)), (6, .lst 1 (List.map (LV.int .i64) l2)), (7, .int .i64 n3), (25, .bool (!r5))] [] rfl ?_ ?_
    · refine sN (oM (v := (.lst _ _)) rfl ?_)
      refine sN (oM (v := (.lst _ _)) rfl ?_)
      refine sN (oM (v := (.int _ _)) rfl ?_)
      refine sN (oCP (args := [.lst 3 (List.map GStamp.lv p0), .lst 1 (List.map (LV.int .i64) p1), .int .i64 n3]) rfl isF40 rfl (sbR (sbR (sbR sbN))) (ref02_Counts_ok hr5) rfl ?_)
      refine sN (oNot rfl ?_)
      exact s0 (Wk.to (eC rfl (eC rfl (eC rfl (eC rfl (eC rfl eN))))) mN rfl (prK rfl))
    refine LH.cond (t := (!r5)) rfl (fun hc6 => ?_) (fun hc6 => ?_)
    · replace h := iteT h hc6
      refine LH.exit ?_
      refine thenX ?_
      refine blockH ?_
      refine thenN ?_
      refine LH.wk (Wk.to (el := [(0, .lst 3 (List.map GStamp.lv p0)), (1, .lst 1 (List.map (LV.int .i64) p1)), (6, .lst 1 (List.map (LV.int .i64) l2)), (7, .int .i64 n3)]) (ml := []) (eC rfl (eC rfl (eC rfl (eC rfl eN)))) mN rfl (prK rfl)) ?_
      refine LH.loneT [(0, .lst 3 (List.map GStamp.lv p0)), (1, .lst 1 (List.map (LV.int .i64) p1)), (6, .lst 1 (List.map (LV.int .i64) l2)), (7, .int .i64 (i64 (n3 + 1)))] [] rfl ?_ ?_
      · refine sN (oM (v := (.int _ _)) rfl ?_)
        refine sN (oAdd rfl rfl ?_)
        refine sN (oA (v := (.int _ _)) rfl ?_)
        exact s0 (Wk.to (eC rfl (eC rfl (eC rfl (eC rfl eN)))) mN rfl (prK rfl))
      exact roundN (e' := Env.of [(0, .lst 3 (List.map GStamp.lv p0)), (1, .lst 1 (List.map (LV.int .i64) p1)), (6, .lst 1 (List.map (LV.int .i64) l2)), (7, .int .i64 (i64 (n3 + 1)))]) (m' := Mem.of []) (Wk.to (eC rfl (eC rfl (eC rfl (eC rfl eN)))) mN rfl (prK rfl)) ⟨l2, (i64 (n3 + 1)), hrec1 ▸ h, rfl, rfl⟩
    replace h := iteF h hc6
    refine LH.skip ?_
    refine thenN ?_
    refine LH.wk (Wk.to (el := [(0, .lst 3 (List.map GStamp.lv p0)), (1, .lst 1 (List.map (LV.int .i64) p1)), (6, .lst 1 (List.map (LV.int .i64) l2)), (7, .int .i64 n3)]) (ml := []) (eC rfl (eC rfl (eC rfl (eC rfl eN)))) mN rfl (prK rfl)) ?_
    refine LH.seqT [(0, .lst 3 (List.map GStamp.lv p0)), (1, .lst 1 (List.map (LV.int .i64) p1)), (6, .lst 1 (List.map (LV.int .i64) l2)), (7, .int .i64 n3), (8, .int .i64 (l2.length : Int))] [] rfl ?_ ?_
    · refine sN (oM (v := (.lst _ _)) rfl ?_)
      refine sN (oLnL (f := (LV.int .i64)) te28 rfl ?_)
      refine sN (oA (v := (.int _ _)) rfl ?_)
      exact s0 (Wk.to (eC rfl (eC rfl (eC rfl (eC rfl (eC rfl eN))))) mN rfl (prK rfl))
    refine LH.seq ?_
    refine LH.block ?_
    refine LH.loop (fun n e m => ∃ (n7 : Int), ref02_Canonical_L2 rec1 p0 l2 n3 n n7 = some r ∧ e = Env.of [(0, .lst 3 (List.map GStamp.lv p0)), (1, .lst 1 (List.map (LV.int .i64) p1)), (6, .lst 1 (List.map (LV.int .i64) l2)), (7, .int .i64 n3), (8, .int .i64 n7)] ∧ m = Mem.of []) F ⟨(l2.length : Int), h, rfl, rfl⟩ ?_
    clear h
    rintro n e m ⟨n7, h, rfl, rfl⟩
    rcases n with _ | n
    · cases (show Option.none = some _ from h)
    obtain ⟨rec2, hrec2⟩ : ∃ f, f = ref02_Canonical_L2 rec1 p0 l2 n3 n := ⟨_, rfl⟩
    replace h : ref02_Canonical_L2_B rec1 p0 l2 n3 rec2 n7 = some r := hrec2 ▸ h
    unfold ref02_Canonical_L2_B at h
    refine LH.seq ?_
    obtain ⟨w9, hv, h⟩ := bindS h
    refine LH.seqJM mixed [] [0, 0, 0, 0, 0, 0, 0, 0, 0, 0, 0, 0, 0, 0, 0, 0, 0, 0] [(0, .lst 3 (List.map GStamp.lv p0)), (1, .lst 1 (List.map (LV.int .i64) p1)), (6, .lst 1 (List.map (LV.int .i64) l2)), (7, .int .i64 n3), (8, .int .i64 n7), (45, .bool w9)] [] rfl rfl (by kernel_rfl) ?_ ?_
    · refine mN0 (oM (v := (.int _ _)) rfl ⟨rfl, ?_⟩)
      refine mN0 (oGt rfl rfl ⟨rfl, ?_⟩)
      refine mN0 (oM (v := (.bool _)) rfl ⟨rfl, ?_⟩)
      by_cases hb10 : (decide (n7 > 0)) = true
      · replace hv := iteT hv hb10
        refine mT rfl (congrArg LV.bool hb10) (mN0 (oM (v := (.lst _ _)) rfl ⟨rfl, ?_⟩))
        refine mT rfl (congrArg LV.bool hb10) (mN0 (oM (v := (.lst _ _)) rfl ⟨rfl, ?_⟩))
        refine mT rfl (congrArg LV.bool hb10) (mN0 (oM (v := (.int _ _)) rfl ⟨rfl, ?_⟩))
        refine mT rfl (congrArg LV.bool hb10) (mN0 (oSub rfl rfl ⟨rfl, ?_⟩))
        obtain ⟨x11, hx11, hv⟩ := bindS hv
        refine mT rfl (congrArg LV.bool hb10) (mN0 (oIx (f := (LV.int .i64)) te28 tk3 ts3 rfl rfl okI hx11 rfl ⟨rfl, ?_⟩))
        refine mT rfl (congrArg LV.bool hb10) (mN0 (oLd rfl tk3 ta3 ⟨rfl, ?_⟩))
        obtain ⟨x12, hx12, hv⟩ := bindS hv
        refine mT rfl (congrArg LV.bool hb10) (mN0 (oIx (f := GStamp.lv) te31 tk23 ts23 rfl rfl GStamp.ok hx12 rfl ⟨rfl, ?_⟩))
        refine mT rfl (congrArg LV.bool hb10) (mN0 (oLdA rfl tk23 ta23 ts23 rfl rfl ⟨rfl, ?_⟩))
        refine mT rfl (congrArg LV.bool hb10) (mN0 (oM (v := (.lst _ _)) rfl ⟨rfl, ?_⟩))
        refine mT rfl (congrArg LV.bool hb10) (mN0 (oM (v := (.int _ _)) rfl ⟨rfl, ?_⟩))
        obtain ⟨x13, hx13, hv⟩ := bindS hv
        refine mT rfl (congrArg LV.bool hb10) (mN0 (oIx (f := GStamp.lv) te31 tk23 ts23 rfl rfl GStamp.ok hx13 rfl ⟨rfl, ?_⟩))
        refine mT rfl (congrArg LV.bool hb10) (mN0 (oLdA rfl tk23 ta23 ts23 rfl rfl ⟨rfl, ?_⟩))
        obtain ⟨r14, hr14, hv⟩ := bindS hv
        refine mT rfl (congrArg LV.bool hb10) (mN0 (oCP (args := [.agg [.int .i64 x12.Time, .int .i64 x12.Source, .int .i64 x12.Seq], .agg [.int .i64 x13.Time, .int .i64 x13.Source, .int .i64 x13.Seq]]) rfl isF15 rfl (sbR (sbR sbN)) (ref02_Compare_ok hr14) rfl ⟨rfl, ?_⟩))
        refine mT rfl (congrArg LV.bool hb10) (mN0 (oGt rfl rfl ⟨rfl, ?_⟩))
        refine mN0 (oPkT (congrArg LV.bool hb10) (v := (.bool _)) rfl ⟨rfl, ?_⟩)
        obtain rfl := Option.some.inj hv
        exact m0 (Wk.to (eC rfl (eC rfl (eC rfl (eC rfl (eC rfl (eC rfl eN)))))) mN rfl (prK rfl))
      · replace hb10 := bF hb10
        replace hv := iteF hv hb10
        refine mF rfl rfl hb10 ?_
        refine mF rfl rfl hb10 ?_
        refine mF rfl rfl hb10 ?_
        refine mF rfl rfl hb10 ?_
        refine mF rfl rfl hb10 ?_
        refine mF rfl rfl hb10 ?_
        refine mF rfl rfl hb10 ?_
        refine mF rfl rfl hb10 ?_
        refine mF rfl rfl hb10 ?_
        refine mF rfl rfl hb10 ?_
        refine mF rfl rfl hb10 ?_
        refine mF rfl rfl hb10 ?_
        refine mF rfl rfl hb10 ?_
        refine mF rfl rfl hb10 ?_
        refine mN0 (oPkF (congrArg LV.bool hb10) (v := (.bool _)) rfl ⟨rfl, ?_⟩)
        obtain rfl := Option.some.inj hv
        exact m0 (Wk.to (eC rfl (eC rfl (eC rfl (eC rfl (eC rfl (eC rfl eN)))))) mN rfl (prK rfl))
    clear hv
    refine LH.cond (t := w9) rfl (fun hc15 => ?_) (fun hc15 => ?_)
    · replace h := iteT h hc15
      refine LH.skip ?_
      refine thenN ?_
      refine LH.wk (Wk.to (el := [(0, .lst 3 (List.map GStamp.lv p0)), (1, .lst 1 (List.map (LV.int .i64) p1)), (6, .lst 1 (List.map (LV.int .i64) l2)), (7, .int .i64 n3), (8, .int .i64 n7)]) (ml := []) (eC rfl (eC rfl (eC rfl (eC rfl (eC rfl eN))))) mN rfl (prK rfl)) ?_
      refine LH.block ?_
      refine LH.loneT [(0, .lst 3 (List.map GStamp.lv p0)), (1, .lst 1 (List.map (LV.int .i64) p1)), (6, .lst 1 (List.map (LV.int .i64) l2)), (7, .int .i64 n3), (8, .int .i64 (i64 (n7 - 1)))] [] rfl ?_ ?_
      · refine sN (oM (v := (.int _ _)) rfl ?_)
        refine sN (oSub rfl rfl ?_)
        refine sN (oA (v := (.int _ _)) rfl ?_)
        exact s0 (Wk.to (eC rfl (eC rfl (eC rfl (eC rfl (eC rfl eN))))) mN rfl (prK rfl))
      refine blockN ?_
      exact roundN (e' := Env.of [(0, .lst 3 (List.map GStamp.lv p0)), (1, .lst 1 (List.map (LV.int .i64) p1)), (6, .lst 1 (List.map (LV.int .i64) l2)), (7, .int .i64 n3), (8, .int .i64 (i64 (n7 - 1)))]) (m' := Mem.of []) (Wk.to (eC rfl (eC rfl (eC rfl (eC rfl (eC rfl eN))))) mN rfl (prK rfl)) ⟨(i64 (n7 - 1)), hrec2 ▸ h, rfl, rfl⟩
    replace h := iteF h hc15
    refine LH.exit ?_
    refine thenX ?_
    refine roundX ?_
    refine blockH ?_
    refine thenN ?_
    refine LH.wk (Wk.to (el := [(0, .lst 3 (List.map GStamp.lv p0)), (1, .lst 1 (List.map (LV.int .i64) p1)), (6, .lst 1 (List.map (LV.int .i64) l2)), (7, .int .i64 n3), (8, .int .i64 n7)]) (ml := []) (eC rfl (eC rfl (eC rfl (eC rfl (eC rfl eN))))) mN rfl (prK rfl)) ?_
    refine LH.seqT [(0, .lst 3 (List.map GStamp.lv p0)), (1, .lst 1 (List.map (LV.int .i64) p1)), (6, .lst 1 (List.map (LV.int .i64) l2)), (7, .int .i64 n3), (8, .int .i64 n7), (9, .nil)] [] rfl ?_ ?_
    · refine sN (oA (v := .nil) rfl ?_)
      exact s0 (Wk.to (eC rfl (eC rfl (eC rfl (eC rfl (eC rfl (eC rfl eN)))))) mN rfl (prK rfl))
    obtain ⟨v16, hv16, h⟩ := bindS h
    obtain ⟨v17, hv17, h⟩ := bindS h
    refine LH.seqT [(0, .lst 3 (List.map GStamp.lv p0)), (1, .lst 1 (List.map (LV.int .i64) p1)), (6, .lst 1 (List.map (LV.int .i64) l2)), (7, .int .i64 n3), (8, .int .i64 n7), (9, .arr 152 (List.length v17))] [(152, .arr 3 1 (List.map (LV.int .i64) v17))] rfl ?_ ?_
    · refine sN (oM (v := .nil) rfl ?_)
      refine sN (oM (v := (.lst _ _)) rfl ?_)
      refine sN (oM (v := (.int _ _)) rfl ?_)
      refine sN (oSl (f := (LV.int .i64)) te28 tk3 ts3 rfl rfl rfl hv16 ?_)
      refine sN (oApN (f := (LV.int .i64)) (id := 152) rfl te28 tr3 ts3 rfl rfl hv17 rfl ?_)
      refine sN (oA (v := (.arr _ _)) rfl ?_)
      exact s0 (Wk.to (eC rfl (eC rfl (eC rfl (eC rfl (eC rfl (eC rfl eN)))))) (mC rfl mN) rfl (prK rfl))
    obtain ⟨v18, hv18, h⟩ := bindS h
    refine LH.seqT [(0, .lst 3 (List.map GStamp.lv p0)), (1, .lst 1 (List.map (LV.int .i64) p1)), (6, .lst 1 (List.map (LV.int .i64) l2)), (7, .int .i64 n3), (8, .int .i64 n7), (9, .arr 152 (List.length v18))] [(152, .arr 3 1 (List.map (LV.int .i64) v18))] rfl ?_ ?_
    · refine sN (oM (v := (.arr _ _)) rfl ?_)
      refine sN (oM (v := (.int _ _)) rfl ?_)
      refine sN (oBS (f := (LV.int .i64)) (ys := [n3]) te28 tr3 ts3 rfl rfl rfl okI ?_)
      refine sN (oAp (f := (LV.int .i64)) te28 tr3 ts3 rfl rfl (prN rfl) rfl hv18 ?_)
      refine sN (oA (v := (.arr _ _)) rfl ?_)
      exact s0 (Wk.to (eC rfl (eC rfl (eC rfl (eC rfl (eC rfl (eC rfl eN)))))) (mC rfl mN) rfl (prK rfl))
    obtain ⟨v19, hv19, h⟩ := bindS h
    obtain ⟨v20, hv20, h⟩ := bindS h
    refine LH.seqT [(0, .lst 3 (List.map GStamp.lv p0)), (1, .lst 1 (List.map (LV.int .i64) p1)), (7, .int .i64 n3), (9, .lst 1 (List.map (LV.int .i64) v20))] [] rfl ?_ ?_
    · refine sN (oM (v := (.arr _ _)) rfl ?_)
      refine sN (oM (v := (.lst _ _)) rfl ?_)
      refine sN (oM (v := (.int _ _)) rfl ?_)
      refine sN (oSl (f := (LV.int .i64)) te28 tk3 ts3 rfl rfl rfl hv19 ?_)
      refine sN (oAp (f := (LV.int .i64)) te28 tr3 ts3 rfl rfl (prN rfl) rfl hv20 ?_)
      refine sN (oA (v := (.arr _ _)) rfl ?_)
      exact s0 ((Wk.trans (Wk.to (el := [(0, .lst 3 (List.map GStamp.lv p0)), (1, .lst 1 (List.map (LV.int .i64) p1)), (7, .int .i64 n3), (9, .arr 152 (List.length v20))]) (ml := [(152, .arr 3 1 (List.map (LV.int .i64) v20))]) (eC rfl (eC rfl (eC rfl (eC rfl eN)))) (mC rfl mN) rfl (prK rfl)) (Wk.trans (Wk.frzL (f := (LV.int .i64)) (el' := [(0, .lst 3 (List.map GStamp.lv p0)), (1, .lst 1 (List.map (LV.int .i64) p1)), (7, .int .i64 n3), (9, .lst 1 (List.map (LV.int .i64) v20))]) 152 3 1 v20 rfl rfl (prN rfl) (fK rfl (fK rfl (fK rfl (fZ fN))))) (Wk.to (eC rfl (eC rfl (eC rfl (eC rfl eN)))) mN rfl (prK rfl)))))
    refine LH.loneT [(0, .lst 3 (List.map GStamp.lv p0)), (1, .lst 1 (List.map (LV.int .i64) p1)), (6, .lst 1 (List.map (LV.int .i64) v20)), (7, .int .i64 n3)] [] rfl ?_ ?_
    · refine sN (oM (v := (.lst _ _)) rfl ?_)
      refine sN (oA (v := (.lst _ _)) rfl ?_)
      exact s0 (Wk.to (eC rfl (eC rfl (eC rfl (eC rfl eN)))) mN rfl (prK rfl))
    refine blockN ?_
    refine thenN ?_
    refine LH.loneT [(0, .lst 3 (List.map GStamp.lv p0)), (1, .lst 1 (List.map (LV.int .i64) p1)), (6, .lst 1 (List.map (LV.int .i64) v20)), (7, .int .i64 (i64 (n3 + 1)))] [] rfl ?_ ?_
    · refine sN (oM (v := (.int _ _)) rfl ?_)
      refine sN (oAdd rfl rfl ?_)
      refine sN (oA (v := (.int _ _)) rfl ?_)
      exact s0 (Wk.to (eC rfl (eC rfl (eC rfl (eC rfl eN)))) mN rfl (prK rfl))
    exact roundN (e' := Env.of [(0, .lst 3 (List.map GStamp.lv p0)), (1, .lst 1 (List.map (LV.int .i64) p1)), (6, .lst 1 (List.map (LV.int .i64) v20)), (7, .int .i64 (i64 (n3 + 1)))]) (m' := Mem.of []) (Wk.to (eC rfl (eC rfl (eC rfl (eC rfl eN)))) mN rfl (prK rfl)) ⟨v20, (i64 (n3 + 1)), hrec1 ▸ h, rfl, rfl⟩
  replace h := iteF h hc4
  refine LH.exit ?_
  refine thenX ?_
  refine roundX ?_
  refine blockH ?_
  refine thenN ?_
  refine LH.wk (Wk.to (el := [(6, .lst 1 (List.map (LV.int .i64) l2))]) (ml := []) (eC rfl eN) mN rfl (prK rfl)) ?_
  refine LH.seq ?_
  refine LH.seqT [(6, .lst 1 (List.map (LV.int .i64) l2)), (65, .bool (decide ((l2.length : Int) > 300)))] [] rfl ?_ ?_
  · refine sN (oM (v := (.lst _ _)) rfl ?_)
    refine sN (oLnL (f := (LV.int .i64)) te28 rfl ?_)
    refine sN (oGt rfl rfl ?_)
    exact s0 (Wk.to (eC rfl (eC rfl eN)) mN rfl (prK rfl))
  refine LH.cond (t := (decide ((l2.length : Int) > 300))) rfl (fun hc21 => ?_) (fun hc21 => ?_)
  · replace h := iteT h hc21
    refine LH.seqT [(4, .nil), (5, .int .i64 3)] [] rfl ?_ ?_
    · refine sN (oA (v := .nil) rfl ?_)
      refine sN (oA (v := (.int _ _)) rfl ?_)
      exact s0 (Wk.to (eC rfl (eC rfl eN)) mN rfl (prK rfl))
    refine LH.ret ?_
    refine thenR ?_
    obtain rfl := Option.some.inj h
    exact retE (congrArg Array.toList Try.results21) (lrT rfl (lrT rfl (lr0 ⟨memN mN, rfl, prK rfl, (Sub.tup (sbL (sbR sbN)))⟩)))
  replace h := iteF h hc21
  refine LH.skip ?_
  refine thenN ?_
  refine LH.wk (Wk.to (el := [(6, .lst 1 (List.map (LV.int .i64) l2))]) (ml := []) (eC rfl eN) mN rfl (prK rfl)) ?_
  refine LH.seqT [(4, .lst 1 (List.map (LV.int .i64) l2)), (5, .int .i64 0)] [] rfl ?_ ?_
  · refine sN (oM (v := (.lst _ _)) rfl ?_)
    refine sN (oA (v := (.lst _ _)) rfl ?_)
    refine sN (oA (v := (.int _ _)) rfl ?_)
    exact s0 (Wk.to (eC rfl (eC rfl eN)) mN rfl (prK rfl))
  refine LH.ret ?_
  obtain rfl := Option.some.inj h
  exact retE (congrArg Array.toList Try.results21) (lrT rfl (lrT rfl (lr0 ⟨memN mN, rfl, prK rfl, (Sub.tup (sbR (sbR sbN)))⟩)))

theorem law02_StampCanonical_ok {F : Nat} {p0 : List Int} {p1 : List Int} {r : Bool} (h : law02_StampCanonical F p0 p1 = some r) : LCall Try.prog 4 [.lst 1 (List.map (LV.int .i64) p0), .lst 1 (List.map (LV.int .i64) p1)] (Mem.of []) (.bool r) (Mem.of []) := by
  unfold law02_StampCanonical at h
  refine bodyT Try.func4 rfl (by rw [Try.ntmps4]; exact Nat.le_of_ble_eq_true rfl) ?_
  refine LH.wk (Wk.to (el := [(0, .lst 1 (List.map (LV.int .i64) p0)), (1, .lst 1 (List.map (LV.int .i64) p1))]) (ml := []) (eC rfl (eC rfl eN)) mN rfl (prK rfl)) ?_
  refine LH.seqT [(0, .lst 1 (List.map (LV.int .i64) p0)), (1, .lst 1 (List.map (LV.int .i64) p1))] [] rfl ?_ ?_
  · refine sN (oA (v := (.bool _)) rfl ?_)
    exact s0 (Wk.to (eC rfl (eC rfl eN)) mN rfl (prK rfl))
  obtain ⟨r1, hr1, h⟩ := bindS h
  refine LH.seqT [(1, .lst 1 (List.map (LV.int .i64) p1)), (5, .ptr 7 0)] [(7, .box [.lst 1 (List.map (LV.int .i64) r1.L), .int .i64 r1.At])] rfl ?_ ?_
  · refine sN (oM (v := (.lst _ _)) rfl ?_)
    refine sN (oCM (args := [.lst 1 (List.map (LV.int .i64) p0)]) (ml := []) (ml' := [(7, .box [.lst 1 (List.map (LV.int .i64) r1.L), .int .i64 r1.At])]) rfl isF17 rfl (sbR sbN) (make_New_ok hr1) mN (newF rfl newN) rfl ?_)
    refine sN (oA (v := (.ptr _ _)) rfl ?_)
    exact s0 (Wk.to (eC rfl (eC rfl eN)) (mC rfl mN) rfl (prK rfl))
  obtain ⟨r2, hr2, h⟩ := bindS h
  refine LH.seqT [(1, .lst 1 (List.map (LV.int .i64) p1)), (5, .ptr 7 0), (6, .lst 3 (List.map GStamp.lv r2.1)), (7, .arr 149 (List.length r2.2.1))] [(7, .box [.lst 1 (List.map (LV.int .i64) r2.2.2.L), .int .i64 r2.2.2.At]), (149, .arr 3 1 (List.map (LV.int .i64) r2.2.1))] rfl ?_ ?_
  · refine sN (oM (v := (.ptr _ _)) rfl ?_)
    refine sN (oCM (args := [.ptr 7 0, .int .i64 14, .int .i64 6]) (ml := [(7, .box [.lst 1 (List.map (LV.int .i64) r1.L), .int .i64 r1.At])]) (ml' := [(7, .box [.lst 1 (List.map (LV.int .i64) r2.2.2.L), .int .i64 r2.2.2.At]), (145, .arr 23 3 (List.map GStamp.lv r2.1)), (149, .arr 3 1 (List.map (LV.int .i64) r2.2.1))]) rfl isF18 rfl (sbR (sbR (sbR sbN))) (law02_events_ok hr2) (mC rfl mN) (newI rfl (newF rfl (newF rfl newN))) rfl ?_)
    refine sN (oM (v := (.tup _)) rfl ?_)
    refine sN (oEx rfl rfl ?_)
    refine sN (oEx rfl rfl ?_)
    refine sN (oA (v := (.arr _ _)) rfl ?_)
    refine sN (oA (v := (.arr _ _)) rfl ?_)
    exact s0 ((Wk.trans (Wk.to (el := [(1, .lst 1 (List.map (LV.int .i64) p1)), (5, .ptr 7 0), (6, .arr 145 (List.length r2.1)), (7, .arr 149 (List.length r2.2.1))]) (ml := [(7, .box [.lst 1 (List.map (LV.int .i64) r2.2.2.L), .int .i64 r2.2.2.At]), (145, .arr 23 3 (List.map GStamp.lv r2.1)), (149, .arr 3 1 (List.map (LV.int .i64) r2.2.1))]) (eC rfl (eC rfl (eC rfl (eC rfl eN)))) (mC rfl (mC rfl (mC rfl mN))) rfl (prK rfl)) (Wk.trans (Wk.frzL (f := GStamp.lv) (el' := [(1, .lst 1 (List.map (LV.int .i64) p1)), (5, .ptr 7 0), (6, .lst 3 (List.map GStamp.lv r2.1)), (7, .arr 149 (List.length r2.2.1))]) 145 23 3 r2.1 rfl rfl (prN rfl) (fK rfl (fK rfl (fZ (fK rfl fN))))) (Wk.to (eC rfl (eC rfl (eC rfl (eC rfl eN)))) (mC rfl (mC rfl mN)) rfl (prK rfl)))))
  refine LH.seq ?_
  obtain ⟨w4, hv, h⟩ := bindS h
  refine LH.seqT [(1, .lst 1 (List.map (LV.int .i64) p1)), (6, .lst 3 (List.map GStamp.lv r2.1)), (7, .arr 149 (List.length r2.2.1)), (25, .bool w4)] [(149, .arr 3 1 (List.map (LV.int .i64) r2.2.1))] rfl ?_ ?_
  · refine sN (oM (v := (.ptr _ _)) rfl ?_)
    obtain ⟨r5, hr5, hv⟩ := bindS hv
    refine sN (oCM (args := [.ptr 7 0, .int .i64 10]) (ml := [(7, .box [.lst 1 (List.map (LV.int .i64) r2.2.2.L), .int .i64 r2.2.2.At])]) (ml' := [(7, .box [.lst 1 (List.map (LV.int .i64) r5.2.L), .int .i64 r5.2.At])]) rfl isF19 rfl (sbR (sbR sbN)) (GTape_One_ok hr5) (mC rfl mN) (newI rfl newN) rfl ?_)
    refine sN (oM (v := (.bool _)) rfl ?_)
    by_cases hb6 : r5.1 = true
    · replace hv := iteT hv hb6
      refine sT rfl (congrArg LV.bool hb6) (oM (v := (.lst _ _)) rfl ?_)
      refine sT rfl (congrArg LV.bool hb6) (oLnL (f := (LV.int .i64)) te28 rfl ?_)
      refine sT rfl (congrArg LV.bool hb6) (oLt rfl rfl ?_)
      refine sN (oPkT (congrArg LV.bool hb6) (v := (.bool _)) rfl ?_)
      obtain rfl := Option.some.inj hv
      exact s0 (Wk.to (eC rfl (eC rfl (eC rfl (eC rfl eN)))) (mC rfl mN) rfl (prK rfl))
    · replace hb6 := bF hb6
      replace hv := iteF hv hb6
      refine sF rfl rfl hb6 ?_
      refine sF rfl rfl hb6 ?_
      refine sF rfl rfl hb6 ?_
      refine sN (oPkF (congrArg LV.bool hb6) (v := (.bool _)) rfl ?_)
      obtain rfl := Option.some.inj hv
      exact s0 (Wk.to (eC rfl (eC rfl (eC rfl (eC rfl eN)))) (mC rfl mN) rfl (prK rfl))
  clear hv
  refine LH.cond (t := w4) rfl (fun hc7 => ?_) (fun hc7 => ?_)
  · replace h := iteT h hc7
    obtain ⟨v8, hv8, h⟩ := bindS h
    refine LH.loneT [(6, .lst 3 (List.map GStamp.lv r2.1)), (7, .lst 1 (List.map (LV.int .i64) v8))] [] rfl ?_ ?_
    · refine sN (oM (v := (.arr _ _)) rfl ?_)
      refine sN (oM (v := (.lst _ _)) rfl ?_)
      refine sN (oAp (f := (LV.int .i64)) te28 tr3 ts3 rfl rfl (prN rfl) rfl hv8 ?_)
      refine sN (oA (v := (.arr _ _)) rfl ?_)
      exact s0 ((Wk.trans (Wk.to (el := [(6, .lst 3 (List.map GStamp.lv r2.1)), (7, .arr 149 (List.length v8))]) (ml := [(149, .arr 3 1 (List.map (LV.int .i64) v8))]) (eC rfl (eC rfl eN)) (mC rfl mN) rfl (prK rfl)) (Wk.trans (Wk.frzL (f := (LV.int .i64)) (el' := [(6, .lst 3 (List.map GStamp.lv r2.1)), (7, .lst 1 (List.map (LV.int .i64) v8))]) 149 3 1 v8 rfl rfl (prN rfl) (fK rfl (fZ fN))) (Wk.to (eC rfl (eC rfl eN)) mN rfl (prK rfl)))))
    refine thenN ?_
    obtain ⟨r9, hr9, h⟩ := bindS h
    refine LH.seqT [(6, .lst 3 (List.map GStamp.lv r2.1)), (7, .lst 1 (List.map (LV.int .i64) v8)), (8, .lst 1 (List.map (LV.int .i64) r9.1)), (9, .int .i64 r9.2)] [] rfl ?_ ?_
    · refine sN (oM (v := (.lst _ _)) rfl ?_)
      refine sN (oM (v := (.lst _ _)) rfl ?_)
      refine sN (oCP (args := [.lst 3 (List.map GStamp.lv r2.1), .lst 1 (List.map (LV.int .i64) v8)]) rfl isF20 rfl (sbR (sbR sbN)) (stamp_Canonical_ok hr9) rfl ?_)
      refine sN (oM (v := (.tup _)) rfl ?_)
      refine sN (oEx rfl rfl ?_)
      refine sN (oEx rfl rfl ?_)
      refine sN (oA (v := (.lst _ _)) rfl ?_)
      refine sN (oA (v := (.int _ _)) rfl ?_)
      exact s0 (Wk.to (eC rfl (eC rfl (eC rfl (eC rfl eN)))) mN rfl (prK rfl))
    obtain ⟨r10, hr10, h⟩ := bindS h
    refine LH.seqT [(8, .lst 1 (List.map (LV.int .i64) r9.1)), (9, .int .i64 r9.2), (10, .lst 1 (List.map (LV.int .i64) r10.1)), (11, .int .i64 r10.2)] [] rfl ?_ ?_
    · refine sN (oM (v := (.lst _ _)) rfl ?_)
      refine sN (oM (v := (.lst _ _)) rfl ?_)
      refine sN (oCP (args := [.lst 3 (List.map GStamp.lv r2.1), .lst 1 (List.map (LV.int .i64) v8)]) rfl isF21 rfl (sbR (sbR sbN)) (ref02_Canonical_ok hr10) rfl ?_)
      refine sN (oM (v := (.tup _)) rfl ?_)
      refine sN (oEx rfl rfl ?_)
      refine sN (oEx rfl rfl ?_)
      refine sN (oA (v := (.lst _ _)) rfl ?_)
      refine sN (oA (v := (.int _ _)) rfl ?_)
      exact s0 (Wk.to (eC rfl (eC rfl (eC rfl (eC rfl eN)))) mN rfl (prK rfl))
    obtain ⟨w12, hv, h⟩ := bindS h
    refine LH.seqT [(4, .bool w12)] [] rfl ?_ ?_
    · refine sN (oM (v := (.lst _ _)) rfl ?_)
      refine sN (oM (v := (.lst _ _)) rfl ?_)
      obtain ⟨r13, hr13, hv⟩ := bindS hv
      refine sN (oCP (args := [.lst 1 (List.map (LV.int .i64) r9.1), .lst 1 (List.map (LV.int .i64) r10.1)]) rfl isF22 rfl (sbR (sbR sbN)) (law02_same_ok hr13) rfl ?_)
      refine sN (oM (v := (.bool _)) rfl ?_)
      by_cases hb14 : r13 = true
      · replace hv := iteT hv hb14
        refine sT rfl (congrArg LV.bool hb14) (oM (v := (.int _ _)) rfl ?_)
        refine sT rfl (congrArg LV.bool hb14) (oM (v := (.int _ _)) rfl ?_)
        refine sT rfl (congrArg LV.bool hb14) (oEq rfl rfl ?_)
        refine sN (oPkT (congrArg LV.bool hb14) (v := (.bool _)) rfl ?_)
        refine sN (oM (v := (.bool _)) rfl ?_)
        by_cases hb15 : (r9.2 == r10.2) = true
        · replace hv := iteT hv hb15
          obtain ⟨r16, hr16, hv⟩ := bindS hv
          refine sT rfl (congrArg LV.bool hb15) (oCP (args := []) rfl isF16 rfl sbN (law02_awake_ok hr16) rfl ?_)
          refine sN (oPkT (congrArg LV.bool hb15) (v := (.bool _)) rfl ?_)
          refine sN (oA (v := (.bool _)) rfl ?_)
          obtain rfl := Option.some.inj hv
          exact s0 (Wk.to (eC rfl eN) mN rfl (prK rfl))
        · replace hb15 := bF hb15
          replace hv := iteF hv hb15
          refine sF rfl rfl hb15 ?_
          refine sN (oPkF (congrArg LV.bool hb15) (v := (.bool _)) rfl ?_)
          refine sN (oA (v := (.bool _)) rfl ?_)
          obtain rfl := Option.some.inj hv
          exact s0 (Wk.to (eC rfl eN) mN rfl (prK rfl))
      · replace hb14 := bF hb14
        replace hv := iteF hv hb14
        refine sF rfl rfl hb14 ?_
        refine sF rfl rfl hb14 ?_
        refine sF rfl rfl hb14 ?_
        refine sN (oPkF (congrArg LV.bool hb14) (v := (.bool _)) rfl ?_)
        refine sN (oM (v := (.bool _)) rfl ?_)
        refine sF rfl rfl rfl ?_
        refine sN (oPkF rfl (v := (.bool _)) rfl ?_)
        refine sN (oA (v := (.bool _)) rfl ?_)
        obtain rfl := Option.some.inj hv
        exact s0 (Wk.to (eC rfl eN) mN rfl (prK rfl))
    clear hv
    refine LH.ret ?_
    obtain rfl := Option.some.inj h
    exact retE (congrArg Array.toList Try.results4) (lrT rfl (lr0 ⟨memN mN, rfl, prK rfl, Sub.rfl⟩))
  replace h := iteF h hc7
  refine LH.skip ?_
  refine thenN ?_
  refine LH.wk ((Wk.trans (Wk.to (el := [(6, .lst 3 (List.map GStamp.lv r2.1)), (7, .arr 149 (List.length r2.2.1))]) (ml := [(149, .arr 3 1 (List.map (LV.int .i64) r2.2.1))]) (eC rfl (eC rfl eN)) (mC rfl mN) rfl (prK rfl)) (Wk.trans (Wk.frzL (f := (LV.int .i64)) (el' := [(6, .lst 3 (List.map GStamp.lv r2.1)), (7, .lst 1 (List.map (LV.int .i64) r2.2.1))]) 149 3 1 r2.2.1 rfl rfl (prN rfl) (fK rfl (fZ fN))) (Wk.to (el := [(6, .lst 3 (List.map GStamp.lv r2.1)), (7, .lst 1 (List.map (LV.int .i64) r2.2.1))]) (ml := []) (eC rfl (eC rfl eN)) mN rfl (prK rfl))))) ?_
  obtain ⟨r17, hr17, h⟩ := bindS h
  refine LH.seqT [(6, .lst 3 (List.map GStamp.lv r2.1)), (7, .lst 1 (List.map (LV.int .i64) r2.2.1)), (8, .lst 1 (List.map (LV.int .i64) r17.1)), (9, .int .i64 r17.2)] [] rfl ?_ ?_
  · refine sN (oM (v := (.lst _ _)) rfl ?_)
    refine sN (oM (v := (.lst _ _)) rfl ?_)
    refine sN (oCP (args := [.lst 3 (List.map GStamp.lv r2.1), .lst 1 (List.map (LV.int .i64) r2.2.1)]) rfl isF20 rfl (sbR (sbR sbN)) (stamp_Canonical_ok hr17) rfl ?_)
    refine sN (oM (v := (.tup _)) rfl ?_)
    refine sN (oEx rfl rfl ?_)
    refine sN (oEx rfl rfl ?_)
    refine sN (oA (v := (.lst _ _)) rfl ?_)
    refine sN (oA (v := (.int _ _)) rfl ?_)
    exact s0 (Wk.to (eC rfl (eC rfl (eC rfl (eC rfl eN)))) mN rfl (prK rfl))
  obtain ⟨r18, hr18, h⟩ := bindS h
  refine LH.seqT [(8, .lst 1 (List.map (LV.int .i64) r17.1)), (9, .int .i64 r17.2), (10, .lst 1 (List.map (LV.int .i64) r18.1)), (11, .int .i64 r18.2)] [] rfl ?_ ?_
  · refine sN (oM (v := (.lst _ _)) rfl ?_)
    refine sN (oM (v := (.lst _ _)) rfl ?_)
    refine sN (oCP (args := [.lst 3 (List.map GStamp.lv r2.1), .lst 1 (List.map (LV.int .i64) r2.2.1)]) rfl isF21 rfl (sbR (sbR sbN)) (ref02_Canonical_ok hr18) rfl ?_)
    refine sN (oM (v := (.tup _)) rfl ?_)
    refine sN (oEx rfl rfl ?_)
    refine sN (oEx rfl rfl ?_)
    refine sN (oA (v := (.lst _ _)) rfl ?_)
    refine sN (oA (v := (.int _ _)) rfl ?_)
    exact s0 (Wk.to (eC rfl (eC rfl (eC rfl (eC rfl eN)))) mN rfl (prK rfl))
  obtain ⟨w20, hv, h⟩ := bindS h
  refine LH.seqT [(4, .bool w20)] [] rfl ?_ ?_
  · refine sN (oM (v := (.lst _ _)) rfl ?_)
    refine sN (oM (v := (.lst _ _)) rfl ?_)
    obtain ⟨r21, hr21, hv⟩ := bindS hv
    refine sN (oCP (args := [.lst 1 (List.map (LV.int .i64) r17.1), .lst 1 (List.map (LV.int .i64) r18.1)]) rfl isF22 rfl (sbR (sbR sbN)) (law02_same_ok hr21) rfl ?_)
    refine sN (oM (v := (.bool _)) rfl ?_)
    by_cases hb22 : r21 = true
    · replace hv := iteT hv hb22
      refine sT rfl (congrArg LV.bool hb22) (oM (v := (.int _ _)) rfl ?_)
      refine sT rfl (congrArg LV.bool hb22) (oM (v := (.int _ _)) rfl ?_)
      refine sT rfl (congrArg LV.bool hb22) (oEq rfl rfl ?_)
      refine sN (oPkT (congrArg LV.bool hb22) (v := (.bool _)) rfl ?_)
      refine sN (oM (v := (.bool _)) rfl ?_)
      by_cases hb23 : (r17.2 == r18.2) = true
      · replace hv := iteT hv hb23
        obtain ⟨r24, hr24, hv⟩ := bindS hv
        refine sT rfl (congrArg LV.bool hb23) (oCP (args := []) rfl isF16 rfl sbN (law02_awake_ok hr24) rfl ?_)
        refine sN (oPkT (congrArg LV.bool hb23) (v := (.bool _)) rfl ?_)
        refine sN (oA (v := (.bool _)) rfl ?_)
        obtain rfl := Option.some.inj hv
        exact s0 (Wk.to (eC rfl eN) mN rfl (prK rfl))
      · replace hb23 := bF hb23
        replace hv := iteF hv hb23
        refine sF rfl rfl hb23 ?_
        refine sN (oPkF (congrArg LV.bool hb23) (v := (.bool _)) rfl ?_)
        refine sN (oA (v := (.bool _)) rfl ?_)
        obtain rfl := Option.some.inj hv
        exact s0 (Wk.to (eC rfl eN) mN rfl (prK rfl))
    · replace hb22 := bF hb22
      replace hv := iteF hv hb22
      refine sF rfl rfl hb22 ?_
      refine sF rfl rfl hb22 ?_
      refine sF rfl rfl hb22 ?_
      refine sN (oPkF (congrArg LV.bool hb22) (v := (.bool _)) rfl ?_)
      refine sN (oM (v := (.bool _)) rfl ?_)
      refine sF rfl rfl rfl ?_
      refine sN (oPkF rfl (v := (.bool _)) rfl ?_)
      refine sN (oA (v := (.bool _)) rfl ?_)
      obtain rfl := Option.some.inj hv
      exact s0 (Wk.to (eC rfl eN) mN rfl (prK rfl))
  clear hv
  refine LH.ret ?_
  obtain rfl := Option.some.inj h
  exact retE (congrArg Array.toList Try.results4) (lrT rfl (lr0 ⟨memN mN, rfl, prK rfl, Sub.rfl⟩))

theorem ref02_Known_ok {F : Nat} {p0 : List GStamp} {p1 : List Int} {p2 : Int} {r : List Int × Int} (h : ref02_Known F p0 p1 p2 = some r) : LCall Try.prog 25 [.lst 3 (List.map GStamp.lv p0), .lst 1 (List.map (LV.int .i64) p1), .int .i64 p2] (Mem.of []) (.tup [.lst 1 (List.map (LV.int .i64) r.1), .int .i64 r.2]) (Mem.of []) := by
  unfold ref02_Known at h
  refine bodyT Try.func25 rfl (by rw [Try.ntmps25]; exact Nat.le_of_ble_eq_true rfl) ?_
  refine LH.wk (Wk.to (el := [(0, .lst 3 (List.map GStamp.lv p0)), (1, .lst 1 (List.map (LV.int .i64) p1)), (2, .int .i64 p2)]) (ml := []) (eC rfl (eC rfl (eC rfl eN))) mN rfl (prK rfl)) ?_
  refine LH.seqT [(0, .lst 3 (List.map GStamp.lv p0)), (1, .lst 1 (List.map (LV.int .i64) p1)), (2, .int .i64 p2)] [] rfl ?_ ?_
  · refine sN (oA (v := .nil) rfl ?_)
    refine sN (oA (v := (.int _ _)) rfl ?_)
    exact s0 (Wk.to (eC rfl (eC rfl (eC rfl eN))) mN rfl (prK rfl))
  refine LH.seq ?_
  refine LH.seqT [(0, .lst 3 (List.map GStamp.lv p0)), (1, .lst 1 (List.map (LV.int .i64) p1)), (2, .int .i64 p2), (12, .bool ((p1.length : Int) != (p0.length : Int)))] [] rfl ?_ ?_
  · refine sN (oM (v := (.lst _ _)) rfl ?_)
    refine sN (oLnL (f := (LV.int .i64)) te28 rfl ?_)
    refine sN (oM (v := (.lst _ _)) rfl ?_)
    refine sN (oLnL (f := GStamp.lv) te31 rfl ?_)
    refine sN (oNe rfl rfl ?_)
    exact s0 (Wk.to (eC rfl (eC rfl (eC rfl (eC rfl eN)))) mN rfl (prK rfl))
  refine LH.cond (t := ((p1.length : Int) != (p0.length : Int))) rfl (fun hc1 => ?_) (fun hc1 => ?_)
  · replace h := iteT h hc1
    refine LH.seqT [(6, .nil), (7, .int .i64 1)] [] rfl ?_ ?_
    · refine sN (oA (v := .nil) rfl ?_)
      refine sN (oA (v := (.int _ _)) rfl ?_)
      exact s0 (Wk.to (eC rfl (eC rfl eN)) mN rfl (prK rfl))
    refine LH.ret ?_
    refine thenR ?_
    obtain rfl := Option.some.inj h
    exact retE (congrArg Array.toList Try.results25) (lrT rfl (lrT rfl (lr0 ⟨memN mN, rfl, prK rfl, (Sub.tup (sbL (sbR sbN)))⟩)))
  replace h := iteF h hc1
  refine LH.skip ?_
  refine thenN ?_
  refine LH.wk (Wk.to (el := [(0, .lst 3 (List.map GStamp.lv p0)), (1, .lst 1 (List.map (LV.int .i64) p1)), (2, .int .i64 p2)]) (ml := []) (eC rfl (eC rfl (eC rfl eN))) mN rfl (prK rfl)) ?_
  refine LH.seq ?_
  refine LH.seqT [(0, .lst 3 (List.map GStamp.lv p0)), (1, .lst 1 (List.map (LV.int .i64) p1)), (2, .int .i64 p2), (20, .bool ((decide (p2 < 0)) || (decide (p2 > (p0.length : Int)))))] [] rfl ?_ ?_
  · refine sN (oM (v := (.int _ _)) rfl ?_)
    refine sN (oLt rfl rfl ?_)
    refine sN (oM (v := (.bool _)) rfl ?_)
    by_cases hb3 : (decide (p2 < 0)) = true
    · refine sF rfl rfl hb3 ?_
      refine sF rfl rfl hb3 ?_
      refine sF rfl rfl hb3 ?_
      refine sF rfl rfl hb3 ?_
      refine sN (oPkT (congrArg LV.bool hb3) (v := (.bool _)) rfl ?_)
      exact s0 (Wk.to (eC rfl (eC rfl (eC rfl (eC (congrArg LV.bool (orT hb3)) eN)))) mN rfl (prK rfl))
    · replace hb3 := bF hb3
      refine sT rfl (congrArg LV.bool hb3) (oM (v := (.int _ _)) rfl ?_)
      refine sT rfl (congrArg LV.bool hb3) (oM (v := (.lst _ _)) rfl ?_)
      refine sT rfl (congrArg LV.bool hb3) (oLnL (f := GStamp.lv) te31 rfl ?_)
      refine sT rfl (congrArg LV.bool hb3) (oGt rfl rfl ?_)
      refine sN (oPkF (congrArg LV.bool hb3) (v := (.bool _)) rfl ?_)
      exact s0 (Wk.to (eC rfl (eC rfl (eC rfl (eC (congrArg LV.bool (orF hb3)) eN)))) mN rfl (prK rfl))
  refine LH.cond (t := ((decide (p2 < 0)) || (decide (p2 > (p0.length : Int))))) rfl (fun hc4 => ?_) (fun hc4 => ?_)
  · replace h := iteT h hc4
    refine LH.seqT [(6, .nil), (7, .int .i64 2)] [] rfl ?_ ?_
    · refine sN (oA (v := .nil) rfl ?_)
      refine sN (oA (v := (.int _ _)) rfl ?_)
      exact s0 (Wk.to (eC rfl (eC rfl eN)) mN rfl (prK rfl))
    refine LH.ret ?_
    refine thenR ?_
    obtain rfl := Option.some.inj h
    exact retE (congrArg Array.toList Try.results25) (lrT rfl (lrT rfl (lr0 ⟨memN mN, rfl, prK rfl, (Sub.tup (sbL (sbR sbN)))⟩)))
  replace h := iteF h hc4
  refine LH.skip ?_
  refine thenN ?_
  refine LH.wk (Wk.to (el := [(0, .lst 3 (List.map GStamp.lv p0)), (1, .lst 1 (List.map (LV.int .i64) p1)), (2, .int .i64 p2)]) (ml := []) (eC rfl (eC rfl (eC rfl eN))) mN rfl (prK rfl)) ?_
  obtain ⟨v5, hv5, h⟩ := bindS h
  obtain ⟨v6, hv6, h⟩ := bindS h
  obtain ⟨r7, hr7, h⟩ := bindS h
  refine LH.seqJM mixed [] [0, 0, 0, 0, 0, 0, 0, 0, 0, 0, 0] [(6, .lst 1 (List.map (LV.int .i64) r7.1)), (7, .int .i64 r7.2)] [] rfl rfl (by kernel_rfl) ?_ ?_
  · refine mN0 (oM (v := (.lst _ _)) rfl ⟨rfl, ?_⟩)
    refine mN0 (oM (v := (.int _ _)) rfl ⟨rfl, ?_⟩)
    refine mN0 (oSl (f := GStamp.lv) te31 tk23 ts23 rfl rfl rfl hv5 ⟨rfl, ?_⟩)
    refine mN0 (oM (v := (.lst _ _)) rfl ⟨rfl, ?_⟩)
    refine mN0 (oM (v := (.int _ _)) rfl ⟨rfl, ?_⟩)
    refine mN0 (oSl (f := (LV.int .i64)) te28 tk3 ts3 rfl rfl rfl hv6 ⟨rfl, ?_⟩)
    refine mN0 (oCP (args := [.lst 3 (List.map GStamp.lv v5), .lst 1 (List.map (LV.int .i64) v6)]) rfl isF21 rfl (sbR (sbR sbN)) (ref02_Canonical_ok hr7) rfl ⟨rfl, ?_⟩)
    refine mN0 (oEx rfl rfl ⟨rfl, ?_⟩)
    refine mN0 (oEx rfl rfl ⟨rfl, ?_⟩)
    refine mN0 (oA (v := (.lst _ _)) rfl ⟨rfl, ?_⟩)
    refine mN0 (oA (v := (.int _ _)) rfl ⟨rfl, ?_⟩)
    exact m0 (Wk.to (eC rfl (eC rfl eN)) mN rfl (prK rfl))
  refine LH.ret ?_
  obtain rfl := Option.some.inj h
  exact retE (congrArg Array.toList Try.results25) (lrT rfl (lrT rfl (lr0 ⟨memN mN, rfl, prK rfl, (Sub.tup (sbR (sbR sbN)))⟩)))

theorem law02_StampKnows_ok {F : Nat} {p0 : List Int} {p1 : Int} {r : Bool} (h : law02_StampKnows F p0 p1 = some r) : LCall Try.prog 5 [.lst 1 (List.map (LV.int .i64) p0), .int .i64 p1] (Mem.of []) (.bool r) (Mem.of []) := by
  unfold law02_StampKnows at h
  refine bodyT Try.func5 rfl (by rw [Try.ntmps5]; exact Nat.le_of_ble_eq_true rfl) ?_
  refine LH.wk (Wk.to (el := [(0, .lst 1 (List.map (LV.int .i64) p0)), (1, .int .i64 p1)]) (ml := []) (eC rfl (eC rfl eN)) mN rfl (prK rfl)) ?_
  refine LH.seqT [(0, .lst 1 (List.map (LV.int .i64) p0)), (1, .int .i64 p1)] [] rfl ?_ ?_
  · refine sN (oA (v := (.bool _)) rfl ?_)
    exact s0 (Wk.to (eC rfl (eC rfl eN)) mN rfl (prK rfl))
  obtain ⟨r1, hr1, h⟩ := bindS h
  refine LH.seqT [(1, .int .i64 p1), (5, .ptr 7 0)] [(7, .box [.lst 1 (List.map (LV.int .i64) r1.L), .int .i64 r1.At])] rfl ?_ ?_
  · refine sN (oM (v := (.lst _ _)) rfl ?_)
    refine sN (oCM (args := [.lst 1 (List.map (LV.int .i64) p0)]) (ml := []) (ml' := [(7, .box [.lst 1 (List.map (LV.int .i64) r1.L), .int .i64 r1.At])]) rfl isF17 rfl (sbR sbN) (make_New_ok hr1) mN (newF rfl newN) rfl ?_)
    refine sN (oA (v := (.ptr _ _)) rfl ?_)
    exact s0 (Wk.to (eC rfl (eC rfl eN)) (mC rfl mN) rfl (prK rfl))
  obtain ⟨r2, hr2, h⟩ := bindS h
  refine LH.seqT [(1, .int .i64 p1), (5, .ptr 7 0), (6, .lst 3 (List.map GStamp.lv r2.1)), (7, .lst 1 (List.map (LV.int .i64) r2.2.1))] [(7, .box [.lst 1 (List.map (LV.int .i64) r2.2.2.L), .int .i64 r2.2.2.At])] rfl ?_ ?_
  · refine sN (oM (v := (.ptr _ _)) rfl ?_)
    refine sN (oCM (args := [.ptr 7 0, .int .i64 14, .int .i64 6]) (ml := [(7, .box [.lst 1 (List.map (LV.int .i64) r1.L), .int .i64 r1.At])]) (ml' := [(7, .box [.lst 1 (List.map (LV.int .i64) r2.2.2.L), .int .i64 r2.2.2.At]), (145, .arr 23 3 (List.map GStamp.lv r2.1)), (149, .arr 3 1 (List.map (LV.int .i64) r2.2.1))]) rfl isF18 rfl (sbR (sbR (sbR sbN))) (law02_events_ok hr2) (mC rfl mN) (newI rfl (newF rfl (newF rfl newN))) rfl ?_)
    refine sN (oM (v := (.tup _)) rfl ?_)
    refine sN (oEx rfl rfl ?_)
    refine sN (oEx rfl rfl ?_)
    refine sN (oA (v := (.arr _ _)) rfl ?_)
    refine sN (oA (v := (.arr _ _)) rfl ?_)
    exact s0 ((Wk.trans (Wk.to (el := [(1, .int .i64 p1), (5, .ptr 7 0), (6, .arr 145 (List.length r2.1)), (7, .arr 149 (List.length r2.2.1))]) (ml := [(7, .box [.lst 1 (List.map (LV.int .i64) r2.2.2.L), .int .i64 r2.2.2.At]), (145, .arr 23 3 (List.map GStamp.lv r2.1)), (149, .arr 3 1 (List.map (LV.int .i64) r2.2.1))]) (eC rfl (eC rfl (eC rfl (eC rfl eN)))) (mC rfl (mC rfl (mC rfl mN))) rfl (prK rfl)) (Wk.trans (Wk.frzL (f := GStamp.lv) (el' := [(1, .int .i64 p1), (5, .ptr 7 0), (6, .lst 3 (List.map GStamp.lv r2.1)), (7, .arr 149 (List.length r2.2.1))]) 145 23 3 r2.1 rfl rfl (prN rfl) (fK rfl (fK rfl (fZ (fK rfl fN))))) (Wk.trans (Wk.frzL (f := (LV.int .i64)) (el' := [(1, .int .i64 p1), (5, .ptr 7 0), (6, .lst 3 (List.map GStamp.lv r2.1)), (7, .lst 1 (List.map (LV.int .i64) r2.2.1))]) 149 3 1 r2.2.1 rfl rfl (prN rfl) (fK rfl (fK rfl (fK rfl (fZ fN))))) (Wk.to (eC rfl (eC rfl (eC rfl (eC rfl eN)))) (mC rfl mN) rfl (prK rfl))))))
  obtain ⟨r3, hr3, h⟩ := bindS h
  refine LH.seqT [(1, .int .i64 p1), (6, .lst 3 (List.map GStamp.lv r2.1)), (7, .lst 1 (List.map (LV.int .i64) r2.2.1)), (8, .int .i64 r3.1)] [] rfl ?_ ?_
  · refine sN (oM (v := (.ptr _ _)) rfl ?_)
    refine sN (oM (v := (.lst _ _)) rfl ?_)
    refine sN (oLnL (f := GStamp.lv) te31 rfl ?_)
    refine sN (oCM (args := [.ptr 7 0, .int .i64 0, .int .i64 (r2.1.length : Int)]) (ml := [(7, .box [.lst 1 (List.map (LV.int .i64) r2.2.2.L), .int .i64 r2.2.2.At])]) (ml' := [(7, .box [.lst 1 (List.map (LV.int .i64) r3.2.L), .int .i64 r3.2.At])]) rfl isF23 rfl (sbR (sbR (sbR sbN))) (GTape_Range_ok hr3) (mC rfl mN) (newI rfl newN) rfl ?_)
    refine sN (oA (v := (.int _ _)) rfl ?_)
    exact s0 (Wk.to (eC rfl (eC rfl (eC rfl (eC rfl eN)))) mN rfl (prK rfl))
  obtain ⟨r4, hr4, h⟩ := bindS h
  refine LH.seqT [(1, .int .i64 p1), (6, .lst 3 (List.map GStamp.lv r2.1)), (7, .lst 1 (List.map (LV.int .i64) r2.2.1)), (8, .int .i64 r3.1), (9, .lst 1 (List.map (LV.int .i64) r4.1)), (10, .int .i64 r4.2)] [] rfl ?_ ?_
  · refine sN (oM (v := (.lst _ _)) rfl ?_)
    refine sN (oM (v := (.lst _ _)) rfl ?_)
    refine sN (oM (v := (.int _ _)) rfl ?_)
    refine sN (oCP (args := [.lst 3 (List.map GStamp.lv r2.1), .lst 1 (List.map (LV.int .i64) r2.2.1), .int .i64 p1]) rfl isF24 rfl (sbR (sbR (sbR sbN))) (stamp_Known_ok hr4) rfl ?_)
    refine sN (oM (v := (.tup _)) rfl ?_)
    refine sN (oEx rfl rfl ?_)
    refine sN (oEx rfl rfl ?_)
    refine sN (oA (v := (.lst _ _)) rfl ?_)
    refine sN (oA (v := (.int _ _)) rfl ?_)
    exact s0 (Wk.to (eC rfl (eC rfl (eC rfl (eC rfl (eC rfl (eC rfl eN)))))) mN rfl (prK rfl))
  obtain ⟨r5, hr5, h⟩ := bindS h
  refine LH.seqT [(6, .lst 3 (List.map GStamp.lv r2.1)), (7, .lst 1 (List.map (LV.int .i64) r2.2.1)), (8, .int .i64 r3.1), (9, .lst 1 (List.map (LV.int .i64) r4.1)), (10, .int .i64 r4.2), (11, .lst 1 (List.map (LV.int .i64) r5.1)), (12, .int .i64 r5.2)] [] rfl ?_ ?_
  · refine sN (oM (v := (.lst _ _)) rfl ?_)
    refine sN (oM (v := (.lst _ _)) rfl ?_)
    refine sN (oM (v := (.int _ _)) rfl ?_)
    refine sN (oCP (args := [.lst 3 (List.map GStamp.lv r2.1), .lst 1 (List.map (LV.int .i64) r2.2.1), .int .i64 p1]) rfl isF25 rfl (sbR (sbR (sbR sbN))) (ref02_Known_ok hr5) rfl ?_)
    refine sN (oM (v := (.tup _)) rfl ?_)
    refine sN (oEx rfl rfl ?_)
    refine sN (oEx rfl rfl ?_)
    refine sN (oA (v := (.lst _ _)) rfl ?_)
    refine sN (oA (v := (.int _ _)) rfl ?_)
    exact s0 (Wk.to (eC rfl (eC rfl (eC rfl (eC rfl (eC rfl (eC rfl (eC rfl eN))))))) mN rfl (prK rfl))
  obtain ⟨r6, hr6, h⟩ := bindS h
  refine LH.seqT [(6, .lst 3 (List.map GStamp.lv r2.1)), (7, .lst 1 (List.map (LV.int .i64) r2.2.1)), (8, .int .i64 r3.1), (9, .lst 1 (List.map (LV.int .i64) r4.1)), (10, .int .i64 r4.2), (11, .lst 1 (List.map (LV.int .i64) r5.1)), (12, .int .i64 r5.2), (13, .lst 1 (List.map (LV.int .i64) r6.1)), (14, .int .i64 r6.2)] [] rfl ?_ ?_
  · refine sN (oM (v := (.lst _ _)) rfl ?_)
    refine sN (oM (v := (.lst _ _)) rfl ?_)
    refine sN (oM (v := (.int _ _)) rfl ?_)
    refine sN (oCP (args := [.lst 3 (List.map GStamp.lv r2.1), .lst 1 (List.map (LV.int .i64) r2.2.1), .int .i64 r3.1]) rfl isF24 rfl (sbR (sbR (sbR sbN))) (stamp_Known_ok hr6) rfl ?_)
    refine sN (oM (v := (.tup _)) rfl ?_)
    refine sN (oEx rfl rfl ?_)
    refine sN (oEx rfl rfl ?_)
    refine sN (oA (v := (.lst _ _)) rfl ?_)
    refine sN (oA (v := (.int _ _)) rfl ?_)
    exact s0 (Wk.to (eC rfl (eC rfl (eC rfl (eC rfl (eC rfl (eC rfl (eC rfl (eC rfl (eC rfl eN))))))))) mN rfl (prK rfl))
  obtain ⟨v7, hv7, h⟩ := bindS h
  obtain ⟨v8, hv8, h⟩ := bindS h
  obtain ⟨r9, hr9, h⟩ := bindS h
  refine LH.seqJM mixed [] [0, 0, 0, 0, 0, 0, 0, 0, 0, 0, 0, 0] [(9, .lst 1 (List.map (LV.int .i64) r4.1)), (10, .int .i64 r4.2), (11, .lst 1 (List.map (LV.int .i64) r5.1)), (12, .int .i64 r5.2), (13, .lst 1 (List.map (LV.int .i64) r6.1)), (14, .int .i64 r6.2), (15, .lst 1 (List.map (LV.int .i64) r9.1)), (16, .int .i64 r9.2)] [] rfl rfl (by kernel_rfl) ?_ ?_
  · refine mN0 (oM (v := (.lst _ _)) rfl ⟨rfl, ?_⟩)
    refine mN0 (oM (v := (.int _ _)) rfl ⟨rfl, ?_⟩)
    refine mN0 (oSl (f := GStamp.lv) te31 tk23 ts23 rfl rfl rfl hv7 ⟨rfl, ?_⟩)
    refine mN0 (oM (v := (.lst _ _)) rfl ⟨rfl, ?_⟩)
    refine mN0 (oM (v := (.int _ _)) rfl ⟨rfl, ?_⟩)
    refine mN0 (oSl (f := (LV.int .i64)) te28 tk3 ts3 rfl rfl rfl hv8 ⟨rfl, ?_⟩)
    refine mN0 (oCP (args := [.lst 3 (List.map GStamp.lv v7), .lst 1 (List.map (LV.int .i64) v8)]) rfl isF20 rfl (sbR (sbR sbN)) (stamp_Canonical_ok hr9) rfl ⟨rfl, ?_⟩)
    refine mN0 (oM (v := (.tup _)) rfl ⟨rfl, ?_⟩)
    refine mN0 (oEx rfl rfl ⟨rfl, ?_⟩)
    refine mN0 (oEx rfl rfl ⟨rfl, ?_⟩)
    refine mN0 (oA (v := (.lst _ _)) rfl ⟨rfl, ?_⟩)
    refine mN0 (oA (v := (.int _ _)) rfl ⟨rfl, ?_⟩)
    exact m0 (Wk.to (eC rfl (eC rfl (eC rfl (eC rfl (eC rfl (eC rfl (eC rfl (eC rfl eN)))))))) mN rfl (prK rfl))
  obtain ⟨w11, hv, h⟩ := bindS h
  refine LH.seqT [(4, .bool w11)] [] rfl ?_ ?_
  · refine sN (oM (v := (.lst _ _)) rfl ?_)
    refine sN (oM (v := (.lst _ _)) rfl ?_)
    obtain ⟨r12, hr12, hv⟩ := bindS hv
    refine sN (oCP (args := [.lst 1 (List.map (LV.int .i64) r4.1), .lst 1 (List.map (LV.int .i64) r5.1)]) rfl isF22 rfl (sbR (sbR sbN)) (law02_same_ok hr12) rfl ?_)
    refine sN (oM (v := (.bool _)) rfl ?_)
    by_cases hb13 : r12 = true
    · replace hv := iteT hv hb13
      refine sT rfl (congrArg LV.bool hb13) (oM (v := (.int _ _)) rfl ?_)
      refine sT rfl (congrArg LV.bool hb13) (oM (v := (.int _ _)) rfl ?_)
      refine sT rfl (congrArg LV.bool hb13) (oEq rfl rfl ?_)
      refine sN (oPkT (congrArg LV.bool hb13) (v := (.bool _)) rfl ?_)
      refine sN (oM (v := (.bool _)) rfl ?_)
      by_cases hb14 : (r4.2 == r5.2) = true
      · replace hv := iteT hv hb14
        refine sT rfl (congrArg LV.bool hb14) (oM (v := (.lst _ _)) rfl ?_)
        refine sT rfl (congrArg LV.bool hb14) (oM (v := (.lst _ _)) rfl ?_)
        obtain ⟨r15, hr15, hv⟩ := bindS hv
        refine sT rfl (congrArg LV.bool hb14) (oCP (args := [.lst 1 (List.map (LV.int .i64) r6.1), .lst 1 (List.map (LV.int .i64) r9.1)]) rfl isF22 rfl (sbR (sbR sbN)) (law02_same_ok hr15) rfl ?_)
        refine sN (oPkT (congrArg LV.bool hb14) (v := (.bool _)) rfl ?_)
        refine sN (oM (v := (.bool _)) rfl ?_)
        by_cases hb16 : r15 = true
        · replace hv := iteT hv hb16
          refine sT rfl (congrArg LV.bool hb16) (oM (v := (.int _ _)) rfl ?_)
          refine sT rfl (congrArg LV.bool hb16) (oM (v := (.int _ _)) rfl ?_)
          refine sT rfl (congrArg LV.bool hb16) (oEq rfl rfl ?_)
          refine sN (oPkT (congrArg LV.bool hb16) (v := (.bool _)) rfl ?_)
          refine sN (oM (v := (.bool _)) rfl ?_)
          by_cases hb17 : (r6.2 == r9.2) = true
          · replace hv := iteT hv hb17
            obtain ⟨r18, hr18, hv⟩ := bindS hv
            refine sT rfl (congrArg LV.bool hb17) (oCP (args := []) rfl isF16 rfl sbN (law02_awake_ok hr18) rfl ?_)
            refine sN (oPkT (congrArg LV.bool hb17) (v := (.bool _)) rfl ?_)
            refine sN (oA (v := (.bool _)) rfl ?_)
            obtain rfl := Option.some.inj hv
            exact s0 (Wk.to (eC rfl eN) mN rfl (prK rfl))
          · replace hb17 := bF hb17
            replace hv := iteF hv hb17
            refine sF rfl rfl hb17 ?_
            refine sN (oPkF (congrArg LV.bool hb17) (v := (.bool _)) rfl ?_)
            refine sN (oA (v := (.bool _)) rfl ?_)
            obtain rfl := Option.some.inj hv
            exact s0 (Wk.to (eC rfl eN) mN rfl (prK rfl))
        · replace hb16 := bF hb16
          replace hv := iteF hv hb16
          refine sF rfl rfl hb16 ?_
          refine sF rfl rfl hb16 ?_
          refine sF rfl rfl hb16 ?_
          refine sN (oPkF (congrArg LV.bool hb16) (v := (.bool _)) rfl ?_)
          refine sN (oM (v := (.bool _)) rfl ?_)
          refine sF rfl rfl rfl ?_
          refine sN (oPkF rfl (v := (.bool _)) rfl ?_)
          refine sN (oA (v := (.bool _)) rfl ?_)
          obtain rfl := Option.some.inj hv
          exact s0 (Wk.to (eC rfl eN) mN rfl (prK rfl))
      · replace hb14 := bF hb14
        replace hv := iteF hv hb14
        refine sF rfl rfl hb14 ?_
        refine sF rfl rfl hb14 ?_
        refine sF rfl rfl hb14 ?_
        refine sN (oPkF (congrArg LV.bool hb14) (v := (.bool _)) rfl ?_)
        refine sN (oM (v := (.bool _)) rfl ?_)
        refine sF rfl rfl rfl ?_
        refine sF rfl rfl rfl ?_
        refine sF rfl rfl rfl ?_
        refine sN (oPkF rfl (v := (.bool _)) rfl ?_)
        refine sN (oM (v := (.bool _)) rfl ?_)
        refine sF rfl rfl rfl ?_
        refine sN (oPkF rfl (v := (.bool _)) rfl ?_)
        refine sN (oA (v := (.bool _)) rfl ?_)
        obtain rfl := Option.some.inj hv
        exact s0 (Wk.to (eC rfl eN) mN rfl (prK rfl))
    · replace hb13 := bF hb13
      replace hv := iteF hv hb13
      refine sF rfl rfl hb13 ?_
      refine sF rfl rfl hb13 ?_
      refine sF rfl rfl hb13 ?_
      refine sN (oPkF (congrArg LV.bool hb13) (v := (.bool _)) rfl ?_)
      refine sN (oM (v := (.bool _)) rfl ?_)
      refine sF rfl rfl rfl ?_
      refine sF rfl rfl rfl ?_
      refine sF rfl rfl rfl ?_
      refine sN (oPkF rfl (v := (.bool _)) rfl ?_)
      refine sN (oM (v := (.bool _)) rfl ?_)
      refine sF rfl rfl rfl ?_
      refine sF rfl rfl rfl ?_
      refine sF rfl rfl rfl ?_
      refine sN (oPkF rfl (v := (.bool _)) rfl ?_)
      refine sN (oM (v := (.bool _)) rfl ?_)
      refine sF rfl rfl rfl ?_
      refine sN (oPkF rfl (v := (.bool _)) rfl ?_)
      refine sN (oA (v := (.bool _)) rfl ?_)
      obtain rfl := Option.some.inj hv
      exact s0 (Wk.to (eC rfl eN) mN rfl (prK rfl))
  clear hv
  refine LH.ret ?_
  obtain rfl := Option.some.inj h
  exact retE (congrArg Array.toList Try.results5) (lrT rfl (lr0 ⟨memN mN, rfl, prK rfl, Sub.rfl⟩))

end Go.Proofs.Ytdkhlkihhdjbbaa
