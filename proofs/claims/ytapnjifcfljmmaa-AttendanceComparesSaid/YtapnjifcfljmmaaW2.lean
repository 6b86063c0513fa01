/- Walks, printed by program (gen.py): each function computes its plain function. -/
import Derived.Test.YtapnjifcfljmmaaW1
set_option linter.unusedVariables false
set_option linter.unusedSimpArgs false
set_option maxRecDepth 100000
namespace Go.Proofs.Ytapnjifcfljmmaa
open Go.L Go.Sh
theorem ref16_Canonical_ok {F : Nat} {p0 : List GRegisterEvent} {r : List GRegisterEvent × Int} (h : ref16_Canonical F p0 = some r) : LCall Try.prog 14 [.lst 6 (List.map GRegisterEvent.lv p0)] (Mem.of []) (.tup [.lst 6 (List.map GRegisterEvent.lv r.1), .int .i64 r.2]) (Mem.of []) := by
  unfold ref16_Canonical at h
  refine bodyT Try.func14 rfl (by rw [Try.ntmps14]; exact Nat.le_of_ble_eq_true rfl) ?_
  refine LH.wk (Wk.to (el := [(0, .lst 6 (List.map GRegisterEvent.lv p0))]) (ml := []) (eC rfl eN) mN rfl (prK rfl)) ?_
  refine LH.seqT [(0, .lst 6 (List.map GRegisterEvent.lv p0))] [] rfl ?_ ?_
  · refine sN (oA (v := .nil) rfl ?_)
    refine sN (oA (v := (.int _ _)) rfl ?_)
    exact s0 (Wk.to (eC rfl eN) mN rfl (prK rfl))
  refine LH.seqT [(0, .lst 6 (List.map GRegisterEvent.lv p0)), (4, .nil)] [] rfl ?_ ?_
  · refine sN (oA (v := .nil) rfl ?_)
    exact s0 (Wk.to (eC rfl (eC rfl eN)) mN rfl (prK rfl))
  refine LH.seqT [(0, .lst 6 (List.map GRegisterEvent.lv p0)), (4, .nil), (5, .nil)] [] rfl ?_ ?_
  · refine sN (oA (v := .nil) rfl ?_)
    exact s0 (Wk.to (eC rfl (eC rfl (eC rfl eN))) mN rfl (prK rfl))
  refine LH.seq ?_
  refine LH.seqT [(0, .lst 6 (List.map GRegisterEvent.lv p0)), (4, .nil), (5, .nil), (6, .int .i64 0)] [] rfl ?_ ?_
  · refine sN (oA (v := (.int _ _)) rfl ?_)
    exact s0 (Wk.to (eC rfl (eC rfl (eC rfl (eC rfl eN)))) mN rfl (prK rfl))
  refine LH.block ?_
  refine LH.wk ((Wk.trans (Wk.to (el := [(0, .lst 6 (List.map GRegisterEvent.lv p0)), (4, .nil), (5, .nil), (6, .int .i64 0)]) (ml := []) (eC rfl (eC rfl (eC rfl (eC rfl eN)))) mN rfl (prK rfl)) (Wk.trans (Wk.to (el := [(0, .lst 6 (List.map GRegisterEvent.lv p0)), (4, .nil), (5, .nil), (6, .int .i64 0)]) (ml := []) (eC rfl (eC rfl (eC rfl (eC rfl eN)))) mN rfl (prK rfl)) (Wk.trans (Wk.ownL (el' := [(0, .lst 6 (List.map GRegisterEvent.lv p0)), (4, .arr 143 (List.length ([] : List GStamp))), (5, .nil), (6, .int .i64 0)]) 143 31 3 rfl rfl (wK (wO (wK (wK wN))))) (Wk.trans (Wk.to (el := [(0, .lst 6 (List.map GRegisterEvent.lv p0)), (4, .arr 143 (List.length ([] : List GStamp))), (5, .nil), (6, .int .i64 0)]) (ml := [(143, .arr 31 3 (List.map GStamp.lv ([] : List GStamp)))]) (eC rfl (eC rfl (eC rfl (eC rfl eN)))) (mC rfl mN) rfl (prK rfl)) (Wk.trans (Wk.ownL (el' := [(0, .lst 6 (List.map GRegisterEvent.lv p0)), (4, .arr 143 (List.length ([] : List GStamp))), (5, .arr 147 (List.length ([] : List Int))), (6, .int .i64 0)]) 147 3 1 rfl rfl (wK (wK (wO (wK wN))))) (Wk.to (el := [(0, .lst 6 (List.map GRegisterEvent.lv p0)), (4, .arr 143 (List.length ([] : List GStamp))), (5, .arr 147 (List.length ([] : List Int))), (6, .int .i64 0)]) (ml := [(143, .arr 31 3 (List.map GStamp.lv ([] : List GStamp))), (147, .arr 3 1 (List.map (LV.int .i64) ([] : List Int)))]) (eC rfl (eC rfl (eC rfl (eC rfl eN)))) (mC rfl (mC rfl mN)) rfl (prK rfl)))))))) ?_
  refine LH.loop (fun n e m => ∃ (n1 : Int) (l2 : List GStamp) (l3 : List Int), ref16_Canonical_L1 F p0 n n1 l2 l3 = some r ∧ e = Env.of [(0, .lst 6 (List.map GRegisterEvent.lv p0)), (4, .arr 143 (List.length l2)), (5, .arr 147 (List.length l3)), (6, .int .i64 n1)] ∧ m = Mem.of [(143, .arr 31 3 (List.map GStamp.lv l2)), (147, .arr 3 1 (List.map (LV.int .i64) l3))]) F ⟨0, ([] : List GStamp), ([] : List Int), h, rfl, rfl⟩ ?_
  clear h
  rintro n e m ⟨n1, l2, l3, h, rfl, rfl⟩
  rcases n with _ | n
  · cases (show Option.none = some _ from h)
  obtain ⟨rec1, hrec1⟩ : ∃ f, f = ref16_Canonical_L1 F p0 n := ⟨_, rfl⟩
  replace h : ref16_Canonical_L1_B F p0 rec1 n1 l2 l3 = some r := hrec1 ▸ h
  unfold ref16_Canonical_L1_B at h
  refine LH.seq ?_
  refine LH.seqT [(0, .lst 6 (List.map GRegisterEvent.lv p0)), (4, .arr 143 (List.length l2)), (5, .arr 147 (List.length l3)), (6, .int .i64 n1), (16, .bool (decide (n1 < (p0.length : Int))))] [(143, .arr 31 3 (List.map GStamp.lv l2)), (147, .arr 3 1 (List.map (LV.int .i64) l3))] rfl ?_ ?_
  · refine sN (oM (v := (.int _ _)) rfl ?_)
    refine sN (oM (v := (.lst _ _)) rfl ?_)
    refine sN (oLnL (f := GRegisterEvent.lv) te25 rfl ?_)
    refine sN (oLt rfl rfl ?_)
    exact s0 (Wk.to (eC rfl (eC rfl (eC rfl (eC rfl (eC rfl eN))))) (mC rfl (mC rfl mN)) rfl (prK rfl))
  refine LH.cond (t := (decide (n1 < (p0.length : Int)))) rfl (fun hc4 => ?_) (fun hc4 => ?_)
  · replace h := iteT h hc4
    refine LH.skip ?_
    refine thenN ?_
    refine LH.wk (Wk.to (el := [(0, .lst 6 (List.map GRegisterEvent.lv p0)), (4, .arr 143 (List.length l2)), (5, .arr 147 (List.length l3)), (6, .int .i64 n1)]) (ml := [(143, .arr 31 3 (List.map GStamp.lv l2)), (147, .arr 3 1 (List.map (LV.int .i64) l3))]) (eC rfl (eC rfl (eC rfl (eC rfl eN)))) (mC rfl (mC rfl mN)) rfl (prK rfl)) ?_
    refine LH.seq ?_
    refine LH.block ?_
    refine LH.seqT [(0, .lst 6 (List.map GRegisterEvent.lv p0)), (4, .arr 143 (List.length l2)), (5, .arr 147 (List.length l3)), (6, .int .i64 n1), (7, .int .i64 n1)] [(143, .arr 31 3 (List.map GStamp.lv l2)), (147, .arr 3 1 (List.map (LV.int .i64) l3))] rfl ?_ ?_
    · refine sN (oM (v := (.int _ _)) rfl ?_)
      refine sN (oA (v := (.int _ _)) rfl ?_)
      exact s0 (Wk.to (eC rfl (eC rfl (eC rfl (eC rfl (eC rfl eN))))) (mC rfl (mC rfl mN)) rfl (prK rfl))
    refine LH.seq ?_
    refine LH.seqT [(0, .lst 6 (List.map GRegisterEvent.lv p0)), (4, .arr 143 (List.length l2)), (5, .arr 147 (List.length l3)), (6, .int .i64 n1), (7, .int .i64 n1), (8, .int .i64 (i64 (n1 - 1)))] [(143, .arr 31 3 (List.map GStamp.lv l2)), (147, .arr 3 1 (List.map (LV.int .i64) l3))] rfl ?_ ?_
    · refine sN (oM (v := (.int _ _)) rfl ?_)
      refine sN (oSub rfl rfl ?_)
      refine sN (oA (v := (.int _ _)) rfl ?_)
      exact s0 (Wk.to (eC rfl (eC rfl (eC rfl (eC rfl (eC rfl (eC rfl eN)))))) (mC rfl (mC rfl mN)) rfl (prK rfl))
    refine LH.block ?_
    refine LH.loop (fun n e m => ∃ (n5 : Int) (n6 : Int), ref16_Canonical_L2 rec1 p0 n1 l2 l3 n n5 n6 = some r ∧ e = Env.of [(0, .lst 6 (List.map GRegisterEvent.lv p0)), (4, .arr 143 (List.length l2)), (5, .arr 147 (List.length l3)), (6, .int .i64 n1), (7, .int .i64 n5), (8, .int .i64 n6)] ∧ m = Mem.of [(143, .arr 31 3 (List.map GStamp.lv l2)), (147, .arr 3 1 (List.map (LV.int .i64) l3))]) F ⟨n1, (i64 (n1 - 1)), h, rfl, rfl⟩ ?_
    clear h
    rintro n e m ⟨n5, n6, h, rfl, rfl⟩
    rcases n with _ | n
    · cases (show Option.none = some _ from h)
    obtain ⟨rec2, hrec2⟩ : ∃ f, f = ref16_Canonical_L2 rec1 p0 n1 l2 l3 n := ⟨_, rfl⟩
    replace h : ref16_Canonical_L2_B rec1 p0 n1 l2 l3 rec2 n5 n6 = some r := hrec2 ▸ h
    unfold ref16_Canonical_L2_B at h
    refine LH.seq ?_
    refine LH.seqT [(0, .lst 6 (List.map GRegisterEvent.lv p0)), (4, .arr 143 (List.length l2)), (5, .arr 147 (List.length l3)), (6, .int .i64 n1), (7, .int .i64 n5), (8, .int .i64 n6), (23, .bool (decide (n6 ≥ 0)))] [(143, .arr 31 3 (List.map GStamp.lv l2)), (147, .arr 3 1 (List.map (LV.int .i64) l3))] rfl ?_ ?_
    · refine sN (oM (v := (.int _ _)) rfl ?_)
      refine sN (oGe rfl rfl ?_)
      exact s0 (Wk.to (eC rfl (eC rfl (eC rfl (eC rfl (eC rfl (eC rfl (eC rfl eN))))))) (mC rfl (mC rfl mN)) rfl (prK rfl))
    refine LH.cond (t := (decide (n6 ≥ 0))) rfl (fun hc7 => ?_) (fun hc7 => ?_)
    · replace h := iteT h hc7
      refine LH.skip ?_
      refine thenN ?_
      refine LH.wk (Wk.to (el := [(0, .lst 6 (List.map GRegisterEvent.lv p0)), (4, .arr 143 (List.length l2)), (5, .arr 147 (List.length l3)), (6, .int .i64 n1), (7, .int .i64 n5), (8, .int .i64 n6)]) (ml := [(143, .arr 31 3 (List.map GStamp.lv l2)), (147, .arr 3 1 (List.map (LV.int .i64) l3))]) (eC rfl (eC rfl (eC rfl (eC rfl (eC rfl (eC rfl eN)))))) (mC rfl (mC rfl mN)) rfl (prK rfl)) ?_
      refine LH.seq ?_
      refine LH.block ?_
      obtain ⟨x8, hx8, h⟩ := bindS h
      obtain ⟨x9, hx9, h⟩ := bindS h
      refine LH.seqJM mixed [] [0, 0, 0, 0, 0, 0, 0, 0, 0] [(0, .lst 6 (List.map GRegisterEvent.lv p0)), (4, .arr 143 (List.length l2)), (5, .arr 147 (List.length l3)), (6, .int .i64 n1), (7, .int .i64 n5), (8, .int .i64 n6), (34, .bool (decide (x8 = x9)))] [(143, .arr 31 3 (List.map GStamp.lv l2)), (147, .arr 3 1 (List.map (LV.int .i64) l3))] rfl rfl (by kernel_rfl) ?_ ?_
      · refine mN0 (oM (v := (.lst _ _)) rfl ⟨rfl, ?_⟩)
        refine mN0 (oM (v := (.int _ _)) rfl ⟨rfl, ?_⟩)
        refine mN0 (oIx (f := GRegisterEvent.lv) te25 tk33 ts33 rfl rfl GRegisterEvent.ok hx8 rfl ⟨rfl, ?_⟩)
        refine mN0 (oLdA rfl tk33 ta33 ts33 rfl rfl ⟨rfl, ?_⟩)
        refine mN0 (oM (v := (.lst _ _)) rfl ⟨rfl, ?_⟩)
        refine mN0 (oM (v := (.int _ _)) rfl ⟨rfl, ?_⟩)
        refine mN0 (oIx (f := GRegisterEvent.lv) te25 tk33 ts33 rfl rfl GRegisterEvent.ok hx9 rfl ⟨rfl, ?_⟩)
        refine mN0 (oLdA rfl tk33 ta33 ts33 rfl rfl ⟨rfl, ?_⟩)
        refine mN0 (oEqA rfl rfl (ae33 x8 x9) ⟨rfl, ?_⟩)
        exact m0 (Wk.to (eC rfl (eC rfl (eC rfl (eC rfl (eC rfl (eC rfl (eC rfl eN))))))) (mC rfl (mC rfl mN)) rfl (prK rfl))
      refine LH.cond (t := (decide (x8 = x9))) rfl (fun hc10 => ?_) (fun hc10 => ?_)
      · replace h := iteT h hc10
        refine LH.loneT [(0, .lst 6 (List.map GRegisterEvent.lv p0)), (4, .arr 143 (List.length l2)), (5, .arr 147 (List.length l3)), (6, .int .i64 n1), (7, .int .i64 n6), (8, .int .i64 n6)] [(143, .arr 31 3 (List.map GStamp.lv l2)), (147, .arr 3 1 (List.map (LV.int .i64) l3))] rfl ?_ ?_
        · refine sN (oM (v := (.int _ _)) rfl ?_)
          refine sN (oA (v := (.int _ _)) rfl ?_)
          exact s0 (Wk.to (eC rfl (eC rfl (eC rfl (eC rfl (eC rfl (eC rfl eN)))))) (mC rfl (mC rfl mN)) rfl (prK rfl))
        refine blockN ?_
        refine thenN ?_
        refine LH.loneT [(0, .lst 6 (List.map GRegisterEvent.lv p0)), (4, .arr 143 (List.length l2)), (5, .arr 147 (List.length l3)), (6, .int .i64 n1), (7, .int .i64 n6), (8, .int .i64 (i64 (n6 - 1)))] [(143, .arr 31 3 (List.map GStamp.lv l2)), (147, .arr 3 1 (List.map (LV.int .i64) l3))] rfl ?_ ?_
        · refine sN (oM (v := (.int _ _)) rfl ?_)
          refine sN (oSub rfl rfl ?_)
          refine sN (oA (v := (.int _ _)) rfl ?_)
          exact s0 (Wk.to (eC rfl (eC rfl (eC rfl (eC rfl (eC rfl (eC rfl eN)))))) (mC rfl (mC rfl mN)) rfl (prK rfl))
        exact roundN (e' := Env.of [(0, .lst 6 (List.map GRegisterEvent.lv p0)), (4, .arr 143 (List.length l2)), (5, .arr 147 (List.length l3)), (6, .int .i64 n1), (7, .int .i64 n6), (8, .int .i64 (i64 (n6 - 1)))]) (m' := Mem.of [(143, .arr 31 3 (List.map GStamp.lv l2)), (147, .arr 3 1 (List.map (LV.int .i64) l3))]) (Wk.to (eC rfl (eC rfl (eC rfl (eC rfl (eC rfl (eC rfl eN)))))) (mC rfl (mC rfl mN)) rfl (prK rfl)) ⟨n6, (i64 (n6 - 1)), hrec2 ▸ h, rfl, rfl⟩
      replace h := iteF h hc10
      refine LH.skip ?_
      refine blockN ?_
      refine thenN ?_
      refine LH.wk (Wk.to (el := [(0, .lst 6 (List.map GRegisterEvent.lv p0)), (4, .arr 143 (List.length l2)), (5, .arr 147 (List.length l3)), (6, .int .i64 n1), (7, .int .i64 n5), (8, .int .i64 n6)]) (ml := [(143, .arr 31 3 (List.map GStamp.lv l2)), (147, .arr 3 1 (List.map (LV.int .i64) l3))]) (eC rfl (eC rfl (eC rfl (eC rfl (eC rfl (eC rfl eN)))))) (mC rfl (mC rfl mN)) rfl (prK rfl)) ?_
      refine LH.loneT [(0, .lst 6 (List.map GRegisterEvent.lv p0)), (4, .arr 143 (List.length l2)), (5, .arr 147 (List.length l3)), (6, .int .i64 n1), (7, .int .i64 n5), (8, .int .i64 (i64 (n6 - 1)))] [(143, .arr 31 3 (List.map GStamp.lv l2)), (147, .arr 3 1 (List.map (LV.int .i64) l3))] rfl ?_ ?_
      · refine sN (oM (v := (.int _ _)) rfl ?_)
        refine sN (oSub rfl rfl ?_)
        refine sN (oA (v := (.int _ _)) rfl ?_)
        exact s0 (Wk.to (eC rfl (eC rfl (eC rfl (eC rfl (eC rfl (eC rfl eN)))))) (mC rfl (mC rfl mN)) rfl (prK rfl))
      exact roundN (e' := Env.of [(0, .lst 6 (List.map GRegisterEvent.lv p0)), (4, .arr 143 (List.length l2)), (5, .arr 147 (List.length l3)), (6, .int .i64 n1), (7, .int .i64 n5), (8, .int .i64 (i64 (n6 - 1)))]) (m' := Mem.of [(143, .arr 31 3 (List.map GStamp.lv l2)), (147, .arr 3 1 (List.map (LV.int .i64) l3))]) (Wk.to (eC rfl (eC rfl (eC rfl (eC rfl (eC rfl (eC rfl eN)))))) (mC rfl (mC rfl mN)) rfl (prK rfl)) ⟨n5, (i64 (n6 - 1)), hrec2 ▸ h, rfl, rfl⟩
    replace h := iteF h hc7
    refine LH.exit ?_
    refine thenX ?_
    refine roundX ?_
    refine blockH ?_
    refine thenN ?_
    refine LH.wk (Wk.to (el := [(0, .lst 6 (List.map GRegisterEvent.lv p0)), (4, .arr 143 (List.length l2)), (5, .arr 147 (List.length l3)), (6, .int .i64 n1), (7, .int .i64 n5)]) (ml := [(143, .arr 31 3 (List.map GStamp.lv l2)), (147, .arr 3 1 (List.map (LV.int .i64) l3))]) (eC rfl (eC rfl (eC rfl (eC rfl (eC rfl eN))))) (mC rfl (mC rfl mN)) rfl (prK rfl)) ?_
    obtain ⟨x11, hx11, h⟩ := bindS h
    obtain ⟨v12, hv12, h⟩ := bindS h
    obtain ⟨v13, hv13, h⟩ := bindS h
    refine LH.loneT [(0, .lst 6 (List.map GRegisterEvent.lv p0)), (4, .arr 143 (List.length v12)), (5, .arr 147 (List.length v13)), (6, .int .i64 n1)] [(143, .arr 31 3 (List.map GStamp.lv v12)), (147, .arr 3 1 (List.map (LV.int .i64) v13))] rfl ?_ ?_
    · refine sN (oM (v := (.arr _ _)) rfl ?_)
      refine sN (oM (v := (.lst _ _)) rfl ?_)
      refine sN (oM (v := (.int _ _)) rfl ?_)
      refine sN (oIx (f := GRegisterEvent.lv) te25 tk33 ts33 rfl rfl GRegisterEvent.ok hx11 rfl ?_)
      refine sN (oFaS tf33_0 tk31 ts31 rfl rfl rfl ?_)
      refine sN (oLdA rfl tk31 ta31 ts31 rfl rfl ?_)
      refine sN (oBS (f := GStamp.lv) (ys := [x11.Stamp]) te78 tr31 ts31 rfl rfl rfl GStamp.ok ?_)
      refine sN (oAp (f := GStamp.lv) te78 tr31 ts31 rfl rfl (prN rfl) rfl hv12 ?_)
      refine sN (oM (v := (.arr _ _)) rfl ?_)
      refine sN (oM (v := (.int _ _)) rfl ?_)
      refine sN (oBS (f := (LV.int .i64)) (ys := [n5]) te22 tr3 ts3 rfl rfl rfl okI ?_)
      refine sN (oAp (f := (LV.int .i64)) te22 tr3 ts3 rfl rfl (prN rfl) rfl hv13 ?_)
      refine sN (oA (v := (.arr _ _)) rfl ?_)
      refine sN (oA (v := (.arr _ _)) rfl ?_)
      exact s0 (Wk.to (eC rfl (eC rfl (eC rfl (eC rfl eN)))) (mC rfl (mC rfl mN)) rfl (prK rfl))
    refine blockN ?_
    refine thenN ?_
    refine LH.loneT [(0, .lst 6 (List.map GRegisterEvent.lv p0)), (4, .arr 143 (List.length v12)), (5, .arr 147 (List.length v13)), (6, .int .i64 (i64 (n1 + 1)))] [(143, .arr 31 3 (List.map GStamp.lv v12)), (147, .arr 3 1 (List.map (LV.int .i64) v13))] rfl ?_ ?_
    · refine sN (oM (v := (.int _ _)) rfl ?_)
      refine sN (oAdd rfl rfl ?_)
      refine sN (oA (v := (.int _ _)) rfl ?_)
      exact s0 (Wk.to (eC rfl (eC rfl (eC rfl (eC rfl eN)))) (mC rfl (mC rfl mN)) rfl (prK rfl))
    exact roundN (e' := Env.of [(0, .lst 6 (List.map GRegisterEvent.lv p0)), (4, .arr 143 (List.length v12)), (5, .arr 147 (List.length v13)), (6, .int .i64 (i64 (n1 + 1)))]) (m' := Mem.of [(143, .arr 31 3 (List.map GStamp.lv v12)), (147, .arr 3 1 (List.map (LV.int .i64) v13))]) (Wk.to (eC rfl (eC rfl (eC rfl (eC rfl eN)))) (mC rfl (mC rfl mN)) rfl (prK rfl)) ⟨(i64 (n1 + 1)), v12, v13, hrec1 ▸ h, rfl, rfl⟩
  replace h := iteF h hc4
  refine LH.exit ?_
  refine thenX ?_
  refine roundX ?_
  refine blockH ?_
  refine thenN ?_
  refine LH.wk ((Wk.trans (Wk.to (el := [(0, .lst 6 (List.map GRegisterEvent.lv p0)), (4, .arr 143 (List.length l2)), (5, .arr 147 (List.length l3))]) (ml := [(143, .arr 31 3 (List.map GStamp.lv l2)), (147, .arr 3 1 (List.map (LV.int .i64) l3))]) (eC rfl (eC rfl (eC rfl eN))) (mC rfl (mC rfl mN)) rfl (prK rfl)) (Wk.trans (Wk.frzL (f := GStamp.lv) (el' := [(0, .lst 6 (List.map GRegisterEvent.lv p0)), (4, .lst 3 (List.map GStamp.lv l2)), (5, .arr 147 (List.length l3))]) 143 31 3 l2 rfl rfl (prN rfl) (fK rfl (fZ (fK rfl fN)))) (Wk.trans (Wk.frzL (f := (LV.int .i64)) (el' := [(0, .lst 6 (List.map GRegisterEvent.lv p0)), (4, .lst 3 (List.map GStamp.lv l2)), (5, .lst 1 (List.map (LV.int .i64) l3))]) 147 3 1 l3 rfl rfl (prN rfl) (fK rfl (fK rfl (fZ fN)))) (Wk.to (el := [(0, .lst 6 (List.map GRegisterEvent.lv p0)), (4, .lst 3 (List.map GStamp.lv l2)), (5, .lst 1 (List.map (LV.int .i64) l3))]) (ml := []) (eC rfl (eC rfl (eC rfl eN))) mN rfl (prK rfl)))))) ?_
  obtain ⟨r14, hr14, h⟩ := bindS h
  refine LH.seqT [(0, .lst 6 (List.map GRegisterEvent.lv p0)), (9, .lst 1 (List.map (LV.int .i64) r14.1)), (10, .int .i64 r14.2)] [] rfl ?_ ?_
  · refine sN (oM (v := (.lst _ _)) rfl ?_)
    refine sN (oM (v := (.lst _ _)) rfl ?_)
    refine sN (oCP (args := [.lst 3 (List.map GStamp.lv l2), .lst 1 (List.map (LV.int .i64) l3)]) rfl isF42 rfl (sbR (sbR sbN)) (ref02_Canonical_ok hr14) rfl ?_)
    refine sN (oM (v := (.tup _)) rfl ?_)
    refine sN (oEx rfl rfl ?_)
    refine sN (oEx rfl rfl ?_)
    refine sN (oA (v := (.lst _ _)) rfl ?_)
    refine sN (oA (v := (.int _ _)) rfl ?_)
    exact s0 (Wk.to (eC rfl (eC rfl (eC rfl eN))) mN rfl (prK rfl))
  refine LH.seq ?_
  refine LH.seqT [(0, .lst 6 (List.map GRegisterEvent.lv p0)), (9, .lst 1 (List.map (LV.int .i64) r14.1)), (10, .int .i64 r14.2), (55, .bool (r14.2 != 0))] [] rfl ?_ ?_
  · refine sN (oM (v := (.int _ _)) rfl ?_)
    refine sN (oNe rfl rfl ?_)
    exact s0 (Wk.to (eC rfl (eC rfl (eC rfl (eC rfl eN)))) mN rfl (prK rfl))
  refine LH.cond (t := (r14.2 != 0)) rfl (fun hc15 => ?_) (fun hc15 => ?_)
  · replace h := iteT h hc15
    refine LH.seqT [(2, .nil), (3, .int .i64 r14.2)] [] rfl ?_ ?_
    · refine sN (oM (v := (.int _ _)) rfl ?_)
      refine sN (oA (v := .nil) rfl ?_)
      refine sN (oA (v := (.int _ _)) rfl ?_)
      exact s0 (Wk.to (eC rfl (eC rfl eN)) mN rfl (prK rfl))
    refine LH.ret ?_
    refine thenR ?_
    obtain rfl := Option.some.inj h
    exact retE (congrArg Array.toList Try.results14) (lrT rfl (lrT rfl (lr0 ⟨memN mN, rfl, prK rfl, (Sub.tup (sbL (sbR sbN)))⟩)))
  replace h := iteF h hc15
  refine LH.skip ?_
  refine thenN ?_
  refine LH.wk (Wk.to (el := [(0, .lst 6 (List.map GRegisterEvent.lv p0)), (9, .lst 1 (List.map (LV.int .i64) r14.1))]) (ml := []) (eC rfl (eC rfl eN)) mN rfl (prK rfl)) ?_
  refine LH.seqT [(0, .lst 6 (List.map GRegisterEvent.lv p0)), (9, .lst 1 (List.map (LV.int .i64) r14.1)), (11, .nil)] [] rfl ?_ ?_
  · refine sN (oA (v := .nil) rfl ?_)
    exact s0 (Wk.to (eC rfl (eC rfl (eC rfl eN))) mN rfl (prK rfl))
  refine LH.seq ?_
  refine LH.seqT [(0, .lst 6 (List.map GRegisterEvent.lv p0)), (9, .lst 1 (List.map (LV.int .i64) r14.1)), (11, .nil), (12, .int .i64 0)] [] rfl ?_ ?_
  · refine sN (oA (v := (.int _ _)) rfl ?_)
    exact s0 (Wk.to (eC rfl (eC rfl (eC rfl (eC rfl eN)))) mN rfl (prK rfl))
  refine LH.block ?_
  refine LH.wk ((Wk.trans (Wk.to (el := [(0, .lst 6 (List.map GRegisterEvent.lv p0)), (9, .lst 1 (List.map (LV.int .i64) r14.1)), (11, .nil), (12, .int .i64 0)]) (ml := []) (eC rfl (eC rfl (eC rfl (eC rfl eN)))) mN rfl (prK rfl)) (Wk.trans (Wk.to (el := [(0, .lst 6 (List.map GRegisterEvent.lv p0)), (9, .lst 1 (List.map (LV.int .i64) r14.1)), (11, .nil), (12, .int .i64 0)]) (ml := []) (eC rfl (eC rfl (eC rfl (eC rfl eN)))) mN rfl (prK rfl)) (Wk.trans (Wk.ownL (el' := [(0, .lst 6 (List.map GRegisterEvent.lv p0)), (9, .lst 1 (List.map (LV.int .i64) r14.1)), (11, .arr 172 (List.length ([] : List GRegisterEvent))), (12, .int .i64 0)]) 172 33 6 rfl rfl (wK (wK (wO (wK wN))))) (Wk.to (el := [(0, .lst 6 (List.map GRegisterEvent.lv p0)), (9, .lst 1 (List.map (LV.int .i64) r14.1)), (11, .arr 172 (List.length ([] : List GRegisterEvent))), (12, .int .i64 0)]) (ml := [(172, .arr 33 6 (List.map GRegisterEvent.lv ([] : List GRegisterEvent)))]) (eC rfl (eC rfl (eC rfl (eC rfl eN)))) (mC rfl mN) rfl (prK rfl)))))) ?_
  refine LH.loop (fun n e m => ∃ (n16 : Int) (l17 : List GRegisterEvent), ref16_Canonical_L3 p0 r14 n n16 l17 = some r ∧ e = Env.of [(0, .lst 6 (List.map GRegisterEvent.lv p0)), (9, .lst 1 (List.map (LV.int .i64) r14.1)), (11, .arr 172 (List.length l17)), (12, .int .i64 n16)] ∧ m = Mem.of [(172, .arr 33 6 (List.map GRegisterEvent.lv l17))]) F ⟨0, ([] : List GRegisterEvent), h, rfl, rfl⟩ ?_
  clear h
  rintro n e m ⟨n16, l17, h, rfl, rfl⟩
  rcases n with _ | n
  · cases (show Option.none = some _ from h)
  obtain ⟨rec3, hrec3⟩ : ∃ f, f = ref16_Canonical_L3 p0 r14 n := ⟨_, rfl⟩
  replace h : ref16_Canonical_L3_B p0 r14 rec3 n16 l17 = some r := hrec3 ▸ h
  unfold ref16_Canonical_L3_B at h
  refine LH.seq ?_
  refine LH.seqT [(0, .lst 6 (List.map GRegisterEvent.lv p0)), (9, .lst 1 (List.map (LV.int .i64) r14.1)), (11, .arr 172 (List.length l17)), (12, .int .i64 n16), (60, .bool (decide (n16 < (r14.1.length : Int))))] [(172, .arr 33 6 (List.map GRegisterEvent.lv l17))] rfl ?_ ?_
  · refine sN (oM (v := (.int _ _)) rfl ?_)
    refine sN (oM (v := (.lst _ _)) rfl ?_)
    refine sN (oLnL (f := (LV.int .i64)) te22 rfl ?_)
    refine sN (oLt rfl rfl ?_)
    exact s0 (Wk.to (eC rfl (eC rfl (eC rfl (eC rfl (eC rfl eN))))) (mC rfl mN) rfl (prK rfl))
  refine LH.cond (t := (decide (n16 < (r14.1.length : Int)))) rfl (fun hc18 => ?_) (fun hc18 => ?_)
  · replace h := iteT h hc18
    refine LH.skip ?_
    refine thenN ?_
    refine LH.wk (Wk.to (el := [(0, .lst 6 (List.map GRegisterEvent.lv p0)), (9, .lst 1 (List.map (LV.int .i64) r14.1)), (11, .arr 172 (List.length l17)), (12, .int .i64 n16)]) (ml := [(172, .arr 33 6 (List.map GRegisterEvent.lv l17))]) (eC rfl (eC rfl (eC rfl (eC rfl eN)))) (mC rfl mN) rfl (prK rfl)) ?_
    refine LH.seq ?_
    refine LH.block ?_
    obtain ⟨x19, hx19, h⟩ := bindS h
    obtain ⟨x20, hx20, h⟩ := bindS h
    obtain ⟨v21, hv21, h⟩ := bindS h
    refine LH.loneT [(0, .lst 6 (List.map GRegisterEvent.lv p0)), (9, .lst 1 (List.map (LV.int .i64) r14.1)), (11, .arr 172 (List.length v21)), (12, .int .i64 n16)] [(172, .arr 33 6 (List.map GRegisterEvent.lv v21))] rfl ?_ ?_
    · refine sN (oM (v := (.arr _ _)) rfl ?_)
      refine sN (oM (v := (.lst _ _)) rfl ?_)
      refine sN (oM (v := (.lst _ _)) rfl ?_)
      refine sN (oM (v := (.int _ _)) rfl ?_)
      refine sN (oIx (f := (LV.int .i64)) te22 tk3 ts3 rfl rfl okI hx19 rfl ?_)
      refine sN (oLd rfl tk3 ta3 ?_)
      refine sN (oIx (f := GRegisterEvent.lv) te25 tk33 ts33 rfl rfl GRegisterEvent.ok hx20 rfl ?_)
      refine sN (oLdA rfl tk33 ta33 ts33 rfl rfl ?_)
      refine sN (oBS (f := GRegisterEvent.lv) (ys := [x20]) te25 tr33 ts33 rfl rfl rfl GRegisterEvent.ok ?_)
      refine sN (oAp (f := GRegisterEvent.lv) te25 tr33 ts33 rfl rfl (prN rfl) rfl hv21 ?_)
      refine sN (oA (v := (.arr _ _)) rfl ?_)
      exact s0 (Wk.to (eC rfl (eC rfl (eC rfl (eC rfl eN)))) (mC rfl mN) rfl (prK rfl))
    refine blockN ?_
    refine thenN ?_
    refine LH.loneT [(0, .lst 6 (List.map GRegisterEvent.lv p0)), (9, .lst 1 (List.map (LV.int .i64) r14.1)), (11, .arr 172 (List.length v21)), (12, .int .i64 (i64 (n16 + 1)))] [(172, .arr 33 6 (List.map GRegisterEvent.lv v21))] rfl ?_ ?_
    · refine sN (oM (v := (.int _ _)) rfl ?_)
      refine sN (oAdd rfl rfl ?_)
      refine sN (oA (v := (.int _ _)) rfl ?_)
      exact s0 (Wk.to (eC rfl (eC rfl (eC rfl (eC rfl eN)))) (mC rfl mN) rfl (prK rfl))
    exact roundN (e' := Env.of [(0, .lst 6 (List.map GRegisterEvent.lv p0)), (9, .lst 1 (List.map (LV.int .i64) r14.1)), (11, .arr 172 (List.length v21)), (12, .int .i64 (i64 (n16 + 1)))]) (m' := Mem.of [(172, .arr 33 6 (List.map GRegisterEvent.lv v21))]) (Wk.to (eC rfl (eC rfl (eC rfl (eC rfl eN)))) (mC rfl mN) rfl (prK rfl)) ⟨(i64 (n16 + 1)), v21, hrec3 ▸ h, rfl, rfl⟩
  replace h := iteF h hc18
  refine LH.exit ?_
  refine thenX ?_
  refine roundX ?_
  refine blockH ?_
  refine thenN ?_
  refine LH.wk ((Wk.trans (Wk.to (el := [(11, .arr 172 (List.length l17))]) (ml := [(172, .arr 33 6 (List.map GRegisterEvent.lv l17))]) (eC rfl eN) (mC rfl mN) rfl (prK rfl)) (Wk.trans (Wk.frzL (f := GRegisterEvent.lv) (el' := [(11, .lst 6 (List.map GRegisterEvent.lv l17))]) 172 33 6 l17 rfl rfl (prN rfl) (fZ fN)) (Wk.to (el := [(11, .lst 6 (List.map GRegisterEvent.lv l17))]) (ml := []) (eC rfl eN) mN rfl (prK rfl))))) ?_
  refine LH.seqT [(2, .lst 6 (List.map GRegisterEvent.lv l17)), (3, .int .i64 0)] [] rfl ?_ ?_
  · refine sN (oM (v := (.lst _ _)) rfl ?_)
    refine sN (oA (v := (.lst _ _)) rfl ?_)
    refine sN (oA (v := (.int _ _)) rfl ?_)
    exact s0 (Wk.to (eC rfl (eC rfl eN)) mN rfl (prK rfl))
  refine LH.ret ?_
  obtain rfl := Option.some.inj h
  exact retE (congrArg Array.toList Try.results14) (lrT rfl (lrT rfl (lr0 ⟨memN mN, rfl, prK rfl, (Sub.tup (sbR (sbR sbN)))⟩)))

theorem attendance_Check_ok {F : Nat} {p0 : List GEnrolment} {r : Int} (h : attendance_Check F p0 = some r) : LCall Try.prog 20 [.lst 4 (List.map GEnrolment.lv p0)] (Mem.of []) (.int .i64 r) (Mem.of []) := by
  unfold attendance_Check at h
  refine bodyT Try.func20 rfl (by rw [Try.ntmps20]; exact Nat.le_of_ble_eq_true rfl) ?_
  refine LH.wk (Wk.to (el := [(0, .lst 4 (List.map GEnrolment.lv p0))]) (ml := []) (eC rfl eN) mN rfl (prK rfl)) ?_
  refine LH.seqT [(0, .lst 4 (List.map GEnrolment.lv p0))] [] rfl ?_ ?_
  · refine sN (oA (v := (.int _ _)) rfl ?_)
    exact s0 (Wk.to (eC rfl eN) mN rfl (prK rfl))
  refine LH.seq ?_
  refine LH.seqT [(0, .lst 4 (List.map GEnrolment.lv p0)), (8, .bool (decide ((p0.length : Int) > 60)))] [] rfl ?_ ?_
  · refine sN (oM (v := (.lst _ _)) rfl ?_)
    refine sN (oLnL (f := GEnrolment.lv) te38 rfl ?_)
    refine sN (oGt rfl rfl ?_)
    exact s0 (Wk.to (eC rfl (eC rfl eN)) mN rfl (prK rfl))
  refine LH.cond (t := (decide ((p0.length : Int) > 60))) rfl (fun hc1 => ?_) (fun hc1 => ?_)
  · replace h := iteT h hc1
    refine LH.seqT [(2, .int .i64 3)] [] rfl ?_ ?_
    · refine sN (oA (v := (.int _ _)) rfl ?_)
      exact s0 (Wk.to (eC rfl eN) mN rfl (prK rfl))
    refine LH.ret ?_
    refine thenR ?_
    obtain rfl := Option.some.inj h
    exact retE (congrArg Array.toList Try.results20) (lrT rfl (lr0 ⟨memN mN, rfl, prK rfl, Sub.rfl⟩))
  replace h := iteF h hc1
  refine LH.skip ?_
  refine thenN ?_
  refine LH.wk (Wk.to (el := [(0, .lst 4 (List.map GEnrolment.lv p0))]) (ml := []) (eC rfl eN) mN rfl (prK rfl)) ?_
  refine LH.seq ?_
  refine LH.seqT [(0, .lst 4 (List.map GEnrolment.lv p0)), (9, .lst 4 (List.map GEnrolment.lv p0)), (10, .int .i64 (p0.length : Int)), (11, .int .i64 0)] [] rfl ?_ ?_
  · refine sN (oM (v := (.lst _ _)) rfl ?_)
    refine sN (oLnL (f := GEnrolment.lv) te38 rfl ?_)
    refine sN (oM (v := (.int _ _)) rfl ?_)
    exact s0 (Wk.to (eC rfl (eC rfl (eC rfl (eC rfl eN)))) mN rfl (prK rfl))
  refine LH.block ?_
  refine LH.loop (fun n e m => ∃ (n2 : Int), attendance_Check_L1 F p0 n n2 = some r ∧ e = Env.of [(0, .lst 4 (List.map GEnrolment.lv p0)), (9, .lst 4 (List.map GEnrolment.lv p0)), (10, .int .i64 (p0.length : Int)), (11, .int .i64 n2)] ∧ m = Mem.of []) F ⟨0, h, rfl, rfl⟩ ?_
  clear h
  rintro n e m ⟨n2, h, rfl, rfl⟩
  rcases n with _ | n
  · cases (show Option.none = some _ from h)
  obtain ⟨rec1, hrec1⟩ : ∃ f, f = attendance_Check_L1 F p0 n := ⟨_, rfl⟩
  replace h : attendance_Check_L1_B F p0 rec1 n2 = some r := hrec1 ▸ h
  unfold attendance_Check_L1_B at h
  refine LH.seqT [(0, .lst 4 (List.map GEnrolment.lv p0)), (9, .lst 4 (List.map GEnrolment.lv p0)), (10, .int .i64 (p0.length : Int)), (11, .int .i64 n2), (12, .bool (decide (n2 < (p0.length : Int))))] [] rfl ?_ ?_
  · refine sN (oLt rfl rfl ?_)
    exact s0 (Wk.to (eC rfl (eC rfl (eC rfl (eC rfl (eC rfl eN))))) mN rfl (prK rfl))
  refine LH.seq ?_
  refine LH.cond (t := (decide (n2 < (p0.length : Int)))) rfl (fun hc3 => ?_) (fun hc3 => ?_)
  · replace h := iteT h hc3
    refine LH.skip ?_
    refine thenN ?_
    refine LH.wk (Wk.to (el := [(0, .lst 4 (List.map GEnrolment.lv p0)), (9, .lst 4 (List.map GEnrolment.lv p0)), (10, .int .i64 (p0.length : Int)), (11, .int .i64 n2)]) (ml := []) (eC rfl (eC rfl (eC rfl (eC rfl eN)))) mN rfl (prK rfl)) ?_
    refine LH.seq ?_
    refine LH.block ?_
    obtain ⟨x4, hx4, h⟩ := bindS h
    refine LH.seqT [(0, .lst 4 (List.map GEnrolment.lv p0)), (4, .sptr [.int .i64 x4.Entry.Candidate, .int .i64 x4.Entry.Centre, .int .i64 x4.Entry.Paper, .bool x4.Late]), (9, .lst 4 (List.map GEnrolment.lv p0)), (10, .int .i64 (p0.length : Int)), (11, .int .i64 n2)] [] rfl ?_ ?_
    · refine sN (oIx (f := GEnrolment.lv) te38 tk44 ts44 rfl rfl GEnrolment.ok hx4 rfl ?_)
      refine sN (oLdA rfl tk44 ta44 ts44 rfl rfl ?_)
      refine sN (oAl (id := 104) rfl tz44 rfl rfl ?_)
      refine s_ (oSt rfl rfl rfl tk44 ts44 rfl rfl rfl ?_)
      exact s0 ((Wk.trans (Wk.to (el := [(0, .lst 4 (List.map GEnrolment.lv p0)), (4, .ptr 104 0), (9, .lst 4 (List.map GEnrolment.lv p0)), (10, .int .i64 (p0.length : Int)), (11, .int .i64 n2)]) (ml := [(104, .box [.int .i64 x4.Entry.Candidate, .int .i64 x4.Entry.Centre, .int .i64 x4.Entry.Paper, .bool x4.Late])]) (eC rfl (eC rfl (eC rfl (eC rfl (eC rfl eN))))) (mC rfl mN) rfl (prK rfl)) (Wk.trans (Wk.frzB 104 [.int .i64 x4.Entry.Candidate, .int .i64 x4.Entry.Centre, .int .i64 x4.Entry.Paper, .bool x4.Late] rfl rfl rfl (prN rfl)) (Wk.to (eC rfl (eC rfl (eC rfl (eC rfl (eC rfl eN))))) mN rfl (prK rfl)))))
    refine LH.seqT [(0, .lst 4 (List.map GEnrolment.lv p0)), (9, .lst 4 (List.map GEnrolment.lv p0)), (10, .int .i64 (p0.length : Int)), (11, .int .i64 n2), (36, .bool ((decide (x4.Entry.Candidate < 0)) || ((decide (x4.Entry.Candidate > 9999)) || ((decide (x4.Entry.Centre < 1)) || (decide (x4.Entry.Centre > 99))))))] [] rfl ?_ ?_
    · refine sN (oFaS tf44_0 tk42 ts42 rfl rfl rfl ?_)
      refine sN (oFaS tf42_0 tk3 ts3 rfl rfl rfl ?_)
      refine sN (oLd rfl tk3 ta3 ?_)
      refine sN (oLt rfl rfl ?_)
      refine sN (oM (v := (.bool _)) rfl ?_)
      by_cases hb6 : (decide (x4.Entry.Candidate < 0)) = true
      · refine sF rfl rfl hb6 ?_
        refine sF rfl rfl hb6 ?_
        refine sF rfl rfl hb6 ?_
        refine sF rfl rfl hb6 ?_
        refine sN (oPkT (congrArg LV.bool hb6) (v := (.bool _)) rfl ?_)
        refine sN (oM (v := (.bool _)) rfl ?_)
        refine sF rfl rfl rfl ?_
        refine sF rfl rfl rfl ?_
        refine sF rfl rfl rfl ?_
        refine sF rfl rfl rfl ?_
        refine sN (oPkT rfl (v := (.bool _)) rfl ?_)
        refine sN (oM (v := (.bool _)) rfl ?_)
        refine sF rfl rfl rfl ?_
        refine sF rfl rfl rfl ?_
        refine sF rfl rfl rfl ?_
        refine sF rfl rfl rfl ?_
        refine sN (oPkT rfl (v := (.bool _)) rfl ?_)
        exact s0 (Wk.to (eC rfl (eC rfl (eC rfl (eC rfl (eC (congrArg LV.bool (orT hb6)) eN))))) mN rfl (prK rfl))
      · replace hb6 := bF hb6
        refine sT rfl (congrArg LV.bool hb6) (oFaS tf44_0 tk42 ts42 rfl rfl rfl ?_)
        refine sT rfl (congrArg LV.bool hb6) (oFaS tf42_0 tk3 ts3 rfl rfl rfl ?_)
        refine sT rfl (congrArg LV.bool hb6) (oLd rfl tk3 ta3 ?_)
        refine sT rfl (congrArg LV.bool hb6) (oGt rfl rfl ?_)
        refine sN (oPkF (congrArg LV.bool hb6) (v := (.bool _)) rfl ?_)
        refine sN (oM (v := (.bool _)) rfl ?_)
        by_cases hb7 : (decide (x4.Entry.Candidate > 9999)) = true
        · refine sF rfl rfl hb7 ?_
          refine sF rfl rfl hb7 ?_
          refine sF rfl rfl hb7 ?_
          refine sF rfl rfl hb7 ?_
          refine sN (oPkT (congrArg LV.bool hb7) (v := (.bool _)) rfl ?_)
          refine sN (oM (v := (.bool _)) rfl ?_)
          refine sF rfl rfl rfl ?_
          refine sF rfl rfl rfl ?_
          refine sF rfl rfl rfl ?_
          refine sF rfl rfl rfl ?_
          refine sN (oPkT rfl (v := (.bool _)) rfl ?_)
          exact s0 (Wk.to (eC rfl (eC rfl (eC rfl (eC rfl (eC (congrArg LV.bool (Eq.trans (orT hb7) (orF hb6))) eN))))) mN rfl (prK rfl))
        · replace hb7 := bF hb7
          refine sT rfl (congrArg LV.bool hb7) (oFaS tf44_0 tk42 ts42 rfl rfl rfl ?_)
          refine sT rfl (congrArg LV.bool hb7) (oFaS tf42_1 tk3 ts3 rfl rfl rfl ?_)
          refine sT rfl (congrArg LV.bool hb7) (oLd rfl tk3 ta3 ?_)
          refine sT rfl (congrArg LV.bool hb7) (oLt rfl rfl ?_)
          refine sN (oPkF (congrArg LV.bool hb7) (v := (.bool _)) rfl ?_)
          refine sN (oM (v := (.bool _)) rfl ?_)
          by_cases hb8 : (decide (x4.Entry.Centre < 1)) = true
          · refine sF rfl rfl hb8 ?_
            refine sF rfl rfl hb8 ?_
            refine sF rfl rfl hb8 ?_
            refine sF rfl rfl hb8 ?_
            refine sN (oPkT (congrArg LV.bool hb8) (v := (.bool _)) rfl ?_)
            exact s0 (Wk.to (eC rfl (eC rfl (eC rfl (eC rfl (eC (congrArg LV.bool (Eq.trans (Eq.trans (orT hb8) (orF hb7)) (orF hb6))) eN))))) mN rfl (prK rfl))
          · replace hb8 := bF hb8
            refine sT rfl (congrArg LV.bool hb8) (oFaS tf44_0 tk42 ts42 rfl rfl rfl ?_)
            refine sT rfl (congrArg LV.bool hb8) (oFaS tf42_1 tk3 ts3 rfl rfl rfl ?_)
            refine sT rfl (congrArg LV.bool hb8) (oLd rfl tk3 ta3 ?_)
            refine sT rfl (congrArg LV.bool hb8) (oGt rfl rfl ?_)
            refine sN (oPkF (congrArg LV.bool hb8) (v := (.bool _)) rfl ?_)
            exact s0 (Wk.to (eC rfl (eC rfl (eC rfl (eC rfl (eC (congrArg LV.bool (Eq.trans (Eq.trans (orF hb8) (orF hb7)) (orF hb6))) eN))))) mN rfl (prK rfl))
    refine LH.cond (t := ((decide (x4.Entry.Candidate < 0)) || ((decide (x4.Entry.Candidate > 9999)) || ((decide (x4.Entry.Centre < 1)) || (decide (x4.Entry.Centre > 99)))))) rfl (fun hc9 => ?_) (fun hc9 => ?_)
    · replace h := iteT h hc9
      refine LH.seqT [(2, .int .i64 2)] [] rfl ?_ ?_
      · refine sN (oA (v := (.int _ _)) rfl ?_)
        exact s0 (Wk.to (eC rfl eN) mN rfl (prK rfl))
      refine LH.ret ?_
      refine blockR ?_
      refine thenR ?_
      refine roundR ?_
      refine blockR ?_
      refine thenR ?_
      obtain rfl := Option.some.inj h
      exact retE (congrArg Array.toList Try.results20) (lrT rfl (lr0 ⟨memN mN, rfl, prK rfl, Sub.rfl⟩))
    replace h := iteF h hc9
    refine LH.skip ?_
    refine blockN ?_
    refine thenN ?_
    refine LH.wk (Wk.to (el := [(0, .lst 4 (List.map GEnrolment.lv p0)), (9, .lst 4 (List.map GEnrolment.lv p0)), (10, .int .i64 (p0.length : Int)), (11, .int .i64 n2)]) (ml := []) (eC rfl (eC rfl (eC rfl (eC rfl eN)))) mN rfl (prK rfl)) ?_
    refine LH.loneT [(0, .lst 4 (List.map GEnrolment.lv p0)), (9, .lst 4 (List.map GEnrolment.lv p0)), (10, .int .i64 (p0.length : Int)), (11, .int .i64 (i64 (n2 + 1)))] [] rfl ?_ ?_
    · refine sN (oAdd rfl rfl ?_)
      refine sN (oM (v := (.int _ _)) rfl ?_)
      exact s0 (Wk.to (eC rfl (eC rfl (eC rfl (eC rfl eN)))) mN rfl (prK rfl))
    exact roundN (e' := Env.of [(0, .lst 4 (List.map GEnrolment.lv p0)), (9, .lst 4 (List.map GEnrolment.lv p0)), (10, .int .i64 (p0.length : Int)), (11, .int .i64 (i64 (n2 + 1)))]) (m' := Mem.of []) (Wk.to (eC rfl (eC rfl (eC rfl (eC rfl eN)))) mN rfl (prK rfl)) ⟨(i64 (n2 + 1)), hrec1 ▸ h, rfl, rfl⟩
  replace h := iteF h hc3
  refine LH.exit ?_
  refine thenX ?_
  refine roundX ?_
  refine blockH ?_
  refine thenN ?_
  refine LH.wk (Wk.to (el := [(0, .lst 4 (List.map GEnrolment.lv p0))]) (ml := []) (eC rfl eN) mN rfl (prK rfl)) ?_
  refine LH.seq ?_
  refine LH.seqT [(0, .lst 4 (List.map GEnrolment.lv p0)), (5, .int .i64 1)] [] rfl ?_ ?_
  · refine sN (oA (v := (.int _ _)) rfl ?_)
    exact s0 (Wk.to (eC rfl (eC rfl eN)) mN rfl (prK rfl))
  refine LH.block ?_
  refine LH.loop (fun n e m => ∃ (n10 : Int), attendance_Check_L2 p0 n n10 = some r ∧ e = Env.of [(0, .lst 4 (List.map GEnrolment.lv p0)), (5, .int .i64 n10)] ∧ m = Mem.of []) F ⟨1, h, rfl, rfl⟩ ?_
  clear h
  rintro n e m ⟨n10, h, rfl, rfl⟩
  rcases n with _ | n
  · cases (show Option.none = some _ from h)
  obtain ⟨rec2, hrec2⟩ : ∃ f, f = attendance_Check_L2 p0 n := ⟨_, rfl⟩
  replace h : attendance_Check_L2_B p0 rec2 n10 = some r := hrec2 ▸ h
  unfold attendance_Check_L2_B at h
  refine LH.seq ?_
  refine LH.seqT [(0, .lst 4 (List.map GEnrolment.lv p0)), (5, .int .i64 n10), (41, .bool (decide (n10 < (p0.length : Int))))] [] rfl ?_ ?_
  · refine sN (oM (v := (.int _ _)) rfl ?_)
    refine sN (oM (v := (.lst _ _)) rfl ?_)
    refine sN (oLnL (f := GEnrolment.lv) te38 rfl ?_)
    refine sN (oLt rfl rfl ?_)
    exact s0 (Wk.to (eC rfl (eC rfl (eC rfl eN))) mN rfl (prK rfl))
  refine LH.cond (t := (decide (n10 < (p0.length : Int)))) rfl (fun hc11 => ?_) (fun hc11 => ?_)
  · replace h := iteT h hc11
    refine LH.skip ?_
    refine thenN ?_
    refine LH.wk (Wk.to (el := [(0, .lst 4 (List.map GEnrolment.lv p0)), (5, .int .i64 n10)]) (ml := []) (eC rfl (eC rfl eN)) mN rfl (prK rfl)) ?_
    refine LH.seq ?_
    refine LH.block ?_
    obtain ⟨x12, hx12, h⟩ := bindS h
    obtain ⟨x13, hx13, h⟩ := bindS h
    refine LH.seqJM mixed [] [0, 0, 0, 0, 0, 0, 0, 0, 0, 0, 0, 0, 0, 0] [(0, .lst 4 (List.map GEnrolment.lv p0)), (5, .int .i64 n10), (57, .bool (decide (x12.Entry.Candidate ≥ x13.Entry.Candidate)))] [] rfl rfl (by kernel_rfl) ?_ ?_
    · refine mN0 (oM (v := (.lst _ _)) rfl ⟨rfl, ?_⟩)
      refine mN0 (oM (v := (.int _ _)) rfl ⟨rfl, ?_⟩)
      refine mN0 (oSub rfl rfl ⟨rfl, ?_⟩)
      refine mN0 (oIx (f := GEnrolment.lv) te38 tk44 ts44 rfl rfl GEnrolment.ok hx12 rfl ⟨rfl, ?_⟩)
      refine mN0 (oFaS tf44_0 tk42 ts42 rfl rfl rfl ⟨rfl, ?_⟩)
      refine mN0 (oFaS tf42_0 tk3 ts3 rfl rfl rfl ⟨rfl, ?_⟩)
      refine mN0 (oLd rfl tk3 ta3 ⟨rfl, ?_⟩)
      refine mN0 (oM (v := (.lst _ _)) rfl ⟨rfl, ?_⟩)
      refine mN0 (oM (v := (.int _ _)) rfl ⟨rfl, ?_⟩)
      refine mN0 (oIx (f := GEnrolment.lv) te38 tk44 ts44 rfl rfl GEnrolment.ok hx13 rfl ⟨rfl, ?_⟩)
      refine mN0 (oFaS tf44_0 tk42 ts42 rfl rfl rfl ⟨rfl, ?_⟩)
      refine mN0 (oFaS tf42_0 tk3 ts3 rfl rfl rfl ⟨rfl, ?_⟩)
      refine mN0 (oLd rfl tk3 ta3 ⟨rfl, ?_⟩)
      refine mN0 (oGe rfl rfl ⟨rfl, ?_⟩)
      exact m0 (Wk.to (eC rfl (eC rfl (eC rfl eN))) mN rfl (prK rfl))
    refine LH.cond (t := (decide (x12.Entry.Candidate ≥ x13.Entry.Candidate))) rfl (fun hc14 => ?_) (fun hc14 => ?_)
    · replace h := iteT h hc14
      refine LH.seqT [(2, .int .i64 5)] [] rfl ?_ ?_
      · refine sN (oA (v := (.int _ _)) rfl ?_)
        exact s0 (Wk.to (eC rfl eN) mN rfl (prK rfl))
      refine LH.ret ?_
      refine blockR ?_
      refine thenR ?_
      refine roundR ?_
      refine blockR ?_
      refine thenR ?_
      obtain rfl := Option.some.inj h
      exact retE (congrArg Array.toList Try.results20) (lrT rfl (lr0 ⟨memN mN, rfl, prK rfl, Sub.rfl⟩))
    replace h := iteF h hc14
    refine LH.skip ?_
    refine blockN ?_
    refine thenN ?_
    refine LH.wk (Wk.to (el := [(0, .lst 4 (List.map GEnrolment.lv p0)), (5, .int .i64 n10)]) (ml := []) (eC rfl (eC rfl eN)) mN rfl (prK rfl)) ?_
    refine LH.loneT [(0, .lst 4 (List.map GEnrolment.lv p0)), (5, .int .i64 (i64 (n10 + 1)))] [] rfl ?_ ?_
    · refine sN (oM (v := (.int _ _)) rfl ?_)
      refine sN (oAdd rfl rfl ?_)
      refine sN (oA (v := (.int _ _)) rfl ?_)
      exact s0 (Wk.to (eC rfl (eC rfl eN)) mN rfl (prK rfl))
    exact roundN (e' := Env.of [(0, .lst 4 (List.map GEnrolment.lv p0)), (5, .int .i64 (i64 (n10 + 1)))]) (m' := Mem.of []) (Wk.to (eC rfl (eC rfl eN)) mN rfl (prK rfl)) ⟨(i64 (n10 + 1)), hrec2 ▸ h, rfl, rfl⟩
  replace h := iteF h hc11
  refine LH.exit ?_
  refine thenX ?_
  refine roundX ?_
  refine blockH ?_
  refine thenN ?_
  refine LH.wk (Wk.to (el := []) (ml := []) eN mN rfl (prK rfl)) ?_
  refine LH.seqT [(2, .int .i64 0)] [] rfl ?_ ?_
  · refine sN (oA (v := (.int _ _)) rfl ?_)
    exact s0 (Wk.to (eC rfl eN) mN rfl (prK rfl))
  refine LH.ret ?_
  obtain rfl := Option.some.inj h
  exact retE (congrArg Array.toList Try.results20) (lrT rfl (lr0 ⟨memN mN, rfl, prK rfl, Sub.rfl⟩))

theorem slices_BinarySearchFunc_Enrolment_Enrolment_int_ok {F : Nat} {p0 : List GEnrolment} {p1 : Int} {p2 : (GEnrolment → Int → Option Int)} {r : Int × Bool} {p2_f : Nat} {p2_c : List LV} (p2_i : ∃ fn, Try.prog.funcs[p2_f]? = some fn ∧ (fn.name == "runtime.NumGoroutine") = false ∧ fn.body.isNone = false) (p2_q : LV.pureL p2_c = true) (p2_k : ∀ (x0 : GEnrolment) (x1 : Int) (q : Int), p2 x0 x1 = some q → LCall Try.prog p2_f ([.agg [.int .i64 x0.Entry.Candidate, .int .i64 x0.Entry.Centre, .int .i64 x0.Entry.Paper, .bool x0.Late], .int .i64 x1] ++ p2_c) (Mem.of []) (.int .i64 q) (Mem.of [])) (h : slices_BinarySearchFunc_Enrolment_Enrolment_int F p0 p1 p2 = some r) : LCall Try.prog 54 [.lst 4 (List.map GEnrolment.lv p0), .int .i64 p1, .fn p2_f p2_c] (Mem.of []) (.tup [.int .i64 r.1, .bool r.2]) (Mem.of []) := by
  have p2_p : ∀ {l : List LV}, LV.pureL l = true → LV.pureL (l ++ p2_c) = true := pnC p2_q
  have p2_r : LV.refsL p2_c = [] := refsL_pure p2_q
  unfold slices_BinarySearchFunc_Enrolment_Enrolment_int at h
  refine bodyT Try.func54 rfl (by rw [Try.ntmps54]; exact Nat.le_of_ble_eq_true rfl) ?_
  refine LH.wk (Wk.to (el := [(0, .lst 4 (List.map GEnrolment.lv p0)), (1, .int .i64 p1), (2, .fn p2_f p2_c)]) (ml := []) (eC rfl (eC rfl (eC rfl eN))) mN (by simp [keptRefs, LV.refs, LV.refsL, Env.args, Env.of, Env.put, Env.drop, p2_r]) (prK rfl)) ?_
  refine LH.seqT [(0, .lst 4 (List.map GEnrolment.lv p0)), (1, .int .i64 p1), (2, .fn p2_f p2_c)] [] rfl ?_ ?_
  · refine sN (oA (v := (.int _ _)) rfl ?_)
    refine sN (oA (v := (.bool _)) rfl ?_)
    exact s0 (Wk.to (eC rfl (eC rfl (eC rfl eN))) mN (by simp [keptRefs, LV.refs, LV.refsL, Env.args, Env.of, Env.put, Env.drop, p2_r]) (prK rfl))
  refine LH.seqT [(0, .lst 4 (List.map GEnrolment.lv p0)), (1, .int .i64 p1), (2, .fn p2_f p2_c), (8, .int .i64 (p0.length : Int))] [] rfl ?_ ?_
  · refine sN (oM (v := (.lst _ _)) rfl ?_)
    refine sN (oLnL (f := GEnrolment.lv) te38 rfl ?_)
    refine sN (oA (v := (.int _ _)) rfl ?_)
    exact s0 (Wk.to (eC rfl (eC rfl (eC rfl (eC rfl eN)))) mN (by simp [keptRefs, LV.refs, LV.refsL, Env.args, Env.of, Env.put, Env.drop, p2_r]) (prK rfl))
  refine LH.seqT [(0, .lst 4 (List.map GEnrolment.lv p0)), (1, .int .i64 p1), (2, .fn p2_f p2_c), (8, .int .i64 (p0.length : Int)), (9, .int .i64 0), (10, .int .i64 (p0.length : Int))] [] rfl ?_ ?_
  · refine sN (oM (v := (.int _ _)) rfl ?_)
    refine sN (oA (v := (.int _ _)) rfl ?_)
    refine sN (oA (v := (.int _ _)) rfl ?_)
    exact s0 (Wk.to (eC rfl (eC rfl (eC rfl (eC rfl (eC rfl (eC rfl eN)))))) mN (by simp [keptRefs, LV.refs, LV.refsL, Env.args, Env.of, Env.put, Env.drop, p2_r]) (prK rfl))
  refine LH.seq ?_
  refine LH.block ?_
  refine LH.loop (fun n e m => ∃ (n1 : Int) (n2 : Int), slices_BinarySearchFunc_Enrolment_Enrolment_int_L1 p0 p1 p2 n n1 n2 = some r ∧ e = Env.of [(0, .lst 4 (List.map GEnrolment.lv p0)), (1, .int .i64 p1), (2, .fn p2_f p2_c), (8, .int .i64 (p0.length : Int)), (9, .int .i64 n1), (10, .int .i64 n2)] ∧ m = Mem.of []) F ⟨0, (p0.length : Int), h, rfl, rfl⟩ ?_
  clear h
  rintro n e m ⟨n1, n2, h, rfl, rfl⟩
  rcases n with _ | n
  · cases (show Option.none = some _ from h)
  obtain ⟨rec1, hrec1⟩ : ∃ f, f = slices_BinarySearchFunc_Enrolment_Enrolment_int_L1 p0 p1 p2 n := ⟨_, rfl⟩
  replace h : slices_BinarySearchFunc_Enrolment_Enrolment_int_L1_B p0 p1 p2 rec1 n1 n2 = some r := hrec1 ▸ h
  unfold slices_BinarySearchFunc_Enrolment_Enrolment_int_L1_B at h
  refine LH.seq ?_
  refine LH.seqT [(0, .lst 4 (List.map GEnrolment.lv p0)), (1, .int .i64 p1), (2, .fn p2_f p2_c), (8, .int .i64 (p0.length : Int)), (9, .int .i64 n1), (10, .int .i64 n2), (17, .bool (decide (n1 < n2)))] [] rfl ?_ ?_
  · refine sN (oM (v := (.int _ _)) rfl ?_)
    refine sN (oM (v := (.int _ _)) rfl ?_)
    refine sN (oLt rfl rfl ?_)
    exact s0 (Wk.to (eC rfl (eC rfl (eC rfl (eC rfl (eC rfl (eC rfl (eC rfl eN))))))) mN (by simp [keptRefs, LV.refs, LV.refsL, Env.args, Env.of, Env.put, Env.drop, p2_r]) (prK rfl))
  refine LH.cond (t := (decide (n1 < n2))) rfl (fun hc3 => ?_) (fun hc3 => ?_)
  · replace h := iteT h hc3
    refine LH.skip ?_
    refine thenN ?_
    refine LH.wk (Wk.to (el := [(0, .lst 4 (List.map GEnrolment.lv p0)), (1, .int .i64 p1), (2, .fn p2_f p2_c), (8, .int .i64 (p0.length : Int)), (9, .int .i64 n1), (10, .int .i64 n2)]) (ml := []) (eC rfl (eC rfl (eC rfl (eC rfl (eC rfl (eC rfl eN)))))) mN (by simp [keptRefs, LV.refs, LV.refsL, Env.args, Env.of, Env.put, Env.drop, p2_r]) (prK rfl)) ?_
    refine LH.block ?_
    refine LH.seqT [(0, .lst 4 (List.map GEnrolment.lv p0)), (1, .int .i64 p1), (2, .fn p2_f p2_c), (8, .int .i64 (p0.length : Int)), (9, .int .i64 n1), (10, .int .i64 n2), (11, .int .i64 (i64 (shrI .u64 (IntKind.u64.wrap (i64 (n1 + n2))) 1)))] [] rfl ?_ ?_
    · refine sN (oM (v := (.int _ _)) rfl ?_)
      refine sN (oM (v := (.int _ _)) rfl ?_)
      refine sN (oAdd rfl rfl ?_)
      refine sN (oCv tk3 ti103 rfl ?_)
      refine sX ((ok_shr rfl rfl (by decide)).ok) ?_
      refine sN (oCv tk103 ti3 rfl ?_)
      refine sN (oA (v := (.int _ _)) rfl ?_)
      exact s0 (Wk.to (eC rfl (eC rfl (eC rfl (eC rfl (eC rfl (eC rfl (eC rfl eN))))))) mN (by simp [keptRefs, LV.refs, LV.refsL, Env.args, Env.of, Env.put, Env.drop, p2_r]) (prK rfl))
    obtain ⟨x4, hx4, h⟩ := bindS h
    obtain ⟨r5, hr5, h⟩ := bindS h
    refine LH.seqT [(0, .lst 4 (List.map GEnrolment.lv p0)), (1, .int .i64 p1), (2, .fn p2_f p2_c), (8, .int .i64 (p0.length : Int)), (9, .int .i64 n1), (10, .int .i64 n2), (11, .int .i64 (i64 (shrI .u64 (IntKind.u64.wrap (i64 (n1 + n2))) 1))), (31, .bool (decide (r5 < 0)))] [] rfl ?_ ?_
    · refine sN (oM (v := (.fn _ _)) rfl ?_)
      refine sN (oM (v := (.lst _ _)) rfl ?_)
      refine sN (oM (v := (.int _ _)) rfl ?_)
      refine sN (oIx (f := GEnrolment.lv) te38 tk44 ts44 rfl rfl GEnrolment.ok hx4 rfl ?_)
      refine sN (oLdA rfl tk44 ta44 ts44 rfl rfl ?_)
      refine sN (oM (v := (.int _ _)) rfl ?_)
      refine sN (oCP (args := [.agg [.int .i64 x4.Entry.Candidate, .int .i64 x4.Entry.Centre, .int .i64 x4.Entry.Paper, .bool x4.Late], .int .i64 p1] ++ p2_c) (args' := [.agg [.int .i64 x4.Entry.Candidate, .int .i64 x4.Entry.Centre, .int .i64 x4.Entry.Paper, .bool x4.Late], .int .i64 p1] ++ p2_c) rfl p2_i rfl SubL.rfl (p2_k _ _ _ hr5) (p2_p rfl) ?_)
      refine sN (oLt rfl rfl ?_)
      exact s0 (Wk.to (eC rfl (eC rfl (eC rfl (eC rfl (eC rfl (eC rfl (eC rfl (eC rfl eN)))))))) mN (by simp [keptRefs, LV.refs, LV.refsL, Env.args, Env.of, Env.put, Env.drop, p2_r]) (prK rfl))
    refine LH.cond (t := (decide (r5 < 0))) rfl (fun hc6 => ?_) (fun hc6 => ?_)
    · replace h := iteT h hc6
      refine LH.loneT [(0, .lst 4 (List.map GEnrolment.lv p0)), (1, .int .i64 p1), (2, .fn p2_f p2_c), (8, .int .i64 (p0.length : Int)), (9, .int .i64 (i64 ((i64 (shrI .u64 (IntKind.u64.wrap (i64 (n1 + n2))) 1)) + 1))), (10, .int .i64 n2)] [] rfl ?_ ?_
      · refine sN (oM (v := (.int _ _)) rfl ?_)
        refine sN (oAdd rfl rfl ?_)
        refine sN (oA (v := (.int _ _)) rfl ?_)
        exact s0 (Wk.to (eC rfl (eC rfl (eC rfl (eC rfl (eC rfl (eC rfl eN)))))) mN (by simp [keptRefs, LV.refs, LV.refsL, Env.args, Env.of, Env.put, Env.drop, p2_r]) (prK rfl))
      refine blockN ?_
      exact roundN (e' := Env.of [(0, .lst 4 (List.map GEnrolment.lv p0)), (1, .int .i64 p1), (2, .fn p2_f p2_c), (8, .int .i64 (p0.length : Int)), (9, .int .i64 (i64 ((i64 (shrI .u64 (IntKind.u64.wrap (i64 (n1 + n2))) 1)) + 1))), (10, .int .i64 n2)]) (m' := Mem.of []) (Wk.to (eC rfl (eC rfl (eC rfl (eC rfl (eC rfl (eC rfl eN)))))) mN (by simp [keptRefs, LV.refs, LV.refsL, Env.args, Env.of, Env.put, Env.drop, p2_r]) (prK rfl)) ⟨(i64 ((i64 (shrI .u64 (IntKind.u64.wrap (i64 (n1 + n2))) 1)) + 1)), n2, hrec1 ▸ h, rfl, rfl⟩
    replace h := iteF h hc6
    refine LH.loneT [(0, .lst 4 (List.map GEnrolment.lv p0)), (1, .int .i64 p1), (2, .fn p2_f p2_c), (8, .int .i64 (p0.length : Int)), (9, .int .i64 n1), (10, .int .i64 (i64 (shrI .u64 (IntKind.u64.wrap (i64 (n1 + n2))) 1)))] [] rfl ?_ ?_
    · refine sN (oM (v := (.int _ _)) rfl ?_)
      refine sN (oA (v := (.int _ _)) rfl ?_)
      exact s0 (Wk.to (eC rfl (eC rfl (eC rfl (eC rfl (eC rfl (eC rfl eN)))))) mN (by simp [keptRefs, LV.refs, LV.refsL, Env.args, Env.of, Env.put, Env.drop, p2_r]) (prK rfl))
    refine blockN ?_
    exact roundN (e' := Env.of [(0, .lst 4 (List.map GEnrolment.lv p0)), (1, .int .i64 p1), (2, .fn p2_f p2_c), (8, .int .i64 (p0.length : Int)), (9, .int .i64 n1), (10, .int .i64 (i64 (shrI .u64 (IntKind.u64.wrap (i64 (n1 + n2))) 1)))]) (m' := Mem.of []) (Wk.to (eC rfl (eC rfl (eC rfl (eC rfl (eC rfl (eC rfl eN)))))) mN (by simp [keptRefs, LV.refs, LV.refsL, Env.args, Env.of, Env.put, Env.drop, p2_r]) (prK rfl)) ⟨n1, (i64 (shrI .u64 (IntKind.u64.wrap (i64 (n1 + n2))) 1)), hrec1 ▸ h, rfl, rfl⟩
  replace h := iteF h hc3
  refine LH.exit ?_
  refine thenX ?_
  refine roundX ?_
  refine blockH ?_
  refine thenN ?_
  refine LH.wk (Wk.to (el := [(0, .lst 4 (List.map GEnrolment.lv p0)), (1, .int .i64 p1), (2, .fn p2_f p2_c), (8, .int .i64 (p0.length : Int)), (9, .int .i64 n1)]) (ml := []) (eC rfl (eC rfl (eC rfl (eC rfl (eC rfl eN))))) mN (by simp [keptRefs, LV.refs, LV.refsL, Env.args, Env.of, Env.put, Env.drop, p2_r]) (prK rfl)) ?_
  obtain ⟨w8, hv, h⟩ := bindS h
  refine LH.seqT [(6, .int .i64 n1), (7, .bool w8)] [] rfl ?_ ?_
  · refine sN (oM (v := (.int _ _)) rfl ?_)
    refine sN (oM (v := (.int _ _)) rfl ?_)
    refine sN (oM (v := (.int _ _)) rfl ?_)
    refine sN (oLt rfl rfl ?_)
    refine sN (oM (v := (.bool _)) rfl ?_)
    by_cases hb9 : (decide (n1 < (p0.length : Int))) = true
    · replace hv := iteT hv hb9
      refine sT rfl (congrArg LV.bool hb9) (oM (v := (.fn _ _)) rfl ?_)
      refine sT rfl (congrArg LV.bool hb9) (oM (v := (.lst _ _)) rfl ?_)
      refine sT rfl (congrArg LV.bool hb9) (oM (v := (.int _ _)) rfl ?_)
      obtain ⟨x10, hx10, hv⟩ := bindS hv
      refine sT rfl (congrArg LV.bool hb9) (oIx (f := GEnrolment.lv) te38 tk44 ts44 rfl rfl GEnrolment.ok hx10 rfl ?_)
      refine sT rfl (congrArg LV.bool hb9) (oLdA rfl tk44 ta44 ts44 rfl rfl ?_)
      refine sT rfl (congrArg LV.bool hb9) (oM (v := (.int _ _)) rfl ?_)
      obtain ⟨r11, hr11, hv⟩ := bindS hv
      refine sT rfl (congrArg LV.bool hb9) (oCP (args := [.agg [.int .i64 x10.Entry.Candidate, .int .i64 x10.Entry.Centre, .int .i64 x10.Entry.Paper, .bool x10.Late], .int .i64 p1] ++ p2_c) (args' := [.agg [.int .i64 x10.Entry.Candidate, .int .i64 x10.Entry.Centre, .int .i64 x10.Entry.Paper, .bool x10.Late], .int .i64 p1] ++ p2_c) rfl p2_i rfl SubL.rfl (p2_k _ _ _ hr11) (p2_p rfl) ?_)
      refine sT rfl (congrArg LV.bool hb9) (oEq rfl rfl ?_)
      refine sN (oPkT (congrArg LV.bool hb9) (v := (.bool _)) rfl ?_)
      refine sN (oA (v := (.int _ _)) rfl ?_)
      refine sN (oA (v := (.bool _)) rfl ?_)
      obtain rfl := Option.some.inj hv
      exact s0 (Wk.to (eC rfl (eC rfl eN)) mN (by simp [keptRefs, LV.refs, LV.refsL, Env.args, Env.of, Env.put, Env.drop, p2_r]) (prK rfl))
    · replace hb9 := bF hb9
      replace hv := iteF hv hb9
      refine sF rfl rfl hb9 ?_
      refine sF rfl rfl hb9 ?_
      refine sF rfl rfl hb9 ?_
      refine sF rfl rfl hb9 ?_
      refine sF rfl rfl hb9 ?_
      refine sF rfl rfl hb9 ?_
      refine sF rfl rfl hb9 ?_
      refine sF rfl rfl hb9 ?_
      refine sN (oPkF (congrArg LV.bool hb9) (v := (.bool _)) rfl ?_)
      refine sN (oA (v := (.int _ _)) rfl ?_)
      refine sN (oA (v := (.bool _)) rfl ?_)
      obtain rfl := Option.some.inj hv
      exact s0 (Wk.to (eC rfl (eC rfl eN)) mN (by simp [keptRefs, LV.refs, LV.refsL, Env.args, Env.of, Env.put, Env.drop, p2_r]) (prK rfl))
  clear hv
  refine LH.ret ?_
  obtain rfl := Option.some.inj h
  exact retE (congrArg Array.toList Try.results54) (lrT rfl (lrT rfl (lr0 ⟨memN mN, rfl, prK rfl, (Sub.tup (sbR (sbR sbN)))⟩)))

theorem attendance_step_1_ok {p0 : GEnrolment} {p1 : Int} {r : Int} (h : attendance_step_1 p0 p1 = some r) : LCall Try.prog 55 [.agg [.int .i64 p0.Entry.Candidate, .int .i64 p0.Entry.Centre, .int .i64 p0.Entry.Paper, .bool p0.Late], .int .i64 p1] (Mem.of []) (.int .i64 r) (Mem.of []) := by
  unfold attendance_step_1 at h
  refine bodyT Try.func55 rfl (by rw [Try.ntmps55]; exact Nat.le_of_ble_eq_true rfl) ?_
  refine LH.wk (Wk.to (el := [(0, .agg [.int .i64 p0.Entry.Candidate, .int .i64 p0.Entry.Centre, .int .i64 p0.Entry.Paper, .bool p0.Late]), (1, .int .i64 p1)]) (ml := []) (eC rfl (eC rfl eN)) mN rfl (prK rfl)) ?_
  refine LH.seqT [(1, .int .i64 p1), (2, .sptr [.int .i64 p0.Entry.Candidate, .int .i64 p0.Entry.Centre, .int .i64 p0.Entry.Paper, .bool p0.Late])] [] rfl ?_ ?_
  · refine sB (oBxR rfl rfl rfl rfl ?_)
    refine sN (oA (v := (.int _ _)) rfl ?_)
    exact s0 (Wk.to (eC rfl (eC rfl eN)) mN rfl (prK rfl))
  obtain ⟨r1, hr1, h⟩ := bindS h
  refine LH.seqT [(4, .int .i64 r1)] [] rfl ?_ ?_
  · refine sN (oFaS tf44_0 tk42 ts42 rfl rfl rfl ?_)
    refine sN (oFaS tf42_0 tk3 ts3 rfl rfl rfl ?_)
    refine sN (oLd rfl tk3 ta3 ?_)
    refine sN (oM (v := (.int _ _)) rfl ?_)
    refine sN (oCP (args := [.int .i64 p0.Entry.Candidate, .int .i64 p1]) rfl isF56 rfl (sbR (sbR sbN)) (cmp_Compare_int_ok hr1) rfl ?_)
    refine sN (oA (v := (.int _ _)) rfl ?_)
    exact s0 (Wk.to (eC rfl eN) mN rfl (prK rfl))
  refine LH.ret ?_
  obtain rfl := Option.some.inj h
  exact retE (congrArg Array.toList Try.results55) (lrT rfl (lr0 ⟨memN mN, rfl, prK rfl, Sub.rfl⟩))

theorem attendance_register_present_len {p0 : List GAttendance} {p0i : Int} {p1 : Int} : LenP (attendance_register_present p0 p0i p1) (List.length p0) := by
  unfold attendance_register_present
  repeat' first
    | exact lenN
    | exact lenR (by simp [*])
    | (refine lenI ?_ ?_)
    | (refine lenBK ?_ fun _ _ => ?_)
    | (refine lenB fun _ => ?_)
theorem attendance_register_present_ok {p0 : List GAttendance} {p0i : Int} {p1 : Int} {r : Int × List GAttendance} (h : attendance_register_present p0 p0i p1 = some r) : LCall Try.prog 66 [.agg [.eptr 8 (List.length p0) (p0i).toNat 0], .int .i64 p1] (Mem.of [(8, .nest 54 5 [(4, 3, 1)] (List.map GAttendance.lv p0))]) (.int .i64 r.1) (Mem.of [(8, .nest 54 5 [(4, 3, 1)] (List.map GAttendance.lv r.2))]) := by
  unfold attendance_register_present at h
  obtain ⟨x1, hx1, h⟩ := bindS h
  refine bodyT Try.func66 rfl (by rw [Try.ntmps66]; exact Nat.le_of_ble_eq_true rfl) ?_
  refine LH.wk (Wk.to (el := [(0, .agg [.eptr 8 (List.length p0) (p0i).toNat 0])]) (ml := [(8, .nest 54 5 [(4, 3, 1)] ((List.map GAttendance.lv p0).set (p0i).toNat (.agg [.int .i64 x1.Candidate, .int .i64 x1.State, .int .i64 x1.Late, .int .i64 x1.Left, .lst 1 (List.map (LV.int .i64) x1.Incidents)])))]) (eC rfl eN) (mC (focN hx1) mN) rfl (prK rfl)) ?_
  refine LH.seqT [(2, .sptr [.eptr 8 (List.length p0) (p0i).toNat 0])] [(8, .nest 54 5 [(4, 3, 1)] ((List.map GAttendance.lv p0).set (p0i).toNat (.agg [.int .i64 x1.Candidate, .int .i64 x1.State, .int .i64 x1.Late, .int .i64 x1.Left, .lst 1 (List.map (LV.int .i64) x1.Incidents)])))] rfl ?_ ?_
  · refine sB (oBxR rfl rfl rfl rfl ?_)
    refine sN (oA (v := (.int _ _)) rfl ?_)
    exact s0 (Wk.to (eC rfl eN) (mC rfl mN) rfl (prK rfl))
  refine LH.seqJM mixed [] [0, 0, 0, 0, 0, 0, 3, 3, 3, 3, 3, 3, 3, 3, 3] [] [(8, .nest 54 5 [(4, 3, 1)] ((List.map GAttendance.lv p0).set (p0i).toNat (.agg [.int .i64 x1.Candidate, .int .i64 1, .int .i64 (-1), .int .i64 (-1), .lst 1 (List.map (LV.int .i64) x1.Incidents)])))] rfl rfl (by kernel_rfl) ?_ ?_
  · refine mN0 (oFaS tf93_0 tk91 ts91 rfl rfl rfl ⟨rfl, ?_⟩)
    refine mN0 (oLd rfl tk91 ta91 ⟨rfl, ?_⟩)
    refine mN0 (oFaS tf93_0 tk91 ts91 rfl rfl rfl ⟨rfl, ?_⟩)
    refine mN0 (oLd rfl tk91 ta91 ⟨rfl, ?_⟩)
    refine mN0 (oFaS tf93_0 tk91 ts91 rfl rfl rfl ⟨rfl, ?_⟩)
    refine mN0 (oLd rfl tk91 ta91 ⟨rfl, ?_⟩)
    refine mX (ok_ncN rfl rfl (by simp) (focAt hx1)) ?_
    refine mX (ok_faN tf54_1 tk3 ts3 rfl rfl (by simp) (focAt hx1)) ?_
    refine mX_ (ok_s1F (ls := List.map GAttendance.lv p0) (cs := [.int .i64 x1.Candidate, .int .i64 x1.State, .int .i64 x1.Late, .int .i64 x1.Left, .lst 1 (List.map (LV.int .i64) x1.Incidents)]) (cs' := [.int .i64 x1.Candidate, .int .i64 1, .int .i64 x1.Late, .int .i64 x1.Left, .lst 1 (List.map (LV.int .i64) x1.Incidents)]) rfl rfl (by simp) (focAt hx1) rfl rfl rfl rfl rfl tk3 ts3 rfl) ?_
    refine mX (ok_ncN rfl rfl (by simp) (focAt hx1)) ?_
    refine mX (ok_faN tf54_2 tk3 ts3 rfl rfl (by simp) (focAt hx1)) ?_
    refine mX_ (ok_s1F (ls := List.map GAttendance.lv p0) (cs := [.int .i64 x1.Candidate, .int .i64 1, .int .i64 x1.Late, .int .i64 x1.Left, .lst 1 (List.map (LV.int .i64) x1.Incidents)]) (cs' := [.int .i64 x1.Candidate, .int .i64 1, .int .i64 (-1), .int .i64 x1.Left, .lst 1 (List.map (LV.int .i64) x1.Incidents)]) rfl rfl (by simp) (focAt hx1) rfl rfl rfl rfl rfl tk3 ts3 rfl) ?_
    refine mX (ok_ncN rfl rfl (by simp) (focAt hx1)) ?_
    refine mX (ok_faN tf54_3 tk3 ts3 rfl rfl (by simp) (focAt hx1)) ?_
    refine mX_ (ok_s1F (ls := List.map GAttendance.lv p0) (cs := [.int .i64 x1.Candidate, .int .i64 1, .int .i64 (-1), .int .i64 x1.Left, .lst 1 (List.map (LV.int .i64) x1.Incidents)]) (cs' := [.int .i64 x1.Candidate, .int .i64 1, .int .i64 (-1), .int .i64 (-1), .lst 1 (List.map (LV.int .i64) x1.Incidents)]) rfl rfl (by simp) (focAt hx1) rfl rfl rfl rfl rfl tk3 ts3 rfl) ?_
    exact m0 (Wk.to eN (mC rfl mN) rfl (prK rfl))
  refine LH.seqT [(4, .int .i64 0)] [(8, .nest 54 5 [(4, 3, 1)] ((List.map GAttendance.lv p0).set (p0i).toNat (.agg [.int .i64 x1.Candidate, .int .i64 1, .int .i64 (-1), .int .i64 (-1), .lst 1 (List.map (LV.int .i64) x1.Incidents)])))] rfl ?_ ?_
  · refine sN (oA (v := (.int _ _)) rfl ?_)
    exact s0 (Wk.to (eC rfl eN) (mC rfl mN) rfl (prK rfl))
  refine LH.ret ?_
  obtain rfl := Option.some.inj h
  exact retE (congrArg Array.toList Try.results66) (lrT rfl (lr0 ⟨memN (mC (unfN rfl rfl) mN), rfl, prK rfl, Sub.rfl⟩))

theorem attendance_register_absent_len {p0 : List GAttendance} {p0i : Int} {p1 : Int} : LenP (attendance_register_absent p0 p0i p1) (List.length p0) := by
  unfold attendance_register_absent
  repeat' first
    | exact lenN
    | exact lenR (by simp [*])
    | (refine lenI ?_ ?_)
    | (refine lenBK ?_ fun _ _ => ?_)
    | (refine lenB fun _ => ?_)
theorem attendance_register_absent_ok {p0 : List GAttendance} {p0i : Int} {p1 : Int} {r : Int × List GAttendance} (h : attendance_register_absent p0 p0i p1 = some r) : LCall Try.prog 67 [.agg [.eptr 8 (List.length p0) (p0i).toNat 0], .int .i64 p1] (Mem.of [(8, .nest 54 5 [(4, 3, 1)] (List.map GAttendance.lv p0))]) (.int .i64 r.1) (Mem.of [(8, .nest 54 5 [(4, 3, 1)] (List.map GAttendance.lv r.2))]) := by
  unfold attendance_register_absent at h
  obtain ⟨x1, hx1, h⟩ := bindS h
  refine bodyT Try.func67 rfl (by rw [Try.ntmps67]; exact Nat.le_of_ble_eq_true rfl) ?_
  refine LH.wk (Wk.to (el := [(0, .agg [.eptr 8 (List.length p0) (p0i).toNat 0])]) (ml := [(8, .nest 54 5 [(4, 3, 1)] ((List.map GAttendance.lv p0).set (p0i).toNat (.agg [.int .i64 x1.Candidate, .int .i64 x1.State, .int .i64 x1.Late, .int .i64 x1.Left, .lst 1 (List.map (LV.int .i64) x1.Incidents)])))]) (eC rfl eN) (mC (focN hx1) mN) rfl (prK rfl)) ?_
  refine LH.seqT [(2, .sptr [.eptr 8 (List.length p0) (p0i).toNat 0])] [(8, .nest 54 5 [(4, 3, 1)] ((List.map GAttendance.lv p0).set (p0i).toNat (.agg [.int .i64 x1.Candidate, .int .i64 x1.State, .int .i64 x1.Late, .int .i64 x1.Left, .lst 1 (List.map (LV.int .i64) x1.Incidents)])))] rfl ?_ ?_
  · refine sB (oBxR rfl rfl rfl rfl ?_)
    refine sN (oA (v := (.int _ _)) rfl ?_)
    exact s0 (Wk.to (eC rfl eN) (mC rfl mN) rfl (prK rfl))
  refine LH.seqJM mixed [] [0, 0, 0, 0, 0, 0, 3, 3, 3, 3, 3, 3, 3, 3, 3] [] [(8, .nest 54 5 [(4, 3, 1)] ((List.map GAttendance.lv p0).set (p0i).toNat (.agg [.int .i64 x1.Candidate, .int .i64 2, .int .i64 (-1), .int .i64 (-1), .lst 1 (List.map (LV.int .i64) x1.Incidents)])))] rfl rfl (by kernel_rfl) ?_ ?_
  · refine mN0 (oFaS tf93_0 tk91 ts91 rfl rfl rfl ⟨rfl, ?_⟩)
    refine mN0 (oLd rfl tk91 ta91 ⟨rfl, ?_⟩)
    refine mN0 (oFaS tf93_0 tk91 ts91 rfl rfl rfl ⟨rfl, ?_⟩)
    refine mN0 (oLd rfl tk91 ta91 ⟨rfl, ?_⟩)
    refine mN0 (oFaS tf93_0 tk91 ts91 rfl rfl rfl ⟨rfl, ?_⟩)
    refine mN0 (oLd rfl tk91 ta91 ⟨rfl, ?_⟩)
    refine mX (ok_ncN rfl rfl (by simp) (focAt hx1)) ?_
    refine mX (ok_faN tf54_1 tk3 ts3 rfl rfl (by simp) (focAt hx1)) ?_
    refine mX_ (ok_s1F (ls := List.map GAttendance.lv p0) (cs := [.int .i64 x1.Candidate, .int .i64 x1.State, .int .i64 x1.Late, .int .i64 x1.Left, .lst 1 (List.map (LV.int .i64) x1.Incidents)]) (cs' := [.int .i64 x1.Candidate, .int .i64 2, .int .i64 x1.Late, .int .i64 x1.Left, .lst 1 (List.map (LV.int .i64) x1.Incidents)]) rfl rfl (by simp) (focAt hx1) rfl rfl rfl rfl rfl tk3 ts3 rfl) ?_
    refine mX (ok_ncN rfl rfl (by simp) (focAt hx1)) ?_
    refine mX (ok_faN tf54_2 tk3 ts3 rfl rfl (by simp) (focAt hx1)) ?_
    refine mX_ (ok_s1F (ls := List.map GAttendance.lv p0) (cs := [.int .i64 x1.Candidate, .int .i64 2, .int .i64 x1.Late, .int .i64 x1.Left, .lst 1 (List.map (LV.int .i64) x1.Incidents)]) (cs' := [.int .i64 x1.Candidate, .int .i64 2, .int .i64 (-1), .int .i64 x1.Left, .lst 1 (List.map (LV.int .i64) x1.Incidents)]) rfl rfl (by simp) (focAt hx1) rfl rfl rfl rfl rfl tk3 ts3 rfl) ?_
    refine mX (ok_ncN rfl rfl (by simp) (focAt hx1)) ?_
    refine mX (ok_faN tf54_3 tk3 ts3 rfl rfl (by simp) (focAt hx1)) ?_
    refine mX_ (ok_s1F (ls := List.map GAttendance.lv p0) (cs := [.int .i64 x1.Candidate, .int .i64 2, .int .i64 (-1), .int .i64 x1.Left, .lst 1 (List.map (LV.int .i64) x1.Incidents)]) (cs' := [.int .i64 x1.Candidate, .int .i64 2, .int .i64 (-1), .int .i64 (-1), .lst 1 (List.map (LV.int .i64) x1.Incidents)]) rfl rfl (by simp) (focAt hx1) rfl rfl rfl rfl rfl tk3 ts3 rfl) ?_
    exact m0 (Wk.to eN (mC rfl mN) rfl (prK rfl))
  refine LH.seqT [(4, .int .i64 0)] [(8, .nest 54 5 [(4, 3, 1)] ((List.map GAttendance.lv p0).set (p0i).toNat (.agg [.int .i64 x1.Candidate, .int .i64 2, .int .i64 (-1), .int .i64 (-1), .lst 1 (List.map (LV.int .i64) x1.Incidents)])))] rfl ?_ ?_
  · refine sN (oA (v := (.int _ _)) rfl ?_)
    exact s0 (Wk.to (eC rfl eN) (mC rfl mN) rfl (prK rfl))
  refine LH.ret ?_
  obtain rfl := Option.some.inj h
  exact retE (congrArg Array.toList Try.results67) (lrT rfl (lr0 ⟨memN (mC (unfN rfl rfl) mN), rfl, prK rfl, Sub.rfl⟩))

theorem attendance_register_late_len {p0 : List GAttendance} {p0i : Int} {p1 : Int} : LenP (attendance_register_late p0 p0i p1) (List.length p0) := by
  unfold attendance_register_late
  repeat' first
    | exact lenN
    | exact lenR (by simp [*])
    | (refine lenI ?_ ?_)
    | (refine lenBK ?_ fun _ _ => ?_)
    | (refine lenB fun _ => ?_)
theorem attendance_register_late_ok {p0 : List GAttendance} {p0i : Int} {p1 : Int} {r : Int × List GAttendance} (h : attendance_register_late p0 p0i p1 = some r) : LCall Try.prog 68 [.agg [.eptr 8 (List.length p0) (p0i).toNat 0], .int .i64 p1] (Mem.of [(8, .nest 54 5 [(4, 3, 1)] (List.map GAttendance.lv p0))]) (.int .i64 r.1) (Mem.of [(8, .nest 54 5 [(4, 3, 1)] (List.map GAttendance.lv r.2))]) := by
  unfold attendance_register_late at h
  obtain ⟨x1, hx1, h⟩ := bindS h
  refine bodyT Try.func68 rfl (by rw [Try.ntmps68]; exact Nat.le_of_ble_eq_true rfl) ?_
  refine LH.wk (Wk.to (el := [(0, .agg [.eptr 8 (List.length p0) (p0i).toNat 0]), (1, .int .i64 p1)]) (ml := [(8, .nest 54 5 [(4, 3, 1)] ((List.map GAttendance.lv p0).set (p0i).toNat (.agg [.int .i64 x1.Candidate, .int .i64 x1.State, .int .i64 x1.Late, .int .i64 x1.Left, .lst 1 (List.map (LV.int .i64) x1.Incidents)])))]) (eC rfl (eC rfl eN)) (mC (focN hx1) mN) rfl (prK rfl)) ?_
  refine LH.seqT [(1, .int .i64 p1), (2, .sptr [.eptr 8 (List.length p0) (p0i).toNat 0])] [(8, .nest 54 5 [(4, 3, 1)] ((List.map GAttendance.lv p0).set (p0i).toNat (.agg [.int .i64 x1.Candidate, .int .i64 x1.State, .int .i64 x1.Late, .int .i64 x1.Left, .lst 1 (List.map (LV.int .i64) x1.Incidents)])))] rfl ?_ ?_
  · refine sB (oBxR rfl rfl rfl rfl ?_)
    refine sN (oA (v := (.int _ _)) rfl ?_)
    exact s0 (Wk.to (eC rfl (eC rfl eN)) (mC rfl mN) rfl (prK rfl))
  refine LH.seqJM mixed [] [0, 0, 0, 0, 0, 3, 3, 3, 3, 3, 3] [] [(8, .nest 54 5 [(4, 3, 1)] ((List.map GAttendance.lv p0).set (p0i).toNat (.agg [.int .i64 x1.Candidate, .int .i64 1, .int .i64 p1, .int .i64 x1.Left, .lst 1 (List.map (LV.int .i64) x1.Incidents)])))] rfl rfl (by kernel_rfl) ?_ ?_
  · refine mN0 (oFaS tf93_0 tk91 ts91 rfl rfl rfl ⟨rfl, ?_⟩)
    refine mN0 (oLd rfl tk91 ta91 ⟨rfl, ?_⟩)
    refine mN0 (oFaS tf93_0 tk91 ts91 rfl rfl rfl ⟨rfl, ?_⟩)
    refine mN0 (oLd rfl tk91 ta91 ⟨rfl, ?_⟩)
    refine mN0 (oM (v := (.int _ _)) rfl ⟨rfl, ?_⟩)
    refine mX (ok_ncN rfl rfl (by simp) (focAt hx1)) ?_
    refine mX (ok_faN tf54_1 tk3 ts3 rfl rfl (by simp) (focAt hx1)) ?_
    refine mX_ (ok_s1F (ls := List.map GAttendance.lv p0) (cs := [.int .i64 x1.Candidate, .int .i64 x1.State, .int .i64 x1.Late, .int .i64 x1.Left, .lst 1 (List.map (LV.int .i64) x1.Incidents)]) (cs' := [.int .i64 x1.Candidate, .int .i64 1, .int .i64 x1.Late, .int .i64 x1.Left, .lst 1 (List.map (LV.int .i64) x1.Incidents)]) rfl rfl (by simp) (focAt hx1) rfl rfl rfl rfl rfl tk3 ts3 rfl) ?_
    refine mX (ok_ncN rfl rfl (by simp) (focAt hx1)) ?_
    refine mX (ok_faN tf54_2 tk3 ts3 rfl rfl (by simp) (focAt hx1)) ?_
    refine mX_ (ok_s1F (ls := List.map GAttendance.lv p0) (cs := [.int .i64 x1.Candidate, .int .i64 1, .int .i64 x1.Late, .int .i64 x1.Left, .lst 1 (List.map (LV.int .i64) x1.Incidents)]) (cs' := [.int .i64 x1.Candidate, .int .i64 1, .int .i64 p1, .int .i64 x1.Left, .lst 1 (List.map (LV.int .i64) x1.Incidents)]) rfl rfl (by simp) (focAt hx1) rfl rfl rfl rfl rfl tk3 ts3 rfl) ?_
    exact m0 (Wk.to eN (mC rfl mN) rfl (prK rfl))
  refine LH.seqT [(4, .int .i64 0)] [(8, .nest 54 5 [(4, 3, 1)] ((List.map GAttendance.lv p0).set (p0i).toNat (.agg [.int .i64 x1.Candidate, .int .i64 1, .int .i64 p1, .int .i64 x1.Left, .lst 1 (List.map (LV.int .i64) x1.Incidents)])))] rfl ?_ ?_
  · refine sN (oA (v := (.int _ _)) rfl ?_)
    exact s0 (Wk.to (eC rfl eN) (mC rfl mN) rfl (prK rfl))
  refine LH.ret ?_
  obtain rfl := Option.some.inj h
  exact retE (congrArg Array.toList Try.results68) (lrT rfl (lr0 ⟨memN (mC (unfN rfl rfl) mN), rfl, prK rfl, Sub.rfl⟩))

theorem attendance_register_left_len {p0 : List GAttendance} {p0i : Int} {p1 : Int} : LenP (attendance_register_left p0 p0i p1) (List.length p0) := by
  unfold attendance_register_left
  repeat' first
    | exact lenN
    | exact lenR (by simp [*])
    | (refine lenI ?_ ?_)
    | (refine lenBK ?_ fun _ _ => ?_)
    | (refine lenB fun _ => ?_)
theorem attendance_register_left_ok {p0 : List GAttendance} {p0i : Int} {p1 : Int} {r : Int × List GAttendance} (h : attendance_register_left p0 p0i p1 = some r) : LCall Try.prog 69 [.agg [.eptr 8 (List.length p0) (p0i).toNat 0], .int .i64 p1] (Mem.of [(8, .nest 54 5 [(4, 3, 1)] (List.map GAttendance.lv p0))]) (.int .i64 r.1) (Mem.of [(8, .nest 54 5 [(4, 3, 1)] (List.map GAttendance.lv r.2))]) := by
  unfold attendance_register_left at h
  obtain ⟨x1, hx1, h⟩ := bindS h
  refine bodyT Try.func69 rfl (by rw [Try.ntmps69]; exact Nat.le_of_ble_eq_true rfl) ?_
  refine LH.wk (Wk.to (el := [(0, .agg [.eptr 8 (List.length p0) (p0i).toNat 0]), (1, .int .i64 p1)]) (ml := [(8, .nest 54 5 [(4, 3, 1)] ((List.map GAttendance.lv p0).set (p0i).toNat (.agg [.int .i64 x1.Candidate, .int .i64 x1.State, .int .i64 x1.Late, .int .i64 x1.Left, .lst 1 (List.map (LV.int .i64) x1.Incidents)])))]) (eC rfl (eC rfl eN)) (mC (focN hx1) mN) rfl (prK rfl)) ?_
  refine LH.seqT [(1, .int .i64 p1), (2, .sptr [.eptr 8 (List.length p0) (p0i).toNat 0])] [(8, .nest 54 5 [(4, 3, 1)] ((List.map GAttendance.lv p0).set (p0i).toNat (.agg [.int .i64 x1.Candidate, .int .i64 x1.State, .int .i64 x1.Late, .int .i64 x1.Left, .lst 1 (List.map (LV.int .i64) x1.Incidents)])))] rfl ?_ ?_
  · refine sB (oBxR rfl rfl rfl rfl ?_)
    refine sN (oA (v := (.int _ _)) rfl ?_)
    exact s0 (Wk.to (eC rfl (eC rfl eN)) (mC rfl mN) rfl (prK rfl))
  refine LH.seq ?_
  refine LH.seqT [(1, .int .i64 p1), (2, .sptr [.eptr 8 (List.length p0) (p0i).toNat 0]), (10, .bool (x1.State != 1))] [(8, .nest 54 5 [(4, 3, 1)] ((List.map GAttendance.lv p0).set (p0i).toNat (.agg [.int .i64 x1.Candidate, .int .i64 x1.State, .int .i64 x1.Late, .int .i64 x1.Left, .lst 1 (List.map (LV.int .i64) x1.Incidents)])))] rfl ?_ ?_
  · refine sN (oFaS tf93_0 tk91 ts91 rfl rfl rfl ?_)
    refine sN (oLd rfl tk91 ta91 ?_)
    refine sX ((ok_ncN rfl rfl (by simp) (focAt hx1)).ok) ?_
    refine sX ((ok_faN tf54_1 tk3 ts3 rfl rfl (by simp) (focAt hx1)).ok) ?_
    refine sX ((ok_ldN (cs := [.int .i64 x1.Candidate, .int .i64 x1.State, .int .i64 x1.Late, .int .i64 x1.Left, .lst 1 (List.map (LV.int .i64) x1.Incidents)]) rfl rfl (by simp) (focAt hx1) rfl rfl tk3 ta3).ok) ?_
    refine sN (oNe rfl rfl ?_)
    exact s0 (Wk.to (eC rfl (eC rfl (eC rfl eN))) (mC rfl mN) rfl (prK rfl))
  refine LH.cond (t := (x1.State != 1)) rfl (fun hc2 => ?_) (fun hc2 => ?_)
  · replace h := iteT h hc2
    refine LH.seqT [(4, .int .i64 8)] [(8, .nest 54 5 [(4, 3, 1)] ((List.map GAttendance.lv p0).set (p0i).toNat (.agg [.int .i64 x1.Candidate, .int .i64 x1.State, .int .i64 x1.Late, .int .i64 x1.Left, .lst 1 (List.map (LV.int .i64) x1.Incidents)])))] rfl ?_ ?_
    · refine sN (oA (v := (.int _ _)) rfl ?_)
      exact s0 (Wk.to (eC rfl eN) (mC rfl mN) rfl (prK rfl))
    refine LH.ret ?_
    refine thenR ?_
    obtain rfl := Option.some.inj h
    exact retE (congrArg Array.toList Try.results69) (lrT rfl (lr0 ⟨memN (mC (unfN rfl rfl) mN), rfl, prK rfl, Sub.rfl⟩))
  replace h := iteF h hc2
  refine LH.skip ?_
  refine thenN ?_
  refine LH.wk (Wk.to (el := [(1, .int .i64 p1), (2, .sptr [.eptr 8 (List.length p0) (p0i).toNat 0])]) (ml := [(8, .nest 54 5 [(4, 3, 1)] ((List.map GAttendance.lv p0).set (p0i).toNat (.agg [.int .i64 x1.Candidate, .int .i64 x1.State, .int .i64 x1.Late, .int .i64 x1.Left, .lst 1 (List.map (LV.int .i64) x1.Incidents)])))]) (eC rfl (eC rfl eN)) (mC rfl mN) rfl (prK rfl)) ?_
  refine LH.seqT [] [(8, .nest 54 5 [(4, 3, 1)] ((List.map GAttendance.lv p0).set (p0i).toNat (.agg [.int .i64 x1.Candidate, .int .i64 x1.State, .int .i64 x1.Late, .int .i64 p1, .lst 1 (List.map (LV.int .i64) x1.Incidents)])))] rfl ?_ ?_
  · refine sN (oFaS tf93_0 tk91 ts91 rfl rfl rfl ?_)
    refine sN (oLd rfl tk91 ta91 ?_)
    refine sN (oM (v := (.int _ _)) rfl ?_)
    refine sX ((ok_ncN rfl rfl (by simp) (focAt hx1)).ok) ?_
    refine sX ((ok_faN tf54_3 tk3 ts3 rfl rfl (by simp) (focAt hx1)).ok) ?_
    refine sX_ ((ok_s1F (ls := List.map GAttendance.lv p0) (cs := [.int .i64 x1.Candidate, .int .i64 x1.State, .int .i64 x1.Late, .int .i64 x1.Left, .lst 1 (List.map (LV.int .i64) x1.Incidents)]) (cs' := [.int .i64 x1.Candidate, .int .i64 x1.State, .int .i64 x1.Late, .int .i64 p1, .lst 1 (List.map (LV.int .i64) x1.Incidents)]) rfl rfl (by simp) (focAt hx1) rfl rfl rfl rfl rfl tk3 ts3 rfl).ok) ?_
    exact s0 (Wk.to eN (mC rfl mN) rfl (prK rfl))
  refine LH.seqT [(4, .int .i64 0)] [(8, .nest 54 5 [(4, 3, 1)] ((List.map GAttendance.lv p0).set (p0i).toNat (.agg [.int .i64 x1.Candidate, .int .i64 x1.State, .int .i64 x1.Late, .int .i64 p1, .lst 1 (List.map (LV.int .i64) x1.Incidents)])))] rfl ?_ ?_
  · refine sN (oA (v := (.int _ _)) rfl ?_)
    exact s0 (Wk.to (eC rfl eN) (mC rfl mN) rfl (prK rfl))
  refine LH.ret ?_
  obtain rfl := Option.some.inj h
  exact retE (congrArg Array.toList Try.results69) (lrT rfl (lr0 ⟨memN (mC (unfN rfl rfl) mN), rfl, prK rfl, Sub.rfl⟩))

theorem attendance_register_incident_len {p0 : List GAttendance} {p0i : Int} {p1 : Int} : LenP (attendance_register_incident p0 p0i p1) (List.length p0) := by
  unfold attendance_register_incident
  repeat' first
    | exact lenN
    | exact lenR (by simp [*])
    | (refine lenI ?_ ?_)
    | (refine lenBK ?_ fun _ _ => ?_)
    | (refine lenB fun _ => ?_)
theorem attendance_register_incident_ok {p0 : List GAttendance} {p0i : Int} {p1 : Int} {r : Int × List GAttendance} (h : attendance_register_incident p0 p0i p1 = some r) : LCall Try.prog 70 [.agg [.eptr 8 (List.length p0) (p0i).toNat 0], .int .i64 p1] (Mem.of [(8, .nest 54 5 [(4, 3, 1)] (List.map GAttendance.lv p0))]) (.int .i64 r.1) (Mem.of [(8, .nest 54 5 [(4, 3, 1)] (List.map GAttendance.lv r.2))]) := by
  unfold attendance_register_incident at h
  obtain ⟨x1, hx1, h⟩ := bindS h
  refine bodyT Try.func70 rfl (by rw [Try.ntmps70]; exact Nat.le_of_ble_eq_true rfl) ?_
  refine LH.wk (Wk.to (el := [(0, .agg [.eptr 8 (List.length p0) (p0i).toNat 0]), (1, .int .i64 p1)]) (ml := [(8, .nest 54 5 [(4, 3, 1)] ((List.map GAttendance.lv p0).set (p0i).toNat (.agg [.int .i64 x1.Candidate, .int .i64 x1.State, .int .i64 x1.Late, .int .i64 x1.Left, .lst 1 (List.map (LV.int .i64) x1.Incidents)])))]) (eC rfl (eC rfl eN)) (mC (focN hx1) mN) rfl (prK rfl)) ?_
  refine LH.seqT [(1, .int .i64 p1), (2, .sptr [.eptr 8 (List.length p0) (p0i).toNat 0])] [(8, .nest 54 5 [(4, 3, 1)] ((List.map GAttendance.lv p0).set (p0i).toNat (.agg [.int .i64 x1.Candidate, .int .i64 x1.State, .int .i64 x1.Late, .int .i64 x1.Left, .lst 1 (List.map (LV.int .i64) x1.Incidents)])))] rfl ?_ ?_
  · refine sB (oBxR rfl rfl rfl rfl ?_)
    refine sN (oA (v := (.int _ _)) rfl ?_)
    exact s0 (Wk.to (eC rfl (eC rfl eN)) (mC rfl mN) rfl (prK rfl))
  refine LH.seq ?_
  refine LH.seqT [(1, .int .i64 p1), (2, .sptr [.eptr 8 (List.length p0) (p0i).toNat 0]), (11, .bool (decide ((x1.Incidents.length : Int) ≥ 8)))] [(8, .nest 54 5 [(4, 3, 1)] ((List.map GAttendance.lv p0).set (p0i).toNat (.agg [.int .i64 x1.Candidate, .int .i64 x1.State, .int .i64 x1.Late, .int .i64 x1.Left, .lst 1 (List.map (LV.int .i64) x1.Incidents)])))] rfl ?_ ?_
  · refine sN (oFaS tf93_0 tk91 ts91 rfl rfl rfl ?_)
    refine sN (oLd rfl tk91 ta91 ?_)
    refine sX ((ok_ncN rfl rfl (by simp) (focAt hx1)).ok) ?_
    refine sX ((ok_faN tf54_4 tk22 ts22 rfl rfl (by simp) (focAt hx1)).ok) ?_
    refine sX ((ok_lnF (g := (LV.int .i64)) (ys := x1.Incidents) (cs := [.int .i64 x1.Candidate, .int .i64 x1.State, .int .i64 x1.Late, .int .i64 x1.Left, .lst 1 (List.map (LV.int .i64) x1.Incidents)]) rfl rfl (by simp) (focAt hx1) rfl rfl tk22 ta22).ok) ?_
    refine sX ((ok_lenS te22 rfl).ok) ?_
    refine sN (oGe rfl rfl ?_)
    exact s0 (Wk.to (eC rfl (eC rfl (eC rfl eN))) (mC rfl mN) rfl (prK rfl))
  refine LH.cond (t := (decide ((x1.Incidents.length : Int) ≥ 8))) rfl (fun hc2 => ?_) (fun hc2 => ?_)
  · replace h := iteT h hc2
    refine LH.seqT [(4, .int .i64 3)] [(8, .nest 54 5 [(4, 3, 1)] ((List.map GAttendance.lv p0).set (p0i).toNat (.agg [.int .i64 x1.Candidate, .int .i64 x1.State, .int .i64 x1.Late, .int .i64 x1.Left, .lst 1 (List.map (LV.int .i64) x1.Incidents)])))] rfl ?_ ?_
    · refine sN (oA (v := (.int _ _)) rfl ?_)
      exact s0 (Wk.to (eC rfl eN) (mC rfl mN) rfl (prK rfl))
    refine LH.ret ?_
    refine thenR ?_
    obtain rfl := Option.some.inj h
    exact retE (congrArg Array.toList Try.results70) (lrT rfl (lr0 ⟨memN (mC (unfN rfl rfl) mN), rfl, prK rfl, Sub.rfl⟩))
  replace h := iteF h hc2
  refine LH.skip ?_
  refine thenN ?_
  refine LH.wk (Wk.to (el := [(1, .int .i64 p1), (2, .sptr [.eptr 8 (List.length p0) (p0i).toNat 0])]) (ml := [(8, .nest 54 5 [(4, 3, 1)] ((List.map GAttendance.lv p0).set (p0i).toNat (.agg [.int .i64 x1.Candidate, .int .i64 x1.State, .int .i64 x1.Late, .int .i64 x1.Left, .lst 1 (List.map (LV.int .i64) x1.Incidents)])))]) (eC rfl (eC rfl eN)) (mC rfl mN) rfl (prK rfl)) ?_
  obtain ⟨v3, hv3, h⟩ := bindS h
  refine LH.seqJM mixed [] [0, 0, 0, 0, 3, 3, 3, 0, 0, 2, 3, 3, 3] [] [(8, .nest 54 5 [(4, 3, 1)] ((List.map GAttendance.lv p0).set (p0i).toNat (.agg [.int .i64 x1.Candidate, .int .i64 x1.State, .int .i64 x1.Late, .int .i64 x1.Left, .lst 1 (List.map (LV.int .i64) v3)])))] rfl rfl (by kernel_rfl) ?_ ?_
  · refine mN0 (oFaS tf93_0 tk91 ts91 rfl rfl rfl ⟨rfl, ?_⟩)
    refine mN0 (oLd rfl tk91 ta91 ⟨rfl, ?_⟩)
    refine mN0 (oFaS tf93_0 tk91 ts91 rfl rfl rfl ⟨rfl, ?_⟩)
    refine mN0 (oLd rfl tk91 ta91 ⟨rfl, ?_⟩)
    refine mX (ok_ncN rfl rfl (by simp) (focAt hx1)) ?_
    refine mX (ok_faN tf54_4 tk22 ts22 rfl rfl (by simp) (focAt hx1)) ?_
    refine mX (ok_takeF (g := (LV.int .i64)) (ys := x1.Incidents) (ls := List.map GAttendance.lv p0) (cs := [.int .i64 x1.Candidate, .int .i64 x1.State, .int .i64 x1.Late, .int .i64 x1.Left, .lst 1 (List.map (LV.int .i64) x1.Incidents)]) (id2 := 118) (cs' := [.int .i64 x1.Candidate, .int .i64 x1.State, .int .i64 x1.Late, .int .i64 x1.Left, .und]) rfl rfl (by simp) (focAt hx1) rfl rfl rfl tk22 ta22 rfl) ?_
    refine mN0 (oM (v := (.int _ _)) rfl ⟨rfl, ?_⟩)
    refine mN0 (oBS (f := (LV.int .i64)) (ys := [p1]) te22 tr3 ts3 rfl rfl rfl okI ⟨rfl, ?_⟩)
    refine mN2 (oAp (f := (LV.int .i64)) te22 tr3 ts3 rfl rfl (prN rfl) rfl hv3 ?_)
    refine mX (ok_ncN rfl rfl (by simp) (focAt hx1)) ?_
    refine mX (ok_faN tf54_4 tk22 ts22 rfl rfl (by simp) (focAt hx1)) ?_
    refine mX_ (ok_putF (g := (LV.int .i64)) (ys := v3) (ls := List.map GAttendance.lv p0) (cs := [.int .i64 x1.Candidate, .int .i64 x1.State, .int .i64 x1.Late, .int .i64 x1.Left, .und]) (cs' := [.int .i64 x1.Candidate, .int .i64 x1.State, .int .i64 x1.Late, .int .i64 x1.Left, .lst 1 (List.map (LV.int .i64) v3)]) rfl rfl (by simp) (focAt hx1) rfl rfl rfl rfl rfl (prN rfl) tk22 ts22 rfl) ?_
    exact m0 (Wk.to eN (mC rfl mN) rfl (prK rfl))
  refine LH.seqT [(4, .int .i64 0)] [(8, .nest 54 5 [(4, 3, 1)] ((List.map GAttendance.lv p0).set (p0i).toNat (.agg [.int .i64 x1.Candidate, .int .i64 x1.State, .int .i64 x1.Late, .int .i64 x1.Left, .lst 1 (List.map (LV.int .i64) v3)])))] rfl ?_ ?_
  · refine sN (oA (v := (.int _ _)) rfl ?_)
    exact s0 (Wk.to (eC rfl eN) (mC rfl mN) rfl (prK rfl))
  refine LH.ret ?_
  obtain rfl := Option.some.inj h
  exact retE (congrArg Array.toList Try.results70) (lrT rfl (lr0 ⟨memN (mC (unfN rfl rfl) mN), rfl, prK rfl, Sub.rfl⟩))

theorem attendance_register_handle_len {p0 : List GAttendance} {p0i : Int} {p1 : GRegisterEvent} : LenP (attendance_register_handle p0 p0i p1) (List.length p0) := by
  unfold attendance_register_handle
  repeat' first
    | exact lenN
    | exact lenR (by simp [*])
    | exact attendance_register_present_len
    | exact attendance_register_absent_len
    | exact attendance_register_late_len
    | exact attendance_register_left_len
    | exact attendance_register_incident_len
    | (refine lenI ?_ ?_)
    | (refine lenBK ?_ fun _ _ => ?_)
    | (refine lenB fun _ => ?_)
theorem attendance_register_handle_ok {p0 : List GAttendance} {p0i : Int} {p1 : GRegisterEvent} {r : Int × List GAttendance} (h : attendance_register_handle p0 p0i p1 = some r) : LCall Try.prog 57 [.agg [.eptr 8 (List.length p0) (p0i).toNat 0], .agg [.int .i64 p1.Stamp.Time, .int .i64 p1.Stamp.Source, .int .i64 p1.Stamp.Seq, .int .i64 p1.Kind, .int .i64 p1.Candidate, .int .i64 p1.Minutes]] (Mem.of [(8, .nest 54 5 [(4, 3, 1)] (List.map GAttendance.lv p0))]) (.int .i64 r.1) (Mem.of [(8, .nest 54 5 [(4, 3, 1)] (List.map GAttendance.lv r.2))]) := by
  unfold attendance_register_handle at h
  refine bodyT Try.func57 rfl (by rw [Try.ntmps57]; exact Nat.le_of_ble_eq_true rfl) ?_
  refine LH.wk (Wk.to (el := [(0, .agg [.eptr 8 (List.length p0) (p0i).toNat 0]), (1, .agg [.int .i64 p1.Stamp.Time, .int .i64 p1.Stamp.Source, .int .i64 p1.Stamp.Seq, .int .i64 p1.Kind, .int .i64 p1.Candidate, .int .i64 p1.Minutes])]) (ml := [(8, .nest 54 5 [(4, 3, 1)] (List.map GAttendance.lv p0))]) (eC rfl (eC rfl eN)) (mC rfl mN) rfl (prK rfl)) ?_
  refine LH.seqT [(2, .sptr [.eptr 8 (List.length p0) (p0i).toNat 0]), (3, .sptr [.int .i64 p1.Stamp.Time, .int .i64 p1.Stamp.Source, .int .i64 p1.Stamp.Seq, .int .i64 p1.Kind, .int .i64 p1.Candidate, .int .i64 p1.Minutes])] [(8, .nest 54 5 [(4, 3, 1)] (List.map GAttendance.lv p0))] rfl ?_ ?_
  · refine sB (oBxR rfl rfl rfl rfl ?_)
    refine sB (oBxR rfl rfl rfl rfl ?_)
    refine sN (oA (v := (.int _ _)) rfl ?_)
    exact s0 (Wk.to (eC rfl (eC rfl eN)) (mC rfl mN) rfl (prK rfl))
  refine LH.seqT [(3, .sptr [.int .i64 p1.Stamp.Time, .int .i64 p1.Stamp.Source, .int .i64 p1.Stamp.Seq, .int .i64 p1.Kind, .int .i64 p1.Candidate, .int .i64 p1.Minutes]), (5, .ptr 105 0)] [(8, .nest 54 5 [(4, 3, 1)] (List.map GAttendance.lv p0)), (105, .box [.nilf, .bfn 66 [.agg [.eptr 8 (List.length p0) (p0i).toNat 0]], .bfn 67 [.agg [.eptr 8 (List.length p0) (p0i).toNat 0]], .bfn 68 [.agg [.eptr 8 (List.length p0) (p0i).toNat 0]], .bfn 69 [.agg [.eptr 8 (List.length p0) (p0i).toNat 0]], .bfn 70 [.agg [.eptr 8 (List.length p0) (p0i).toNat 0]]])] rfl ?_ ?_
  · refine sN (oLdA rfl tk93 ta93 ts93 rfl rfl ?_)
    refine sX (ok_mfB (fs := [.agg [.eptr 8 (List.length p0) (p0i).toNat 0]]) rfl) ?_
    refine sN (oLdA rfl tk93 ta93 ts93 rfl rfl ?_)
    refine sX (ok_mfB (fs := [.agg [.eptr 8 (List.length p0) (p0i).toNat 0]]) rfl) ?_
    refine sN (oLdA rfl tk93 ta93 ts93 rfl rfl ?_)
    refine sX (ok_mfB (fs := [.agg [.eptr 8 (List.length p0) (p0i).toNat 0]]) rfl) ?_
    refine sN (oLdA rfl tk93 ta93 ts93 rfl rfl ?_)
    refine sX (ok_mfB (fs := [.agg [.eptr 8 (List.length p0) (p0i).toNat 0]]) rfl) ?_
    refine sN (oLdA rfl tk93 ta93 ts93 rfl rfl ?_)
    refine sX (ok_mfB (fs := [.agg [.eptr 8 (List.length p0) (p0i).toNat 0]]) rfl) ?_
    refine sX (ok_buildA1 (xs := [.bfn 66 [.agg [.eptr 8 (List.length p0) (p0i).toNat 0]], .bfn 67 [.agg [.eptr 8 (List.length p0) (p0i).toNat 0]], .bfn 68 [.agg [.eptr 8 (List.length p0) (p0i).toNat 0]], .bfn 69 [.agg [.eptr 8 (List.length p0) (p0i).toNat 0]], .bfn 70 [.agg [.eptr 8 (List.length p0) (p0i).toNat 0]]]) ty105 tz105 rfl rfl rfl rfl) ?_
    refine sN (oAl (id := 105) rfl tz105 rfl rfl ?_)
    refine s_ (oSt rfl rfl rfl tk105 ts105 rfl rfl rfl ?_)
    exact s0 (Wk.to (eC rfl (eC rfl eN)) (mC rfl (mC rfl mN)) rfl (prK rfl))
  obtain ⟨w3, hv, h⟩ := bindS h
  refine LH.seqJM mixed [] [0, 0, 3, 1, 0, 0, 3, 0] [(4, .int .i64 w3.1)] [(8, .nest 54 5 [(4, 3, 1)] (List.map GAttendance.lv w3.2))] rfl rfl (by kernel_rfl) ?_ ?_
  · refine mN0 (oFaS tf33_1 tk3 ts3 rfl rfl rfl ⟨rfl, ?_⟩)
    refine mN0 (oLd rfl tk3 ta3 ⟨rfl, ?_⟩)
    by_cases hb4 : (p1.Kind == 1) = true
    · replace hv := iteT hv hb4
      refine mX (ok_ixC 1 ty105 rfl rfl rfl (eq_of_beq hb4) rfl) ?_
      refine mN1 (oLdP rfl rfl rfl rfl tk104 ta104 ⟨rfl, ?_⟩)
      refine mN0 (oFaS tf33_3 tk3 ts3 rfl rfl rfl ⟨rfl, ?_⟩)
      refine mN0 (oLd rfl tk3 ta3 ⟨rfl, ?_⟩)
      obtain ⟨r5, hr5, hv⟩ := bindS hv
      refine mX (ok_callB (args := [.agg [.eptr 8 (List.length p0) (p0i).toNat 0], .int .i64 p1.Minutes]) (ml := [(8, .nest 54 5 [(4, 3, 1)] (List.map GAttendance.lv p0))]) (ml' := [(8, .nest 54 5 [(4, 3, 1)] (List.map GAttendance.lv r5.2))]) rfl isF66 rfl (sbR (sbR sbN)) (attendance_register_present_ok hr5) (mC rfl mN) (newI rfl newN) rfl) ?_
      refine mN0 (oA (v := (.int _ _)) rfl ⟨rfl, ?_⟩)
      obtain rfl := Option.some.inj hv
      exact m0 (Wk.to (eC rfl eN) (mC rfl mN) rfl (prK rfl))
    · replace hb4 := bF hb4
      replace hv := iteF hv hb4
      by_cases hb6 : (p1.Kind == 2) = true
      · replace hv := iteT hv hb6
        refine mX (ok_ixC 2 ty105 rfl rfl rfl (eq_of_beq hb6) rfl) ?_
        refine mN1 (oLdP rfl rfl rfl rfl tk104 ta104 ⟨rfl, ?_⟩)
        refine mN0 (oFaS tf33_3 tk3 ts3 rfl rfl rfl ⟨rfl, ?_⟩)
        refine mN0 (oLd rfl tk3 ta3 ⟨rfl, ?_⟩)
        obtain ⟨r7, hr7, hv⟩ := bindS hv
        refine mX (ok_callB (args := [.agg [.eptr 8 (List.length p0) (p0i).toNat 0], .int .i64 p1.Minutes]) (ml := [(8, .nest 54 5 [(4, 3, 1)] (List.map GAttendance.lv p0))]) (ml' := [(8, .nest 54 5 [(4, 3, 1)] (List.map GAttendance.lv r7.2))]) rfl isF67 rfl (sbR (sbR sbN)) (attendance_register_absent_ok hr7) (mC rfl mN) (newI rfl newN) rfl) ?_
        refine mN0 (oA (v := (.int _ _)) rfl ⟨rfl, ?_⟩)
        obtain rfl := Option.some.inj hv
        exact m0 (Wk.to (eC rfl eN) (mC rfl mN) rfl (prK rfl))
      · replace hb6 := bF hb6
        replace hv := iteF hv hb6
        by_cases hb8 : (p1.Kind == 3) = true
        · replace hv := iteT hv hb8
          refine mX (ok_ixC 3 ty105 rfl rfl rfl (eq_of_beq hb8) rfl) ?_
          refine mN1 (oLdP rfl rfl rfl rfl tk104 ta104 ⟨rfl, ?_⟩)
          refine mN0 (oFaS tf33_3 tk3 ts3 rfl rfl rfl ⟨rfl, ?_⟩)
          refine mN0 (oLd rfl tk3 ta3 ⟨rfl, ?_⟩)
          obtain ⟨r9, hr9, hv⟩ := bindS hv
          refine mX (ok_callB (args := [.agg [.eptr 8 (List.length p0) (p0i).toNat 0], .int .i64 p1.Minutes]) (ml := [(8, .nest 54 5 [(4, 3, 1)] (List.map GAttendance.lv p0))]) (ml' := [(8, .nest 54 5 [(4, 3, 1)] (List.map GAttendance.lv r9.2))]) rfl isF68 rfl (sbR (sbR sbN)) (attendance_register_late_ok hr9) (mC rfl mN) (newI rfl newN) rfl) ?_
          refine mN0 (oA (v := (.int _ _)) rfl ⟨rfl, ?_⟩)
          obtain rfl := Option.some.inj hv
          exact m0 (Wk.to (eC rfl eN) (mC rfl mN) rfl (prK rfl))
        · replace hb8 := bF hb8
          replace hv := iteF hv hb8
          by_cases hb10 : (p1.Kind == 4) = true
          · replace hv := iteT hv hb10
            refine mX (ok_ixC 4 ty105 rfl rfl rfl (eq_of_beq hb10) rfl) ?_
            refine mN1 (oLdP rfl rfl rfl rfl tk104 ta104 ⟨rfl, ?_⟩)
            refine mN0 (oFaS tf33_3 tk3 ts3 rfl rfl rfl ⟨rfl, ?_⟩)
            refine mN0 (oLd rfl tk3 ta3 ⟨rfl, ?_⟩)
            obtain ⟨r11, hr11, hv⟩ := bindS hv
            refine mX (ok_callB (args := [.agg [.eptr 8 (List.length p0) (p0i).toNat 0], .int .i64 p1.Minutes]) (ml := [(8, .nest 54 5 [(4, 3, 1)] (List.map GAttendance.lv p0))]) (ml' := [(8, .nest 54 5 [(4, 3, 1)] (List.map GAttendance.lv r11.2))]) rfl isF69 rfl (sbR (sbR sbN)) (attendance_register_left_ok hr11) (mC rfl mN) (newI rfl newN) rfl) ?_
            refine mN0 (oA (v := (.int _ _)) rfl ⟨rfl, ?_⟩)
            obtain rfl := Option.some.inj hv
            exact m0 (Wk.to (eC rfl eN) (mC rfl mN) rfl (prK rfl))
          · replace hb10 := bF hb10
            replace hv := iteF hv hb10
            by_cases hb12 : (p1.Kind == 5) = true
            · replace hv := iteT hv hb12
              refine mX (ok_ixC 5 ty105 rfl rfl rfl (eq_of_beq hb12) rfl) ?_
              refine mN1 (oLdP rfl rfl rfl rfl tk104 ta104 ⟨rfl, ?_⟩)
              refine mN0 (oFaS tf33_3 tk3 ts3 rfl rfl rfl ⟨rfl, ?_⟩)
              refine mN0 (oLd rfl tk3 ta3 ⟨rfl, ?_⟩)
              obtain ⟨r13, hr13, hv⟩ := bindS hv
              refine mX (ok_callB (args := [.agg [.eptr 8 (List.length p0) (p0i).toNat 0], .int .i64 p1.Minutes]) (ml := [(8, .nest 54 5 [(4, 3, 1)] (List.map GAttendance.lv p0))]) (ml' := [(8, .nest 54 5 [(4, 3, 1)] (List.map GAttendance.lv r13.2))]) rfl isF70 rfl (sbR (sbR sbN)) (attendance_register_incident_ok hr13) (mC rfl mN) (newI rfl newN) rfl) ?_
              refine mN0 (oA (v := (.int _ _)) rfl ⟨rfl, ?_⟩)
              obtain rfl := Option.some.inj hv
              exact m0 (Wk.to (eC rfl eN) (mC rfl mN) rfl (prK rfl))
            · replace hb12 := bF hb12
              replace hv := iteF hv hb12
              cases (show Option.none = some _ from hv)
  clear hv
  refine LH.ret ?_
  obtain rfl := Option.some.inj h
  exact retE (congrArg Array.toList Try.results57) (lrT rfl (lr0 ⟨memN (mC rfl mN), rfl, prK rfl, Sub.rfl⟩))

theorem attendance_step_len {F : Nat} {p0 : List GEnrolment} {p1 : List GAttendance} {p2 : GRegisterEvent} : LenP (attendance_step F p0 p1 p2) (List.length p1) := by
  unfold attendance_step
  repeat' first
    | exact lenN
    | exact lenR (by simp [*])
    | exact attendance_register_handle_len
    | (refine lenI ?_ ?_)
    | (refine lenBK ?_ fun _ _ => ?_)
    | (refine lenB fun _ => ?_)
theorem attendance_step_ok {F : Nat} {p0 : List GEnrolment} {p1 : List GAttendance} {p2 : GRegisterEvent} {r : Int × List GAttendance} (h : attendance_step F p0 p1 p2 = some r) : LCall Try.prog 44 [.lst 4 (List.map GEnrolment.lv p0), .arr 8 (List.length p1), .agg [.int .i64 p2.Stamp.Time, .int .i64 p2.Stamp.Source, .int .i64 p2.Stamp.Seq, .int .i64 p2.Kind, .int .i64 p2.Candidate, .int .i64 p2.Minutes]] (Mem.of [(8, .nest 54 5 [(4, 3, 1)] (List.map GAttendance.lv p1))]) (.int .i64 r.1) (Mem.of [(8, .nest 54 5 [(4, 3, 1)] (List.map GAttendance.lv r.2))]) := by
  unfold attendance_step at h
  refine bodyT Try.func44 rfl (by rw [Try.ntmps44]; exact Nat.le_of_ble_eq_true rfl) ?_
  refine LH.wk (Wk.to (el := [(0, .lst 4 (List.map GEnrolment.lv p0)), (1, .arr 8 (List.length p1)), (2, .agg [.int .i64 p2.Stamp.Time, .int .i64 p2.Stamp.Source, .int .i64 p2.Stamp.Seq, .int .i64 p2.Kind, .int .i64 p2.Candidate, .int .i64 p2.Minutes])]) (ml := [(8, .nest 54 5 [(4, 3, 1)] (List.map GAttendance.lv p1))]) (eC rfl (eC rfl (eC rfl eN))) (mC rfl mN) rfl (prK rfl)) ?_
  refine LH.seqT [(0, .lst 4 (List.map GEnrolment.lv p0)), (1, .arr 8 (List.length p1)), (5, .sptr [.int .i64 p2.Stamp.Time, .int .i64 p2.Stamp.Source, .int .i64 p2.Stamp.Seq, .int .i64 p2.Kind, .int .i64 p2.Candidate, .int .i64 p2.Minutes])] [(8, .nest 54 5 [(4, 3, 1)] (List.map GAttendance.lv p1))] rfl ?_ ?_
  · refine sB (oBxR rfl rfl rfl rfl ?_)
    refine sN (oA (v := (.int _ _)) rfl ?_)
    exact s0 (Wk.to (eC rfl (eC rfl (eC rfl eN))) (mC rfl mN) rfl (prK rfl))
  refine LH.seq ?_
  refine LH.seqT [(0, .lst 4 (List.map GEnrolment.lv p0)), (1, .arr 8 (List.length p1)), (5, .sptr [.int .i64 p2.Stamp.Time, .int .i64 p2.Stamp.Source, .int .i64 p2.Stamp.Seq, .int .i64 p2.Kind, .int .i64 p2.Candidate, .int .i64 p2.Minutes]), (26, .bool ((decide (p2.Kind < 1)) || ((decide (p2.Kind > 5)) || ((decide (p2.Minutes < 0)) || (decide (p2.Minutes > 600))))))] [(8, .nest 54 5 [(4, 3, 1)] (List.map GAttendance.lv p1))] rfl ?_ ?_
  · refine sN (oFaS tf33_1 tk3 ts3 rfl rfl rfl ?_)
    refine sN (oLd rfl tk3 ta3 ?_)
    refine sN (oLt rfl rfl ?_)
    refine sN (oM (v := (.bool _)) rfl ?_)
    by_cases hb2 : (decide (p2.Kind < 1)) = true
    · refine sF rfl rfl hb2 ?_
      refine sF rfl rfl hb2 ?_
      refine sF rfl rfl hb2 ?_
      refine sN (oPkT (congrArg LV.bool hb2) (v := (.bool _)) rfl ?_)
      refine sN (oM (v := (.bool _)) rfl ?_)
      refine sF rfl rfl rfl ?_
      refine sF rfl rfl rfl ?_
      refine sF rfl rfl rfl ?_
      refine sN (oPkT rfl (v := (.bool _)) rfl ?_)
      refine sN (oM (v := (.bool _)) rfl ?_)
      refine sF rfl rfl rfl ?_
      refine sF rfl rfl rfl ?_
      refine sF rfl rfl rfl ?_
      refine sN (oPkT rfl (v := (.bool _)) rfl ?_)
      exact s0 (Wk.to (eC rfl (eC rfl (eC rfl (eC (congrArg LV.bool (orT hb2)) eN)))) (mC rfl mN) rfl (prK rfl))
    · replace hb2 := bF hb2
      refine sT rfl (congrArg LV.bool hb2) (oFaS tf33_1 tk3 ts3 rfl rfl rfl ?_)
      refine sT rfl (congrArg LV.bool hb2) (oLd rfl tk3 ta3 ?_)
      refine sT rfl (congrArg LV.bool hb2) (oGt rfl rfl ?_)
      refine sN (oPkF (congrArg LV.bool hb2) (v := (.bool _)) rfl ?_)
      refine sN (oM (v := (.bool _)) rfl ?_)
      by_cases hb3 : (decide (p2.Kind > 5)) = true
      · refine sF rfl rfl hb3 ?_
        refine sF rfl rfl hb3 ?_
        refine sF rfl rfl hb3 ?_
        refine sN (oPkT (congrArg LV.bool hb3) (v := (.bool _)) rfl ?_)
        refine sN (oM (v := (.bool _)) rfl ?_)
        refine sF rfl rfl rfl ?_
        refine sF rfl rfl rfl ?_
        refine sF rfl rfl rfl ?_
        refine sN (oPkT rfl (v := (.bool _)) rfl ?_)
        exact s0 (Wk.to (eC rfl (eC rfl (eC rfl (eC (congrArg LV.bool (Eq.trans (orT hb3) (orF hb2))) eN)))) (mC rfl mN) rfl (prK rfl))
      · replace hb3 := bF hb3
        refine sT rfl (congrArg LV.bool hb3) (oFaS tf33_3 tk3 ts3 rfl rfl rfl ?_)
        refine sT rfl (congrArg LV.bool hb3) (oLd rfl tk3 ta3 ?_)
        refine sT rfl (congrArg LV.bool hb3) (oLt rfl rfl ?_)
        refine sN (oPkF (congrArg LV.bool hb3) (v := (.bool _)) rfl ?_)
        refine sN (oM (v := (.bool _)) rfl ?_)
        by_cases hb4 : (decide (p2.Minutes < 0)) = true
        · refine sF rfl rfl hb4 ?_
          refine sF rfl rfl hb4 ?_
          refine sF rfl rfl hb4 ?_
          refine sN (oPkT (congrArg LV.bool hb4) (v := (.bool _)) rfl ?_)
          exact s0 (Wk.to (eC rfl (eC rfl (eC rfl (eC (congrArg LV.bool (Eq.trans (Eq.trans (orT hb4) (orF hb3)) (orF hb2))) eN)))) (mC rfl mN) rfl (prK rfl))
        · replace hb4 := bF hb4
          refine sT rfl (congrArg LV.bool hb4) (oFaS tf33_3 tk3 ts3 rfl rfl rfl ?_)
          refine sT rfl (congrArg LV.bool hb4) (oLd rfl tk3 ta3 ?_)
          refine sT rfl (congrArg LV.bool hb4) (oGt rfl rfl ?_)
          refine sN (oPkF (congrArg LV.bool hb4) (v := (.bool _)) rfl ?_)
          exact s0 (Wk.to (eC rfl (eC rfl (eC rfl (eC (congrArg LV.bool (Eq.trans (Eq.trans (orF hb4) (orF hb3)) (orF hb2))) eN)))) (mC rfl mN) rfl (prK rfl))
  refine LH.cond (t := ((decide (p2.Kind < 1)) || ((decide (p2.Kind > 5)) || ((decide (p2.Minutes < 0)) || (decide (p2.Minutes > 600)))))) rfl (fun hc5 => ?_) (fun hc5 => ?_)
  · replace h := iteT h hc5
    refine LH.seqT [(6, .int .i64 2)] [(8, .nest 54 5 [(4, 3, 1)] (List.map GAttendance.lv p1))] rfl ?_ ?_
    · refine sN (oA (v := (.int _ _)) rfl ?_)
      exact s0 (Wk.to (eC rfl eN) (mC rfl mN) rfl (prK rfl))
    refine LH.ret ?_
    refine thenR ?_
    obtain rfl := Option.some.inj h
    exact retE (congrArg Array.toList Try.results44) (lrT rfl (lr0 ⟨memN (mC rfl mN), rfl, prK rfl, Sub.rfl⟩))
  replace h := iteF h hc5
  refine LH.skip ?_
  refine thenN ?_
  refine LH.wk (Wk.to (el := [(0, .lst 4 (List.map GEnrolment.lv p0)), (1, .arr 8 (List.length p1)), (5, .sptr [.int .i64 p2.Stamp.Time, .int .i64 p2.Stamp.Source, .int .i64 p2.Stamp.Seq, .int .i64 p2.Kind, .int .i64 p2.Candidate, .int .i64 p2.Minutes])]) (ml := [(8, .nest 54 5 [(4, 3, 1)] (List.map GAttendance.lv p1))]) (eC rfl (eC rfl (eC rfl eN))) (mC rfl mN) rfl (prK rfl)) ?_
  obtain ⟨r6, hr6, h⟩ := bindS h
  refine LH.seqT [(0, .lst 4 (List.map GEnrolment.lv p0)), (1, .arr 8 (List.length p1)), (5, .sptr [.int .i64 p2.Stamp.Time, .int .i64 p2.Stamp.Source, .int .i64 p2.Stamp.Seq, .int .i64 p2.Kind, .int .i64 p2.Candidate, .int .i64 p2.Minutes]), (7, .int .i64 r6.1), (8, .bool r6.2)] [(8, .nest 54 5 [(4, 3, 1)] (List.map GAttendance.lv p1))] rfl ?_ ?_
  · refine sN (oM (v := (.lst _ _)) rfl ?_)
    refine sN (oFaS tf33_2 tk3 ts3 rfl rfl rfl ?_)
    refine sN (oLd rfl tk3 ta3 ?_)
    refine sN (oCP (args := [.lst 4 (List.map GEnrolment.lv p0), .int .i64 p2.Candidate, .fn 55 []]) rfl isF54 rfl (sbR (sbR (sbR sbN))) (slices_BinarySearchFunc_Enrolment_Enrolment_int_ok (p2_f := 55) (p2_c := []) isF55 rfl (fun _ _ _ h => attendance_step_1_ok h) hr6) rfl ?_)
    refine sN (oM (v := (.tup _)) rfl ?_)
    refine sN (oEx rfl rfl ?_)
    refine sN (oEx rfl rfl ?_)
    refine sN (oA (v := (.int _ _)) rfl ?_)
    refine sN (oA (v := (.bool _)) rfl ?_)
    exact s0 (Wk.to (eC rfl (eC rfl (eC rfl (eC rfl (eC rfl eN))))) (mC rfl mN) rfl (prK rfl))
  refine LH.seq ?_
  refine LH.seqT [(0, .lst 4 (List.map GEnrolment.lv p0)), (1, .arr 8 (List.length p1)), (5, .sptr [.int .i64 p2.Stamp.Time, .int .i64 p2.Stamp.Source, .int .i64 p2.Stamp.Seq, .int .i64 p2.Kind, .int .i64 p2.Candidate, .int .i64 p2.Minutes]), (7, .int .i64 r6.1), (35, .bool (!r6.2))] [(8, .nest 54 5 [(4, 3, 1)] (List.map GAttendance.lv p1))] rfl ?_ ?_
  · refine sN (oM (v := (.bool _)) rfl ?_)
    refine sN (oNot rfl ?_)
    exact s0 (Wk.to (eC rfl (eC rfl (eC rfl (eC rfl (eC rfl eN))))) (mC rfl mN) rfl (prK rfl))
  refine LH.cond (t := (!r6.2)) rfl (fun hc7 => ?_) (fun hc7 => ?_)
  · replace h := iteT h hc7
    refine LH.seqT [(6, .int .i64 4)] [(8, .nest 54 5 [(4, 3, 1)] (List.map GAttendance.lv p1))] rfl ?_ ?_
    · refine sN (oA (v := (.int _ _)) rfl ?_)
      exact s0 (Wk.to (eC rfl eN) (mC rfl mN) rfl (prK rfl))
    refine LH.ret ?_
    refine thenR ?_
    obtain rfl := Option.some.inj h
    exact retE (congrArg Array.toList Try.results44) (lrT rfl (lr0 ⟨memN (mC rfl mN), rfl, prK rfl, Sub.rfl⟩))
  replace h := iteF h hc7
  refine LH.skip ?_
  refine thenN ?_
  refine LH.wk (Wk.to (el := [(0, .lst 4 (List.map GEnrolment.lv p0)), (1, .arr 8 (List.length p1)), (5, .sptr [.int .i64 p2.Stamp.Time, .int .i64 p2.Stamp.Source, .int .i64 p2.Stamp.Seq, .int .i64 p2.Kind, .int .i64 p2.Candidate, .int .i64 p2.Minutes]), (7, .int .i64 r6.1)]) (ml := [(8, .nest 54 5 [(4, 3, 1)] (List.map GAttendance.lv p1))]) (eC rfl (eC rfl (eC rfl (eC rfl eN)))) (mC rfl mN) rfl (prK rfl)) ?_
  refine LH.seq ?_
  obtain ⟨w9, hv, h⟩ := bindS h
  refine LH.seqJM mixed [] [0, 0, 0, 0, 0, 0, 0, 0, 0, 0, 0, 0, 0, 0, 0, 0] [(1, .arr 8 (List.length p1)), (5, .sptr [.int .i64 p2.Stamp.Time, .int .i64 p2.Stamp.Source, .int .i64 p2.Stamp.Seq, .int .i64 p2.Kind, .int .i64 p2.Candidate, .int .i64 p2.Minutes]), (7, .int .i64 r6.1), (51, .bool w9)] [(8, .nest 54 5 [(4, 3, 1)] (List.map GAttendance.lv p1))] rfl rfl (by kernel_rfl) ?_ ?_
  · refine mN0 (oFaS tf33_0 tk31 ts31 rfl rfl rfl ⟨rfl, ?_⟩)
    refine mN0 (oFaS tf31_1 tk3 ts3 rfl rfl rfl ⟨rfl, ?_⟩)
    refine mN0 (oLd rfl tk3 ta3 ⟨rfl, ?_⟩)
    refine mN0 (oNe rfl rfl ⟨rfl, ?_⟩)
    refine mN0 (oM (v := (.bool _)) rfl ⟨rfl, ?_⟩)
    by_cases hb10 : (p2.Stamp.Source != 0) = true
    · replace hv := iteT hv hb10
      refine mT rfl (congrArg LV.bool hb10) (mN0 (oFaS tf33_0 tk31 ts31 rfl rfl rfl ⟨rfl, ?_⟩))
      refine mT rfl (congrArg LV.bool hb10) (mN0 (oFaS tf31_1 tk3 ts3 rfl rfl rfl ⟨rfl, ?_⟩))
      refine mT rfl (congrArg LV.bool hb10) (mN0 (oLd rfl tk3 ta3 ⟨rfl, ?_⟩))
      refine mT rfl (congrArg LV.bool hb10) (mN0 (oM (v := (.lst _ _)) rfl ⟨rfl, ?_⟩))
      refine mT rfl (congrArg LV.bool hb10) (mN0 (oM (v := (.int _ _)) rfl ⟨rfl, ?_⟩))
      obtain ⟨x11, hx11, hv⟩ := bindS hv
      refine mT rfl (congrArg LV.bool hb10) (mN0 (oIx (f := GEnrolment.lv) te38 tk44 ts44 rfl rfl GEnrolment.ok hx11 rfl ⟨rfl, ?_⟩))
      refine mT rfl (congrArg LV.bool hb10) (mN0 (oFaS tf44_0 tk42 ts42 rfl rfl rfl ⟨rfl, ?_⟩))
      refine mT rfl (congrArg LV.bool hb10) (mN0 (oFaS tf42_1 tk3 ts3 rfl rfl rfl ⟨rfl, ?_⟩))
      refine mT rfl (congrArg LV.bool hb10) (mN0 (oLd rfl tk3 ta3 ⟨rfl, ?_⟩))
      refine mT rfl (congrArg LV.bool hb10) (mN0 (oNe rfl rfl ⟨rfl, ?_⟩))
      refine mN0 (oPkT (congrArg LV.bool hb10) (v := (.bool _)) rfl ⟨rfl, ?_⟩)
      obtain rfl := Option.some.inj hv
      exact m0 (Wk.to (eC rfl (eC rfl (eC rfl (eC rfl eN)))) (mC rfl mN) rfl (prK rfl))
    · replace hb10 := bF hb10
      replace hv := iteF hv hb10
      refine mF rfl rfl hb10 ?_
      refine mF rfl rfl hb10 ?_
      refine mF rfl rfl hb10 ?_
      refine mF rfl rfl hb10 ?_
      refine mF rfl rfl hb10 ?_
      refine mF rfl rfl hb10 ?_
      refine mF rfl rfl hb10 ?_
      refine mF rfl rfl hb10 ?_
      refine mF rfl rfl hb10 ?_
      refine mF rfl rfl hb10 ?_
      refine mN0 (oPkF (congrArg LV.bool hb10) (v := (.bool _)) rfl ⟨rfl, ?_⟩)
      obtain rfl := Option.some.inj hv
      exact m0 (Wk.to (eC rfl (eC rfl (eC rfl (eC rfl eN)))) (mC rfl mN) rfl (prK rfl))
  clear hv
  refine LH.cond (t := w9) rfl (fun hc12 => ?_) (fun hc12 => ?_)
  · replace h := iteT h hc12
    refine LH.seqT [(6, .int .i64 28)] [(8, .nest 54 5 [(4, 3, 1)] (List.map GAttendance.lv p1))] rfl ?_ ?_
    · refine sN (oA (v := (.int _ _)) rfl ?_)
      exact s0 (Wk.to (eC rfl eN) (mC rfl mN) rfl (prK rfl))
    refine LH.ret ?_
    refine thenR ?_
    obtain rfl := Option.some.inj h
    exact retE (congrArg Array.toList Try.results44) (lrT rfl (lr0 ⟨memN (mC rfl mN), rfl, prK rfl, Sub.rfl⟩))
  replace h := iteF h hc12
  refine LH.skip ?_
  refine thenN ?_
  refine LH.wk (Wk.to (el := [(1, .arr 8 (List.length p1)), (5, .sptr [.int .i64 p2.Stamp.Time, .int .i64 p2.Stamp.Source, .int .i64 p2.Stamp.Seq, .int .i64 p2.Kind, .int .i64 p2.Candidate, .int .i64 p2.Minutes]), (7, .int .i64 r6.1)]) (ml := [(8, .nest 54 5 [(4, 3, 1)] (List.map GAttendance.lv p1))]) (eC rfl (eC rfl (eC rfl eN))) (mC rfl mN) rfl (prK rfl)) ?_
  obtain ⟨x13, hx13, h⟩ := bindS h
  obtain ⟨r14, hr14, h⟩ := bindS h
  refine LH.seqJM mixed [] [0, 0, 3, 0, 0, 2, 0] [(6, .int .i64 r14.1)] [(8, .nest 54 5 [(4, 3, 1)] (List.map GAttendance.lv r14.2))] rfl rfl (by kernel_rfl) ?_ ?_
  · refine mN0 (oM (v := (.arr _ _)) rfl ⟨rfl, ?_⟩)
    refine mN0 (oM (v := (.int _ _)) rfl ⟨rfl, ?_⟩)
    refine mX (ok_ixF (f := GAttendance.lv) (xs := p1) te47 tk54 ts54 rfl rfl rfl rfl hx13) ?_
    refine mN0 (oBd (vs := [(0, .eptr 8 (List.length p1) (r6.1).toNat 0)]) tu93 tz93 rfl (lf tf93_0 ts91 tk91 rfl rfl rfl lf0) ⟨rfl, ?_⟩)
    refine mN0 (oLdA rfl tk33 ta33 ts33 rfl rfl ⟨rfl, ?_⟩)
    refine mN2 (oCM (args := [.agg [.eptr 8 (List.length p1) (r6.1).toNat 0], .agg [.int .i64 p2.Stamp.Time, .int .i64 p2.Stamp.Source, .int .i64 p2.Stamp.Seq, .int .i64 p2.Kind, .int .i64 p2.Candidate, .int .i64 p2.Minutes]]) (ml := [(8, .nest 54 5 [(4, 3, 1)] (List.map GAttendance.lv p1))]) (ml' := [(8, .nest 54 5 [(4, 3, 1)] (List.map GAttendance.lv r14.2))]) rfl isF57 rfl (sbR (sbR sbN)) (attendance_register_handle_ok hr14) (mC rfl mN) (newI rfl newN) rfl ?_)
    refine mN0 (oA (v := (.int _ _)) rfl ⟨rfl, ?_⟩)
    exact m0 (Wk.to (eC rfl eN) (mC rfl mN) rfl (prK rfl))
  refine LH.ret ?_
  obtain rfl := Option.some.inj h
  exact retE (congrArg Array.toList Try.results44) (lrT rfl (lr0 ⟨memN (mC rfl mN), rfl, prK rfl, Sub.rfl⟩))

theorem attendance_Fold_ok {F : Nat} {p0 : List GEnrolment} {p1 : List GRegisterEvent} {p2 : Int} {r : List GAttendance × List GRefusal × Int} (h : attendance_Fold F p0 p1 p2 = some r) : LCall Try.prog 22 [.lst 4 (List.map GEnrolment.lv p0), .lst 6 (List.map GRegisterEvent.lv p1), .int .i64 p2] (Mem.of []) (.tup [.lst 5 (List.map GAttendance.lv r.1), .lst 3 (List.map GRefusal.lv r.2.1), .int .i64 r.2.2]) (Mem.of []) := by
  unfold attendance_Fold at h
  refine bodyT Try.func22 rfl (by rw [Try.ntmps22]; exact Nat.le_of_ble_eq_true rfl) ?_
  refine LH.wk (Wk.to (el := [(0, .lst 4 (List.map GEnrolment.lv p0)), (1, .lst 6 (List.map GRegisterEvent.lv p1)), (2, .int .i64 p2)]) (ml := []) (eC rfl (eC rfl (eC rfl eN))) mN rfl (prK rfl)) ?_
  refine LH.seqT [(0, .lst 4 (List.map GEnrolment.lv p0)), (1, .lst 6 (List.map GRegisterEvent.lv p1)), (2, .int .i64 p2)] [] rfl ?_ ?_
  · refine sN (oA (v := .nil) rfl ?_)
    refine sN (oA (v := .nil) rfl ?_)
    refine sN (oA (v := (.int _ _)) rfl ?_)
    exact s0 (Wk.to (eC rfl (eC rfl (eC rfl eN))) mN rfl (prK rfl))
  refine LH.seq ?_
  obtain ⟨r1, hr1, h⟩ := bindS h
  refine LH.seqT [(0, .lst 4 (List.map GEnrolment.lv p0)), (1, .lst 6 (List.map GRegisterEvent.lv p1)), (2, .int .i64 p2), (9, .int .i64 r1)] [] rfl ?_ ?_
  · refine sN (oM (v := (.lst _ _)) rfl ?_)
    refine sN (oCP (args := [.lst 4 (List.map GEnrolment.lv p0)]) rfl isF20 rfl (sbR sbN) (attendance_Check_ok hr1) rfl ?_)
    refine sN (oA (v := (.int _ _)) rfl ?_)
    exact s0 (Wk.to (eC rfl (eC rfl (eC rfl (eC rfl eN)))) mN rfl (prK rfl))
  refine LH.seqT [(0, .lst 4 (List.map GEnrolment.lv p0)), (1, .lst 6 (List.map GRegisterEvent.lv p1)), (2, .int .i64 p2), (9, .int .i64 r1), (22, .bool (r1 != 0))] [] rfl ?_ ?_
  · refine sN (oM (v := (.int _ _)) rfl ?_)
    refine sN (oNe rfl rfl ?_)
    exact s0 (Wk.to (eC rfl (eC rfl (eC rfl (eC rfl (eC rfl eN))))) mN rfl (prK rfl))
  refine LH.cond (t := (r1 != 0)) rfl (fun hc2 => ?_) (fun hc2 => ?_)
  · replace h := iteT h hc2
    refine LH.seqT [(6, .nil), (7, .nil), (8, .int .i64 r1)] [] rfl ?_ ?_
    · refine sN (oM (v := (.int _ _)) rfl ?_)
      refine sN (oA (v := .nil) rfl ?_)
      refine sN (oA (v := .nil) rfl ?_)
      refine sN (oA (v := (.int _ _)) rfl ?_)
      exact s0 (Wk.to (eC rfl (eC rfl (eC rfl eN))) mN rfl (prK rfl))
    refine LH.ret ?_
    refine thenR ?_
    obtain rfl := Option.some.inj h
    exact retE (congrArg Array.toList Try.results22) (lrT rfl (lrT rfl (lrT rfl (lr0 ⟨memN mN, rfl, prK rfl, (Sub.tup (sbL (sbL (sbR sbN))))⟩))))
  replace h := iteF h hc2
  refine LH.skip ?_
  refine thenN ?_
  refine LH.wk (Wk.to (el := [(0, .lst 4 (List.map GEnrolment.lv p0)), (1, .lst 6 (List.map GRegisterEvent.lv p1)), (2, .int .i64 p2)]) (ml := []) (eC rfl (eC rfl (eC rfl eN))) mN rfl (prK rfl)) ?_
  obtain ⟨r3, hr3, h⟩ := bindS h
  refine LH.seqT [(0, .lst 4 (List.map GEnrolment.lv p0)), (2, .int .i64 p2), (10, .lst 6 (List.map GRegisterEvent.lv r3.1)), (11, .int .i64 r3.2)] [] rfl ?_ ?_
  · refine sN (oM (v := (.lst _ _)) rfl ?_)
    refine sN (oCP (args := [.lst 6 (List.map GRegisterEvent.lv p1)]) rfl isF13 rfl (sbR sbN) (attendance_Canonical_ok hr3) rfl ?_)
    refine sN (oM (v := (.tup _)) rfl ?_)
    refine sN (oEx rfl rfl ?_)
    refine sN (oEx rfl rfl ?_)
    refine sN (oA (v := (.lst _ _)) rfl ?_)
    refine sN (oA (v := (.int _ _)) rfl ?_)
    exact s0 (Wk.to (eC rfl (eC rfl (eC rfl (eC rfl eN)))) mN rfl (prK rfl))
  refine LH.seq ?_
  refine LH.seqT [(0, .lst 4 (List.map GEnrolment.lv p0)), (2, .int .i64 p2), (10, .lst 6 (List.map GRegisterEvent.lv r3.1)), (11, .int .i64 r3.2), (30, .bool (r3.2 != 0))] [] rfl ?_ ?_
  · refine sN (oM (v := (.int _ _)) rfl ?_)
    refine sN (oNe rfl rfl ?_)
    exact s0 (Wk.to (eC rfl (eC rfl (eC rfl (eC rfl (eC rfl eN))))) mN rfl (prK rfl))
  refine LH.cond (t := (r3.2 != 0)) rfl (fun hc4 => ?_) (fun hc4 => ?_)
  · replace h := iteT h hc4
    refine LH.seqT [(6, .nil), (7, .nil), (8, .int .i64 r3.2)] [] rfl ?_ ?_
    · refine sN (oM (v := (.int _ _)) rfl ?_)
      refine sN (oA (v := .nil) rfl ?_)
      refine sN (oA (v := .nil) rfl ?_)
      refine sN (oA (v := (.int _ _)) rfl ?_)
      exact s0 (Wk.to (eC rfl (eC rfl (eC rfl eN))) mN rfl (prK rfl))
    refine LH.ret ?_
    refine thenR ?_
    obtain rfl := Option.some.inj h
    exact retE (congrArg Array.toList Try.results22) (lrT rfl (lrT rfl (lrT rfl (lr0 ⟨memN mN, rfl, prK rfl, (Sub.tup (sbL (sbL (sbR sbN))))⟩))))
  replace h := iteF h hc4
  refine LH.skip ?_
  refine thenN ?_
  refine LH.wk (Wk.to (el := [(0, .lst 4 (List.map GEnrolment.lv p0)), (2, .int .i64 p2), (10, .lst 6 (List.map GRegisterEvent.lv r3.1))]) (ml := []) (eC rfl (eC rfl (eC rfl eN))) mN rfl (prK rfl)) ?_
  obtain ⟨v5, hv5, h⟩ := bindS h
  refine LH.seqT [(0, .lst 4 (List.map GEnrolment.lv p0)), (2, .int .i64 p2), (10, .lst 6 (List.map GRegisterEvent.lv r3.1)), (12, .arr 8 (List.length v5))] [(8, .nest 54 5 [(4, 3, 1)] (List.map GAttendance.lv v5))] rfl ?_ ?_
  · refine sN (oM (v := (.lst _ _)) rfl ?_)
    refine sN (oLnL (f := GEnrolment.lv) te38 rfl ?_)
    refine sX ((ok_mkF (f := GAttendance.lv) (z' := (GAttendance.mk 0 0 0 0 [])) (v := v5) (id := 8) (os := [(4, 3, 1)]) te47 tz54 tr54 ts54 rfl rfl hv5 rfl rfl rfl).ok) ?_
    refine sN (oA (v := (.arr _ _)) rfl ?_)
    exact s0 (Wk.to (eC rfl (eC rfl (eC rfl (eC rfl eN)))) (mC rfl mN) rfl (prK rfl))
  refine LH.seq ?_
  refine LH.seqT [(0, .lst 4 (List.map GEnrolment.lv p0)), (2, .int .i64 p2), (10, .lst 6 (List.map GRegisterEvent.lv r3.1)), (12, .arr 8 (List.length v5)), (35, .lst 4 (List.map GEnrolment.lv p0)), (36, .int .i64 (p0.length : Int)), (37, .int .i64 0)] [(8, .nest 54 5 [(4, 3, 1)] (List.map GAttendance.lv v5))] rfl ?_ ?_
  · refine sN (oM (v := (.lst _ _)) rfl ?_)
    refine sN (oLnL (f := GEnrolment.lv) te38 rfl ?_)
    refine sN (oM (v := (.int _ _)) rfl ?_)
    exact s0 (Wk.to (eC rfl (eC rfl (eC rfl (eC rfl (eC rfl (eC rfl (eC rfl eN))))))) (mC rfl mN) rfl (prK rfl))
  refine LH.block ?_
  refine LH.loop (fun n e m => ∃ (n6 : Int) (l7 : List GAttendance), attendance_Fold_L1 F p0 p2 r3 n n6 l7 = some r ∧ e = Env.of [(0, .lst 4 (List.map GEnrolment.lv p0)), (2, .int .i64 p2), (10, .lst 6 (List.map GRegisterEvent.lv r3.1)), (12, .arr 8 (List.length l7)), (35, .lst 4 (List.map GEnrolment.lv p0)), (36, .int .i64 (p0.length : Int)), (37, .int .i64 n6)] ∧ m = Mem.of [(8, .nest 54 5 [(4, 3, 1)] (List.map GAttendance.lv l7))]) F ⟨0, v5, h, rfl, rfl⟩ ?_
  clear h
  rintro n e m ⟨n6, l7, h, rfl, rfl⟩
  rcases n with _ | n
  · cases (show Option.none = some _ from h)
  obtain ⟨rec1, hrec1⟩ : ∃ f, f = attendance_Fold_L1 F p0 p2 r3 n := ⟨_, rfl⟩
  replace h : attendance_Fold_L1_B F p0 p2 r3 rec1 n6 l7 = some r := hrec1 ▸ h
  unfold attendance_Fold_L1_B at h
  refine LH.seqT [(0, .lst 4 (List.map GEnrolment.lv p0)), (2, .int .i64 p2), (10, .lst 6 (List.map GRegisterEvent.lv r3.1)), (12, .arr 8 (List.length l7)), (35, .lst 4 (List.map GEnrolment.lv p0)), (36, .int .i64 (p0.length : Int)), (37, .int .i64 n6), (38, .bool (decide (n6 < (p0.length : Int))))] [(8, .nest 54 5 [(4, 3, 1)] (List.map GAttendance.lv l7))] rfl ?_ ?_
  · refine sN (oLt rfl rfl ?_)
    exact s0 (Wk.to (eC rfl (eC rfl (eC rfl (eC rfl (eC rfl (eC rfl (eC rfl (eC rfl eN)))))))) (mC rfl mN) rfl (prK rfl))
  refine LH.seq ?_
  refine LH.cond (t := (decide (n6 < (p0.length : Int)))) rfl (fun hc8 => ?_) (fun hc8 => ?_)
  · replace h := iteT h hc8
    refine LH.skip ?_
    refine thenN ?_
    refine LH.wk (Wk.to (el := [(0, .lst 4 (List.map GEnrolment.lv p0)), (2, .int .i64 p2), (10, .lst 6 (List.map GRegisterEvent.lv r3.1)), (12, .arr 8 (List.length l7)), (35, .lst 4 (List.map GEnrolment.lv p0)), (36, .int .i64 (p0.length : Int)), (37, .int .i64 n6)]) (ml := [(8, .nest 54 5 [(4, 3, 1)] (List.map GAttendance.lv l7))]) (eC rfl (eC rfl (eC rfl (eC rfl (eC rfl (eC rfl (eC rfl eN))))))) (mC rfl mN) rfl (prK rfl)) ?_
    refine LH.seq ?_
    refine LH.block ?_
    obtain ⟨x9, hx9, h⟩ := bindS h
    refine LH.seqT [(0, .lst 4 (List.map GEnrolment.lv p0)), (2, .int .i64 p2), (10, .lst 6 (List.map GRegisterEvent.lv r3.1)), (12, .arr 8 (List.length l7)), (13, .int .i64 n6), (14, .sptr [.int .i64 x9.Entry.Candidate, .int .i64 x9.Entry.Centre, .int .i64 x9.Entry.Paper, .bool x9.Late]), (35, .lst 4 (List.map GEnrolment.lv p0)), (36, .int .i64 (p0.length : Int)), (37, .int .i64 n6)] [(8, .nest 54 5 [(4, 3, 1)] (List.map GAttendance.lv l7))] rfl ?_ ?_
    · refine sN (oM (v := (.int _ _)) rfl ?_)
      refine sN (oIx (f := GEnrolment.lv) te38 tk44 ts44 rfl rfl GEnrolment.ok hx9 rfl ?_)
      refine sN (oLdA rfl tk44 ta44 ts44 rfl rfl ?_)
      refine sN (oAl (id := 114) rfl tz44 rfl rfl ?_)
      refine sN (oA (v := (.int _ _)) rfl ?_)
      refine s_ (oSt rfl rfl rfl tk44 ts44 rfl rfl rfl ?_)
      exact s0 ((Wk.trans (Wk.to (el := [(0, .lst 4 (List.map GEnrolment.lv p0)), (2, .int .i64 p2), (10, .lst 6 (List.map GRegisterEvent.lv r3.1)), (12, .arr 8 (List.length l7)), (13, .int .i64 n6), (14, .ptr 114 0), (35, .lst 4 (List.map GEnrolment.lv p0)), (36, .int .i64 (p0.length : Int)), (37, .int .i64 n6)]) (ml := [(8, .nest 54 5 [(4, 3, 1)] (List.map GAttendance.lv l7)), (114, .box [.int .i64 x9.Entry.Candidate, .int .i64 x9.Entry.Centre, .int .i64 x9.Entry.Paper, .bool x9.Late])]) (eC rfl (eC rfl (eC rfl (eC rfl (eC rfl (eC rfl (eC rfl (eC rfl (eC rfl eN))))))))) (mC rfl (mC rfl mN)) rfl (prK rfl)) (Wk.trans (Wk.frzB 114 [.int .i64 x9.Entry.Candidate, .int .i64 x9.Entry.Centre, .int .i64 x9.Entry.Paper, .bool x9.Late] rfl rfl rfl (prN rfl)) (Wk.to (eC rfl (eC rfl (eC rfl (eC rfl (eC rfl (eC rfl (eC rfl (eC rfl (eC rfl eN))))))))) (mC rfl mN) rfl (prK rfl)))))
    obtain ⟨x10, hx10, h⟩ := bindS h
    refine LH.loneT [(0, .lst 4 (List.map GEnrolment.lv p0)), (2, .int .i64 p2), (10, .lst 6 (List.map GRegisterEvent.lv r3.1)), (12, .arr 8 (List.length (l7.set (n6).toNat (GAttendance.mk x9.Entry.Candidate 0 (-1) (-1) [])))), (35, .lst 4 (List.map GEnrolment.lv p0)), (36, .int .i64 (p0.length : Int)), (37, .int .i64 n6)] [(8, .nest 54 5 [(4, 3, 1)] (List.map GAttendance.lv (l7.set (n6).toNat (GAttendance.mk x9.Entry.Candidate 0 (-1) (-1) []))))] rfl ?_ ?_
    · refine sN (oM (v := (.arr _ _)) rfl ?_)
      refine sN (oM (v := (.int _ _)) rfl ?_)
      refine sN (oFaS tf44_0 tk42 ts42 rfl rfl rfl ?_)
      refine sN (oFaS tf42_0 tk3 ts3 rfl rfl rfl ?_)
      refine sN (oLd rfl tk3 ta3 ?_)
      refine sN (oBd (vs := [(0, .int .i64 x9.Entry.Candidate), (1, .int .i64 0), (2, .int .i64 (-1)), (3, .int .i64 (-1))]) tu54 tz54 rfl (lf tf54_0 ts3 tk3 rfl rfl rfl (lf tf54_1 ts3 tk3 rfl rfl rfl (lf tf54_2 ts3 tk3 rfl rfl rfl (lf tf54_3 ts3 tk3 rfl rfl rfl lf0)))) ?_)
      refine sX ((ok_ixF (f := GAttendance.lv) (xs := l7) te47 tk54 ts54 rfl rfl rfl rfl hx10).ok) ?_
      refine sX_ ((ok_stF (f := GAttendance.lv) (xs := l7) (z' := (GAttendance.mk x9.Entry.Candidate 0 (-1) (-1) [])) (i := 0) rfl rfl rfl hx10 rfl tk54 ts54 rfl rfl rfl rfl).ok) ?_
      exact s0 (Wk.to (eC rfl (eC rfl (eC rfl (eC (congrArg (LV.arr 8) (by simp)) (eC rfl (eC rfl (eC rfl eN))))))) (mC rfl mN) rfl (prK rfl))
    refine blockN ?_
    refine thenN ?_
    refine LH.loneT [(0, .lst 4 (List.map GEnrolment.lv p0)), (2, .int .i64 p2), (10, .lst 6 (List.map GRegisterEvent.lv r3.1)), (12, .arr 8 (List.length (l7.set (n6).toNat (GAttendance.mk x9.Entry.Candidate 0 (-1) (-1) [])))), (35, .lst 4 (List.map GEnrolment.lv p0)), (36, .int .i64 (p0.length : Int)), (37, .int .i64 (i64 (n6 + 1)))] [(8, .nest 54 5 [(4, 3, 1)] (List.map GAttendance.lv (l7.set (n6).toNat (GAttendance.mk x9.Entry.Candidate 0 (-1) (-1) []))))] rfl ?_ ?_
    · refine sN (oAdd rfl rfl ?_)
      refine sN (oM (v := (.int _ _)) rfl ?_)
      exact s0 (Wk.to (eC rfl (eC rfl (eC rfl (eC rfl (eC rfl (eC rfl (eC rfl eN))))))) (mC rfl mN) rfl (prK rfl))
    exact roundN (e' := Env.of [(0, .lst 4 (List.map GEnrolment.lv p0)), (2, .int .i64 p2), (10, .lst 6 (List.map GRegisterEvent.lv r3.1)), (12, .arr 8 (List.length (l7.set (n6).toNat (GAttendance.mk x9.Entry.Candidate 0 (-1) (-1) [])))), (35, .lst 4 (List.map GEnrolment.lv p0)), (36, .int .i64 (p0.length : Int)), (37, .int .i64 (i64 (n6 + 1)))]) (m' := Mem.of [(8, .nest 54 5 [(4, 3, 1)] (List.map GAttendance.lv (l7.set (n6).toNat (GAttendance.mk x9.Entry.Candidate 0 (-1) (-1) []))))]) (Wk.to (eC rfl (eC rfl (eC rfl (eC rfl (eC rfl (eC rfl (eC rfl eN))))))) (mC rfl mN) rfl (prK rfl)) ⟨(i64 (n6 + 1)), (l7.set (n6).toNat (GAttendance.mk x9.Entry.Candidate 0 (-1) (-1) [])), hrec1 ▸ h, rfl, rfl⟩
  replace h := iteF h hc8
  refine LH.exit ?_
  refine thenX ?_
  refine roundX ?_
  refine blockH ?_
  refine thenN ?_
  refine LH.wk (Wk.to (el := [(0, .lst 4 (List.map GEnrolment.lv p0)), (2, .int .i64 p2), (10, .lst 6 (List.map GRegisterEvent.lv r3.1)), (12, .arr 8 (List.length l7))]) (ml := [(8, .nest 54 5 [(4, 3, 1)] (List.map GAttendance.lv l7))]) (eC rfl (eC rfl (eC rfl (eC rfl eN)))) (mC rfl mN) rfl (prK rfl)) ?_
  refine LH.seqT [(0, .lst 4 (List.map GEnrolment.lv p0)), (2, .int .i64 p2), (10, .lst 6 (List.map GRegisterEvent.lv r3.1)), (12, .arr 8 (List.length l7)), (15, .nil)] [(8, .nest 54 5 [(4, 3, 1)] (List.map GAttendance.lv l7))] rfl ?_ ?_
  · refine sN (oA (v := .nil) rfl ?_)
    exact s0 (Wk.to (eC rfl (eC rfl (eC rfl (eC rfl (eC rfl eN))))) (mC rfl mN) rfl (prK rfl))
  refine LH.seq ?_
  refine LH.seqT [(0, .lst 4 (List.map GEnrolment.lv p0)), (2, .int .i64 p2), (12, .arr 8 (List.length l7)), (15, .nil), (50, .lst 6 (List.map GRegisterEvent.lv r3.1)), (51, .int .i64 (r3.1.length : Int)), (52, .int .i64 0)] [(8, .nest 54 5 [(4, 3, 1)] (List.map GAttendance.lv l7))] rfl ?_ ?_
  · refine sN (oM (v := (.lst _ _)) rfl ?_)
    refine sN (oLnL (f := GRegisterEvent.lv) te25 rfl ?_)
    refine sN (oM (v := (.int _ _)) rfl ?_)
    exact s0 (Wk.to (eC rfl (eC rfl (eC rfl (eC rfl (eC rfl (eC rfl (eC rfl eN))))))) (mC rfl mN) rfl (prK rfl))
  refine LH.block ?_
  refine LH.wk ((Wk.trans (Wk.to (el := [(0, .lst 4 (List.map GEnrolment.lv p0)), (2, .int .i64 p2), (12, .arr 8 (List.length l7)), (15, .nil), (50, .lst 6 (List.map GRegisterEvent.lv r3.1)), (51, .int .i64 (r3.1.length : Int)), (52, .int .i64 0)]) (ml := [(8, .nest 54 5 [(4, 3, 1)] (List.map GAttendance.lv l7))]) (eC rfl (eC rfl (eC rfl (eC rfl (eC rfl (eC rfl (eC rfl eN))))))) (mC rfl mN) rfl (prK rfl)) (Wk.trans (Wk.to (el := [(0, .lst 4 (List.map GEnrolment.lv p0)), (2, .int .i64 p2), (12, .arr 8 (List.length l7)), (15, .nil), (50, .lst 6 (List.map GRegisterEvent.lv r3.1)), (51, .int .i64 (r3.1.length : Int)), (52, .int .i64 0)]) (ml := [(8, .nest 54 5 [(4, 3, 1)] (List.map GAttendance.lv l7))]) (eC rfl (eC rfl (eC rfl (eC rfl (eC rfl (eC rfl (eC rfl eN))))))) (mC rfl mN) rfl (prK rfl)) (Wk.trans (Wk.ownL (el' := [(0, .lst 4 (List.map GEnrolment.lv p0)), (2, .int .i64 p2), (12, .arr 8 (List.length l7)), (15, .arr 178 (List.length ([] : List GRefusal))), (50, .lst 6 (List.map GRegisterEvent.lv r3.1)), (51, .int .i64 (r3.1.length : Int)), (52, .int .i64 0)]) 178 58 3 rfl rfl (wK (wK (wK (wO (wK (wK (wK wN)))))))) (Wk.to (el := [(0, .lst 4 (List.map GEnrolment.lv p0)), (2, .int .i64 p2), (12, .arr 8 (List.length l7)), (15, .arr 178 (List.length ([] : List GRefusal))), (50, .lst 6 (List.map GRegisterEvent.lv r3.1)), (51, .int .i64 (r3.1.length : Int)), (52, .int .i64 0)]) (ml := [(8, .nest 54 5 [(4, 3, 1)] (List.map GAttendance.lv l7)), (178, .arr 58 3 (List.map GRefusal.lv ([] : List GRefusal)))]) (eC rfl (eC rfl (eC rfl (eC rfl (eC rfl (eC rfl (eC rfl eN))))))) (mC rfl (mC rfl mN)) rfl (prK rfl)))))) ?_
  refine LH.loop (fun n e m => ∃ (n11 : Int) (l12 : List GAttendance) (l13 : List GRefusal), attendance_Fold_L2 F p0 p2 r3 n n11 l12 l13 = some r ∧ e = Env.of [(0, .lst 4 (List.map GEnrolment.lv p0)), (2, .int .i64 p2), (12, .arr 8 (List.length l12)), (15, .arr 178 (List.length l13)), (50, .lst 6 (List.map GRegisterEvent.lv r3.1)), (51, .int .i64 (r3.1.length : Int)), (52, .int .i64 n11)] ∧ m = Mem.of [(8, .nest 54 5 [(4, 3, 1)] (List.map GAttendance.lv l12)), (178, .arr 58 3 (List.map GRefusal.lv l13))]) F ⟨0, l7, ([] : List GRefusal), h, rfl, rfl⟩ ?_
  clear h
  rintro n e m ⟨n11, l12, l13, h, rfl, rfl⟩
  rcases n with _ | n
  · cases (show Option.none = some _ from h)
  obtain ⟨rec2, hrec2⟩ : ∃ f, f = attendance_Fold_L2 F p0 p2 r3 n := ⟨_, rfl⟩
  replace h : attendance_Fold_L2_B F p0 p2 r3 rec2 n11 l12 l13 = some r := hrec2 ▸ h
  unfold attendance_Fold_L2_B at h
  refine LH.seqT [(0, .lst 4 (List.map GEnrolment.lv p0)), (2, .int .i64 p2), (12, .arr 8 (List.length l12)), (15, .arr 178 (List.length l13)), (50, .lst 6 (List.map GRegisterEvent.lv r3.1)), (51, .int .i64 (r3.1.length : Int)), (52, .int .i64 n11), (53, .bool (decide (n11 < (r3.1.length : Int))))] [(8, .nest 54 5 [(4, 3, 1)] (List.map GAttendance.lv l12)), (178, .arr 58 3 (List.map GRefusal.lv l13))] rfl ?_ ?_
  · refine sN (oLt rfl rfl ?_)
    exact s0 (Wk.to (eC rfl (eC rfl (eC rfl (eC rfl (eC rfl (eC rfl (eC rfl (eC rfl eN)))))))) (mC rfl (mC rfl mN)) rfl (prK rfl))
  refine LH.seq ?_
  refine LH.cond (t := (decide (n11 < (r3.1.length : Int)))) rfl (fun hc14 => ?_) (fun hc14 => ?_)
  · replace h := iteT h hc14
    refine LH.skip ?_
    refine thenN ?_
    refine LH.wk (Wk.to (el := [(0, .lst 4 (List.map GEnrolment.lv p0)), (2, .int .i64 p2), (12, .arr 8 (List.length l12)), (15, .arr 178 (List.length l13)), (50, .lst 6 (List.map GRegisterEvent.lv r3.1)), (51, .int .i64 (r3.1.length : Int)), (52, .int .i64 n11)]) (ml := [(8, .nest 54 5 [(4, 3, 1)] (List.map GAttendance.lv l12)), (178, .arr 58 3 (List.map GRefusal.lv l13))]) (eC rfl (eC rfl (eC rfl (eC rfl (eC rfl (eC rfl (eC rfl eN))))))) (mC rfl (mC rfl mN)) rfl (prK rfl)) ?_
    refine LH.seq ?_
    refine LH.block ?_
    obtain ⟨x15, hx15, h⟩ := bindS h
    refine LH.seqT [(0, .lst 4 (List.map GEnrolment.lv p0)), (2, .int .i64 p2), (12, .arr 8 (List.length l12)), (15, .arr 178 (List.length l13)), (17, .sptr [.int .i64 x15.Stamp.Time, .int .i64 x15.Stamp.Source, .int .i64 x15.Stamp.Seq, .int .i64 x15.Kind, .int .i64 x15.Candidate, .int .i64 x15.Minutes]), (50, .lst 6 (List.map GRegisterEvent.lv r3.1)), (51, .int .i64 (r3.1.length : Int)), (52, .int .i64 n11)] [(8, .nest 54 5 [(4, 3, 1)] (List.map GAttendance.lv l12)), (178, .arr 58 3 (List.map GRefusal.lv l13))] rfl ?_ ?_
    · refine sN (oIx (f := GRegisterEvent.lv) te25 tk33 ts33 rfl rfl GRegisterEvent.ok hx15 rfl ?_)
      refine sN (oLdA rfl tk33 ta33 ts33 rfl rfl ?_)
      refine sN (oAl (id := 117) rfl tz33 rfl rfl ?_)
      refine s_ (oSt rfl rfl rfl tk33 ts33 rfl rfl rfl ?_)
      exact s0 ((Wk.trans (Wk.to (el := [(0, .lst 4 (List.map GEnrolment.lv p0)), (2, .int .i64 p2), (12, .arr 8 (List.length l12)), (15, .arr 178 (List.length l13)), (17, .ptr 117 0), (50, .lst 6 (List.map GRegisterEvent.lv r3.1)), (51, .int .i64 (r3.1.length : Int)), (52, .int .i64 n11)]) (ml := [(8, .nest 54 5 [(4, 3, 1)] (List.map GAttendance.lv l12)), (117, .box [.int .i64 x15.Stamp.Time, .int .i64 x15.Stamp.Source, .int .i64 x15.Stamp.Seq, .int .i64 x15.Kind, .int .i64 x15.Candidate, .int .i64 x15.Minutes]), (178, .arr 58 3 (List.map GRefusal.lv l13))]) (eC rfl (eC rfl (eC rfl (eC rfl (eC rfl (eC rfl (eC rfl (eC rfl eN)))))))) (mC rfl (mC rfl (mC rfl mN))) rfl (prK rfl)) (Wk.trans (Wk.frzB 117 [.int .i64 x15.Stamp.Time, .int .i64 x15.Stamp.Source, .int .i64 x15.Stamp.Seq, .int .i64 x15.Kind, .int .i64 x15.Candidate, .int .i64 x15.Minutes] rfl rfl rfl (prN rfl)) (Wk.to (eC rfl (eC rfl (eC rfl (eC rfl (eC rfl (eC rfl (eC rfl (eC rfl eN)))))))) (mC rfl (mC rfl mN)) rfl (prK rfl)))))
    refine LH.seq ?_
    refine LH.seqT [(0, .lst 4 (List.map GEnrolment.lv p0)), (2, .int .i64 p2), (12, .arr 8 (List.length l12)), (15, .arr 178 (List.length l13)), (17, .sptr [.int .i64 x15.Stamp.Time, .int .i64 x15.Stamp.Source, .int .i64 x15.Stamp.Seq, .int .i64 x15.Kind, .int .i64 x15.Candidate, .int .i64 x15.Minutes]), (50, .lst 6 (List.map GRegisterEvent.lv r3.1)), (51, .int .i64 (r3.1.length : Int)), (52, .int .i64 n11), (60, .bool (decide (x15.Stamp.Time > p2)))] [(8, .nest 54 5 [(4, 3, 1)] (List.map GAttendance.lv l12)), (178, .arr 58 3 (List.map GRefusal.lv l13))] rfl ?_ ?_
    · refine sN (oFaS tf33_0 tk31 ts31 rfl rfl rfl ?_)
      refine sN (oFaS tf31_0 tk3 ts3 rfl rfl rfl ?_)
      refine sN (oLd rfl tk3 ta3 ?_)
      refine sN (oM (v := (.int _ _)) rfl ?_)
      refine sN (oGt rfl rfl ?_)
      exact s0 (Wk.to (eC rfl (eC rfl (eC rfl (eC rfl (eC rfl (eC rfl (eC rfl (eC rfl (eC rfl eN))))))))) (mC rfl (mC rfl mN)) rfl (prK rfl))
    refine LH.cond (t := (decide (x15.Stamp.Time > p2))) rfl (fun hc16 => ?_) (fun hc16 => ?_)
    · replace h := iteT h hc16
      refine LH.exit ?_
      refine thenX ?_
      refine blockX rfl ?_
      refine thenX ?_
      refine roundX ?_
      refine blockH ?_
      refine thenN ?_
      refine LH.wk ((Wk.trans (Wk.to (el := [(12, .arr 8 (List.length l12)), (15, .arr 178 (List.length l13))]) (ml := [(8, .nest 54 5 [(4, 3, 1)] (List.map GAttendance.lv l12)), (178, .arr 58 3 (List.map GRefusal.lv l13))]) (eC rfl (eC rfl eN)) (mC rfl (mC rfl mN)) rfl (prK rfl)) (Wk.trans (Wk.frzNL (f := GAttendance.lv) (el' := [(12, .lst 5 (List.map GAttendance.lv l12)), (15, .arr 178 (List.length l13))]) 8 54 5 [(4, 3, 1)] l12 rfl GAttendance.ok rfl (prN rfl) (fZ (fK rfl fN))) (Wk.trans (Wk.frzL (f := GRefusal.lv) (el' := [(12, .lst 5 (List.map GAttendance.lv l12)), (15, .lst 3 (List.map GRefusal.lv l13))]) 178 58 3 l13 rfl rfl (prN rfl) (fK rfl (fZ fN))) (Wk.to (el := [(12, .lst 5 (List.map GAttendance.lv l12)), (15, .lst 3 (List.map GRefusal.lv l13))]) (ml := []) (eC rfl (eC rfl eN)) mN rfl (prK rfl)))))) ?_
      refine LH.seqT [(6, .lst 5 (List.map GAttendance.lv l12)), (7, .lst 3 (List.map GRefusal.lv l13)), (8, .int .i64 0)] [] rfl ?_ ?_
      · refine sN (oM (v := (.lst _ _)) rfl ?_)
        refine sN (oM (v := (.lst _ _)) rfl ?_)
        refine sN (oA (v := (.lst _ _)) rfl ?_)
        refine sN (oA (v := (.lst _ _)) rfl ?_)
        refine sN (oA (v := (.int _ _)) rfl ?_)
        exact s0 (Wk.to (eC rfl (eC rfl (eC rfl eN))) mN rfl (prK rfl))
      refine LH.ret ?_
      obtain rfl := Option.some.inj h
      exact retE (congrArg Array.toList Try.results22) (lrT rfl (lrT rfl (lrT rfl (lr0 ⟨memN mN, rfl, prK rfl, (Sub.tup (sbR (sbR (sbR sbN))))⟩))))
    replace h := iteF h hc16
    refine LH.skip ?_
    refine thenN ?_
    refine LH.wk (Wk.to (el := [(0, .lst 4 (List.map GEnrolment.lv p0)), (2, .int .i64 p2), (12, .arr 8 (List.length l12)), (15, .arr 178 (List.length l13)), (17, .sptr [.int .i64 x15.Stamp.Time, .int .i64 x15.Stamp.Source, .int .i64 x15.Stamp.Seq, .int .i64 x15.Kind, .int .i64 x15.Candidate, .int .i64 x15.Minutes]), (50, .lst 6 (List.map GRegisterEvent.lv r3.1)), (51, .int .i64 (r3.1.length : Int)), (52, .int .i64 n11)]) (ml := [(8, .nest 54 5 [(4, 3, 1)] (List.map GAttendance.lv l12)), (178, .arr 58 3 (List.map GRefusal.lv l13))]) (eC rfl (eC rfl (eC rfl (eC rfl (eC rfl (eC rfl (eC rfl (eC rfl eN)))))))) (mC rfl (mC rfl mN)) rfl (prK rfl)) ?_
    obtain ⟨r17, hr17, h⟩ := bindS h
    refine LH.seqT [(0, .lst 4 (List.map GEnrolment.lv p0)), (2, .int .i64 p2), (12, .arr 8 (List.length r17.2)), (15, .arr 178 (List.length l13)), (17, .sptr [.int .i64 x15.Stamp.Time, .int .i64 x15.Stamp.Source, .int .i64 x15.Stamp.Seq, .int .i64 x15.Kind, .int .i64 x15.Candidate, .int .i64 x15.Minutes]), (18, .int .i64 r17.1), (50, .lst 6 (List.map GRegisterEvent.lv r3.1)), (51, .int .i64 (r3.1.length : Int)), (52, .int .i64 n11)] [(8, .nest 54 5 [(4, 3, 1)] (List.map GAttendance.lv r17.2)), (178, .arr 58 3 (List.map GRefusal.lv l13))] rfl ?_ ?_
    · refine sN (oM (v := (.lst _ _)) rfl ?_)
      refine sN (oM (v := (.arr _ _)) rfl ?_)
      refine sN (oLdA rfl tk33 ta33 ts33 rfl rfl ?_)
      refine sN (oCM (args := [.lst 4 (List.map GEnrolment.lv p0), .arr 8 (List.length l12), .agg [.int .i64 x15.Stamp.Time, .int .i64 x15.Stamp.Source, .int .i64 x15.Stamp.Seq, .int .i64 x15.Kind, .int .i64 x15.Candidate, .int .i64 x15.Minutes]]) (ml := [(8, .nest 54 5 [(4, 3, 1)] (List.map GAttendance.lv l12))]) (ml' := [(8, .nest 54 5 [(4, 3, 1)] (List.map GAttendance.lv r17.2))]) rfl isF44 rfl (sbR (sbR (sbR sbN))) (attendance_step_ok hr17) (mC rfl mN) (newI rfl newN) rfl ?_)
      refine sN (oA (v := (.int _ _)) rfl ?_)
      exact s0 (Wk.to (eC rfl (eC rfl (eC (congrArg (LV.arr 8) (attendance_step_len _ hr17)) (eC rfl (eC rfl (eC rfl (eC rfl (eC rfl (eC rfl eN))))))))) (mC rfl (mC rfl mN)) rfl (prK rfl))
    refine LH.seqT [(0, .lst 4 (List.map GEnrolment.lv p0)), (2, .int .i64 p2), (12, .arr 8 (List.length r17.2)), (15, .arr 178 (List.length l13)), (17, .sptr [.int .i64 x15.Stamp.Time, .int .i64 x15.Stamp.Source, .int .i64 x15.Stamp.Seq, .int .i64 x15.Kind, .int .i64 x15.Candidate, .int .i64 x15.Minutes]), (18, .int .i64 r17.1), (50, .lst 6 (List.map GRegisterEvent.lv r3.1)), (51, .int .i64 (r3.1.length : Int)), (52, .int .i64 n11), (66, .bool (r17.1 != 0))] [(8, .nest 54 5 [(4, 3, 1)] (List.map GAttendance.lv r17.2)), (178, .arr 58 3 (List.map GRefusal.lv l13))] rfl ?_ ?_
    · refine sN (oM (v := (.int _ _)) rfl ?_)
      refine sN (oNe rfl rfl ?_)
      exact s0 (Wk.to (eC rfl (eC rfl (eC rfl (eC rfl (eC rfl (eC rfl (eC rfl (eC rfl (eC rfl (eC rfl eN)))))))))) (mC rfl (mC rfl mN)) rfl (prK rfl))
    refine LH.cond (t := (r17.1 != 0)) rfl (fun hc18 => ?_) (fun hc18 => ?_)
    · replace h := iteT h hc18
      obtain ⟨v19, hv19, h⟩ := bindS h
      refine LH.loneT [(0, .lst 4 (List.map GEnrolment.lv p0)), (2, .int .i64 p2), (12, .arr 8 (List.length r17.2)), (15, .arr 178 (List.length v19)), (50, .lst 6 (List.map GRegisterEvent.lv r3.1)), (51, .int .i64 (r3.1.length : Int)), (52, .int .i64 n11)] [(8, .nest 54 5 [(4, 3, 1)] (List.map GAttendance.lv r17.2)), (178, .arr 58 3 (List.map GRefusal.lv v19))] rfl ?_ ?_
      · refine sN (oM (v := (.arr _ _)) rfl ?_)
        refine sN (oFaS tf33_0 tk31 ts31 rfl rfl rfl ?_)
        refine sN (oFaS tf31_1 tk3 ts3 rfl rfl rfl ?_)
        refine sN (oLd rfl tk3 ta3 ?_)
        refine sN (oFaS tf33_0 tk31 ts31 rfl rfl rfl ?_)
        refine sN (oFaS tf31_2 tk3 ts3 rfl rfl rfl ?_)
        refine sN (oLd rfl tk3 ta3 ?_)
        refine sN (oBd (vs := [(0, .int .i64 x15.Stamp.Source), (1, .int .i64 x15.Stamp.Seq)]) tu56 tz56 rfl (lf tf56_0 ts3 tk3 rfl rfl rfl (lf tf56_1 ts3 tk3 rfl rfl rfl lf0)) ?_)
        refine sN (oM (v := (.int _ _)) rfl ?_)
        refine sN (oBd (vs := [(0, .agg [.int .i64 x15.Stamp.Source, .int .i64 x15.Stamp.Seq]), (1, .int .i64 r17.1)]) tu58 tz58 rfl (lf tf58_0 ts56 tk56 rfl rfl rfl (lf tf58_1 ts27 tk27 rfl rfl rfl lf0)) ?_)
        refine sN (oBS (f := GRefusal.lv) (ys := [(GRefusal.mk (GIdentity.mk x15.Stamp.Source x15.Stamp.Seq) r17.1)]) te48 tr58 ts58 rfl rfl rfl GRefusal.ok ?_)
        refine sN (oAp (f := GRefusal.lv) te48 tr58 ts58 rfl rfl (prN rfl) rfl hv19 ?_)
        refine sN (oA (v := (.arr _ _)) rfl ?_)
        exact s0 (Wk.to (eC rfl (eC rfl (eC rfl (eC rfl (eC rfl (eC rfl (eC rfl eN))))))) (mC rfl (mC rfl mN)) rfl (prK rfl))
      refine blockN ?_
      refine thenN ?_
      refine LH.loneT [(0, .lst 4 (List.map GEnrolment.lv p0)), (2, .int .i64 p2), (12, .arr 8 (List.length r17.2)), (15, .arr 178 (List.length v19)), (50, .lst 6 (List.map GRegisterEvent.lv r3.1)), (51, .int .i64 (r3.1.length : Int)), (52, .int .i64 (i64 (n11 + 1)))] [(8, .nest 54 5 [(4, 3, 1)] (List.map GAttendance.lv r17.2)), (178, .arr 58 3 (List.map GRefusal.lv v19))] rfl ?_ ?_
      · refine sN (oAdd rfl rfl ?_)
        refine sN (oM (v := (.int _ _)) rfl ?_)
        exact s0 (Wk.to (eC rfl (eC rfl (eC rfl (eC rfl (eC rfl (eC rfl (eC rfl eN))))))) (mC rfl (mC rfl mN)) rfl (prK rfl))
      exact roundN (e' := Env.of [(0, .lst 4 (List.map GEnrolment.lv p0)), (2, .int .i64 p2), (12, .arr 8 (List.length r17.2)), (15, .arr 178 (List.length v19)), (50, .lst 6 (List.map GRegisterEvent.lv r3.1)), (51, .int .i64 (r3.1.length : Int)), (52, .int .i64 (i64 (n11 + 1)))]) (m' := Mem.of [(8, .nest 54 5 [(4, 3, 1)] (List.map GAttendance.lv r17.2)), (178, .arr 58 3 (List.map GRefusal.lv v19))]) (Wk.to (eC rfl (eC rfl (eC rfl (eC rfl (eC rfl (eC rfl (eC rfl eN))))))) (mC rfl (mC rfl mN)) rfl (prK rfl)) ⟨(i64 (n11 + 1)), r17.2, v19, hrec2 ▸ h, rfl, rfl⟩
    replace h := iteF h hc18
    refine LH.skip ?_
    refine blockN ?_
    refine thenN ?_
    refine LH.wk (Wk.to (el := [(0, .lst 4 (List.map GEnrolment.lv p0)), (2, .int .i64 p2), (12, .arr 8 (List.length r17.2)), (15, .arr 178 (List.length l13)), (50, .lst 6 (List.map GRegisterEvent.lv r3.1)), (51, .int .i64 (r3.1.length : Int)), (52, .int .i64 n11)]) (ml := [(8, .nest 54 5 [(4, 3, 1)] (List.map GAttendance.lv r17.2)), (178, .arr 58 3 (List.map GRefusal.lv l13))]) (eC rfl (eC rfl (eC rfl (eC rfl (eC rfl (eC rfl (eC rfl eN))))))) (mC rfl (mC rfl mN)) rfl (prK rfl)) ?_
    refine LH.loneT [(0, .lst 4 (List.map GEnrolment.lv p0)), (2, .int .i64 p2), (12, .arr 8 (List.length r17.2)), (15, .arr 178 (List.length l13)), (50, .lst 6 (List.map GRegisterEvent.lv r3.1)), (51, .int .i64 (r3.1.length : Int)), (52, .int .i64 (i64 (n11 + 1)))] [(8, .nest 54 5 [(4, 3, 1)] (List.map GAttendance.lv r17.2)), (178, .arr 58 3 (List.map GRefusal.lv l13))] rfl ?_ ?_
    · refine sN (oAdd rfl rfl ?_)
      refine sN (oM (v := (.int _ _)) rfl ?_)
      exact s0 (Wk.to (eC rfl (eC rfl (eC rfl (eC rfl (eC rfl (eC rfl (eC rfl eN))))))) (mC rfl (mC rfl mN)) rfl (prK rfl))
    exact roundN (e' := Env.of [(0, .lst 4 (List.map GEnrolment.lv p0)), (2, .int .i64 p2), (12, .arr 8 (List.length r17.2)), (15, .arr 178 (List.length l13)), (50, .lst 6 (List.map GRegisterEvent.lv r3.1)), (51, .int .i64 (r3.1.length : Int)), (52, .int .i64 (i64 (n11 + 1)))]) (m' := Mem.of [(8, .nest 54 5 [(4, 3, 1)] (List.map GAttendance.lv r17.2)), (178, .arr 58 3 (List.map GRefusal.lv l13))]) (Wk.to (eC rfl (eC rfl (eC rfl (eC rfl (eC rfl (eC rfl (eC rfl eN))))))) (mC rfl (mC rfl mN)) rfl (prK rfl)) ⟨(i64 (n11 + 1)), r17.2, l13, hrec2 ▸ h, rfl, rfl⟩
  replace h := iteF h hc14
  refine LH.exit ?_
  refine thenX ?_
  refine roundX ?_
  refine blockH ?_
  refine thenN ?_
  refine LH.wk ((Wk.trans (Wk.to (el := [(12, .arr 8 (List.length l12)), (15, .arr 178 (List.length l13))]) (ml := [(8, .nest 54 5 [(4, 3, 1)] (List.map GAttendance.lv l12)), (178, .arr 58 3 (List.map GRefusal.lv l13))]) (eC rfl (eC rfl eN)) (mC rfl (mC rfl mN)) rfl (prK rfl)) (Wk.trans (Wk.frzNL (f := GAttendance.lv) (el' := [(12, .lst 5 (List.map GAttendance.lv l12)), (15, .arr 178 (List.length l13))]) 8 54 5 [(4, 3, 1)] l12 rfl GAttendance.ok rfl (prN rfl) (fZ (fK rfl fN))) (Wk.trans (Wk.frzL (f := GRefusal.lv) (el' := [(12, .lst 5 (List.map GAttendance.lv l12)), (15, .lst 3 (List.map GRefusal.lv l13))]) 178 58 3 l13 rfl rfl (prN rfl) (fK rfl (fZ fN))) (Wk.to (el := [(12, .lst 5 (List.map GAttendance.lv l12)), (15, .lst 3 (List.map GRefusal.lv l13))]) (ml := []) (eC rfl (eC rfl eN)) mN rfl (prK rfl)))))) ?_
  refine LH.seqT [(6, .lst 5 (List.map GAttendance.lv l12)), (7, .lst 3 (List.map GRefusal.lv l13)), (8, .int .i64 0)] [] rfl ?_ ?_
  · refine sN (oM (v := (.lst _ _)) rfl ?_)
    refine sN (oM (v := (.lst _ _)) rfl ?_)
    refine sN (oA (v := (.lst _ _)) rfl ?_)
    refine sN (oA (v := (.lst _ _)) rfl ?_)
    refine sN (oA (v := (.int _ _)) rfl ?_)
    exact s0 (Wk.to (eC rfl (eC rfl (eC rfl eN))) mN rfl (prK rfl))
  refine LH.ret ?_
  obtain rfl := Option.some.inj h
  exact retE (congrArg Array.toList Try.results22) (lrT rfl (lrT rfl (lrT rfl (lr0 ⟨memN mN, rfl, prK rfl, (Sub.tup (sbR (sbR (sbR sbN))))⟩))))

theorem ref06_Ints_ok {F : Nat} {p0 : List Int} {p1 : List Int} {r : Bool} (h : ref06_Ints F p0 p1 = some r) : LCall Try.prog 33 [.lst 1 (List.map (LV.int .i64) p0), .lst 1 (List.map (LV.int .i64) p1)] (Mem.of []) (.bool r) (Mem.of []) := by
  unfold ref06_Ints at h
  refine bodyT Try.func33 rfl (by rw [Try.ntmps33]; exact Nat.le_of_ble_eq_true rfl) ?_
  refine LH.wk (Wk.to (el := [(0, .lst 1 (List.map (LV.int .i64) p0)), (1, .lst 1 (List.map (LV.int .i64) p1))]) (ml := []) (eC rfl (eC rfl eN)) mN rfl (prK rfl)) ?_
  refine LH.seqT [(0, .lst 1 (List.map (LV.int .i64) p0)), (1, .lst 1 (List.map (LV.int .i64) p1))] [] rfl ?_ ?_
  · refine sN (oA (v := (.bool _)) rfl ?_)
    exact s0 (Wk.to (eC rfl (eC rfl eN)) mN rfl (prK rfl))
  refine LH.seq ?_
  refine LH.seqT [(0, .lst 1 (List.map (LV.int .i64) p0)), (1, .lst 1 (List.map (LV.int .i64) p1)), (10, .bool ((p0.length : Int) != (p1.length : Int)))] [] rfl ?_ ?_
  · refine sN (oM (v := (.lst _ _)) rfl ?_)
    refine sN (oLnL (f := (LV.int .i64)) te22 rfl ?_)
    refine sN (oM (v := (.lst _ _)) rfl ?_)
    refine sN (oLnL (f := (LV.int .i64)) te22 rfl ?_)
    refine sN (oNe rfl rfl ?_)
    exact s0 (Wk.to (eC rfl (eC rfl (eC rfl eN))) mN rfl (prK rfl))
  refine LH.cond (t := ((p0.length : Int) != (p1.length : Int))) rfl (fun hc1 => ?_) (fun hc1 => ?_)
  · replace h := iteT h hc1
    refine LH.seqT [(4, .bool false)] [] rfl ?_ ?_
    · refine sN (oA (v := (.bool _)) rfl ?_)
      exact s0 (Wk.to (eC rfl eN) mN rfl (prK rfl))
    refine LH.ret ?_
    refine thenR ?_
    obtain rfl := Option.some.inj h
    exact retE (congrArg Array.toList Try.results33) (lrT rfl (lr0 ⟨memN mN, rfl, prK rfl, Sub.rfl⟩))
  replace h := iteF h hc1
  refine LH.skip ?_
  refine thenN ?_
  refine LH.wk (Wk.to (el := [(0, .lst 1 (List.map (LV.int .i64) p0)), (1, .lst 1 (List.map (LV.int .i64) p1))]) (ml := []) (eC rfl (eC rfl eN)) mN rfl (prK rfl)) ?_
  refine LH.seq ?_
  refine LH.seqT [(0, .lst 1 (List.map (LV.int .i64) p0)), (1, .lst 1 (List.map (LV.int .i64) p1)), (5, .int .i64 0)] [] rfl ?_ ?_
  · refine sN (oA (v := (.int _ _)) rfl ?_)
    exact s0 (Wk.to (eC rfl (eC rfl (eC rfl eN))) mN rfl (prK rfl))
  refine LH.block ?_
  refine LH.loop (fun n e m => ∃ (n2 : Int), ref06_Ints_L1 p0 p1 n n2 = some r ∧ e = Env.of [(0, .lst 1 (List.map (LV.int .i64) p0)), (1, .lst 1 (List.map (LV.int .i64) p1)), (5, .int .i64 n2)] ∧ m = Mem.of []) F ⟨0, h, rfl, rfl⟩ ?_
  clear h
  rintro n e m ⟨n2, h, rfl, rfl⟩
  rcases n with _ | n
  · cases (show Option.none = some _ from h)
  obtain ⟨rec1, hrec1⟩ : ∃ f, f = ref06_Ints_L1 p0 p1 n := ⟨_, rfl⟩
  replace h : ref06_Ints_L1_B p0 p1 rec1 n2 = some r := hrec1 ▸ h
  unfold ref06_Ints_L1_B at h
  refine LH.seq ?_
  refine LH.seqT [(0, .lst 1 (List.map (LV.int .i64) p0)), (1, .lst 1 (List.map (LV.int .i64) p1)), (5, .int .i64 n2), (14, .bool (decide (n2 < (p0.length : Int))))] [] rfl ?_ ?_
  · refine sN (oM (v := (.int _ _)) rfl ?_)
    refine sN (oM (v := (.lst _ _)) rfl ?_)
    refine sN (oLnL (f := (LV.int .i64)) te22 rfl ?_)
    refine sN (oLt rfl rfl ?_)
    exact s0 (Wk.to (eC rfl (eC rfl (eC rfl (eC rfl eN)))) mN rfl (prK rfl))
  refine LH.cond (t := (decide (n2 < (p0.length : Int)))) rfl (fun hc3 => ?_) (fun hc3 => ?_)
  · replace h := iteT h hc3
    refine LH.skip ?_
    refine thenN ?_
    refine LH.wk (Wk.to (el := [(0, .lst 1 (List.map (LV.int .i64) p0)), (1, .lst 1 (List.map (LV.int .i64) p1)), (5, .int .i64 n2)]) (ml := []) (eC rfl (eC rfl (eC rfl eN))) mN rfl (prK rfl)) ?_
    refine LH.seq ?_
    refine LH.block ?_
    obtain ⟨x4, hx4, h⟩ := bindS h
    obtain ⟨x5, hx5, h⟩ := bindS h
    refine LH.seqJM mixed [] [0, 0, 0, 0, 0, 0, 0, 0, 0] [(0, .lst 1 (List.map (LV.int .i64) p0)), (1, .lst 1 (List.map (LV.int .i64) p1)), (5, .int .i64 n2), (25, .bool (x4 != x5))] [] rfl rfl (by kernel_rfl) ?_ ?_
    · refine mN0 (oM (v := (.lst _ _)) rfl ⟨rfl, ?_⟩)
      refine mN0 (oM (v := (.int _ _)) rfl ⟨rfl, ?_⟩)
      refine mN0 (oIx (f := (LV.int .i64)) te22 tk3 ts3 rfl rfl okI hx4 rfl ⟨rfl, ?_⟩)
      refine mN0 (oLd rfl tk3 ta3 ⟨rfl, ?_⟩)
      refine mN0 (oM (v := (.lst _ _)) rfl ⟨rfl, ?_⟩)
      refine mN0 (oM (v := (.int _ _)) rfl ⟨rfl, ?_⟩)
      refine mN0 (oIx (f := (LV.int .i64)) te22 tk3 ts3 rfl rfl okI hx5 rfl ⟨rfl, ?_⟩)
      refine mN0 (oLd rfl tk3 ta3 ⟨rfl, ?_⟩)
      refine mN0 (oNe rfl rfl ⟨rfl, ?_⟩)
      exact m0 (Wk.to (eC rfl (eC rfl (eC rfl (eC rfl eN)))) mN rfl (prK rfl))
    refine LH.cond (t := (x4 != x5)) rfl (fun hc6 => ?_) (fun hc6 => ?_)
    · replace h := iteT h hc6
      refine LH.seqT [(4, .bool false)] [] rfl ?_ ?_
      · refine sN (oA (v := (.bool _)) rfl ?_)
        exact s0 (Wk.to (eC rfl eN) mN rfl (prK rfl))
      refine LH.ret ?_
      refine blockR ?_
      refine thenR ?_
      refine roundR ?_
      refine blockR ?_
      refine thenR ?_
      obtain rfl := Option.some.inj h
      exact retE (congrArg Array.toList Try.results33) (lrT rfl (lr0 ⟨memN mN, rfl, prK rfl, Sub.rfl⟩))
    replace h := iteF h hc6
    refine LH.skip ?_
    refine blockN ?_
    refine thenN ?_
    refine LH.wk (Wk.to (el := [(0, .lst 1 (List.map (LV.int .i64) p0)), (1, .lst 1 (List.map (LV.int .i64) p1)), (5, .int .i64 n2)]) (ml := []) (eC rfl (eC rfl (eC rfl eN))) mN rfl (prK rfl)) ?_
    refine LH.loneT [(0, .lst 1 (List.map (LV.int .i64) p0)), (1, .lst 1 (List.map (LV.int .i64) p1)), (5, .int .i64 (i64 (n2 + 1)))] [] rfl ?_ ?_
    · refine sN (oM (v := (.int _ _)) rfl ?_)
      refine sN (oAdd rfl rfl ?_)
      refine sN (oA (v := (.int _ _)) rfl ?_)
      exact s0 (Wk.to (eC rfl (eC rfl (eC rfl eN))) mN rfl (prK rfl))
    exact roundN (e' := Env.of [(0, .lst 1 (List.map (LV.int .i64) p0)), (1, .lst 1 (List.map (LV.int .i64) p1)), (5, .int .i64 (i64 (n2 + 1)))]) (m' := Mem.of []) (Wk.to (eC rfl (eC rfl (eC rfl eN))) mN rfl (prK rfl)) ⟨(i64 (n2 + 1)), hrec1 ▸ h, rfl, rfl⟩
  replace h := iteF h hc3
  refine LH.exit ?_
  refine thenX ?_
  refine roundX ?_
  refine blockH ?_
  refine thenN ?_
  refine LH.wk (Wk.to (el := []) (ml := []) eN mN rfl (prK rfl)) ?_
  refine LH.seqT [(4, .bool true)] [] rfl ?_ ?_
  · refine sN (oA (v := (.bool _)) rfl ?_)
    exact s0 (Wk.to (eC rfl eN) mN rfl (prK rfl))
  refine LH.ret ?_
  obtain rfl := Option.some.inj h
  exact retE (congrArg Array.toList Try.results33) (lrT rfl (lr0 ⟨memN mN, rfl, prK rfl, Sub.rfl⟩))

theorem ref16_Same_ok {F : Nat} {p0 : GAttendance} {p1 : GAttendance} {r : Bool} (h : ref16_Same F p0 p1 = some r) : LCall Try.prog 29 [.agg [.int .i64 p0.Candidate, .int .i64 p0.State, .int .i64 p0.Late, .int .i64 p0.Left, .lst 1 (List.map (LV.int .i64) p0.Incidents)], .agg [.int .i64 p1.Candidate, .int .i64 p1.State, .int .i64 p1.Late, .int .i64 p1.Left, .lst 1 (List.map (LV.int .i64) p1.Incidents)]] (Mem.of []) (.bool r) (Mem.of []) := by
  unfold ref16_Same at h
  refine bodyT Try.func29 rfl (by rw [Try.ntmps29]; exact Nat.le_of_ble_eq_true rfl) ?_
  refine LH.wk (Wk.to (el := [(0, .agg [.int .i64 p0.Candidate, .int .i64 p0.State, .int .i64 p0.Late, .int .i64 p0.Left, .lst 1 (List.map (LV.int .i64) p0.Incidents)]), (1, .agg [.int .i64 p1.Candidate, .int .i64 p1.State, .int .i64 p1.Late, .int .i64 p1.Left, .lst 1 (List.map (LV.int .i64) p1.Incidents)])]) (ml := []) (eC rfl (eC rfl eN)) mN rfl (prK rfl)) ?_
  refine LH.seqT [(2, .sptr [.int .i64 p0.Candidate, .int .i64 p0.State, .int .i64 p0.Late, .int .i64 p0.Left, .lst 1 (List.map (LV.int .i64) p0.Incidents)]), (3, .sptr [.int .i64 p1.Candidate, .int .i64 p1.State, .int .i64 p1.Late, .int .i64 p1.Left, .lst 1 (List.map (LV.int .i64) p1.Incidents)])] [] rfl ?_ ?_
  · refine sB (oBxR rfl rfl rfl rfl ?_)
    refine sB (oBxR rfl rfl rfl rfl ?_)
    refine sN (oA (v := (.bool _)) rfl ?_)
    exact s0 (Wk.to (eC rfl (eC rfl eN)) mN rfl (prK rfl))
  obtain ⟨w2, hv, h⟩ := bindS h
  refine LH.seqT [(4, .bool w2)] [] rfl ?_ ?_
  · refine sN (oFaS tf54_0 tk3 ts3 rfl rfl rfl ?_)
    refine sN (oLd rfl tk3 ta3 ?_)
    refine sN (oFaS tf54_0 tk3 ts3 rfl rfl rfl ?_)
    refine sN (oLd rfl tk3 ta3 ?_)
    refine sN (oEq rfl rfl ?_)
    refine sN (oM (v := (.bool _)) rfl ?_)
    by_cases hb3 : (p0.Candidate == p1.Candidate) = true
    · replace hv := iteT hv hb3
      refine sT rfl (congrArg LV.bool hb3) (oFaS tf54_1 tk3 ts3 rfl rfl rfl ?_)
      refine sT rfl (congrArg LV.bool hb3) (oLd rfl tk3 ta3 ?_)
      refine sT rfl (congrArg LV.bool hb3) (oFaS tf54_1 tk3 ts3 rfl rfl rfl ?_)
      refine sT rfl (congrArg LV.bool hb3) (oLd rfl tk3 ta3 ?_)
      refine sT rfl (congrArg LV.bool hb3) (oEq rfl rfl ?_)
      refine sN (oPkT (congrArg LV.bool hb3) (v := (.bool _)) rfl ?_)
      refine sN (oM (v := (.bool _)) rfl ?_)
      by_cases hb4 : (p0.State == p1.State) = true
      · replace hv := iteT hv hb4
        refine sT rfl (congrArg LV.bool hb4) (oFaS tf54_2 tk3 ts3 rfl rfl rfl ?_)
        refine sT rfl (congrArg LV.bool hb4) (oLd rfl tk3 ta3 ?_)
        refine sT rfl (congrArg LV.bool hb4) (oFaS tf54_2 tk3 ts3 rfl rfl rfl ?_)
        refine sT rfl (congrArg LV.bool hb4) (oLd rfl tk3 ta3 ?_)
        refine sT rfl (congrArg LV.bool hb4) (oEq rfl rfl ?_)
        refine sN (oPkT (congrArg LV.bool hb4) (v := (.bool _)) rfl ?_)
        refine sN (oM (v := (.bool _)) rfl ?_)
        by_cases hb5 : (p0.Late == p1.Late) = true
        · replace hv := iteT hv hb5
          refine sT rfl (congrArg LV.bool hb5) (oFaS tf54_3 tk3 ts3 rfl rfl rfl ?_)
          refine sT rfl (congrArg LV.bool hb5) (oLd rfl tk3 ta3 ?_)
          refine sT rfl (congrArg LV.bool hb5) (oFaS tf54_3 tk3 ts3 rfl rfl rfl ?_)
          refine sT rfl (congrArg LV.bool hb5) (oLd rfl tk3 ta3 ?_)
          refine sT rfl (congrArg LV.bool hb5) (oEq rfl rfl ?_)
          refine sN (oPkT (congrArg LV.bool hb5) (v := (.bool _)) rfl ?_)
          refine sN (oM (v := (.bool _)) rfl ?_)
          by_cases hb6 : (p0.Left == p1.Left) = true
          · replace hv := iteT hv hb6
            refine sT rfl (congrArg LV.bool hb6) (oFaS tf54_4 tk22 ts22 rfl rfl rfl ?_)
            refine sT rfl (congrArg LV.bool hb6) (oLd rfl tk22 ta22 ?_)
            refine sT rfl (congrArg LV.bool hb6) (oFaS tf54_4 tk22 ts22 rfl rfl rfl ?_)
            refine sT rfl (congrArg LV.bool hb6) (oLd rfl tk22 ta22 ?_)
            obtain ⟨r7, hr7, hv⟩ := bindS hv
            refine sT rfl (congrArg LV.bool hb6) (oCP (args := [.lst 1 (List.map (LV.int .i64) p0.Incidents), .lst 1 (List.map (LV.int .i64) p1.Incidents)]) rfl isF33 rfl (sbR (sbR sbN)) (ref06_Ints_ok hr7) rfl ?_)
            refine sN (oPkT (congrArg LV.bool hb6) (v := (.bool _)) rfl ?_)
            refine sN (oA (v := (.bool _)) rfl ?_)
            obtain rfl := Option.some.inj hv
            exact s0 (Wk.to (eC rfl eN) mN rfl (prK rfl))
          · replace hb6 := bF hb6
            replace hv := iteF hv hb6
            refine sF rfl rfl hb6 ?_
            refine sF rfl rfl hb6 ?_
            refine sF rfl rfl hb6 ?_
            refine sF rfl rfl hb6 ?_
            refine sF rfl rfl hb6 ?_
            refine sN (oPkF (congrArg LV.bool hb6) (v := (.bool _)) rfl ?_)
            refine sN (oA (v := (.bool _)) rfl ?_)
            obtain rfl := Option.some.inj hv
            exact s0 (Wk.to (eC rfl eN) mN rfl (prK rfl))
        · replace hb5 := bF hb5
          replace hv := iteF hv hb5
          refine sF rfl rfl hb5 ?_
          refine sF rfl rfl hb5 ?_
          refine sF rfl rfl hb5 ?_
          refine sF rfl rfl hb5 ?_
          refine sF rfl rfl hb5 ?_
          refine sN (oPkF (congrArg LV.bool hb5) (v := (.bool _)) rfl ?_)
          refine sN (oM (v := (.bool _)) rfl ?_)
          refine sF rfl rfl rfl ?_
          refine sF rfl rfl rfl ?_
          refine sF rfl rfl rfl ?_
          refine sF rfl rfl rfl ?_
          refine sF rfl rfl rfl ?_
          refine sN (oPkF rfl (v := (.bool _)) rfl ?_)
          refine sN (oA (v := (.bool _)) rfl ?_)
          obtain rfl := Option.some.inj hv
          exact s0 (Wk.to (eC rfl eN) mN rfl (prK rfl))
      · replace hb4 := bF hb4
        replace hv := iteF hv hb4
        refine sF rfl rfl hb4 ?_
        refine sF rfl rfl hb4 ?_
        refine sF rfl rfl hb4 ?_
        refine sF rfl rfl hb4 ?_
        refine sF rfl rfl hb4 ?_
        refine sN (oPkF (congrArg LV.bool hb4) (v := (.bool _)) rfl ?_)
        refine sN (oM (v := (.bool _)) rfl ?_)
        refine sF rfl rfl rfl ?_
        refine sF rfl rfl rfl ?_
        refine sF rfl rfl rfl ?_
        refine sF rfl rfl rfl ?_
        refine sF rfl rfl rfl ?_
        refine sN (oPkF rfl (v := (.bool _)) rfl ?_)
        refine sN (oM (v := (.bool _)) rfl ?_)
        refine sF rfl rfl rfl ?_
        refine sF rfl rfl rfl ?_
        refine sF rfl rfl rfl ?_
        refine sF rfl rfl rfl ?_
        refine sF rfl rfl rfl ?_
        refine sN (oPkF rfl (v := (.bool _)) rfl ?_)
        refine sN (oA (v := (.bool _)) rfl ?_)
        obtain rfl := Option.some.inj hv
        exact s0 (Wk.to (eC rfl eN) mN rfl (prK rfl))
    · replace hb3 := bF hb3
      replace hv := iteF hv hb3
      refine sF rfl rfl hb3 ?_
      refine sF rfl rfl hb3 ?_
      refine sF rfl rfl hb3 ?_
      refine sF rfl rfl hb3 ?_
      refine sF rfl rfl hb3 ?_
      refine sN (oPkF (congrArg LV.bool hb3) (v := (.bool _)) rfl ?_)
      refine sN (oM (v := (.bool _)) rfl ?_)
      refine sF rfl rfl rfl ?_
      refine sF rfl rfl rfl ?_
      refine sF rfl rfl rfl ?_
      refine sF rfl rfl rfl ?_
      refine sF rfl rfl rfl ?_
      refine sN (oPkF rfl (v := (.bool _)) rfl ?_)
      refine sN (oM (v := (.bool _)) rfl ?_)
      refine sF rfl rfl rfl ?_
      refine sF rfl rfl rfl ?_
      refine sF rfl rfl rfl ?_
      refine sF rfl rfl rfl ?_
      refine sF rfl rfl rfl ?_
      refine sN (oPkF rfl (v := (.bool _)) rfl ?_)
      refine sN (oM (v := (.bool _)) rfl ?_)
      refine sF rfl rfl rfl ?_
      refine sF rfl rfl rfl ?_
      refine sF rfl rfl rfl ?_
      refine sF rfl rfl rfl ?_
      refine sF rfl rfl rfl ?_
      refine sN (oPkF rfl (v := (.bool _)) rfl ?_)
      refine sN (oA (v := (.bool _)) rfl ?_)
      obtain rfl := Option.some.inj hv
      exact s0 (Wk.to (eC rfl eN) mN rfl (prK rfl))
  clear hv
  refine LH.ret ?_
  obtain rfl := Option.some.inj h
  exact retE (congrArg Array.toList Try.results29) (lrT rfl (lr0 ⟨memN mN, rfl, prK rfl, Sub.rfl⟩))

theorem law16_awake_ok {F : Nat} {r : Bool} (h : law16_awake F = some r) : LCall Try.prog 17 [] (Mem.of []) (.bool r) (Mem.of []) := by
  unfold law16_awake at h
  refine bodyT Try.func17 rfl (by rw [Try.ntmps17]; exact Nat.le_of_ble_eq_true rfl) ?_
  refine LH.wk (Wk.to (el := []) (ml := []) eN mN rfl (prK rfl)) ?_
  refine LH.seqT [] [] rfl ?_ ?_
  · refine sN (oA (v := (.bool _)) rfl ?_)
    exact s0 (Wk.to eN mN rfl (prK rfl))
  refine LH.seqT [(1, .lst 4 (List.map GEnrolment.lv [(GEnrolment.mk (GEntry.mk 5 7 0) false)]))] [] rfl ?_ ?_
  · refine sN (oBd (vs := [(0, .int .i64 5), (1, .int .i64 7)]) tu42 tz42 rfl (lf tf42_0 ts3 tk3 rfl rfl rfl (lf tf42_1 ts3 tk3 rfl rfl rfl lf0)) ?_)
    refine sN (oBd (vs := [(0, .agg [.int .i64 5, .int .i64 7, .int .i64 0])]) tu44 tz44 rfl (lf tf44_0 ts42 tk42 rfl rfl rfl lf0) ?_)
    refine sN (oBS (f := GEnrolment.lv) (ys := [(GEnrolment.mk (GEntry.mk 5 7 0) false)]) te38 tr44 ts44 rfl rfl rfl GEnrolment.ok ?_)
    refine sN (oA (v := (.lst _ _)) rfl ?_)
    exact s0 (Wk.to (eC rfl eN) mN rfl (prK rfl))
  refine LH.seqT [(1, .lst 4 (List.map GEnrolment.lv [(GEnrolment.mk (GEntry.mk 5 7 0) false)])), (2, .lst 6 (List.map GRegisterEvent.lv [(GRegisterEvent.mk (GStamp.mk 2 7 1) 3 5 12), (GRegisterEvent.mk (GStamp.mk 1 7 0) 2 5 0), (GRegisterEvent.mk (GStamp.mk 3 7 2) 4 5 60), (GRegisterEvent.mk (GStamp.mk 4 8 0) 2 5 0)]))] [] rfl ?_ ?_
  · refine sN (oBd (vs := [(0, .int .i64 2), (1, .int .i64 7), (2, .int .i64 1)]) tu31 tz31 rfl (lf tf31_0 ts3 tk3 rfl rfl rfl (lf tf31_1 ts3 tk3 rfl rfl rfl (lf tf31_2 ts3 tk3 rfl rfl rfl lf0))) ?_)
    refine sN (oBd (vs := [(0, .agg [.int .i64 2, .int .i64 7, .int .i64 1]), (1, .int .i64 3), (2, .int .i64 5), (3, .int .i64 12)]) tu33 tz33 rfl (lf tf33_0 ts31 tk31 rfl rfl rfl (lf tf33_1 ts3 tk3 rfl rfl rfl (lf tf33_2 ts3 tk3 rfl rfl rfl (lf tf33_3 ts3 tk3 rfl rfl rfl lf0)))) ?_)
    refine sN (oBd (vs := [(0, .int .i64 1), (1, .int .i64 7)]) tu31 tz31 rfl (lf tf31_0 ts3 tk3 rfl rfl rfl (lf tf31_1 ts3 tk3 rfl rfl rfl lf0)) ?_)
    refine sN (oBd (vs := [(0, .agg [.int .i64 1, .int .i64 7, .int .i64 0]), (1, .int .i64 2), (2, .int .i64 5)]) tu33 tz33 rfl (lf tf33_0 ts31 tk31 rfl rfl rfl (lf tf33_1 ts3 tk3 rfl rfl rfl (lf tf33_2 ts3 tk3 rfl rfl rfl lf0))) ?_)
    refine sN (oBd (vs := [(0, .int .i64 3), (1, .int .i64 7), (2, .int .i64 2)]) tu31 tz31 rfl (lf tf31_0 ts3 tk3 rfl rfl rfl (lf tf31_1 ts3 tk3 rfl rfl rfl (lf tf31_2 ts3 tk3 rfl rfl rfl lf0))) ?_)
    refine sN (oBd (vs := [(0, .agg [.int .i64 3, .int .i64 7, .int .i64 2]), (1, .int .i64 4), (2, .int .i64 5), (3, .int .i64 60)]) tu33 tz33 rfl (lf tf33_0 ts31 tk31 rfl rfl rfl (lf tf33_1 ts3 tk3 rfl rfl rfl (lf tf33_2 ts3 tk3 rfl rfl rfl (lf tf33_3 ts3 tk3 rfl rfl rfl lf0)))) ?_)
    refine sN (oBd (vs := [(0, .int .i64 4), (1, .int .i64 8)]) tu31 tz31 rfl (lf tf31_0 ts3 tk3 rfl rfl rfl (lf tf31_1 ts3 tk3 rfl rfl rfl lf0)) ?_)
    refine sN (oBd (vs := [(0, .agg [.int .i64 4, .int .i64 8, .int .i64 0]), (1, .int .i64 2), (2, .int .i64 5)]) tu33 tz33 rfl (lf tf33_0 ts31 tk31 rfl rfl rfl (lf tf33_1 ts3 tk3 rfl rfl rfl (lf tf33_2 ts3 tk3 rfl rfl rfl lf0))) ?_)
    refine sN (oBS (f := GRegisterEvent.lv) (ys := [(GRegisterEvent.mk (GStamp.mk 2 7 1) 3 5 12), (GRegisterEvent.mk (GStamp.mk 1 7 0) 2 5 0), (GRegisterEvent.mk (GStamp.mk 3 7 2) 4 5 60), (GRegisterEvent.mk (GStamp.mk 4 8 0) 2 5 0)]) te25 tr33 ts33 rfl rfl rfl GRegisterEvent.ok ?_)
    refine sN (oA (v := (.lst _ _)) rfl ?_)
    exact s0 (Wk.to (eC rfl (eC rfl eN)) mN rfl (prK rfl))
  obtain ⟨r1, hr1, h⟩ := bindS h
  refine LH.seqT [(3, .lst 5 (List.map GAttendance.lv r1.1)), (4, .lst 3 (List.map GRefusal.lv r1.2.1)), (5, .int .i64 r1.2.2)] [] rfl ?_ ?_
  · refine sN (oM (v := (.lst _ _)) rfl ?_)
    refine sN (oM (v := (.lst _ _)) rfl ?_)
    refine sN (oCP (args := [.lst 4 (List.map GEnrolment.lv [(GEnrolment.mk (GEntry.mk 5 7 0) false)]), .lst 6 (List.map GRegisterEvent.lv [(GRegisterEvent.mk (GStamp.mk 2 7 1) 3 5 12), (GRegisterEvent.mk (GStamp.mk 1 7 0) 2 5 0), (GRegisterEvent.mk (GStamp.mk 3 7 2) 4 5 60), (GRegisterEvent.mk (GStamp.mk 4 8 0) 2 5 0)]), .int .i64 9]) rfl isF22 rfl (sbR (sbR (sbR sbN))) (attendance_Fold_ok hr1) rfl ?_)
    refine sN (oM (v := (.tup _)) rfl ?_)
    refine sN (oEx rfl rfl ?_)
    refine sN (oEx rfl rfl ?_)
    refine sN (oEx rfl rfl ?_)
    refine sN (oA (v := (.lst _ _)) rfl ?_)
    refine sN (oA (v := (.lst _ _)) rfl ?_)
    refine sN (oA (v := (.int _ _)) rfl ?_)
    exact s0 (Wk.to (eC rfl (eC rfl (eC rfl eN))) mN rfl (prK rfl))
  obtain ⟨w3, hv, h⟩ := bindS h
  refine LH.seqT [(0, .bool w3)] [] rfl ?_ ?_
  · refine sN (oM (v := (.int _ _)) rfl ?_)
    refine sN (oEq rfl rfl ?_)
    refine sN (oM (v := (.bool _)) rfl ?_)
    by_cases hb4 : (r1.2.2 == 0) = true
    · replace hv := iteT hv hb4
      refine sT rfl (congrArg LV.bool hb4) (oM (v := (.lst _ _)) rfl ?_)
      refine sT rfl (congrArg LV.bool hb4) (oLnL (f := GAttendance.lv) te47 rfl ?_)
      refine sT rfl (congrArg LV.bool hb4) (oEq rfl rfl ?_)
      refine sN (oPkT (congrArg LV.bool hb4) (v := (.bool _)) rfl ?_)
      refine sN (oM (v := (.bool _)) rfl ?_)
      by_cases hb5 : ((r1.1.length : Int) == 1) = true
      · replace hv := iteT hv hb5
        refine sT rfl (congrArg LV.bool hb5) (oM (v := (.lst _ _)) rfl ?_)
        obtain ⟨x6, hx6, hv⟩ := bindS hv
        refine sT rfl (congrArg LV.bool hb5) (oIx (f := GAttendance.lv) te47 tk54 ts54 rfl rfl GAttendance.ok hx6 rfl ?_)
        refine sT rfl (congrArg LV.bool hb5) (oLdA rfl tk54 ta54 ts54 rfl rfl ?_)
        refine sT rfl (congrArg LV.bool hb5) (oBd (vs := [(0, .int .i64 5), (1, .int .i64 1), (2, .int .i64 12), (3, .int .i64 60)]) tu54 tz54 rfl (lf tf54_0 ts3 tk3 rfl rfl rfl (lf tf54_1 ts3 tk3 rfl rfl rfl (lf tf54_2 ts3 tk3 rfl rfl rfl (lf tf54_3 ts3 tk3 rfl rfl rfl lf0)))) ?_)
        obtain ⟨r7, hr7, hv⟩ := bindS hv
        refine sT rfl (congrArg LV.bool hb5) (oCP (args := [.agg [.int .i64 x6.Candidate, .int .i64 x6.State, .int .i64 x6.Late, .int .i64 x6.Left, .lst 1 (List.map (LV.int .i64) x6.Incidents)], .agg [.int .i64 5, .int .i64 1, .int .i64 12, .int .i64 60, .nil]]) rfl isF29 rfl (sbR (sbS (Sub.agg (sbR (sbR (sbR (sbR (sbL sbN)))))) sbN)) (ref16_Same_ok hr7) rfl ?_)
        refine sN (oPkT (congrArg LV.bool hb5) (v := (.bool _)) rfl ?_)
        refine sN (oM (v := (.bool _)) rfl ?_)
        by_cases hb8 : r7 = true
        · replace hv := iteT hv hb8
          refine sT rfl (congrArg LV.bool hb8) (oM (v := (.lst _ _)) rfl ?_)
          refine sT rfl (congrArg LV.bool hb8) (oLnL (f := GRefusal.lv) te48 rfl ?_)
          refine sT rfl (congrArg LV.bool hb8) (oEq rfl rfl ?_)
          refine sN (oPkT (congrArg LV.bool hb8) (v := (.bool _)) rfl ?_)
          refine sN (oM (v := (.bool _)) rfl ?_)
          by_cases hb9 : ((r1.2.1.length : Int) == 1) = true
          · replace hv := iteT hv hb9
            refine sT rfl (congrArg LV.bool hb9) (oM (v := (.lst _ _)) rfl ?_)
            obtain ⟨x10, hx10, hv⟩ := bindS hv
            refine sT rfl (congrArg LV.bool hb9) (oIx (f := GRefusal.lv) te48 tk58 ts58 rfl rfl GRefusal.ok hx10 rfl ?_)
            refine sT rfl (congrArg LV.bool hb9) (oFaS tf58_1 tk27 ts27 rfl rfl rfl ?_)
            refine sT rfl (congrArg LV.bool hb9) (oLd rfl tk27 ta27 ?_)
            refine sT rfl (congrArg LV.bool hb9) (oEq rfl rfl ?_)
            refine sN (oPkT (congrArg LV.bool hb9) (v := (.bool _)) rfl ?_)
            refine sN (oA (v := (.bool _)) rfl ?_)
            obtain rfl := Option.some.inj hv
            exact s0 (Wk.to (eC rfl eN) mN rfl (prK rfl))
          · replace hb9 := bF hb9
            replace hv := iteF hv hb9
            refine sF rfl rfl hb9 ?_
            refine sF rfl rfl hb9 ?_
            refine sF rfl rfl hb9 ?_
            refine sF rfl rfl hb9 ?_
            refine sF rfl rfl hb9 ?_
            refine sN (oPkF (congrArg LV.bool hb9) (v := (.bool _)) rfl ?_)
            refine sN (oA (v := (.bool _)) rfl ?_)
            obtain rfl := Option.some.inj hv
            exact s0 (Wk.to (eC rfl eN) mN rfl (prK rfl))
        · replace hb8 := bF hb8
          replace hv := iteF hv hb8
          refine sF rfl rfl hb8 ?_
          refine sF rfl rfl hb8 ?_
          refine sF rfl rfl hb8 ?_
          refine sN (oPkF (congrArg LV.bool hb8) (v := (.bool _)) rfl ?_)
          refine sN (oM (v := (.bool _)) rfl ?_)
          refine sF rfl rfl rfl ?_
          refine sF rfl rfl rfl ?_
          refine sF rfl rfl rfl ?_
          refine sF rfl rfl rfl ?_
          refine sF rfl rfl rfl ?_
          refine sN (oPkF rfl (v := (.bool _)) rfl ?_)
          refine sN (oA (v := (.bool _)) rfl ?_)
          obtain rfl := Option.some.inj hv
          exact s0 (Wk.to (eC rfl eN) mN rfl (prK rfl))
      · replace hb5 := bF hb5
        replace hv := iteF hv hb5
        refine sF rfl rfl hb5 ?_
        refine sF rfl rfl hb5 ?_
        refine sF rfl rfl hb5 ?_
        refine sF rfl rfl hb5 ?_
        refine sF rfl rfl hb5 ?_
        refine sN (oPkF (congrArg LV.bool hb5) (v := (.bool _)) rfl ?_)
        refine sN (oM (v := (.bool _)) rfl ?_)
        refine sF rfl rfl rfl ?_
        refine sF rfl rfl rfl ?_
        refine sF rfl rfl rfl ?_
        refine sN (oPkF rfl (v := (.bool _)) rfl ?_)
        refine sN (oM (v := (.bool _)) rfl ?_)
        refine sF rfl rfl rfl ?_
        refine sF rfl rfl rfl ?_
        refine sF rfl rfl rfl ?_
        refine sF rfl rfl rfl ?_
        refine sF rfl rfl rfl ?_
        refine sN (oPkF rfl (v := (.bool _)) rfl ?_)
        refine sN (oA (v := (.bool _)) rfl ?_)
        obtain rfl := Option.some.inj hv
        exact s0 (Wk.to (eC rfl eN) mN rfl (prK rfl))
    · replace hb4 := bF hb4
      replace hv := iteF hv hb4
      refine sF rfl rfl hb4 ?_
      refine sF rfl rfl hb4 ?_
      refine sF rfl rfl hb4 ?_
      refine sN (oPkF (congrArg LV.bool hb4) (v := (.bool _)) rfl ?_)
      refine sN (oM (v := (.bool _)) rfl ?_)
      refine sF rfl rfl rfl ?_
      refine sF rfl rfl rfl ?_
      refine sF rfl rfl rfl ?_
      refine sF rfl rfl rfl ?_
      refine sF rfl rfl rfl ?_
      refine sN (oPkF rfl (v := (.bool _)) rfl ?_)
      refine sN (oM (v := (.bool _)) rfl ?_)
      refine sF rfl rfl rfl ?_
      refine sF rfl rfl rfl ?_
      refine sF rfl rfl rfl ?_
      refine sN (oPkF rfl (v := (.bool _)) rfl ?_)
      refine sN (oM (v := (.bool _)) rfl ?_)
      refine sF rfl rfl rfl ?_
      refine sF rfl rfl rfl ?_
      refine sF rfl rfl rfl ?_
      refine sF rfl rfl rfl ?_
      refine sF rfl rfl rfl ?_
      refine sN (oPkF rfl (v := (.bool _)) rfl ?_)
      refine sN (oA (v := (.bool _)) rfl ?_)
      obtain rfl := Option.some.inj hv
      exact s0 (Wk.to (eC rfl eN) mN rfl (prK rfl))
  clear hv
  refine LH.ret ?_
  obtain rfl := Option.some.inj h
  exact retE (congrArg Array.toList Try.results17) (lrT rfl (lr0 ⟨memN mN, rfl, prK rfl, Sub.rfl⟩))

theorem GTape_Enrolled_ok {F : Nat} {p0 : GTape} {p1 : Int} {r : List GEnrolment × GTape} (h : GTape_Enrolled F p0 p1 = some r) : LCall Try.prog 18 [.ptr 7 0, .int .i64 p1] (Mem.of [(7, .box [.lst 1 (List.map (LV.int .i64) p0.L), .int .i64 p0.At])]) (.lst 4 (List.map GEnrolment.lv r.1)) (Mem.of [(7, .box [.lst 1 (List.map (LV.int .i64) r.2.L), .int .i64 r.2.At])]) := by
  unfold GTape_Enrolled at h
  refine bodyT Try.func18 rfl (by rw [Try.ntmps18]; exact Nat.le_of_ble_eq_true rfl) ?_
  refine LH.wk (Wk.to (el := [(0, .ptr 7 0), (1, .int .i64 p1)]) (ml := [(7, .box [.lst 1 (List.map (LV.int .i64) p0.L), .int .i64 p0.At])]) (eC rfl (eC rfl eN)) (mC rfl mN) rfl (prK rfl)) ?_
  refine LH.seqT [(0, .ptr 7 0), (1, .int .i64 p1)] [(7, .box [.lst 1 (List.map (LV.int .i64) p0.L), .int .i64 p0.At])] rfl ?_ ?_
  · refine sN (oA (v := .nil) rfl ?_)
    exact s0 (Wk.to (eC rfl (eC rfl eN)) (mC rfl mN) rfl (prK rfl))
  refine LH.seqT [(0, .ptr 7 0), (1, .int .i64 p1), (5, .nil)] [(7, .box [.lst 1 (List.map (LV.int .i64) p0.L), .int .i64 p0.At])] rfl ?_ ?_
  · refine sN (oA (v := .nil) rfl ?_)
    exact s0 (Wk.to (eC rfl (eC rfl (eC rfl eN))) (mC rfl mN) rfl (prK rfl))
  refine LH.seq ?_
  refine LH.seqT [(0, .ptr 7 0), (1, .int .i64 p1), (5, .nil), (6, .int .i64 0)] [(7, .box [.lst 1 (List.map (LV.int .i64) p0.L), .int .i64 p0.At])] rfl ?_ ?_
  · refine sN (oA (v := (.int _ _)) rfl ?_)
    exact s0 (Wk.to (eC rfl (eC rfl (eC rfl (eC rfl eN)))) (mC rfl mN) rfl (prK rfl))
  refine LH.block ?_
  refine LH.wk ((Wk.trans (Wk.to (el := [(0, .ptr 7 0), (1, .int .i64 p1), (5, .nil), (6, .int .i64 0)]) (ml := [(7, .box [.lst 1 (List.map (LV.int .i64) p0.L), .int .i64 p0.At])]) (eC rfl (eC rfl (eC rfl (eC rfl eN)))) (mC rfl mN) rfl (prK rfl)) (Wk.trans (Wk.to (el := [(0, .ptr 7 0), (1, .int .i64 p1), (5, .nil), (6, .int .i64 0)]) (ml := [(7, .box [.lst 1 (List.map (LV.int .i64) p0.L), .int .i64 p0.At])]) (eC rfl (eC rfl (eC rfl (eC rfl eN)))) (mC rfl mN) rfl (prK rfl)) (Wk.trans (Wk.ownL (el' := [(0, .ptr 7 0), (1, .int .i64 p1), (5, .arr 121 (List.length ([] : List GEnrolment))), (6, .int .i64 0)]) 121 44 4 rfl rfl (wK (wK (wO (wK wN))))) (Wk.to (el := [(0, .ptr 7 0), (1, .int .i64 p1), (5, .arr 121 (List.length ([] : List GEnrolment))), (6, .int .i64 0)]) (ml := [(7, .box [.lst 1 (List.map (LV.int .i64) p0.L), .int .i64 p0.At]), (121, .arr 44 4 (List.map GEnrolment.lv ([] : List GEnrolment)))]) (eC rfl (eC rfl (eC rfl (eC rfl eN)))) (mC rfl (mC rfl mN)) rfl (prK rfl)))))) ?_
  refine LH.loop (fun n e m => ∃ (n1 : Int) (l2 : List Int) (n3 : Int) (l4 : List GEnrolment), GTape_Enrolled_L1 p1 n n1 l2 n3 l4 = some r ∧ e = Env.of [(0, .ptr 7 0), (1, .int .i64 p1), (5, .arr 121 (List.length l4)), (6, .int .i64 n1)] ∧ m = Mem.of [(7, .box [.lst 1 (List.map (LV.int .i64) l2), .int .i64 n3]), (121, .arr 44 4 (List.map GEnrolment.lv l4))]) F ⟨0, p0.L, p0.At, ([] : List GEnrolment), h, rfl, rfl⟩ ?_
  clear h
  rintro n e m ⟨n1, l2, n3, l4, h, rfl, rfl⟩
  rcases n with _ | n
  · cases (show Option.none = some _ from h)
  obtain ⟨rec1, hrec1⟩ : ∃ f, f = GTape_Enrolled_L1 p1 n := ⟨_, rfl⟩
  replace h : GTape_Enrolled_L1_B p1 rec1 n1 l2 n3 l4 = some r := hrec1 ▸ h
  unfold GTape_Enrolled_L1_B at h
  refine LH.seq ?_
  refine LH.seqT [(0, .ptr 7 0), (1, .int .i64 p1), (5, .arr 121 (List.length l4)), (6, .int .i64 n1), (8, .bool (decide (n1 < 5)))] [(7, .box [.lst 1 (List.map (LV.int .i64) l2), .int .i64 n3]), (121, .arr 44 4 (List.map GEnrolment.lv l4))] rfl ?_ ?_
  · refine sN (oM (v := (.int _ _)) rfl ?_)
    refine sN (oLt rfl rfl ?_)
    exact s0 (Wk.to (eC rfl (eC rfl (eC rfl (eC rfl (eC rfl eN))))) (mC rfl (mC rfl mN)) rfl (prK rfl))
  refine LH.cond (t := (decide (n1 < 5))) rfl (fun hc5 => ?_) (fun hc5 => ?_)
  · replace h := iteT h hc5
    refine LH.skip ?_
    refine thenN ?_
    refine LH.wk (Wk.to (el := [(0, .ptr 7 0), (1, .int .i64 p1), (5, .arr 121 (List.length l4)), (6, .int .i64 n1)]) (ml := [(7, .box [.lst 1 (List.map (LV.int .i64) l2), .int .i64 n3]), (121, .arr 44 4 (List.map GEnrolment.lv l4))]) (eC rfl (eC rfl (eC rfl (eC rfl eN)))) (mC rfl (mC rfl mN)) rfl (prK rfl)) ?_
    refine LH.seq ?_
    refine LH.block ?_
    obtain ⟨r6, hr6, h⟩ := bindS h
    refine LH.seqT [(0, .ptr 7 0), (1, .int .i64 p1), (5, .arr 121 (List.length l4)), (6, .int .i64 n1), (13, .bool (decide (r6.1 > 0)))] [(7, .box [.lst 1 (List.map (LV.int .i64) r6.2.L), .int .i64 r6.2.At]), (121, .arr 44 4 (List.map GEnrolment.lv l4))] rfl ?_ ?_
    · refine sN (oM (v := (.ptr _ _)) rfl ?_)
      refine sN (oCM (args := [.ptr 7 0, .int .i64 4]) (ml := [(7, .box [.lst 1 (List.map (LV.int .i64) l2), .int .i64 n3])]) (ml' := [(7, .box [.lst 1 (List.map (LV.int .i64) r6.2.L), .int .i64 r6.2.At])]) rfl isF15 rfl (sbR (sbR sbN)) (GTape_Next_ok hr6) (mC rfl mN) (newI rfl newN) rfl ?_)
      refine sN (oGt rfl rfl ?_)
      exact s0 (Wk.to (eC rfl (eC rfl (eC rfl (eC rfl (eC rfl eN))))) (mC rfl (mC rfl mN)) rfl (prK rfl))
    refine LH.cond (t := (decide (r6.1 > 0))) rfl (fun hc7 => ?_) (fun hc7 => ?_)
    · replace h := iteT h hc7
      obtain ⟨r8, hr8, h⟩ := bindS h
      obtain ⟨v9, hv9, h⟩ := bindS h
      refine LH.loneT [(0, .ptr 7 0), (1, .int .i64 p1), (5, .arr 121 (List.length v9)), (6, .int .i64 n1)] [(7, .box [.lst 1 (List.map (LV.int .i64) r8.2.L), .int .i64 r8.2.At]), (121, .arr 44 4 (List.map GEnrolment.lv v9))] rfl ?_ ?_
      · refine sN (oM (v := (.arr _ _)) rfl ?_)
        refine sN (oM (v := (.int _ _)) rfl ?_)
        refine sN (oM (v := (.ptr _ _)) rfl ?_)
        refine sN (oCM (args := [.ptr 7 0, .int .i64 1, .int .i64 3]) (ml := [(7, .box [.lst 1 (List.map (LV.int .i64) r6.2.L), .int .i64 r6.2.At])]) (ml' := [(7, .box [.lst 1 (List.map (LV.int .i64) r8.2.L), .int .i64 r8.2.At])]) rfl isF26 rfl (sbR (sbR (sbR sbN))) (GTape_Range_ok hr8) (mC rfl mN) (newI rfl newN) rfl ?_)
        refine sN (oBd (vs := [(0, .int .i64 n1), (1, .int .i64 r8.1), (2, .int .i64 1)]) tu42 tz42 rfl (lf tf42_0 ts3 tk3 rfl rfl rfl (lf tf42_1 ts3 tk3 rfl rfl rfl (lf tf42_2 ts3 tk3 rfl rfl rfl lf0))) ?_)
        refine sN (oBd (vs := [(0, .agg [.int .i64 n1, .int .i64 r8.1, .int .i64 1])]) tu44 tz44 rfl (lf tf44_0 ts42 tk42 rfl rfl rfl lf0) ?_)
        refine sN (oBS (f := GEnrolment.lv) (ys := [(GEnrolment.mk (GEntry.mk n1 r8.1 1) false)]) te38 tr44 ts44 rfl rfl rfl GEnrolment.ok ?_)
        refine sN (oAp (f := GEnrolment.lv) te38 tr44 ts44 rfl rfl (prN rfl) rfl hv9 ?_)
        refine sN (oA (v := (.arr _ _)) rfl ?_)
        exact s0 (Wk.to (eC rfl (eC rfl (eC rfl (eC rfl eN)))) (mC rfl (mC rfl mN)) rfl (prK rfl))
      refine blockN ?_
      refine thenN ?_
      refine LH.loneT [(0, .ptr 7 0), (1, .int .i64 p1), (5, .arr 121 (List.length v9)), (6, .int .i64 (i64 (n1 + 1)))] [(7, .box [.lst 1 (List.map (LV.int .i64) r8.2.L), .int .i64 r8.2.At]), (121, .arr 44 4 (List.map GEnrolment.lv v9))] rfl ?_ ?_
      · refine sN (oM (v := (.int _ _)) rfl ?_)
        refine sN (oAdd rfl rfl ?_)
        refine sN (oA (v := (.int _ _)) rfl ?_)
        exact s0 (Wk.to (eC rfl (eC rfl (eC rfl (eC rfl eN)))) (mC rfl (mC rfl mN)) rfl (prK rfl))
      exact roundN (e' := Env.of [(0, .ptr 7 0), (1, .int .i64 p1), (5, .arr 121 (List.length v9)), (6, .int .i64 (i64 (n1 + 1)))]) (m' := Mem.of [(7, .box [.lst 1 (List.map (LV.int .i64) r8.2.L), .int .i64 r8.2.At]), (121, .arr 44 4 (List.map GEnrolment.lv v9))]) (Wk.to (eC rfl (eC rfl (eC rfl (eC rfl eN)))) (mC rfl (mC rfl mN)) rfl (prK rfl)) ⟨(i64 (n1 + 1)), r8.2.L, r8.2.At, v9, hrec1 ▸ h, rfl, rfl⟩
    replace h := iteF h hc7
    refine LH.skip ?_
    refine blockN ?_
    refine thenN ?_
    refine LH.wk (Wk.to (el := [(0, .ptr 7 0), (1, .int .i64 p1), (5, .arr 121 (List.length l4)), (6, .int .i64 n1)]) (ml := [(7, .box [.lst 1 (List.map (LV.int .i64) r6.2.L), .int .i64 r6.2.At]), (121, .arr 44 4 (List.map GEnrolment.lv l4))]) (eC rfl (eC rfl (eC rfl (eC rfl eN)))) (mC rfl (mC rfl mN)) rfl (prK rfl)) ?_
    refine LH.loneT [(0, .ptr 7 0), (1, .int .i64 p1), (5, .arr 121 (List.length l4)), (6, .int .i64 (i64 (n1 + 1)))] [(7, .box [.lst 1 (List.map (LV.int .i64) r6.2.L), .int .i64 r6.2.At]), (121, .arr 44 4 (List.map GEnrolment.lv l4))] rfl ?_ ?_
    · refine sN (oM (v := (.int _ _)) rfl ?_)
      refine sN (oAdd rfl rfl ?_)
      refine sN (oA (v := (.int _ _)) rfl ?_)
      exact s0 (Wk.to (eC rfl (eC rfl (eC rfl (eC rfl eN)))) (mC rfl (mC rfl mN)) rfl (prK rfl))
    exact roundN (e' := Env.of [(0, .ptr 7 0), (1, .int .i64 p1), (5, .arr 121 (List.length l4)), (6, .int .i64 (i64 (n1 + 1)))]) (m' := Mem.of [(7, .box [.lst 1 (List.map (LV.int .i64) r6.2.L), .int .i64 r6.2.At]), (121, .arr 44 4 (List.map GEnrolment.lv l4))]) (Wk.to (eC rfl (eC rfl (eC rfl (eC rfl eN)))) (mC rfl (mC rfl mN)) rfl (prK rfl)) ⟨(i64 (n1 + 1)), r6.2.L, r6.2.At, l4, hrec1 ▸ h, rfl, rfl⟩
  replace h := iteF h hc5
  refine LH.exit ?_
  refine thenX ?_
  refine roundX ?_
  refine blockH ?_
  refine thenN ?_
  refine LH.wk (Wk.to (el := [(0, .ptr 7 0), (1, .int .i64 p1), (5, .arr 121 (List.length l4))]) (ml := [(7, .box [.lst 1 (List.map (LV.int .i64) l2), .int .i64 n3]), (121, .arr 44 4 (List.map GEnrolment.lv l4))]) (eC rfl (eC rfl (eC rfl eN))) (mC rfl (mC rfl mN)) rfl (prK rfl)) ?_
  refine LH.seq ?_
  obtain ⟨w13, hv, h⟩ := bindS h
  refine LH.seqT [(0, .ptr 7 0), (5, .arr 121 (List.length l4)), (28, .bool w13.1)] [(7, .box [.lst 1 (List.map (LV.int .i64) w13.2.1), .int .i64 w13.2.2]), (121, .arr 44 4 (List.map GEnrolment.lv l4))] rfl ?_ ?_
  · refine sN (oM (v := (.int _ _)) rfl ?_)
    refine sN (oGt rfl rfl ?_)
    refine sN (oM (v := (.bool _)) rfl ?_)
    by_cases hb14 : (decide (p1 > 0)) = true
    · replace hv := iteT hv hb14
      refine sT rfl (congrArg LV.bool hb14) (oM (v := (.ptr _ _)) rfl ?_)
      refine sT rfl (congrArg LV.bool hb14) (oM (v := (.int _ _)) rfl ?_)
      obtain ⟨r15, hr15, hv⟩ := bindS hv
      refine sT rfl (congrArg LV.bool hb14) (oCM (args := [.ptr 7 0, .int .i64 p1]) (ml := [(7, .box [.lst 1 (List.map (LV.int .i64) l2), .int .i64 n3])]) (ml' := [(7, .box [.lst 1 (List.map (LV.int .i64) r15.2.L), .int .i64 r15.2.At])]) rfl isF37 rfl (sbR (sbR sbN)) (GTape_One_ok hr15) (mC rfl mN) (newI rfl newN) rfl ?_)
      refine sN (oPkT (congrArg LV.bool hb14) (v := (.bool _)) rfl ?_)
      obtain rfl := Option.some.inj hv
      exact s0 (Wk.to (eC rfl (eC rfl (eC rfl eN))) (mC rfl (mC rfl mN)) rfl (prK rfl))
    · replace hb14 := bF hb14
      replace hv := iteF hv hb14
      refine sF rfl rfl hb14 ?_
      refine sF rfl rfl hb14 ?_
      refine sF rfl rfl hb14 ?_
      refine sN (oPkF (congrArg LV.bool hb14) (v := (.bool _)) rfl ?_)
      obtain rfl := Option.some.inj hv
      exact s0 (Wk.to (eC rfl (eC rfl (eC rfl eN))) (mC rfl (mC rfl mN)) rfl (prK rfl))
  clear hv
  refine LH.cond (t := w13.1) rfl (fun hc16 => ?_) (fun hc16 => ?_)
  · replace h := iteT h hc16
    obtain ⟨r17, hr17, h⟩ := bindS h
    obtain ⟨r18, hr18, h⟩ := bindS h
    obtain ⟨v19, hv19, h⟩ := bindS h
    refine LH.loneT [(5, .lst 4 (List.map GEnrolment.lv v19))] [(7, .box [.lst 1 (List.map (LV.int .i64) r18.2.L), .int .i64 r18.2.At])] rfl ?_ ?_
    · refine sN (oM (v := (.arr _ _)) rfl ?_)
      refine sN (oM (v := (.ptr _ _)) rfl ?_)
      refine sN (oBS (f := (LV.int .i64)) (ys := [0, 5, 9999, 10000, (-1)]) te22 tr3 ts3 rfl rfl rfl okI ?_)
      refine sN (oCM (args := [.ptr 7 0, .lst 1 (List.map (LV.int .i64) [0, 5, 9999, 10000, (-1)])]) (ml := [(7, .box [.lst 1 (List.map (LV.int .i64) w13.2.1), .int .i64 w13.2.2])]) (ml' := [(7, .box [.lst 1 (List.map (LV.int .i64) r17.2.L), .int .i64 r17.2.At])]) rfl isF36 rfl (sbR (sbR sbN)) (GTape_Pick_ok hr17) (mC rfl mN) (newI rfl newN) rfl ?_)
      refine sN (oM (v := (.ptr _ _)) rfl ?_)
      refine sN (oBS (f := (LV.int .i64)) (ys := [0, 1, 99, 100]) te22 tr3 ts3 rfl rfl rfl okI ?_)
      refine sN (oCM (args := [.ptr 7 0, .lst 1 (List.map (LV.int .i64) [0, 1, 99, 100])]) (ml := [(7, .box [.lst 1 (List.map (LV.int .i64) r17.2.L), .int .i64 r17.2.At])]) (ml' := [(7, .box [.lst 1 (List.map (LV.int .i64) r18.2.L), .int .i64 r18.2.At])]) rfl isF36 rfl (sbR (sbR sbN)) (GTape_Pick_ok hr18) (mC rfl mN) (newI rfl newN) rfl ?_)
      refine sN (oBd (vs := [(0, .int .i64 r17.1), (1, .int .i64 r18.1)]) tu42 tz42 rfl (lf tf42_0 ts3 tk3 rfl rfl rfl (lf tf42_1 ts3 tk3 rfl rfl rfl lf0)) ?_)
      refine sN (oBd (vs := [(0, .agg [.int .i64 r17.1, .int .i64 r18.1, .int .i64 0])]) tu44 tz44 rfl (lf tf44_0 ts42 tk42 rfl rfl rfl lf0) ?_)
      refine sN (oBS (f := GEnrolment.lv) (ys := [(GEnrolment.mk (GEntry.mk r17.1 r18.1 0) false)]) te38 tr44 ts44 rfl rfl rfl GEnrolment.ok ?_)
      refine sN (oAp (f := GEnrolment.lv) te38 tr44 ts44 rfl rfl (prN rfl) rfl hv19 ?_)
      refine sN (oA (v := (.arr _ _)) rfl ?_)
      exact s0 ((Wk.trans (Wk.to (el := [(5, .arr 121 (List.length v19))]) (ml := [(7, .box [.lst 1 (List.map (LV.int .i64) r18.2.L), .int .i64 r18.2.At]), (121, .arr 44 4 (List.map GEnrolment.lv v19))]) (eC rfl eN) (mC rfl (mC rfl mN)) rfl (prK rfl)) (Wk.trans (Wk.frzL (f := GEnrolment.lv) (el' := [(5, .lst 4 (List.map GEnrolment.lv v19))]) 121 44 4 v19 rfl rfl (prN rfl) (fZ fN)) (Wk.to (eC rfl eN) (mC rfl mN) rfl (prK rfl)))))
    refine thenN ?_
    refine LH.seqT [(4, .lst 4 (List.map GEnrolment.lv v19))] [(7, .box [.lst 1 (List.map (LV.int .i64) r18.2.L), .int .i64 r18.2.At])] rfl ?_ ?_
    · refine sN (oM (v := (.lst _ _)) rfl ?_)
      refine sN (oA (v := (.lst _ _)) rfl ?_)
      exact s0 (Wk.to (eC rfl eN) (mC rfl mN) rfl (prK rfl))
    refine LH.ret ?_
    obtain rfl := Option.some.inj h
    exact retE (congrArg Array.toList Try.results18) (lrT rfl (lr0 ⟨memN (mC rfl mN), rfl, prK rfl, Sub.rfl⟩))
  replace h := iteF h hc16
  refine LH.skip ?_
  refine thenN ?_
  refine LH.wk ((Wk.trans (Wk.to (el := [(5, .arr 121 (List.length l4))]) (ml := [(7, .box [.lst 1 (List.map (LV.int .i64) w13.2.1), .int .i64 w13.2.2]), (121, .arr 44 4 (List.map GEnrolment.lv l4))]) (eC rfl eN) (mC rfl (mC rfl mN)) rfl (prK rfl)) (Wk.trans (Wk.frzL (f := GEnrolment.lv) (el' := [(5, .lst 4 (List.map GEnrolment.lv l4))]) 121 44 4 l4 rfl rfl (prN rfl) (fZ fN)) (Wk.to (el := [(5, .lst 4 (List.map GEnrolment.lv l4))]) (ml := [(7, .box [.lst 1 (List.map (LV.int .i64) w13.2.1), .int .i64 w13.2.2])]) (eC rfl eN) (mC rfl mN) rfl (prK rfl))))) ?_
  refine LH.seqT [(4, .lst 4 (List.map GEnrolment.lv l4))] [(7, .box [.lst 1 (List.map (LV.int .i64) w13.2.1), .int .i64 w13.2.2])] rfl ?_ ?_
  · refine sN (oM (v := (.lst _ _)) rfl ?_)
    refine sN (oA (v := (.lst _ _)) rfl ?_)
    exact s0 (Wk.to (eC rfl eN) (mC rfl mN) rfl (prK rfl))
  refine LH.ret ?_
  obtain rfl := Option.some.inj h
  exact retE (congrArg Array.toList Try.results18) (lrT rfl (lr0 ⟨memN (mC rfl mN), rfl, prK rfl, Sub.rfl⟩))

theorem ref16_Check_ok {F : Nat} {p0 : List GEnrolment} {r : Int} (h : ref16_Check F p0 = some r) : LCall Try.prog 21 [.lst 4 (List.map GEnrolment.lv p0)] (Mem.of []) (.int .i64 r) (Mem.of []) := by
  unfold ref16_Check at h
  refine bodyT Try.func21 rfl (by rw [Try.ntmps21]; exact Nat.le_of_ble_eq_true rfl) ?_
  refine LH.wk (Wk.to (el := [(0, .lst 4 (List.map GEnrolment.lv p0))]) (ml := []) (eC rfl eN) mN rfl (prK rfl)) ?_
  refine LH.seqT [(0, .lst 4 (List.map GEnrolment.lv p0))] [] rfl ?_ ?_
  · refine sN (oA (v := (.int _ _)) rfl ?_)
    exact s0 (Wk.to (eC rfl eN) mN rfl (prK rfl))
  refine LH.seq ?_
  refine LH.seqT [(0, .lst 4 (List.map GEnrolment.lv p0)), (8, .bool (decide ((p0.length : Int) > 60)))] [] rfl ?_ ?_
  · refine sN (oM (v := (.lst _ _)) rfl ?_)
    refine sN (oLnL (f := GEnrolment.lv) te38 rfl ?_)
    refine sN (oGt rfl rfl ?_)
    exact s0 (Wk.to (eC rfl (eC rfl eN)) mN rfl (prK rfl))
  refine LH.cond (t := (decide ((p0.length : Int) > 60))) rfl (fun hc1 => ?_) (fun hc1 => ?_)
  · replace h := iteT h hc1
    refine LH.seqT [(2, .int .i64 3)] [] rfl ?_ ?_
    · refine sN (oA (v := (.int _ _)) rfl ?_)
      exact s0 (Wk.to (eC rfl eN) mN rfl (prK rfl))
    refine LH.ret ?_
    refine thenR ?_
    obtain rfl := Option.some.inj h
    exact retE (congrArg Array.toList Try.results21) (lrT rfl (lr0 ⟨memN mN, rfl, prK rfl, Sub.rfl⟩))
  replace h := iteF h hc1
  refine LH.skip ?_
  refine thenN ?_
  refine LH.wk (Wk.to (el := [(0, .lst 4 (List.map GEnrolment.lv p0))]) (ml := []) (eC rfl eN) mN rfl (prK rfl)) ?_
  refine LH.seq ?_
  refine LH.seqT [(0, .lst 4 (List.map GEnrolment.lv p0)), (3, .int .i64 0)] [] rfl ?_ ?_
  · refine sN (oA (v := (.int _ _)) rfl ?_)
    exact s0 (Wk.to (eC rfl (eC rfl eN)) mN rfl (prK rfl))
  refine LH.block ?_
  refine LH.loop (fun n e m => ∃ (n2 : Int), ref16_Check_L1 F p0 n n2 = some r ∧ e = Env.of [(0, .lst 4 (List.map GEnrolment.lv p0)), (3, .int .i64 n2)] ∧ m = Mem.of []) F ⟨0, h, rfl, rfl⟩ ?_
  clear h
  rintro n e m ⟨n2, h, rfl, rfl⟩
  rcases n with _ | n
  · cases (show Option.none = some _ from h)
  obtain ⟨rec1, hrec1⟩ : ∃ f, f = ref16_Check_L1 F p0 n := ⟨_, rfl⟩
  replace h : ref16_Check_L1_B F p0 rec1 n2 = some r := hrec1 ▸ h
  unfold ref16_Check_L1_B at h
  refine LH.seq ?_
  refine LH.seqT [(0, .lst 4 (List.map GEnrolment.lv p0)), (3, .int .i64 n2), (12, .bool (decide (n2 < (p0.length : Int))))] [] rfl ?_ ?_
  · refine sN (oM (v := (.int _ _)) rfl ?_)
    refine sN (oM (v := (.lst _ _)) rfl ?_)
    refine sN (oLnL (f := GEnrolment.lv) te38 rfl ?_)
    refine sN (oLt rfl rfl ?_)
    exact s0 (Wk.to (eC rfl (eC rfl (eC rfl eN))) mN rfl (prK rfl))
  refine LH.cond (t := (decide (n2 < (p0.length : Int)))) rfl (fun hc3 => ?_) (fun hc3 => ?_)
  · replace h := iteT h hc3
    refine LH.skip ?_
    refine thenN ?_
    refine LH.wk (Wk.to (el := [(0, .lst 4 (List.map GEnrolment.lv p0)), (3, .int .i64 n2)]) (ml := []) (eC rfl (eC rfl eN)) mN rfl (prK rfl)) ?_
    refine LH.seq ?_
    refine LH.block ?_
    obtain ⟨x4, hx4, h⟩ := bindS h
    refine LH.seqT [(0, .lst 4 (List.map GEnrolment.lv p0)), (3, .int .i64 n2), (4, .sptr [.int .i64 x4.Entry.Candidate, .int .i64 x4.Entry.Centre, .int .i64 x4.Entry.Paper])] [] rfl ?_ ?_
    · refine sN (oM (v := (.lst _ _)) rfl ?_)
      refine sN (oM (v := (.int _ _)) rfl ?_)
      refine sN (oIx (f := GEnrolment.lv) te38 tk44 ts44 rfl rfl GEnrolment.ok hx4 rfl ?_)
      refine sN (oFaS tf44_0 tk42 ts42 rfl rfl rfl ?_)
      refine sN (oLdA rfl tk42 ta42 ts42 rfl rfl ?_)
      refine sN (oAl (id := 104) rfl tz42 rfl rfl ?_)
      refine s_ (oSt rfl rfl rfl tk42 ts42 rfl rfl rfl ?_)
      exact s0 ((Wk.trans (Wk.to (el := [(0, .lst 4 (List.map GEnrolment.lv p0)), (3, .int .i64 n2), (4, .ptr 104 0)]) (ml := [(104, .box [.int .i64 x4.Entry.Candidate, .int .i64 x4.Entry.Centre, .int .i64 x4.Entry.Paper])]) (eC rfl (eC rfl (eC rfl eN))) (mC rfl mN) rfl (prK rfl)) (Wk.trans (Wk.frzB 104 [.int .i64 x4.Entry.Candidate, .int .i64 x4.Entry.Centre, .int .i64 x4.Entry.Paper] rfl rfl rfl (prN rfl)) (Wk.to (eC rfl (eC rfl (eC rfl eN))) mN rfl (prK rfl)))))
    refine LH.seqT [(0, .lst 4 (List.map GEnrolment.lv p0)), (3, .int .i64 n2), (37, .bool ((decide (x4.Entry.Candidate < 0)) || ((decide (x4.Entry.Candidate > 9999)) || ((decide (x4.Entry.Centre < 1)) || (decide (x4.Entry.Centre > 99))))))] [] rfl ?_ ?_
    · refine sN (oFaS tf42_0 tk3 ts3 rfl rfl rfl ?_)
      refine sN (oLd rfl tk3 ta3 ?_)
      refine sN (oLt rfl rfl ?_)
      refine sN (oM (v := (.bool _)) rfl ?_)
      by_cases hb6 : (decide (x4.Entry.Candidate < 0)) = true
      · refine sF rfl rfl hb6 ?_
        refine sF rfl rfl hb6 ?_
        refine sF rfl rfl hb6 ?_
        refine sN (oPkT (congrArg LV.bool hb6) (v := (.bool _)) rfl ?_)
        refine sN (oM (v := (.bool _)) rfl ?_)
        refine sF rfl rfl rfl ?_
        refine sF rfl rfl rfl ?_
        refine sF rfl rfl rfl ?_
        refine sN (oPkT rfl (v := (.bool _)) rfl ?_)
        refine sN (oM (v := (.bool _)) rfl ?_)
        refine sF rfl rfl rfl ?_
        refine sF rfl rfl rfl ?_
        refine sF rfl rfl rfl ?_
        refine sN (oPkT rfl (v := (.bool _)) rfl ?_)
        exact s0 (Wk.to (eC rfl (eC rfl (eC (congrArg LV.bool (orT hb6)) eN))) mN rfl (prK rfl))
      · replace hb6 := bF hb6
        refine sT rfl (congrArg LV.bool hb6) (oFaS tf42_0 tk3 ts3 rfl rfl rfl ?_)
        refine sT rfl (congrArg LV.bool hb6) (oLd rfl tk3 ta3 ?_)
        refine sT rfl (congrArg LV.bool hb6) (oGt rfl rfl ?_)
        refine sN (oPkF (congrArg LV.bool hb6) (v := (.bool _)) rfl ?_)
        refine sN (oM (v := (.bool _)) rfl ?_)
        by_cases hb7 : (decide (x4.Entry.Candidate > 9999)) = true
        · refine sF rfl rfl hb7 ?_
          refine sF rfl rfl hb7 ?_
          refine sF rfl rfl hb7 ?_
          refine sN (oPkT (congrArg LV.bool hb7) (v := (.bool _)) rfl ?_)
          refine sN (oM (v := (.bool _)) rfl ?_)
          refine sF rfl rfl rfl ?_
          refine sF rfl rfl rfl ?_
          refine sF rfl rfl rfl ?_
          refine sN (oPkT rfl (v := (.bool _)) rfl ?_)
          exact s0 (Wk.to (eC rfl (eC rfl (eC (congrArg LV.bool (Eq.trans (orT hb7) (orF hb6))) eN))) mN rfl (prK rfl))
        · replace hb7 := bF hb7
          refine sT rfl (congrArg LV.bool hb7) (oFaS tf42_1 tk3 ts3 rfl rfl rfl ?_)
          refine sT rfl (congrArg LV.bool hb7) (oLd rfl tk3 ta3 ?_)
          refine sT rfl (congrArg LV.bool hb7) (oLt rfl rfl ?_)
          refine sN (oPkF (congrArg LV.bool hb7) (v := (.bool _)) rfl ?_)
          refine sN (oM (v := (.bool _)) rfl ?_)
          by_cases hb8 : (decide (x4.Entry.Centre < 1)) = true
          · refine sF rfl rfl hb8 ?_
            refine sF rfl rfl hb8 ?_
            refine sF rfl rfl hb8 ?_
            refine sN (oPkT (congrArg LV.bool hb8) (v := (.bool _)) rfl ?_)
            exact s0 (Wk.to (eC rfl (eC rfl (eC (congrArg LV.bool (Eq.trans (Eq.trans (orT hb8) (orF hb7)) (orF hb6))) eN))) mN rfl (prK rfl))
          · replace hb8 := bF hb8
            refine sT rfl (congrArg LV.bool hb8) (oFaS tf42_1 tk3 ts3 rfl rfl rfl ?_)
            refine sT rfl (congrArg LV.bool hb8) (oLd rfl tk3 ta3 ?_)
            refine sT rfl (congrArg LV.bool hb8) (oGt rfl rfl ?_)
            refine sN (oPkF (congrArg LV.bool hb8) (v := (.bool _)) rfl ?_)
            exact s0 (Wk.to (eC rfl (eC rfl (eC (congrArg LV.bool (Eq.trans (Eq.trans (orF hb8) (orF hb7)) (orF hb6))) eN))) mN rfl (prK rfl))
    refine LH.cond (t := ((decide (x4.Entry.Candidate < 0)) || ((decide (x4.Entry.Candidate > 9999)) || ((decide (x4.Entry.Centre < 1)) || (decide (x4.Entry.Centre > 99)))))) rfl (fun hc9 => ?_) (fun hc9 => ?_)
    · replace h := iteT h hc9
      refine LH.seqT [(2, .int .i64 2)] [] rfl ?_ ?_
      · refine sN (oA (v := (.int _ _)) rfl ?_)
        exact s0 (Wk.to (eC rfl eN) mN rfl (prK rfl))
      refine LH.ret ?_
      refine blockR ?_
      refine thenR ?_
      refine roundR ?_
      refine blockR ?_
      refine thenR ?_
      obtain rfl := Option.some.inj h
      exact retE (congrArg Array.toList Try.results21) (lrT rfl (lr0 ⟨memN mN, rfl, prK rfl, Sub.rfl⟩))
    replace h := iteF h hc9
    refine LH.skip ?_
    refine blockN ?_
    refine thenN ?_
    refine LH.wk (Wk.to (el := [(0, .lst 4 (List.map GEnrolment.lv p0)), (3, .int .i64 n2)]) (ml := []) (eC rfl (eC rfl eN)) mN rfl (prK rfl)) ?_
    refine LH.loneT [(0, .lst 4 (List.map GEnrolment.lv p0)), (3, .int .i64 (i64 (n2 + 1)))] [] rfl ?_ ?_
    · refine sN (oM (v := (.int _ _)) rfl ?_)
      refine sN (oAdd rfl rfl ?_)
      refine sN (oA (v := (.int _ _)) rfl ?_)
      exact s0 (Wk.to (eC rfl (eC rfl eN)) mN rfl (prK rfl))
    exact roundN (e' := Env.of [(0, .lst 4 (List.map GEnrolment.lv p0)), (3, .int .i64 (i64 (n2 + 1)))]) (m' := Mem.of []) (Wk.to (eC rfl (eC rfl eN)) mN rfl (prK rfl)) ⟨(i64 (n2 + 1)), hrec1 ▸ h, rfl, rfl⟩
  replace h := iteF h hc3
  refine LH.exit ?_
  refine thenX ?_
  refine roundX ?_
  refine blockH ?_
  refine thenN ?_
  refine LH.wk (Wk.to (el := [(0, .lst 4 (List.map GEnrolment.lv p0))]) (ml := []) (eC rfl eN) mN rfl (prK rfl)) ?_
  refine LH.seq ?_
  refine LH.seqT [(0, .lst 4 (List.map GEnrolment.lv p0)), (5, .int .i64 1)] [] rfl ?_ ?_
  · refine sN (oA (v := (.int _ _)) rfl ?_)
    exact s0 (Wk.to (eC rfl (eC rfl eN)) mN rfl (prK rfl))
  refine LH.block ?_
  refine LH.loop (fun n e m => ∃ (n10 : Int), ref16_Check_L2 p0 n n10 = some r ∧ e = Env.of [(0, .lst 4 (List.map GEnrolment.lv p0)), (5, .int .i64 n10)] ∧ m = Mem.of []) F ⟨1, h, rfl, rfl⟩ ?_
  clear h
  rintro n e m ⟨n10, h, rfl, rfl⟩
  rcases n with _ | n
  · cases (show Option.none = some _ from h)
  obtain ⟨rec2, hrec2⟩ : ∃ f, f = ref16_Check_L2 p0 n := ⟨_, rfl⟩
  replace h : ref16_Check_L2_B p0 rec2 n10 = some r := hrec2 ▸ h
  unfold ref16_Check_L2_B at h
  refine LH.seq ?_
  refine LH.seqT [(0, .lst 4 (List.map GEnrolment.lv p0)), (5, .int .i64 n10), (41, .bool (decide (n10 < (p0.length : Int))))] [] rfl ?_ ?_
  · refine sN (oM (v := (.int _ _)) rfl ?_)
    refine sN (oM (v := (.lst _ _)) rfl ?_)
    refine sN (oLnL (f := GEnrolment.lv) te38 rfl ?_)
    refine sN (oLt rfl rfl ?_)
    exact s0 (Wk.to (eC rfl (eC rfl (eC rfl eN))) mN rfl (prK rfl))
  refine LH.cond (t := (decide (n10 < (p0.length : Int)))) rfl (fun hc11 => ?_) (fun hc11 => ?_)
  · replace h := iteT h hc11
    refine LH.skip ?_
    refine thenN ?_
    refine LH.wk (Wk.to (el := [(0, .lst 4 (List.map GEnrolment.lv p0)), (5, .int .i64 n10)]) (ml := []) (eC rfl (eC rfl eN)) mN rfl (prK rfl)) ?_
    refine LH.seq ?_
    refine LH.block ?_
    obtain ⟨x12, hx12, h⟩ := bindS h
    obtain ⟨x13, hx13, h⟩ := bindS h
    refine LH.seqJM mixed [] [0, 0, 0, 0, 0, 0, 0, 0, 0, 0, 0, 0, 0, 0] [(0, .lst 4 (List.map GEnrolment.lv p0)), (5, .int .i64 n10), (57, .bool (decide (x12.Entry.Candidate ≥ x13.Entry.Candidate)))] [] rfl rfl (by kernel_rfl) ?_ ?_
    · refine mN0 (oM (v := (.lst _ _)) rfl ⟨rfl, ?_⟩)
      refine mN0 (oM (v := (.int _ _)) rfl ⟨rfl, ?_⟩)
      refine mN0 (oSub rfl rfl ⟨rfl, ?_⟩)
      refine mN0 (oIx (f := GEnrolment.lv) te38 tk44 ts44 rfl rfl GEnrolment.ok hx12 rfl ⟨rfl, ?_⟩)
      refine mN0 (oFaS tf44_0 tk42 ts42 rfl rfl rfl ⟨rfl, ?_⟩)
      refine mN0 (oFaS tf42_0 tk3 ts3 rfl rfl rfl ⟨rfl, ?_⟩)
      refine mN0 (oLd rfl tk3 ta3 ⟨rfl, ?_⟩)
      refine mN0 (oM (v := (.lst _ _)) rfl ⟨rfl, ?_⟩)
      refine mN0 (oM (v := (.int _ _)) rfl ⟨rfl, ?_⟩)
      refine mN0 (oIx (f := GEnrolment.lv) te38 tk44 ts44 rfl rfl GEnrolment.ok hx13 rfl ⟨rfl, ?_⟩)
      refine mN0 (oFaS tf44_0 tk42 ts42 rfl rfl rfl ⟨rfl, ?_⟩)
      refine mN0 (oFaS tf42_0 tk3 ts3 rfl rfl rfl ⟨rfl, ?_⟩)
      refine mN0 (oLd rfl tk3 ta3 ⟨rfl, ?_⟩)
      refine mN0 (oGe rfl rfl ⟨rfl, ?_⟩)
      exact m0 (Wk.to (eC rfl (eC rfl (eC rfl eN))) mN rfl (prK rfl))
    refine LH.cond (t := (decide (x12.Entry.Candidate ≥ x13.Entry.Candidate))) rfl (fun hc14 => ?_) (fun hc14 => ?_)
    · replace h := iteT h hc14
      refine LH.seqT [(2, .int .i64 5)] [] rfl ?_ ?_
      · refine sN (oA (v := (.int _ _)) rfl ?_)
        exact s0 (Wk.to (eC rfl eN) mN rfl (prK rfl))
      refine LH.ret ?_
      refine blockR ?_
      refine thenR ?_
      refine roundR ?_
      refine blockR ?_
      refine thenR ?_
      obtain rfl := Option.some.inj h
      exact retE (congrArg Array.toList Try.results21) (lrT rfl (lr0 ⟨memN mN, rfl, prK rfl, Sub.rfl⟩))
    replace h := iteF h hc14
    refine LH.skip ?_
    refine blockN ?_
    refine thenN ?_
    refine LH.wk (Wk.to (el := [(0, .lst 4 (List.map GEnrolment.lv p0)), (5, .int .i64 n10)]) (ml := []) (eC rfl (eC rfl eN)) mN rfl (prK rfl)) ?_
    refine LH.loneT [(0, .lst 4 (List.map GEnrolment.lv p0)), (5, .int .i64 (i64 (n10 + 1)))] [] rfl ?_ ?_
    · refine sN (oM (v := (.int _ _)) rfl ?_)
      refine sN (oAdd rfl rfl ?_)
      refine sN (oA (v := (.int _ _)) rfl ?_)
      exact s0 (Wk.to (eC rfl (eC rfl eN)) mN rfl (prK rfl))
    exact roundN (e' := Env.of [(0, .lst 4 (List.map GEnrolment.lv p0)), (5, .int .i64 (i64 (n10 + 1)))]) (m' := Mem.of []) (Wk.to (eC rfl (eC rfl eN)) mN rfl (prK rfl)) ⟨(i64 (n10 + 1)), hrec2 ▸ h, rfl, rfl⟩
  replace h := iteF h hc11
  refine LH.exit ?_
  refine thenX ?_
  refine roundX ?_
  refine blockH ?_
  refine thenN ?_
  refine LH.wk (Wk.to (el := []) (ml := []) eN mN rfl (prK rfl)) ?_
  refine LH.seqT [(2, .int .i64 0)] [] rfl ?_ ?_
  · refine sN (oA (v := (.int _ _)) rfl ?_)
    exact s0 (Wk.to (eC rfl eN) mN rfl (prK rfl))
  refine LH.ret ?_
  obtain rfl := Option.some.inj h
  exact retE (congrArg Array.toList Try.results21) (lrT rfl (lr0 ⟨memN mN, rfl, prK rfl, Sub.rfl⟩))

theorem ref16_Index_ok {F : Nat} {p0 : List GAttendance} {p1 : Int} {r : Int} (h : ref16_Index F p0 p1 = some r) : LCall Try.prog 46 [.lst 5 (List.map GAttendance.lv p0), .int .i64 p1] (Mem.of []) (.int .i64 r) (Mem.of []) := by
  unfold ref16_Index at h
  refine bodyT Try.func46 rfl (by rw [Try.ntmps46]; exact Nat.le_of_ble_eq_true rfl) ?_
  refine LH.wk (Wk.to (el := [(0, .lst 5 (List.map GAttendance.lv p0)), (1, .int .i64 p1)]) (ml := []) (eC rfl (eC rfl eN)) mN rfl (prK rfl)) ?_
  refine LH.seqT [(0, .lst 5 (List.map GAttendance.lv p0)), (1, .int .i64 p1)] [] rfl ?_ ?_
  · refine sN (oA (v := (.int _ _)) rfl ?_)
    exact s0 (Wk.to (eC rfl (eC rfl eN)) mN rfl (prK rfl))
  refine LH.seq ?_
  refine LH.seqT [(0, .lst 5 (List.map GAttendance.lv p0)), (1, .int .i64 p1), (5, .int .i64 0)] [] rfl ?_ ?_
  · refine sN (oA (v := (.int _ _)) rfl ?_)
    exact s0 (Wk.to (eC rfl (eC rfl (eC rfl eN))) mN rfl (prK rfl))
  refine LH.block ?_
  refine LH.loop (fun n e m => ∃ (n1 : Int), ref16_Index_L1 p0 p1 n n1 = some r ∧ e = Env.of [(0, .lst 5 (List.map GAttendance.lv p0)), (1, .int .i64 p1), (5, .int .i64 n1)] ∧ m = Mem.of []) F ⟨0, h, rfl, rfl⟩ ?_
  clear h
  rintro n e m ⟨n1, h, rfl, rfl⟩
  rcases n with _ | n
  · cases (show Option.none = some _ from h)
  obtain ⟨rec1, hrec1⟩ : ∃ f, f = ref16_Index_L1 p0 p1 n := ⟨_, rfl⟩
  replace h : ref16_Index_L1_B p0 p1 rec1 n1 = some r := hrec1 ▸ h
  unfold ref16_Index_L1_B at h
  refine LH.seq ?_
  refine LH.seqT [(0, .lst 5 (List.map GAttendance.lv p0)), (1, .int .i64 p1), (5, .int .i64 n1), (9, .bool (decide (n1 < (p0.length : Int))))] [] rfl ?_ ?_
  · refine sN (oM (v := (.int _ _)) rfl ?_)
    refine sN (oM (v := (.lst _ _)) rfl ?_)
    refine sN (oLnL (f := GAttendance.lv) te47 rfl ?_)
    refine sN (oLt rfl rfl ?_)
    exact s0 (Wk.to (eC rfl (eC rfl (eC rfl (eC rfl eN)))) mN rfl (prK rfl))
  refine LH.cond (t := (decide (n1 < (p0.length : Int)))) rfl (fun hc2 => ?_) (fun hc2 => ?_)
  · replace h := iteT h hc2
    refine LH.skip ?_
    refine thenN ?_
    refine LH.wk (Wk.to (el := [(0, .lst 5 (List.map GAttendance.lv p0)), (1, .int .i64 p1), (5, .int .i64 n1)]) (ml := []) (eC rfl (eC rfl (eC rfl eN))) mN rfl (prK rfl)) ?_
    refine LH.seq ?_
    refine LH.block ?_
    obtain ⟨x3, hx3, h⟩ := bindS h
    refine LH.seqT [(0, .lst 5 (List.map GAttendance.lv p0)), (1, .int .i64 p1), (5, .int .i64 n1), (18, .bool (x3.Candidate == p1))] [] rfl ?_ ?_
    · refine sN (oM (v := (.lst _ _)) rfl ?_)
      refine sN (oM (v := (.int _ _)) rfl ?_)
      refine sN (oIx (f := GAttendance.lv) te47 tk54 ts54 rfl rfl GAttendance.ok hx3 rfl ?_)
      refine sN (oFaS tf54_0 tk3 ts3 rfl rfl rfl ?_)
      refine sN (oLd rfl tk3 ta3 ?_)
      refine sN (oM (v := (.int _ _)) rfl ?_)
      refine sN (oEq rfl rfl ?_)
      exact s0 (Wk.to (eC rfl (eC rfl (eC rfl (eC rfl eN)))) mN rfl (prK rfl))
    refine LH.cond (t := (x3.Candidate == p1)) rfl (fun hc4 => ?_) (fun hc4 => ?_)
    · replace h := iteT h hc4
      refine LH.seqT [(4, .int .i64 n1)] [] rfl ?_ ?_
      · refine sN (oM (v := (.int _ _)) rfl ?_)
        refine sN (oA (v := (.int _ _)) rfl ?_)
        exact s0 (Wk.to (eC rfl eN) mN rfl (prK rfl))
      refine LH.ret ?_
      refine blockR ?_
      refine thenR ?_
      refine roundR ?_
      refine blockR ?_
      refine thenR ?_
      obtain rfl := Option.some.inj h
      exact retE (congrArg Array.toList Try.results46) (lrT rfl (lr0 ⟨memN mN, rfl, prK rfl, Sub.rfl⟩))
    replace h := iteF h hc4
    refine LH.skip ?_
    refine blockN ?_
    refine thenN ?_
    refine LH.wk (Wk.to (el := [(0, .lst 5 (List.map GAttendance.lv p0)), (1, .int .i64 p1), (5, .int .i64 n1)]) (ml := []) (eC rfl (eC rfl (eC rfl eN))) mN rfl (prK rfl)) ?_
    refine LH.loneT [(0, .lst 5 (List.map GAttendance.lv p0)), (1, .int .i64 p1), (5, .int .i64 (i64 (n1 + 1)))] [] rfl ?_ ?_
    · refine sN (oM (v := (.int _ _)) rfl ?_)
      refine sN (oAdd rfl rfl ?_)
      refine sN (oA (v := (.int _ _)) rfl ?_)
      exact s0 (Wk.to (eC rfl (eC rfl (eC rfl eN))) mN rfl (prK rfl))
    exact roundN (e' := Env.of [(0, .lst 5 (List.map GAttendance.lv p0)), (1, .int .i64 p1), (5, .int .i64 (i64 (n1 + 1)))]) (m' := Mem.of []) (Wk.to (eC rfl (eC rfl (eC rfl eN))) mN rfl (prK rfl)) ⟨(i64 (n1 + 1)), hrec1 ▸ h, rfl, rfl⟩
  replace h := iteF h hc2
  refine LH.exit ?_
  refine thenX ?_
  refine roundX ?_
  refine blockH ?_
  refine thenN ?_
  refine LH.wk (Wk.to (el := []) (ml := []) eN mN rfl (prK rfl)) ?_
  refine LH.seqT [(4, .int .i64 (-1))] [] rfl ?_ ?_
  · refine sN (oA (v := (.int _ _)) rfl ?_)
    exact s0 (Wk.to (eC rfl eN) mN rfl (prK rfl))
  refine LH.ret ?_
  obtain rfl := Option.some.inj h
  exact retE (congrArg Array.toList Try.results46) (lrT rfl (lr0 ⟨memN mN, rfl, prK rfl, Sub.rfl⟩))

theorem ref16_refuses_ok {F : Nat} {p0 : List GEnrolment} {p1 : List GAttendance} {p2 : GRegisterEvent} {r : Int} (h : ref16_refuses F p0 p1 p2 = some r) : LCall Try.prog 45 [.lst 4 (List.map GEnrolment.lv p0), .lst 5 (List.map GAttendance.lv p1), .agg [.int .i64 p2.Stamp.Time, .int .i64 p2.Stamp.Source, .int .i64 p2.Stamp.Seq, .int .i64 p2.Kind, .int .i64 p2.Candidate, .int .i64 p2.Minutes]] (Mem.of []) (.int .i64 r) (Mem.of []) := by
  unfold ref16_refuses at h
  refine bodyT Try.func45 rfl (by rw [Try.ntmps45]; exact Nat.le_of_ble_eq_true rfl) ?_
  refine LH.wk (Wk.to (el := [(0, .lst 4 (List.map GEnrolment.lv p0)), (1, .lst 5 (List.map GAttendance.lv p1)), (2, .agg [.int .i64 p2.Stamp.Time, .int .i64 p2.Stamp.Source, .int .i64 p2.Stamp.Seq, .int .i64 p2.Kind, .int .i64 p2.Candidate, .int .i64 p2.Minutes])]) (ml := []) (eC rfl (eC rfl (eC rfl eN))) mN rfl (prK rfl)) ?_
  refine LH.seqT [(0, .lst 4 (List.map GEnrolment.lv p0)), (1, .lst 5 (List.map GAttendance.lv p1)), (5, .sptr [.int .i64 p2.Stamp.Time, .int .i64 p2.Stamp.Source, .int .i64 p2.Stamp.Seq, .int .i64 p2.Kind, .int .i64 p2.Candidate, .int .i64 p2.Minutes])] [] rfl ?_ ?_
  · refine sB (oBxR rfl rfl rfl rfl ?_)
    refine sN (oA (v := (.int _ _)) rfl ?_)
    exact s0 (Wk.to (eC rfl (eC rfl (eC rfl eN))) mN rfl (prK rfl))
  refine LH.seq ?_
  refine LH.seqT [(0, .lst 4 (List.map GEnrolment.lv p0)), (1, .lst 5 (List.map GAttendance.lv p1)), (5, .sptr [.int .i64 p2.Stamp.Time, .int .i64 p2.Stamp.Source, .int .i64 p2.Stamp.Seq, .int .i64 p2.Kind, .int .i64 p2.Candidate, .int .i64 p2.Minutes]), (25, .bool ((decide (p2.Kind < 1)) || ((decide (p2.Kind > 5)) || ((decide (p2.Minutes < 0)) || (decide (p2.Minutes > 600))))))] [] rfl ?_ ?_
  · refine sN (oFaS tf33_1 tk3 ts3 rfl rfl rfl ?_)
    refine sN (oLd rfl tk3 ta3 ?_)
    refine sN (oLt rfl rfl ?_)
    refine sN (oM (v := (.bool _)) rfl ?_)
    by_cases hb2 : (decide (p2.Kind < 1)) = true
    · refine sF rfl rfl hb2 ?_
      refine sF rfl rfl hb2 ?_
      refine sF rfl rfl hb2 ?_
      refine sN (oPkT (congrArg LV.bool hb2) (v := (.bool _)) rfl ?_)
      refine sN (oM (v := (.bool _)) rfl ?_)
      refine sF rfl rfl rfl ?_
      refine sF rfl rfl rfl ?_
      refine sF rfl rfl rfl ?_
      refine sN (oPkT rfl (v := (.bool _)) rfl ?_)
      refine sN (oM (v := (.bool _)) rfl ?_)
      refine sF rfl rfl rfl ?_
      refine sF rfl rfl rfl ?_
      refine sF rfl rfl rfl ?_
      refine sN (oPkT rfl (v := (.bool _)) rfl ?_)
      exact s0 (Wk.to (eC rfl (eC rfl (eC rfl (eC (congrArg LV.bool (orT hb2)) eN)))) mN rfl (prK rfl))
    · replace hb2 := bF hb2
      refine sT rfl (congrArg LV.bool hb2) (oFaS tf33_1 tk3 ts3 rfl rfl rfl ?_)
      refine sT rfl (congrArg LV.bool hb2) (oLd rfl tk3 ta3 ?_)
      refine sT rfl (congrArg LV.bool hb2) (oGt rfl rfl ?_)
      refine sN (oPkF (congrArg LV.bool hb2) (v := (.bool _)) rfl ?_)
      refine sN (oM (v := (.bool _)) rfl ?_)
      by_cases hb3 : (decide (p2.Kind > 5)) = true
      · refine sF rfl rfl hb3 ?_
        refine sF rfl rfl hb3 ?_
        refine sF rfl rfl hb3 ?_
        refine sN (oPkT (congrArg LV.bool hb3) (v := (.bool _)) rfl ?_)
        refine sN (oM (v := (.bool _)) rfl ?_)
        refine sF rfl rfl rfl ?_
        refine sF rfl rfl rfl ?_
        refine sF rfl rfl rfl ?_
        refine sN (oPkT rfl (v := (.bool _)) rfl ?_)
        exact s0 (Wk.to (eC rfl (eC rfl (eC rfl (eC (congrArg LV.bool (Eq.trans (orT hb3) (orF hb2))) eN)))) mN rfl (prK rfl))
      · replace hb3 := bF hb3
        refine sT rfl (congrArg LV.bool hb3) (oFaS tf33_3 tk3 ts3 rfl rfl rfl ?_)
        refine sT rfl (congrArg LV.bool hb3) (oLd rfl tk3 ta3 ?_)
        refine sT rfl (congrArg LV.bool hb3) (oLt rfl rfl ?_)
        refine sN (oPkF (congrArg LV.bool hb3) (v := (.bool _)) rfl ?_)
        refine sN (oM (v := (.bool _)) rfl ?_)
        by_cases hb4 : (decide (p2.Minutes < 0)) = true
        · refine sF rfl rfl hb4 ?_
          refine sF rfl rfl hb4 ?_
          refine sF rfl rfl hb4 ?_
          refine sN (oPkT (congrArg LV.bool hb4) (v := (.bool _)) rfl ?_)
          exact s0 (Wk.to (eC rfl (eC rfl (eC rfl (eC (congrArg LV.bool (Eq.trans (Eq.trans (orT hb4) (orF hb3)) (orF hb2))) eN)))) mN rfl (prK rfl))
        · replace hb4 := bF hb4
          refine sT rfl (congrArg LV.bool hb4) (oFaS tf33_3 tk3 ts3 rfl rfl rfl ?_)
          refine sT rfl (congrArg LV.bool hb4) (oLd rfl tk3 ta3 ?_)
          refine sT rfl (congrArg LV.bool hb4) (oGt rfl rfl ?_)
          refine sN (oPkF (congrArg LV.bool hb4) (v := (.bool _)) rfl ?_)
          exact s0 (Wk.to (eC rfl (eC rfl (eC rfl (eC (congrArg LV.bool (Eq.trans (Eq.trans (orF hb4) (orF hb3)) (orF hb2))) eN)))) mN rfl (prK rfl))
  refine LH.cond (t := ((decide (p2.Kind < 1)) || ((decide (p2.Kind > 5)) || ((decide (p2.Minutes < 0)) || (decide (p2.Minutes > 600)))))) rfl (fun hc5 => ?_) (fun hc5 => ?_)
  · replace h := iteT h hc5
    refine LH.seqT [(6, .int .i64 2)] [] rfl ?_ ?_
    · refine sN (oA (v := (.int _ _)) rfl ?_)
      exact s0 (Wk.to (eC rfl eN) mN rfl (prK rfl))
    refine LH.ret ?_
    refine thenR ?_
    obtain rfl := Option.some.inj h
    exact retE (congrArg Array.toList Try.results45) (lrT rfl (lr0 ⟨memN mN, rfl, prK rfl, Sub.rfl⟩))
  replace h := iteF h hc5
  refine LH.skip ?_
  refine thenN ?_
  refine LH.wk (Wk.to (el := [(0, .lst 4 (List.map GEnrolment.lv p0)), (1, .lst 5 (List.map GAttendance.lv p1)), (5, .sptr [.int .i64 p2.Stamp.Time, .int .i64 p2.Stamp.Source, .int .i64 p2.Stamp.Seq, .int .i64 p2.Kind, .int .i64 p2.Candidate, .int .i64 p2.Minutes])]) (ml := []) (eC rfl (eC rfl (eC rfl eN))) mN rfl (prK rfl)) ?_
  obtain ⟨r6, hr6, h⟩ := bindS h
  refine LH.seqT [(0, .lst 4 (List.map GEnrolment.lv p0)), (1, .lst 5 (List.map GAttendance.lv p1)), (5, .sptr [.int .i64 p2.Stamp.Time, .int .i64 p2.Stamp.Source, .int .i64 p2.Stamp.Seq, .int .i64 p2.Kind, .int .i64 p2.Candidate, .int .i64 p2.Minutes]), (7, .int .i64 r6)] [] rfl ?_ ?_
  · refine sN (oM (v := (.lst _ _)) rfl ?_)
    refine sN (oFaS tf33_2 tk3 ts3 rfl rfl rfl ?_)
    refine sN (oLd rfl tk3 ta3 ?_)
    refine sN (oCP (args := [.lst 5 (List.map GAttendance.lv p1), .int .i64 p2.Candidate]) rfl isF46 rfl (sbR (sbR sbN)) (ref16_Index_ok hr6) rfl ?_)
    refine sN (oA (v := (.int _ _)) rfl ?_)
    exact s0 (Wk.to (eC rfl (eC rfl (eC rfl (eC rfl eN)))) mN rfl (prK rfl))
  refine LH.seq ?_
  refine LH.seqT [(0, .lst 4 (List.map GEnrolment.lv p0)), (1, .lst 5 (List.map GAttendance.lv p1)), (5, .sptr [.int .i64 p2.Stamp.Time, .int .i64 p2.Stamp.Source, .int .i64 p2.Stamp.Seq, .int .i64 p2.Kind, .int .i64 p2.Candidate, .int .i64 p2.Minutes]), (7, .int .i64 r6), (31, .bool (decide (r6 < 0)))] [] rfl ?_ ?_
  · refine sN (oM (v := (.int _ _)) rfl ?_)
    refine sN (oLt rfl rfl ?_)
    exact s0 (Wk.to (eC rfl (eC rfl (eC rfl (eC rfl (eC rfl eN))))) mN rfl (prK rfl))
  refine LH.cond (t := (decide (r6 < 0))) rfl (fun hc7 => ?_) (fun hc7 => ?_)
  · replace h := iteT h hc7
    refine LH.seqT [(6, .int .i64 4)] [] rfl ?_ ?_
    · refine sN (oA (v := (.int _ _)) rfl ?_)
      exact s0 (Wk.to (eC rfl eN) mN rfl (prK rfl))
    refine LH.ret ?_
    refine thenR ?_
    obtain rfl := Option.some.inj h
    exact retE (congrArg Array.toList Try.results45) (lrT rfl (lr0 ⟨memN mN, rfl, prK rfl, Sub.rfl⟩))
  replace h := iteF h hc7
  refine LH.skip ?_
  refine thenN ?_
  refine LH.wk (Wk.to (el := [(0, .lst 4 (List.map GEnrolment.lv p0)), (1, .lst 5 (List.map GAttendance.lv p1)), (5, .sptr [.int .i64 p2.Stamp.Time, .int .i64 p2.Stamp.Source, .int .i64 p2.Stamp.Seq, .int .i64 p2.Kind, .int .i64 p2.Candidate, .int .i64 p2.Minutes]), (7, .int .i64 r6)]) (ml := []) (eC rfl (eC rfl (eC rfl (eC rfl eN)))) mN rfl (prK rfl)) ?_
  refine LH.seq ?_
  obtain ⟨w9, hv, h⟩ := bindS h
  refine LH.seqJM mixed [] [0, 0, 0, 0, 0, 0, 0, 0, 0, 0, 0, 0, 0, 0, 0, 0] [(1, .lst 5 (List.map GAttendance.lv p1)), (5, .sptr [.int .i64 p2.Stamp.Time, .int .i64 p2.Stamp.Source, .int .i64 p2.Stamp.Seq, .int .i64 p2.Kind, .int .i64 p2.Candidate, .int .i64 p2.Minutes]), (7, .int .i64 r6), (47, .bool w9)] [] rfl rfl (by kernel_rfl) ?_ ?_
  · refine mN0 (oFaS tf33_0 tk31 ts31 rfl rfl rfl ⟨rfl, ?_⟩)
    refine mN0 (oFaS tf31_1 tk3 ts3 rfl rfl rfl ⟨rfl, ?_⟩)
    refine mN0 (oLd rfl tk3 ta3 ⟨rfl, ?_⟩)
    refine mN0 (oNe rfl rfl ⟨rfl, ?_⟩)
    refine mN0 (oM (v := (.bool _)) rfl ⟨rfl, ?_⟩)
    by_cases hb10 : (p2.Stamp.Source != 0) = true
    · replace hv := iteT hv hb10
      refine mT rfl (congrArg LV.bool hb10) (mN0 (oFaS tf33_0 tk31 ts31 rfl rfl rfl ⟨rfl, ?_⟩))
      refine mT rfl (congrArg LV.bool hb10) (mN0 (oFaS tf31_1 tk3 ts3 rfl rfl rfl ⟨rfl, ?_⟩))
      refine mT rfl (congrArg LV.bool hb10) (mN0 (oLd rfl tk3 ta3 ⟨rfl, ?_⟩))
      refine mT rfl (congrArg LV.bool hb10) (mN0 (oM (v := (.lst _ _)) rfl ⟨rfl, ?_⟩))
      refine mT rfl (congrArg LV.bool hb10) (mN0 (oM (v := (.int _ _)) rfl ⟨rfl, ?_⟩))
      obtain ⟨x11, hx11, hv⟩ := bindS hv
      refine mT rfl (congrArg LV.bool hb10) (mN0 (oIx (f := GEnrolment.lv) te38 tk44 ts44 rfl rfl GEnrolment.ok hx11 rfl ⟨rfl, ?_⟩))
      refine mT rfl (congrArg LV.bool hb10) (mN0 (oFaS tf44_0 tk42 ts42 rfl rfl rfl ⟨rfl, ?_⟩))
      refine mT rfl (congrArg LV.bool hb10) (mN0 (oFaS tf42_1 tk3 ts3 rfl rfl rfl ⟨rfl, ?_⟩))
      refine mT rfl (congrArg LV.bool hb10) (mN0 (oLd rfl tk3 ta3 ⟨rfl, ?_⟩))
      refine mT rfl (congrArg LV.bool hb10) (mN0 (oNe rfl rfl ⟨rfl, ?_⟩))
      refine mN0 (oPkT (congrArg LV.bool hb10) (v := (.bool _)) rfl ⟨rfl, ?_⟩)
      obtain rfl := Option.some.inj hv
      exact m0 (Wk.to (eC rfl (eC rfl (eC rfl (eC rfl eN)))) mN rfl (prK rfl))
    · replace hb10 := bF hb10
      replace hv := iteF hv hb10
      refine mF rfl rfl hb10 ?_
      refine mF rfl rfl hb10 ?_
      refine mF rfl rfl hb10 ?_
      refine mF rfl rfl hb10 ?_
      refine mF rfl rfl hb10 ?_
      refine mF rfl rfl hb10 ?_
      refine mF rfl rfl hb10 ?_
      refine mF rfl rfl hb10 ?_
      refine mF rfl rfl hb10 ?_
      refine mF rfl rfl hb10 ?_
      refine mN0 (oPkF (congrArg LV.bool hb10) (v := (.bool _)) rfl ⟨rfl, ?_⟩)
      obtain rfl := Option.some.inj hv
      exact m0 (Wk.to (eC rfl (eC rfl (eC rfl (eC rfl eN)))) mN rfl (prK rfl))
  clear hv
  refine LH.cond (t := w9) rfl (fun hc12 => ?_) (fun hc12 => ?_)
  · replace h := iteT h hc12
    refine LH.seqT [(6, .int .i64 28)] [] rfl ?_ ?_
    · refine sN (oA (v := (.int _ _)) rfl ?_)
      exact s0 (Wk.to (eC rfl eN) mN rfl (prK rfl))
    refine LH.ret ?_
    refine thenR ?_
    obtain rfl := Option.some.inj h
    exact retE (congrArg Array.toList Try.results45) (lrT rfl (lr0 ⟨memN mN, rfl, prK rfl, Sub.rfl⟩))
  replace h := iteF h hc12
  refine LH.skip ?_
  refine thenN ?_
  refine LH.wk (Wk.to (el := [(1, .lst 5 (List.map GAttendance.lv p1)), (5, .sptr [.int .i64 p2.Stamp.Time, .int .i64 p2.Stamp.Source, .int .i64 p2.Stamp.Seq, .int .i64 p2.Kind, .int .i64 p2.Candidate, .int .i64 p2.Minutes]), (7, .int .i64 r6)]) (ml := []) (eC rfl (eC rfl (eC rfl eN))) mN rfl (prK rfl)) ?_
  refine LH.seq ?_
  obtain ⟨w14, hv, h⟩ := bindS h
  refine LH.seqT [(1, .lst 5 (List.map GAttendance.lv p1)), (5, .sptr [.int .i64 p2.Stamp.Time, .int .i64 p2.Stamp.Source, .int .i64 p2.Stamp.Seq, .int .i64 p2.Kind, .int .i64 p2.Candidate, .int .i64 p2.Minutes]), (7, .int .i64 r6), (58, .bool w14)] [] rfl ?_ ?_
  · refine sN (oFaS tf33_1 tk3 ts3 rfl rfl rfl ?_)
    refine sN (oLd rfl tk3 ta3 ?_)
    refine sN (oEq rfl rfl ?_)
    refine sN (oM (v := (.bool _)) rfl ?_)
    by_cases hb15 : (p2.Kind == 4) = true
    · replace hv := iteT hv hb15
      refine sT rfl (congrArg LV.bool hb15) (oM (v := (.lst _ _)) rfl ?_)
      refine sT rfl (congrArg LV.bool hb15) (oM (v := (.int _ _)) rfl ?_)
      obtain ⟨x16, hx16, hv⟩ := bindS hv
      refine sT rfl (congrArg LV.bool hb15) (oIx (f := GAttendance.lv) te47 tk54 ts54 rfl rfl GAttendance.ok hx16 rfl ?_)
      refine sT rfl (congrArg LV.bool hb15) (oFaS tf54_1 tk3 ts3 rfl rfl rfl ?_)
      refine sT rfl (congrArg LV.bool hb15) (oLd rfl tk3 ta3 ?_)
      refine sT rfl (congrArg LV.bool hb15) (oNe rfl rfl ?_)
      refine sN (oPkT (congrArg LV.bool hb15) (v := (.bool _)) rfl ?_)
      obtain rfl := Option.some.inj hv
      exact s0 (Wk.to (eC rfl (eC rfl (eC rfl (eC rfl eN)))) mN rfl (prK rfl))
    · replace hb15 := bF hb15
      replace hv := iteF hv hb15
      refine sF rfl rfl hb15 ?_
      refine sF rfl rfl hb15 ?_
      refine sF rfl rfl hb15 ?_
      refine sF rfl rfl hb15 ?_
      refine sF rfl rfl hb15 ?_
      refine sF rfl rfl hb15 ?_
      refine sN (oPkF (congrArg LV.bool hb15) (v := (.bool _)) rfl ?_)
      obtain rfl := Option.some.inj hv
      exact s0 (Wk.to (eC rfl (eC rfl (eC rfl (eC rfl eN)))) mN rfl (prK rfl))
  clear hv
  refine LH.cond (t := w14) rfl (fun hc17 => ?_) (fun hc17 => ?_)
  · replace h := iteT h hc17
    refine LH.seqT [(6, .int .i64 8)] [] rfl ?_ ?_
    · refine sN (oA (v := (.int _ _)) rfl ?_)
      exact s0 (Wk.to (eC rfl eN) mN rfl (prK rfl))
    refine LH.ret ?_
    refine thenR ?_
    obtain rfl := Option.some.inj h
    exact retE (congrArg Array.toList Try.results45) (lrT rfl (lr0 ⟨memN mN, rfl, prK rfl, Sub.rfl⟩))
  replace h := iteF h hc17
  refine LH.skip ?_
  refine thenN ?_
  refine LH.wk (Wk.to (el := [(1, .lst 5 (List.map GAttendance.lv p1)), (5, .sptr [.int .i64 p2.Stamp.Time, .int .i64 p2.Stamp.Source, .int .i64 p2.Stamp.Seq, .int .i64 p2.Kind, .int .i64 p2.Candidate, .int .i64 p2.Minutes]), (7, .int .i64 r6)]) (ml := []) (eC rfl (eC rfl (eC rfl eN))) mN rfl (prK rfl)) ?_
  refine LH.seq ?_
  obtain ⟨w19, hv, h⟩ := bindS h
  refine LH.seqT [(70, .bool w19)] [] rfl ?_ ?_
  · refine sN (oFaS tf33_1 tk3 ts3 rfl rfl rfl ?_)
    refine sN (oLd rfl tk3 ta3 ?_)
    refine sN (oEq rfl rfl ?_)
    refine sN (oM (v := (.bool _)) rfl ?_)
    by_cases hb20 : (p2.Kind == 5) = true
    · replace hv := iteT hv hb20
      refine sT rfl (congrArg LV.bool hb20) (oM (v := (.lst _ _)) rfl ?_)
      refine sT rfl (congrArg LV.bool hb20) (oM (v := (.int _ _)) rfl ?_)
      obtain ⟨x21, hx21, hv⟩ := bindS hv
      refine sT rfl (congrArg LV.bool hb20) (oIx (f := GAttendance.lv) te47 tk54 ts54 rfl rfl GAttendance.ok hx21 rfl ?_)
      refine sT rfl (congrArg LV.bool hb20) (oFaS tf54_4 tk22 ts22 rfl rfl rfl ?_)
      refine sT rfl (congrArg LV.bool hb20) (oLd rfl tk22 ta22 ?_)
      refine sT rfl (congrArg LV.bool hb20) (oLnL (f := (LV.int .i64)) te22 rfl ?_)
      refine sT rfl (congrArg LV.bool hb20) (oGe rfl rfl ?_)
      refine sN (oPkT (congrArg LV.bool hb20) (v := (.bool _)) rfl ?_)
      obtain rfl := Option.some.inj hv
      exact s0 (Wk.to (eC rfl eN) mN rfl (prK rfl))
    · replace hb20 := bF hb20
      replace hv := iteF hv hb20
      refine sF rfl rfl hb20 ?_
      refine sF rfl rfl hb20 ?_
      refine sF rfl rfl hb20 ?_
      refine sF rfl rfl hb20 ?_
      refine sF rfl rfl hb20 ?_
      refine sF rfl rfl hb20 ?_
      refine sF rfl rfl hb20 ?_
      refine sN (oPkF (congrArg LV.bool hb20) (v := (.bool _)) rfl ?_)
      obtain rfl := Option.some.inj hv
      exact s0 (Wk.to (eC rfl eN) mN rfl (prK rfl))
  clear hv
  refine LH.cond (t := w19) rfl (fun hc22 => ?_) (fun hc22 => ?_)
  · replace h := iteT h hc22
    refine LH.seqT [(6, .int .i64 3)] [] rfl ?_ ?_
    · refine sN (oA (v := (.int _ _)) rfl ?_)
      exact s0 (Wk.to (eC rfl eN) mN rfl (prK rfl))
    refine LH.ret ?_
    refine thenR ?_
    obtain rfl := Option.some.inj h
    exact retE (congrArg Array.toList Try.results45) (lrT rfl (lr0 ⟨memN mN, rfl, prK rfl, Sub.rfl⟩))
  replace h := iteF h hc22
  refine LH.skip ?_
  refine thenN ?_
  refine LH.wk (Wk.to (el := []) (ml := []) eN mN rfl (prK rfl)) ?_
  refine LH.seqT [(6, .int .i64 0)] [] rfl ?_ ?_
  · refine sN (oA (v := (.int _ _)) rfl ?_)
    exact s0 (Wk.to (eC rfl eN) mN rfl (prK rfl))
  refine LH.ret ?_
  obtain rfl := Option.some.inj h
  exact retE (congrArg Array.toList Try.results45) (lrT rfl (lr0 ⟨memN mN, rfl, prK rfl, Sub.rfl⟩))

theorem ref16_after_ok {p0 : GAttendance} {p1 : GRegisterEvent} {r : GAttendance} (h : ref16_after p0 p1 = some r) : LCall Try.prog 47 [.agg [.int .i64 p0.Candidate, .int .i64 p0.State, .int .i64 p0.Late, .int .i64 p0.Left, .lst 1 (List.map (LV.int .i64) p0.Incidents)], .agg [.int .i64 p1.Stamp.Time, .int .i64 p1.Stamp.Source, .int .i64 p1.Stamp.Seq, .int .i64 p1.Kind, .int .i64 p1.Candidate, .int .i64 p1.Minutes]] (Mem.of []) (.agg [.int .i64 r.Candidate, .int .i64 r.State, .int .i64 r.Late, .int .i64 r.Left, .lst 1 (List.map (LV.int .i64) r.Incidents)]) (Mem.of []) := by
  unfold ref16_after at h
  refine bodyT Try.func47 rfl (by rw [Try.ntmps47]; exact Nat.le_of_ble_eq_true rfl) ?_
  refine LH.wk (Wk.to (el := [(0, .agg [.int .i64 p0.Candidate, .int .i64 p0.State, .int .i64 p0.Late, .int .i64 p0.Left, .lst 1 (List.map (LV.int .i64) p0.Incidents)]), (1, .agg [.int .i64 p1.Stamp.Time, .int .i64 p1.Stamp.Source, .int .i64 p1.Stamp.Seq, .int .i64 p1.Kind, .int .i64 p1.Candidate, .int .i64 p1.Minutes])]) (ml := []) (eC rfl (eC rfl eN)) mN rfl (prK rfl)) ?_
  refine LH.seqT [(2, .ptr 102 0), (3, .sptr [.int .i64 p1.Stamp.Time, .int .i64 p1.Stamp.Source, .int .i64 p1.Stamp.Seq, .int .i64 p1.Kind, .int .i64 p1.Candidate, .int .i64 p1.Minutes]), (4, .ptr 104 0)] [(102, .box [.int .i64 p0.Candidate, .int .i64 p0.State, .int .i64 p0.Late, .int .i64 p0.Left, .lst 1 (List.map (LV.int .i64) p0.Incidents)]), (104, .box [.int .i64 0, .int .i64 0, .int .i64 0, .int .i64 0, .nil])] rfl ?_ ?_
  · refine sN (oBx (id := 102) rfl rfl rfl rfl rfl rfl ?_)
    refine sB (oBxR rfl rfl rfl rfl ?_)
    refine sN (oAl (id := 104) rfl tz54 rfl rfl ?_)
    exact s0 (Wk.to (eC rfl (eC rfl (eC rfl eN))) (mC rfl (mC rfl mN)) rfl (prK rfl))
  refine LH.seq ?_
  refine LH.seqT [(2, .ptr 102 0), (3, .sptr [.int .i64 p1.Stamp.Time, .int .i64 p1.Stamp.Source, .int .i64 p1.Stamp.Seq, .int .i64 p1.Kind, .int .i64 p1.Candidate, .int .i64 p1.Minutes]), (4, .ptr 104 0), (7, .int .i64 p1.Kind)] [(102, .box [.int .i64 p0.Candidate, .int .i64 p0.State, .int .i64 p0.Late, .int .i64 p0.Left, .lst 1 (List.map (LV.int .i64) p0.Incidents)]), (104, .box [.int .i64 0, .int .i64 0, .int .i64 0, .int .i64 0, .nil])] rfl ?_ ?_
  · refine sN (oFaS tf33_1 tk3 ts3 rfl rfl rfl ?_)
    refine sN (oLd rfl tk3 ta3 ?_)
    exact s0 (Wk.to (eC rfl (eC rfl (eC rfl (eC rfl eN)))) (mC rfl (mC rfl mN)) rfl (prK rfl))
  refine LH.block ?_
  refine LH.seqT [(2, .ptr 102 0), (3, .sptr [.int .i64 p1.Stamp.Time, .int .i64 p1.Stamp.Source, .int .i64 p1.Stamp.Seq, .int .i64 p1.Kind, .int .i64 p1.Candidate, .int .i64 p1.Minutes]), (4, .ptr 104 0), (7, .int .i64 p1.Kind), (8, .bool (p1.Kind == 1))] [(102, .box [.int .i64 p0.Candidate, .int .i64 p0.State, .int .i64 p0.Late, .int .i64 p0.Left, .lst 1 (List.map (LV.int .i64) p0.Incidents)]), (104, .box [.int .i64 0, .int .i64 0, .int .i64 0, .int .i64 0, .nil])] rfl ?_ ?_
  · refine sN (oEq rfl rfl ?_)
    refine sN (oA (v := (.bool _)) rfl ?_)
    exact s0 (Wk.to (eC rfl (eC rfl (eC rfl (eC rfl (eC rfl eN))))) (mC rfl (mC rfl mN)) rfl (prK rfl))
  refine LH.cond (t := (p1.Kind == 1)) rfl (fun hc1 => ?_) (fun hc1 => ?_)
  · replace h := iteT h hc1
    refine LH.loneT [(2, .sptr [.int .i64 p0.Candidate, .int .i64 1, .int .i64 (-1), .int .i64 (-1), .lst 1 (List.map (LV.int .i64) p0.Incidents)]), (4, .ptr 104 0)] [(104, .box [.int .i64 0, .int .i64 0, .int .i64 0, .int .i64 0, .nil])] rfl ?_ ?_
    · refine sN (oFa tf54_1 tk3 ts3 rfl rfl ?_)
      refine s_ (oSt rfl rfl rfl tk3 ts3 rfl rfl rfl ?_)
      refine sN (oFa tf54_2 tk3 ts3 rfl rfl ?_)
      refine s_ (oSt rfl rfl rfl tk3 ts3 rfl rfl rfl ?_)
      refine sN (oFa tf54_3 tk3 ts3 rfl rfl ?_)
      refine s_ (oSt rfl rfl rfl tk3 ts3 rfl rfl rfl ?_)
      exact s0 ((Wk.trans (Wk.to (el := [(2, .ptr 102 0), (4, .ptr 104 0)]) (ml := [(102, .box [.int .i64 p0.Candidate, .int .i64 1, .int .i64 (-1), .int .i64 (-1), .lst 1 (List.map (LV.int .i64) p0.Incidents)]), (104, .box [.int .i64 0, .int .i64 0, .int .i64 0, .int .i64 0, .nil])]) (eC rfl (eC rfl eN)) (mC rfl (mC rfl mN)) rfl (prK rfl)) (Wk.trans (Wk.frzB 102 [.int .i64 p0.Candidate, .int .i64 1, .int .i64 (-1), .int .i64 (-1), .lst 1 (List.map (LV.int .i64) p0.Incidents)] rfl rfl rfl (prN rfl)) (Wk.to (eC rfl (eC rfl eN)) (mC rfl mN) rfl (prK rfl)))))
    refine blockN ?_
    refine thenN ?_
    refine LH.seqT [(4, .sptr [.int .i64 p0.Candidate, .int .i64 1, .int .i64 (-1), .int .i64 (-1), .lst 1 (List.map (LV.int .i64) p0.Incidents)])] [] rfl ?_ ?_
    · refine sN (oLdA rfl tk54 ta54 ts54 rfl rfl ?_)
      refine s_ (oSt rfl rfl rfl tk54 ts54 rfl rfl rfl ?_)
      exact s0 ((Wk.trans (Wk.to (el := [(4, .ptr 104 0)]) (ml := [(104, .box [.int .i64 p0.Candidate, .int .i64 1, .int .i64 (-1), .int .i64 (-1), .lst 1 (List.map (LV.int .i64) p0.Incidents)])]) (eC rfl eN) (mC rfl mN) rfl (prK rfl)) (Wk.trans (Wk.frzB 104 [.int .i64 p0.Candidate, .int .i64 1, .int .i64 (-1), .int .i64 (-1), .lst 1 (List.map (LV.int .i64) p0.Incidents)] rfl rfl rfl (prN rfl)) (Wk.to (eC rfl eN) mN rfl (prK rfl)))))
    refine LH.ret ?_
    obtain rfl := Option.some.inj h
    exact retE (congrArg Array.toList Try.results47) (lrSA rfl tk54 ta54 ts54 rfl rfl (lr0 ⟨memN mN, rfl, prK rfl, Sub.rfl⟩))
  replace h := iteF h hc1
  refine LH.seqT [(2, .ptr 102 0), (3, .sptr [.int .i64 p1.Stamp.Time, .int .i64 p1.Stamp.Source, .int .i64 p1.Stamp.Seq, .int .i64 p1.Kind, .int .i64 p1.Candidate, .int .i64 p1.Minutes]), (4, .ptr 104 0), (7, .int .i64 p1.Kind), (13, .bool (p1.Kind == 2))] [(102, .box [.int .i64 p0.Candidate, .int .i64 p0.State, .int .i64 p0.Late, .int .i64 p0.Left, .lst 1 (List.map (LV.int .i64) p0.Incidents)]), (104, .box [.int .i64 0, .int .i64 0, .int .i64 0, .int .i64 0, .nil])] rfl ?_ ?_
  · refine sN (oEq rfl rfl ?_)
    refine sN (oA (v := (.bool _)) rfl ?_)
    exact s0 (Wk.to (eC rfl (eC rfl (eC rfl (eC rfl (eC rfl eN))))) (mC rfl (mC rfl mN)) rfl (prK rfl))
  refine LH.cond (t := (p1.Kind == 2)) rfl (fun hc2 => ?_) (fun hc2 => ?_)
  · replace h := iteT h hc2
    refine LH.loneT [(2, .sptr [.int .i64 p0.Candidate, .int .i64 2, .int .i64 (-1), .int .i64 (-1), .lst 1 (List.map (LV.int .i64) p0.Incidents)]), (4, .ptr 104 0)] [(104, .box [.int .i64 0, .int .i64 0, .int .i64 0, .int .i64 0, .nil])] rfl ?_ ?_
    · refine sN (oFa tf54_1 tk3 ts3 rfl rfl ?_)
      refine s_ (oSt rfl rfl rfl tk3 ts3 rfl rfl rfl ?_)
      refine sN (oFa tf54_2 tk3 ts3 rfl rfl ?_)
      refine s_ (oSt rfl rfl rfl tk3 ts3 rfl rfl rfl ?_)
      refine sN (oFa tf54_3 tk3 ts3 rfl rfl ?_)
      refine s_ (oSt rfl rfl rfl tk3 ts3 rfl rfl rfl ?_)
      exact s0 ((Wk.trans (Wk.to (el := [(2, .ptr 102 0), (4, .ptr 104 0)]) (ml := [(102, .box [.int .i64 p0.Candidate, .int .i64 2, .int .i64 (-1), .int .i64 (-1), .lst 1 (List.map (LV.int .i64) p0.Incidents)]), (104, .box [.int .i64 0, .int .i64 0, .int .i64 0, .int .i64 0, .nil])]) (eC rfl (eC rfl eN)) (mC rfl (mC rfl mN)) rfl (prK rfl)) (Wk.trans (Wk.frzB 102 [.int .i64 p0.Candidate, .int .i64 2, .int .i64 (-1), .int .i64 (-1), .lst 1 (List.map (LV.int .i64) p0.Incidents)] rfl rfl rfl (prN rfl)) (Wk.to (eC rfl (eC rfl eN)) (mC rfl mN) rfl (prK rfl)))))
    refine blockN ?_
    refine thenN ?_
    refine LH.seqT [(4, .sptr [.int .i64 p0.Candidate, .int .i64 2, .int .i64 (-1), .int .i64 (-1), .lst 1 (List.map (LV.int .i64) p0.Incidents)])] [] rfl ?_ ?_
    · refine sN (oLdA rfl tk54 ta54 ts54 rfl rfl ?_)
      refine s_ (oSt rfl rfl rfl tk54 ts54 rfl rfl rfl ?_)
      exact s0 ((Wk.trans (Wk.to (el := [(4, .ptr 104 0)]) (ml := [(104, .box [.int .i64 p0.Candidate, .int .i64 2, .int .i64 (-1), .int .i64 (-1), .lst 1 (List.map (LV.int .i64) p0.Incidents)])]) (eC rfl eN) (mC rfl mN) rfl (prK rfl)) (Wk.trans (Wk.frzB 104 [.int .i64 p0.Candidate, .int .i64 2, .int .i64 (-1), .int .i64 (-1), .lst 1 (List.map (LV.int .i64) p0.Incidents)] rfl rfl rfl (prN rfl)) (Wk.to (eC rfl eN) mN rfl (prK rfl)))))
    refine LH.ret ?_
    obtain rfl := Option.some.inj h
    exact retE (congrArg Array.toList Try.results47) (lrSA rfl tk54 ta54 ts54 rfl rfl (lr0 ⟨memN mN, rfl, prK rfl, Sub.rfl⟩))
  replace h := iteF h hc2
  refine LH.seqT [(2, .ptr 102 0), (3, .sptr [.int .i64 p1.Stamp.Time, .int .i64 p1.Stamp.Source, .int .i64 p1.Stamp.Seq, .int .i64 p1.Kind, .int .i64 p1.Candidate, .int .i64 p1.Minutes]), (4, .ptr 104 0), (7, .int .i64 p1.Kind), (18, .bool (p1.Kind == 3))] [(102, .box [.int .i64 p0.Candidate, .int .i64 p0.State, .int .i64 p0.Late, .int .i64 p0.Left, .lst 1 (List.map (LV.int .i64) p0.Incidents)]), (104, .box [.int .i64 0, .int .i64 0, .int .i64 0, .int .i64 0, .nil])] rfl ?_ ?_
  · refine sN (oEq rfl rfl ?_)
    refine sN (oA (v := (.bool _)) rfl ?_)
    exact s0 (Wk.to (eC rfl (eC rfl (eC rfl (eC rfl (eC rfl eN))))) (mC rfl (mC rfl mN)) rfl (prK rfl))
  refine LH.cond (t := (p1.Kind == 3)) rfl (fun hc3 => ?_) (fun hc3 => ?_)
  · replace h := iteT h hc3
    refine LH.loneTM mixed [] [0, 0, 0, 2, 0, 2] [(2, .sptr [.int .i64 p0.Candidate, .int .i64 1, .int .i64 p1.Minutes, .int .i64 p0.Left, .lst 1 (List.map (LV.int .i64) p0.Incidents)]), (4, .ptr 104 0)] [(104, .box [.int .i64 0, .int .i64 0, .int .i64 0, .int .i64 0, .nil])] rfl rfl (by kernel_rfl) ?_ ?_
    · refine mN0 (oFaS tf33_3 tk3 ts3 rfl rfl rfl ⟨rfl, ?_⟩)
      refine mN0 (oLd rfl tk3 ta3 ⟨rfl, ?_⟩)
      refine mN0 (oFa tf54_1 tk3 ts3 rfl rfl ⟨rfl, ?_⟩)
      refine m_2 (oSt rfl rfl rfl tk3 ts3 rfl rfl rfl ?_)
      refine mN0 (oFa tf54_2 tk3 ts3 rfl rfl ⟨rfl, ?_⟩)
      refine m_2 (oSt rfl rfl rfl tk3 ts3 rfl rfl rfl ?_)
      exact m0 ((Wk.trans (Wk.to (el := [(2, .ptr 102 0), (4, .ptr 104 0)]) (ml := [(102, .box [.int .i64 p0.Candidate, .int .i64 1, .int .i64 p1.Minutes, .int .i64 p0.Left, .lst 1 (List.map (LV.int .i64) p0.Incidents)]), (104, .box [.int .i64 0, .int .i64 0, .int .i64 0, .int .i64 0, .nil])]) (eC rfl (eC rfl eN)) (mC rfl (mC rfl mN)) rfl (prK rfl)) (Wk.trans (Wk.frzB 102 [.int .i64 p0.Candidate, .int .i64 1, .int .i64 p1.Minutes, .int .i64 p0.Left, .lst 1 (List.map (LV.int .i64) p0.Incidents)] rfl rfl rfl (prN rfl)) (Wk.to (eC rfl (eC rfl eN)) (mC rfl mN) rfl (prK rfl)))))
    refine blockN ?_
    refine thenN ?_
    refine LH.seqT [(4, .sptr [.int .i64 p0.Candidate, .int .i64 1, .int .i64 p1.Minutes, .int .i64 p0.Left, .lst 1 (List.map (LV.int .i64) p0.Incidents)])] [] rfl ?_ ?_
    · refine sN (oLdA rfl tk54 ta54 ts54 rfl rfl ?_)
      refine s_ (oSt rfl rfl rfl tk54 ts54 rfl rfl rfl ?_)
      exact s0 ((Wk.trans (Wk.to (el := [(4, .ptr 104 0)]) (ml := [(104, .box [.int .i64 p0.Candidate, .int .i64 1, .int .i64 p1.Minutes, .int .i64 p0.Left, .lst 1 (List.map (LV.int .i64) p0.Incidents)])]) (eC rfl eN) (mC rfl mN) rfl (prK rfl)) (Wk.trans (Wk.frzB 104 [.int .i64 p0.Candidate, .int .i64 1, .int .i64 p1.Minutes, .int .i64 p0.Left, .lst 1 (List.map (LV.int .i64) p0.Incidents)] rfl rfl rfl (prN rfl)) (Wk.to (eC rfl eN) mN rfl (prK rfl)))))
    refine LH.ret ?_
    obtain rfl := Option.some.inj h
    exact retE (congrArg Array.toList Try.results47) (lrSA rfl tk54 ta54 ts54 rfl rfl (lr0 ⟨memN mN, rfl, prK rfl, Sub.rfl⟩))
  replace h := iteF h hc3
  refine LH.seqT [(2, .ptr 102 0), (3, .sptr [.int .i64 p1.Stamp.Time, .int .i64 p1.Stamp.Source, .int .i64 p1.Stamp.Seq, .int .i64 p1.Kind, .int .i64 p1.Candidate, .int .i64 p1.Minutes]), (4, .ptr 104 0), (7, .int .i64 p1.Kind), (24, .bool (p1.Kind == 4))] [(102, .box [.int .i64 p0.Candidate, .int .i64 p0.State, .int .i64 p0.Late, .int .i64 p0.Left, .lst 1 (List.map (LV.int .i64) p0.Incidents)]), (104, .box [.int .i64 0, .int .i64 0, .int .i64 0, .int .i64 0, .nil])] rfl ?_ ?_
  · refine sN (oEq rfl rfl ?_)
    refine sN (oA (v := (.bool _)) rfl ?_)
    exact s0 (Wk.to (eC rfl (eC rfl (eC rfl (eC rfl (eC rfl eN))))) (mC rfl (mC rfl mN)) rfl (prK rfl))
  refine LH.cond (t := (p1.Kind == 4)) rfl (fun hc4 => ?_) (fun hc4 => ?_)
  · replace h := iteT h hc4
    refine LH.loneT [(2, .sptr [.int .i64 p0.Candidate, .int .i64 p0.State, .int .i64 p0.Late, .int .i64 p1.Minutes, .lst 1 (List.map (LV.int .i64) p0.Incidents)]), (4, .ptr 104 0)] [(104, .box [.int .i64 0, .int .i64 0, .int .i64 0, .int .i64 0, .nil])] rfl ?_ ?_
    · refine sN (oFaS tf33_3 tk3 ts3 rfl rfl rfl ?_)
      refine sN (oLd rfl tk3 ta3 ?_)
      refine sN (oFa tf54_3 tk3 ts3 rfl rfl ?_)
      refine s_ (oSt rfl rfl rfl tk3 ts3 rfl rfl rfl ?_)
      exact s0 ((Wk.trans (Wk.to (el := [(2, .ptr 102 0), (4, .ptr 104 0)]) (ml := [(102, .box [.int .i64 p0.Candidate, .int .i64 p0.State, .int .i64 p0.Late, .int .i64 p1.Minutes, .lst 1 (List.map (LV.int .i64) p0.Incidents)]), (104, .box [.int .i64 0, .int .i64 0, .int .i64 0, .int .i64 0, .nil])]) (eC rfl (eC rfl eN)) (mC rfl (mC rfl mN)) rfl (prK rfl)) (Wk.trans (Wk.frzB 102 [.int .i64 p0.Candidate, .int .i64 p0.State, .int .i64 p0.Late, .int .i64 p1.Minutes, .lst 1 (List.map (LV.int .i64) p0.Incidents)] rfl rfl rfl (prN rfl)) (Wk.to (eC rfl (eC rfl eN)) (mC rfl mN) rfl (prK rfl)))))
    refine blockN ?_
    refine thenN ?_
    refine LH.seqT [(4, .sptr [.int .i64 p0.Candidate, .int .i64 p0.State, .int .i64 p0.Late, .int .i64 p1.Minutes, .lst 1 (List.map (LV.int .i64) p0.Incidents)])] [] rfl ?_ ?_
    · refine sN (oLdA rfl tk54 ta54 ts54 rfl rfl ?_)
      refine s_ (oSt rfl rfl rfl tk54 ts54 rfl rfl rfl ?_)
      exact s0 ((Wk.trans (Wk.to (el := [(4, .ptr 104 0)]) (ml := [(104, .box [.int .i64 p0.Candidate, .int .i64 p0.State, .int .i64 p0.Late, .int .i64 p1.Minutes, .lst 1 (List.map (LV.int .i64) p0.Incidents)])]) (eC rfl eN) (mC rfl mN) rfl (prK rfl)) (Wk.trans (Wk.frzB 104 [.int .i64 p0.Candidate, .int .i64 p0.State, .int .i64 p0.Late, .int .i64 p1.Minutes, .lst 1 (List.map (LV.int .i64) p0.Incidents)] rfl rfl rfl (prN rfl)) (Wk.to (eC rfl eN) mN rfl (prK rfl)))))
    refine LH.ret ?_
    obtain rfl := Option.some.inj h
    exact retE (congrArg Array.toList Try.results47) (lrSA rfl tk54 ta54 ts54 rfl rfl (lr0 ⟨memN mN, rfl, prK rfl, Sub.rfl⟩))
  replace h := iteF h hc4
  refine LH.seqT [(2, .ptr 102 0), (3, .sptr [.int .i64 p1.Stamp.Time, .int .i64 p1.Stamp.Source, .int .i64 p1.Stamp.Seq, .int .i64 p1.Kind, .int .i64 p1.Candidate, .int .i64 p1.Minutes]), (4, .ptr 104 0), (29, .bool (p1.Kind == 5))] [(102, .box [.int .i64 p0.Candidate, .int .i64 p0.State, .int .i64 p0.Late, .int .i64 p0.Left, .lst 1 (List.map (LV.int .i64) p0.Incidents)]), (104, .box [.int .i64 0, .int .i64 0, .int .i64 0, .int .i64 0, .nil])] rfl ?_ ?_
  · refine sN (oEq rfl rfl ?_)
    refine sN (oA (v := (.bool _)) rfl ?_)
    exact s0 (Wk.to (eC rfl (eC rfl (eC rfl (eC rfl eN)))) (mC rfl (mC rfl mN)) rfl (prK rfl))
  refine LH.cond (t := (p1.Kind == 5)) rfl (fun hc5 => ?_) (fun hc5 => ?_)
  · replace h := iteT h hc5
    refine LH.seqT [(2, .ptr 102 0), (3, .sptr [.int .i64 p1.Stamp.Time, .int .i64 p1.Stamp.Source, .int .i64 p1.Stamp.Seq, .int .i64 p1.Kind, .int .i64 p1.Candidate, .int .i64 p1.Minutes]), (4, .ptr 104 0), (5, .nil)] [(102, .box [.int .i64 p0.Candidate, .int .i64 p0.State, .int .i64 p0.Late, .int .i64 p0.Left, .lst 1 (List.map (LV.int .i64) p0.Incidents)]), (104, .box [.int .i64 0, .int .i64 0, .int .i64 0, .int .i64 0, .nil])] rfl ?_ ?_
    · refine sN (oA (v := .nil) rfl ?_)
      exact s0 (Wk.to (eC rfl (eC rfl (eC rfl (eC rfl eN)))) (mC rfl (mC rfl mN)) rfl (prK rfl))
    obtain ⟨v6, hv6, h⟩ := bindS h
    refine LH.seqT [(2, .ptr 102 0), (3, .sptr [.int .i64 p1.Stamp.Time, .int .i64 p1.Stamp.Source, .int .i64 p1.Stamp.Seq, .int .i64 p1.Kind, .int .i64 p1.Candidate, .int .i64 p1.Minutes]), (4, .ptr 104 0), (5, .arr 134 (List.length v6))] [(102, .box [.int .i64 p0.Candidate, .int .i64 p0.State, .int .i64 p0.Late, .int .i64 p0.Left, .lst 1 (List.map (LV.int .i64) p0.Incidents)]), (104, .box [.int .i64 0, .int .i64 0, .int .i64 0, .int .i64 0, .nil]), (134, .arr 3 1 (List.map (LV.int .i64) v6))] rfl ?_ ?_
    · refine sN (oM (v := .nil) rfl ?_)
      refine sN (oFa tf54_4 tk22 ts22 rfl rfl ?_)
      refine sN (oLdP rfl rfl rfl rfl tk22 ta22 ?_)
      refine sN (oApN (f := (LV.int .i64)) (id := 134) rfl te22 tr3 ts3 rfl rfl hv6 rfl ?_)
      refine sN (oA (v := (.arr _ _)) rfl ?_)
      exact s0 (Wk.to (eC rfl (eC rfl (eC rfl (eC rfl eN)))) (mC rfl (mC rfl (mC rfl mN))) rfl (prK rfl))
    obtain ⟨v7, hv7, h⟩ := bindS h
    refine LH.loneT [(2, .ptr 102 0), (4, .ptr 104 0)] [(102, .box [.int .i64 p0.Candidate, .int .i64 p0.State, .int .i64 p0.Late, .int .i64 p0.Left, .arr 134 (List.length v7)]), (104, .box [.int .i64 0, .int .i64 0, .int .i64 0, .int .i64 0, .nil]), (134, .arr 3 1 (List.map (LV.int .i64) v7))] rfl ?_ ?_
    · refine sN (oM (v := (.arr _ _)) rfl ?_)
      refine sN (oFaS tf33_3 tk3 ts3 rfl rfl rfl ?_)
      refine sN (oLd rfl tk3 ta3 ?_)
      refine sN (oBS (f := (LV.int .i64)) (ys := [p1.Minutes]) te22 tr3 ts3 rfl rfl rfl okI ?_)
      refine sN (oAp (f := (LV.int .i64)) te22 tr3 ts3 rfl rfl (prN rfl) rfl hv7 ?_)
      refine sN (oFa tf54_4 tk22 ts22 rfl rfl ?_)
      refine s_ (oSt rfl rfl rfl tk22 ts22 rfl rfl rfl ?_)
      exact s0 (Wk.to (eC rfl (eC rfl eN)) (mC rfl (mC rfl (mC rfl mN))) rfl (prK rfl))
    refine blockN ?_
    refine thenN ?_
    refine LH.seqT [(4, .ptr 104 0)] [(104, .box [.int .i64 p0.Candidate, .int .i64 p0.State, .int .i64 p0.Late, .int .i64 p0.Left, .arr 134 (List.length v7)]), (134, .arr 3 1 (List.map (LV.int .i64) v7))] rfl ?_ ?_
    · refine sN (oLdPA rfl rfl rfl tk54 ta54 ts54 rfl rfl ?_)
      refine s_ (oSt rfl rfl rfl tk54 ts54 rfl rfl rfl ?_)
      exact s0 (Wk.to (eC rfl eN) (mC rfl (mC rfl mN)) rfl (prK rfl))
    refine LH.wk (Wk.trans (Wk.frzBx (f := (LV.int .i64)) 134 3 1 v7 104 rfl rfl rfl (frAK rfl (frAK rfl (frAK rfl (frAK rfl (frAZ frA0))))) rfl rfl (prN rfl)) (Wk.to (el := [(4, .ptr 104 0)]) (ml := [(104, .box [.int .i64 p0.Candidate, .int .i64 p0.State, .int .i64 p0.Late, .int .i64 p0.Left, .lst 1 (List.map (LV.int .i64) v7)])]) (eC rfl eN) (mC rfl mN) rfl (prK rfl))) ?_
    refine LH.wk ((Wk.trans (Wk.to (el := [(4, .ptr 104 0)]) (ml := [(104, .box [.int .i64 p0.Candidate, .int .i64 p0.State, .int .i64 p0.Late, .int .i64 p0.Left, .lst 1 (List.map (LV.int .i64) v7)])]) (eC rfl eN) (mC rfl mN) rfl (prK rfl)) (Wk.trans (Wk.frzB 104 [.int .i64 p0.Candidate, .int .i64 p0.State, .int .i64 p0.Late, .int .i64 p0.Left, .lst 1 (List.map (LV.int .i64) v7)] rfl rfl rfl (prN rfl)) (Wk.to (el := [(4, .sptr [.int .i64 p0.Candidate, .int .i64 p0.State, .int .i64 p0.Late, .int .i64 p0.Left, .lst 1 (List.map (LV.int .i64) v7)])]) (ml := []) (eC rfl eN) mN rfl (prK rfl))))) ?_
    refine LH.ret ?_
    obtain rfl := Option.some.inj h
    exact retE (congrArg Array.toList Try.results47) (lrSA rfl tk54 ta54 ts54 rfl rfl (lr0 ⟨memN mN, rfl, prK rfl, Sub.rfl⟩))
  replace h := iteF h hc5
  refine LH.skip ?_
  refine blockN ?_
  refine thenN ?_
  refine LH.wk ((Wk.trans (Wk.to (el := [(2, .ptr 102 0), (4, .ptr 104 0)]) (ml := [(102, .box [.int .i64 p0.Candidate, .int .i64 p0.State, .int .i64 p0.Late, .int .i64 p0.Left, .lst 1 (List.map (LV.int .i64) p0.Incidents)]), (104, .box [.int .i64 0, .int .i64 0, .int .i64 0, .int .i64 0, .nil])]) (eC rfl (eC rfl eN)) (mC rfl (mC rfl mN)) rfl (prK rfl)) (Wk.trans (Wk.frzB 102 [.int .i64 p0.Candidate, .int .i64 p0.State, .int .i64 p0.Late, .int .i64 p0.Left, .lst 1 (List.map (LV.int .i64) p0.Incidents)] rfl rfl rfl (prN rfl)) (Wk.to (el := [(2, .sptr [.int .i64 p0.Candidate, .int .i64 p0.State, .int .i64 p0.Late, .int .i64 p0.Left, .lst 1 (List.map (LV.int .i64) p0.Incidents)]), (4, .ptr 104 0)]) (ml := [(104, .box [.int .i64 0, .int .i64 0, .int .i64 0, .int .i64 0, .nil])]) (eC rfl (eC rfl eN)) (mC rfl mN) rfl (prK rfl))))) ?_
  refine LH.seqT [(4, .sptr [.int .i64 p0.Candidate, .int .i64 p0.State, .int .i64 p0.Late, .int .i64 p0.Left, .lst 1 (List.map (LV.int .i64) p0.Incidents)])] [] rfl ?_ ?_
  · refine sN (oLdA rfl tk54 ta54 ts54 rfl rfl ?_)
    refine s_ (oSt rfl rfl rfl tk54 ts54 rfl rfl rfl ?_)
    exact s0 ((Wk.trans (Wk.to (el := [(4, .ptr 104 0)]) (ml := [(104, .box [.int .i64 p0.Candidate, .int .i64 p0.State, .int .i64 p0.Late, .int .i64 p0.Left, .lst 1 (List.map (LV.int .i64) p0.Incidents)])]) (eC rfl eN) (mC rfl mN) rfl (prK rfl)) (Wk.trans (Wk.frzB 104 [.int .i64 p0.Candidate, .int .i64 p0.State, .int .i64 p0.Late, .int .i64 p0.Left, .lst 1 (List.map (LV.int .i64) p0.Incidents)] rfl rfl rfl (prN rfl)) (Wk.to (eC rfl eN) mN rfl (prK rfl)))))
  refine LH.ret ?_
  obtain rfl := Option.some.inj h
  exact retE (congrArg Array.toList Try.results47) (lrSA rfl tk54 ta54 ts54 rfl rfl (lr0 ⟨memN mN, rfl, prK rfl, Sub.rfl⟩))

end Go.Proofs.Ytapnjifcfljmmaa
