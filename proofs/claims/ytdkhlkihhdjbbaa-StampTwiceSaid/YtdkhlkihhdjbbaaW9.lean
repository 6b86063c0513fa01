/- Walks, printed by program (gen.py): each function computes its plain function. -/
import Derived.Test.YtdkhlkihhdjbbaaW8
set_option linter.unusedVariables false
set_option linter.unusedSimpArgs false
set_option maxRecDepth 100000
namespace Go.Proofs.Ytdkhlkihhdjbbaa
open Go.L Go.Sh
theorem stamp_Disputed_ok {F : Nat} {p0 : List GStamp} {p1 : List Int} {r : List GIdentity × Int} (h : stamp_Disputed F p0 p1 = some r) : LCall Try.prog 30 [.lst 3 (List.map GStamp.lv p0), .lst 1 (List.map (LV.int .i64) p1)] (Mem.of []) (.tup [.lst 2 (List.map GIdentity.lv r.1), .int .i64 r.2]) (Mem.of []) := by
  unfold stamp_Disputed at h
  refine bodyT Try.func30 rfl (by rw [Try.ntmps30]; exact Nat.le_of_ble_eq_true rfl) ?_
  refine LH.wk (Wk.to (el := [(0, .lst 3 (List.map GStamp.lv p0)), (1, .lst 1 (List.map (LV.int .i64) p1))]) (ml := []) (eC rfl (eC rfl eN)) mN rfl (prK rfl)) ?_
  refine LH.seqT [(0, .lst 3 (List.map GStamp.lv p0)), (1, .lst 1 (List.map (LV.int .i64) p1))] [] rfl ?_ ?_
  · refine sN (oA (v := .nil) rfl ?_)
    refine sN (oA (v := (.int _ _)) rfl ?_)
    exact s0 (Wk.to (eC rfl (eC rfl eN)) mN rfl (prK rfl))
  refine LH.seq ?_
  refine LH.seqT [(0, .lst 3 (List.map GStamp.lv p0)), (1, .lst 1 (List.map (LV.int .i64) p1)), (13, .bool ((p0.length : Int) != (p1.length : Int)))] [] rfl ?_ ?_
  · refine sN (oM (v := (.lst _ _)) rfl ?_)
    refine sN (oLnL (f := GStamp.lv) te31 rfl ?_)
    refine sN (oM (v := (.lst _ _)) rfl ?_)
    refine sN (oLnL (f := (LV.int .i64)) te28 rfl ?_)
    refine sN (oNe rfl rfl ?_)
    exact s0 (Wk.to (eC rfl (eC rfl (eC rfl eN))) mN rfl (prK rfl))
  refine LH.cond (t := ((p0.length : Int) != (p1.length : Int))) rfl (fun hc1 => ?_) (fun hc1 => ?_)
  · replace h := iteT h hc1
    refine LH.seqT [(4, .nil), (5, .int .i64 1)] [] rfl ?_ ?_
    · refine sN (oA (v := .nil) rfl ?_)
      refine sN (oA (v := (.int _ _)) rfl ?_)
      exact s0 (Wk.to (eC rfl (eC rfl eN)) mN rfl (prK rfl))
    refine LH.ret ?_
    refine thenR ?_
    obtain rfl := Option.some.inj h
    exact retE (congrArg Array.toList Try.results30) (lrT rfl (lrT rfl (lr0 ⟨memN mN, rfl, prK rfl, (Sub.tup (sbL (sbR sbN)))⟩)))
  replace h := iteF h hc1
  refine LH.skip ?_
  refine thenN ?_
  refine LH.wk (Wk.to (el := [(0, .lst 3 (List.map GStamp.lv p0)), (1, .lst 1 (List.map (LV.int .i64) p1))]) (ml := []) (eC rfl (eC rfl eN)) mN rfl (prK rfl)) ?_
  refine LH.seqT [(0, .lst 3 (List.map GStamp.lv p0)), (1, .lst 1 (List.map (LV.int .i64) p1)), (6, .nil)] [] rfl ?_ ?_
  · refine sN (oA (v := .nil) rfl ?_)
    exact s0 (Wk.to (eC rfl (eC rfl (eC rfl eN))) mN rfl (prK rfl))
  refine LH.seq ?_
  obtain ⟨r2, hr2, h⟩ := bindS h
  refine LH.seqT [(0, .lst 3 (List.map GStamp.lv p0)), (6, .nil), (16, .lst 2 (List.map stamp_group.lv r2)), (17, .int .i64 (r2.length : Int)), (18, .int .i64 0)] [] rfl ?_ ?_
  · refine sN (oM (v := (.lst _ _)) rfl ?_)
    refine sN (oM (v := (.lst _ _)) rfl ?_)
    refine sN (oCP (args := [.lst 3 (List.map GStamp.lv p0), .lst 1 (List.map (LV.int .i64) p1)]) rfl isF37 rfl (sbR (sbR sbN)) (stamp_groups_ok hr2) rfl ?_)
    refine sN (oLnL (f := stamp_group.lv) te56 rfl ?_)
    refine sN (oM (v := (.int _ _)) rfl ?_)
    exact s0 (Wk.to (eC rfl (eC rfl (eC rfl (eC rfl (eC rfl eN))))) mN rfl (prK rfl))
  refine LH.block ?_
  refine LH.wk ((Wk.trans (Wk.to (el := [(0, .lst 3 (List.map GStamp.lv p0)), (6, .nil), (16, .lst 2 (List.map stamp_group.lv r2)), (17, .int .i64 (r2.length : Int)), (18, .int .i64 0)]) (ml := []) (eC rfl (eC rfl (eC rfl (eC rfl (eC rfl eN))))) mN rfl (prK rfl)) (Wk.trans (Wk.to (el := [(0, .lst 3 (List.map GStamp.lv p0)), (6, .nil), (16, .lst 2 (List.map stamp_group.lv r2)), (17, .int .i64 (r2.length : Int)), (18, .int .i64 0)]) (ml := []) (eC rfl (eC rfl (eC rfl (eC rfl (eC rfl eN))))) mN rfl (prK rfl)) (Wk.trans (Wk.ownL (el' := [(0, .lst 3 (List.map GStamp.lv p0)), (6, .arr 139 (List.length ([] : List GIdentity))), (16, .lst 2 (List.map stamp_group.lv r2)), (17, .int .i64 (r2.length : Int)), (18, .int .i64 0)]) 139 50 2 rfl rfl (wK (wO (wK (wK (wK wN)))))) (Wk.to (el := [(0, .lst 3 (List.map GStamp.lv p0)), (6, .arr 139 (List.length ([] : List GIdentity))), (16, .lst 2 (List.map stamp_group.lv r2)), (17, .int .i64 (r2.length : Int)), (18, .int .i64 0)]) (ml := [(139, .arr 50 2 (List.map GIdentity.lv ([] : List GIdentity)))]) (eC rfl (eC rfl (eC rfl (eC rfl (eC rfl eN))))) (mC rfl mN) rfl (prK rfl)))))) ?_
  refine LH.loop (fun n e m => ∃ (n3 : Int) (l4 : List GIdentity), stamp_Disputed_L1 p0 r2 n n3 l4 = some r ∧ e = Env.of [(0, .lst 3 (List.map GStamp.lv p0)), (6, .arr 139 (List.length l4)), (16, .lst 2 (List.map stamp_group.lv r2)), (17, .int .i64 (r2.length : Int)), (18, .int .i64 n3)] ∧ m = Mem.of [(139, .arr 50 2 (List.map GIdentity.lv l4))]) F ⟨0, ([] : List GIdentity), h, rfl, rfl⟩ ?_
  clear h
  rintro n e m ⟨n3, l4, h, rfl, rfl⟩
  rcases n with _ | n
  · cases (show Option.none = some _ from h)
  obtain ⟨rec1, hrec1⟩ : ∃ f, f = stamp_Disputed_L1 p0 r2 n := ⟨_, rfl⟩
  replace h : stamp_Disputed_L1_B p0 r2 rec1 n3 l4 = some r := hrec1 ▸ h
  unfold stamp_Disputed_L1_B at h
  refine LH.seqT [(0, .lst 3 (List.map GStamp.lv p0)), (6, .arr 139 (List.length l4)), (16, .lst 2 (List.map stamp_group.lv r2)), (17, .int .i64 (r2.length : Int)), (18, .int .i64 n3), (19, .bool (decide (n3 < (r2.length : Int))))] [(139, .arr 50 2 (List.map GIdentity.lv l4))] rfl ?_ ?_
  · refine sN (oLt rfl rfl ?_)
    exact s0 (Wk.to (eC rfl (eC rfl (eC rfl (eC rfl (eC rfl (eC rfl eN)))))) (mC rfl mN) rfl (prK rfl))
  refine LH.seq ?_
  refine LH.cond (t := (decide (n3 < (r2.length : Int)))) rfl (fun hc5 => ?_) (fun hc5 => ?_)
  · replace h := iteT h hc5
    refine LH.skip ?_
    refine thenN ?_
    refine LH.wk (Wk.to (el := [(0, .lst 3 (List.map GStamp.lv p0)), (6, .arr 139 (List.length l4)), (16, .lst 2 (List.map stamp_group.lv r2)), (17, .int .i64 (r2.length : Int)), (18, .int .i64 n3)]) (ml := [(139, .arr 50 2 (List.map GIdentity.lv l4))]) (eC rfl (eC rfl (eC rfl (eC rfl (eC rfl eN))))) (mC rfl mN) rfl (prK rfl)) ?_
    refine LH.seq ?_
    refine LH.block ?_
    obtain ⟨x6, hx6, h⟩ := bindS h
    refine LH.seqT [(0, .lst 3 (List.map GStamp.lv p0)), (6, .arr 139 (List.length l4)), (8, .sptr [.int .i64 x6.first, .bool x6.disputed]), (16, .lst 2 (List.map stamp_group.lv r2)), (17, .int .i64 (r2.length : Int)), (18, .int .i64 n3)] [(139, .arr 50 2 (List.map GIdentity.lv l4))] rfl ?_ ?_
    · refine sN (oIx (f := stamp_group.lv) te56 tk59 ts59 rfl rfl stamp_group.ok hx6 rfl ?_)
      refine sN (oLdA rfl tk59 ta59 ts59 rfl rfl ?_)
      refine sN (oAl (id := 108) rfl tz59 rfl rfl ?_)
      refine s_ (oSt rfl rfl rfl tk59 ts59 rfl rfl rfl ?_)
      exact s0 ((Wk.trans (Wk.to (el := [(0, .lst 3 (List.map GStamp.lv p0)), (6, .arr 139 (List.length l4)), (8, .ptr 108 0), (16, .lst 2 (List.map stamp_group.lv r2)), (17, .int .i64 (r2.length : Int)), (18, .int .i64 n3)]) (ml := [(108, .box [.int .i64 x6.first, .bool x6.disputed]), (139, .arr 50 2 (List.map GIdentity.lv l4))]) (eC rfl (eC rfl (eC rfl (eC rfl (eC rfl (eC rfl eN)))))) (mC rfl (mC rfl mN)) rfl (prK rfl)) (Wk.trans (Wk.frzB 108 [.int .i64 x6.first, .bool x6.disputed] rfl rfl rfl (prN rfl)) (Wk.to (eC rfl (eC rfl (eC rfl (eC rfl (eC rfl (eC rfl eN)))))) (mC rfl mN) rfl (prK rfl)))))
    refine LH.seqT [(0, .lst 3 (List.map GStamp.lv p0)), (6, .arr 139 (List.length l4)), (8, .sptr [.int .i64 x6.first, .bool x6.disputed]), (16, .lst 2 (List.map stamp_group.lv r2)), (17, .int .i64 (r2.length : Int)), (18, .int .i64 n3), (23, .bool x6.disputed)] [(139, .arr 50 2 (List.map GIdentity.lv l4))] rfl ?_ ?_
    · refine sN (oFaS tf59_1 tk4 ts4 rfl rfl rfl ?_)
      refine sN (oLd rfl tk4 ta4 ?_)
      exact s0 (Wk.to (eC rfl (eC rfl (eC rfl (eC rfl (eC rfl (eC rfl (eC rfl eN))))))) (mC rfl mN) rfl (prK rfl))
    refine LH.cond (t := x6.disputed) rfl (fun hc7 => ?_) (fun hc7 => ?_)
    · replace h := iteT h hc7
      obtain ⟨x8, hx8, h⟩ := bindS h
      obtain ⟨x9, hx9, h⟩ := bindS h
      obtain ⟨v10, hv10, h⟩ := bindS h
      refine LH.loneTM mixed [] [0, 0, 0, 0, 0, 0, 0, 0, 0, 0, 0, 0, 0, 0, 0, 2, 0] [(0, .lst 3 (List.map GStamp.lv p0)), (6, .arr 139 (List.length v10)), (16, .lst 2 (List.map stamp_group.lv r2)), (17, .int .i64 (r2.length : Int)), (18, .int .i64 n3)] [(139, .arr 50 2 (List.map GIdentity.lv v10))] rfl rfl (by kernel_rfl) ?_ ?_
      · refine mN0 (oM (v := (.arr _ _)) rfl ⟨rfl, ?_⟩)
        refine mN0 (oM (v := (.lst _ _)) rfl ⟨rfl, ?_⟩)
        refine mN0 (oFaS tf59_0 tk3 ts3 rfl rfl rfl ⟨rfl, ?_⟩)
        refine mN0 (oLd rfl tk3 ta3 ⟨rfl, ?_⟩)
        refine mN0 (oIx (f := GStamp.lv) te31 tk23 ts23 rfl rfl GStamp.ok hx8 rfl ⟨rfl, ?_⟩)
        refine mN0 (oFaS tf23_1 tk3 ts3 rfl rfl rfl ⟨rfl, ?_⟩)
        refine mN0 (oLd rfl tk3 ta3 ⟨rfl, ?_⟩)
        refine mN0 (oM (v := (.lst _ _)) rfl ⟨rfl, ?_⟩)
        refine mN0 (oFaS tf59_0 tk3 ts3 rfl rfl rfl ⟨rfl, ?_⟩)
        refine mN0 (oLd rfl tk3 ta3 ⟨rfl, ?_⟩)
        refine mN0 (oIx (f := GStamp.lv) te31 tk23 ts23 rfl rfl GStamp.ok hx9 rfl ⟨rfl, ?_⟩)
        refine mN0 (oFaS tf23_2 tk3 ts3 rfl rfl rfl ⟨rfl, ?_⟩)
        refine mN0 (oLd rfl tk3 ta3 ⟨rfl, ?_⟩)
        refine mN0 (oBd (vs := [(0, .int .i64 x8.Source), (1, .int .i64 x9.Seq)]) tu50 tz50 rfl (lf tf50_0 ts3 tk3 rfl rfl rfl (lf tf50_1 ts3 tk3 rfl rfl rfl lf0)) ⟨rfl, ?_⟩)
        refine mN0 (oBS (f := GIdentity.lv) (ys := [(GIdentity.mk x8.Source x9.Seq)]) te46 tr50 ts50 rfl rfl rfl GIdentity.ok ⟨rfl, ?_⟩)
        refine mN2 (oAp (f := GIdentity.lv) te46 tr50 ts50 rfl rfl (prN rfl) rfl hv10 ?_)
        refine mN0 (oA (v := (.arr _ _)) rfl ⟨rfl, ?_⟩)
        exact m0 (Wk.to (eC rfl (eC rfl (eC rfl (eC rfl (eC rfl eN))))) (mC rfl mN) rfl (prK rfl))
      refine blockN ?_
      refine thenN ?_
      refine LH.loneT [(0, .lst 3 (List.map GStamp.lv p0)), (6, .arr 139 (List.length v10)), (16, .lst 2 (List.map stamp_group.lv r2)), (17, .int .i64 (r2.length : Int)), (18, .int .i64 (i64 (n3 + 1)))] [(139, .arr 50 2 (List.map GIdentity.lv v10))] rfl ?_ ?_
      · refine sN (oAdd rfl rfl ?_)
        refine sN (oM (v := (.int _ _)) rfl ?_)
        exact s0 (Wk.to (eC rfl (eC rfl (eC rfl (eC rfl (eC rfl eN))))) (mC rfl mN) rfl (prK rfl))
      exact roundN (e' := Env.of [(0, .lst 3 (List.map GStamp.lv p0)), (6, .arr 139 (List.length v10)), (16, .lst 2 (List.map stamp_group.lv r2)), (17, .int .i64 (r2.length : Int)), (18, .int .i64 (i64 (n3 + 1)))]) (m' := Mem.of [(139, .arr 50 2 (List.map GIdentity.lv v10))]) (Wk.to (eC rfl (eC rfl (eC rfl (eC rfl (eC rfl eN))))) (mC rfl mN) rfl (prK rfl)) ⟨(i64 (n3 + 1)), v10, hrec1 ▸ h, rfl, rfl⟩
    replace h := iteF h hc7
    refine LH.skip ?_
    refine blockN ?_
    refine thenN ?_
    refine LH.wk (Wk.to (el := [(0, .lst 3 (List.map GStamp.lv p0)), (6, .arr 139 (List.length l4)), (16, .lst 2 (List.map stamp_group.lv r2)), (17, .int .i64 (r2.length : Int)), (18, .int .i64 n3)]) (ml := [(139, .arr 50 2 (List.map GIdentity.lv l4))]) (eC rfl (eC rfl (eC rfl (eC rfl (eC rfl eN))))) (mC rfl mN) rfl (prK rfl)) ?_
    refine LH.loneT [(0, .lst 3 (List.map GStamp.lv p0)), (6, .arr 139 (List.length l4)), (16, .lst 2 (List.map stamp_group.lv r2)), (17, .int .i64 (r2.length : Int)), (18, .int .i64 (i64 (n3 + 1)))] [(139, .arr 50 2 (List.map GIdentity.lv l4))] rfl ?_ ?_
    · refine sN (oAdd rfl rfl ?_)
      refine sN (oM (v := (.int _ _)) rfl ?_)
      exact s0 (Wk.to (eC rfl (eC rfl (eC rfl (eC rfl (eC rfl eN))))) (mC rfl mN) rfl (prK rfl))
    exact roundN (e' := Env.of [(0, .lst 3 (List.map GStamp.lv p0)), (6, .arr 139 (List.length l4)), (16, .lst 2 (List.map stamp_group.lv r2)), (17, .int .i64 (r2.length : Int)), (18, .int .i64 (i64 (n3 + 1)))]) (m' := Mem.of [(139, .arr 50 2 (List.map GIdentity.lv l4))]) (Wk.to (eC rfl (eC rfl (eC rfl (eC rfl (eC rfl eN))))) (mC rfl mN) rfl (prK rfl)) ⟨(i64 (n3 + 1)), l4, hrec1 ▸ h, rfl, rfl⟩
  replace h := iteF h hc5
  refine LH.exit ?_
  refine thenX ?_
  refine roundX ?_
  refine blockH ?_
  refine thenN ?_
  refine LH.wk ((Wk.trans (Wk.to (el := [(6, .arr 139 (List.length l4))]) (ml := [(139, .arr 50 2 (List.map GIdentity.lv l4))]) (eC rfl eN) (mC rfl mN) rfl (prK rfl)) (Wk.trans (Wk.frzL (f := GIdentity.lv) (el' := [(6, .lst 2 (List.map GIdentity.lv l4))]) 139 50 2 l4 rfl rfl (prN rfl) (fZ fN)) (Wk.to (el := [(6, .lst 2 (List.map GIdentity.lv l4))]) (ml := []) (eC rfl eN) mN rfl (prK rfl))))) ?_
  refine LH.seqT [(4, .lst 2 (List.map GIdentity.lv l4)), (5, .int .i64 0)] [] rfl ?_ ?_
  · refine sN (oM (v := (.lst _ _)) rfl ?_)
    refine sN (oA (v := (.lst _ _)) rfl ?_)
    refine sN (oA (v := (.int _ _)) rfl ?_)
    exact s0 (Wk.to (eC rfl (eC rfl eN)) mN rfl (prK rfl))
  refine LH.ret ?_
  obtain rfl := Option.some.inj h
  exact retE (congrArg Array.toList Try.results30) (lrT rfl (lrT rfl (lr0 ⟨memN mN, rfl, prK rfl, (Sub.tup (sbR (sbR sbN)))⟩)))

theorem ref02_before_ok {p0 : GIdentity} {p1 : GIdentity} {r : Bool} (h : ref02_before p0 p1 = some r) : LCall Try.prog 43 [.agg [.int .i64 p0.Source, .int .i64 p0.Seq], .agg [.int .i64 p1.Source, .int .i64 p1.Seq]] (Mem.of []) (.bool r) (Mem.of []) := by
  unfold ref02_before at h
  refine bodyT Try.func43 rfl (by rw [Try.ntmps43]; exact Nat.le_of_ble_eq_true rfl) ?_
  refine LH.wk (Wk.to (el := [(0, .agg [.int .i64 p0.Source, .int .i64 p0.Seq]), (1, .agg [.int .i64 p1.Source, .int .i64 p1.Seq])]) (ml := []) (eC rfl (eC rfl eN)) mN rfl (prK rfl)) ?_
  refine LH.seqT [(2, .sptr [.int .i64 p0.Source, .int .i64 p0.Seq]), (3, .sptr [.int .i64 p1.Source, .int .i64 p1.Seq])] [] rfl ?_ ?_
  · refine sB (oBxR rfl rfl rfl rfl rfl ?_)
    refine sB (oBxR rfl rfl rfl rfl rfl ?_)
    refine sN (oA (v := (.bool _)) rfl ?_)
    exact s0 (Wk.to (eC rfl (eC rfl eN)) mN rfl (prK rfl))
  refine LH.seqT [(4, .bool ((decide (p0.Source < p1.Source)) || ((p0.Source == p1.Source) && (decide (p0.Seq < p1.Seq)))))] [] rfl ?_ ?_
  · refine sN (oFaS tf50_0 tk3 ts3 rfl rfl rfl ?_)
    refine sN (oLd rfl tk3 ta3 ?_)
    refine sN (oFaS tf50_0 tk3 ts3 rfl rfl rfl ?_)
    refine sN (oLd rfl tk3 ta3 ?_)
    refine sN (oLt rfl rfl ?_)
    refine sN (oM (v := (.bool _)) rfl ?_)
    by_cases hb2 : (decide (p0.Source < p1.Source)) = true
    · refine sF rfl rfl hb2 ?_
      refine sF rfl rfl hb2 ?_
      refine sF rfl rfl hb2 ?_
      refine sF rfl rfl hb2 ?_
      refine sF rfl rfl hb2 ?_
      refine sF rfl rfl hb2 ?_
      refine sU rfl rfl ?_
      refine sU rfl rfl ?_
      refine sU rfl rfl ?_
      refine sU rfl rfl ?_
      refine sU rfl rfl ?_
      refine sF rfl rfl hb2 ?_
      refine sN (oPkT (congrArg LV.bool hb2) (v := (.bool _)) rfl ?_)
      refine sN (oA (v := (.bool _)) rfl ?_)
      exact s0 (Wk.to (eC (congrArg LV.bool (orT hb2)) eN) mN rfl (prK rfl))
    · replace hb2 := bF hb2
      refine sT rfl (congrArg LV.bool hb2) (oFaS tf50_0 tk3 ts3 rfl rfl rfl ?_)
      refine sT rfl (congrArg LV.bool hb2) (oLd rfl tk3 ta3 ?_)
      refine sT rfl (congrArg LV.bool hb2) (oFaS tf50_0 tk3 ts3 rfl rfl rfl ?_)
      refine sT rfl (congrArg LV.bool hb2) (oLd rfl tk3 ta3 ?_)
      refine sT rfl (congrArg LV.bool hb2) (oEq rfl rfl ?_)
      refine sT rfl (congrArg LV.bool hb2) (oM (v := (.bool _)) rfl ?_)
      by_cases hb3 : (p0.Source == p1.Source) = true
      · refine sT rfl (congrArg LV.bool hb3) (oFaS tf50_1 tk3 ts3 rfl rfl rfl ?_)
        refine sT rfl (congrArg LV.bool hb3) (oLd rfl tk3 ta3 ?_)
        refine sT rfl (congrArg LV.bool hb3) (oFaS tf50_1 tk3 ts3 rfl rfl rfl ?_)
        refine sT rfl (congrArg LV.bool hb3) (oLd rfl tk3 ta3 ?_)
        refine sT rfl (congrArg LV.bool hb3) (oLt rfl rfl ?_)
        refine sT rfl (congrArg LV.bool hb2) (oPkT (congrArg LV.bool hb3) (v := (.bool _)) rfl ?_)
        refine sN (oPkF (congrArg LV.bool hb2) (v := (.bool _)) rfl ?_)
        refine sN (oA (v := (.bool _)) rfl ?_)
        exact s0 (Wk.to (eC (congrArg LV.bool (Eq.trans (andT hb3) (orF hb2))) eN) mN rfl (prK rfl))
      · replace hb3 := bF hb3
        refine sF rfl rfl hb3 ?_
        refine sF rfl rfl hb3 ?_
        refine sF rfl rfl hb3 ?_
        refine sF rfl rfl hb3 ?_
        refine sF rfl rfl hb3 ?_
        refine sT rfl (congrArg LV.bool hb2) (oPkF (congrArg LV.bool hb3) (v := (.bool _)) rfl ?_)
        refine sN (oPkF (congrArg LV.bool hb2) (v := (.bool _)) rfl ?_)
        refine sN (oA (v := (.bool _)) rfl ?_)
        exact s0 (Wk.to (eC (congrArg LV.bool (Eq.trans (andF hb3) (orF hb2))) eN) mN rfl (prK rfl))
  refine LH.ret ?_
  obtain rfl := Option.some.inj h
  exact retE (congrArg Array.toList Try.results43) (lrT rfl (lr0 ⟨memN mN, rfl, prK rfl, Sub.rfl⟩))

theorem ref02_Disputed_ok {F : Nat} {p0 : List GStamp} {p1 : List Int} {r : List GIdentity × Int} (h : ref02_Disputed F p0 p1 = some r) : LCall Try.prog 31 [.lst 3 (List.map GStamp.lv p0), .lst 1 (List.map (LV.int .i64) p1)] (Mem.of []) (.tup [.lst 2 (List.map GIdentity.lv r.1), .int .i64 r.2]) (Mem.of []) := by
  unfold ref02_Disputed at h
  refine bodyT Try.func31 rfl (by rw [Try.ntmps31]; exact Nat.le_of_ble_eq_true rfl) ?_
  refine LH.wk (Wk.to (el := [(0, .lst 3 (List.map GStamp.lv p0)), (1, .lst 1 (List.map (LV.int .i64) p1))]) (ml := []) (eC rfl (eC rfl eN)) mN rfl (prK rfl)) ?_
  refine LH.seqT [(0, .lst 3 (List.map GStamp.lv p0)), (1, .lst 1 (List.map (LV.int .i64) p1))] [] rfl ?_ ?_
  · refine sN (oA (v := .nil) rfl ?_)
    refine sN (oA (v := (.int _ _)) rfl ?_)
    exact s0 (Wk.to (eC rfl (eC rfl eN)) mN rfl (prK rfl))
  refine LH.seq ?_
  refine LH.seqT [(0, .lst 3 (List.map GStamp.lv p0)), (1, .lst 1 (List.map (LV.int .i64) p1)), (17, .bool ((p1.length : Int) != (p0.length : Int)))] [] rfl ?_ ?_
  · refine sN (oM (v := (.lst _ _)) rfl ?_)
    refine sN (oLnL (f := (LV.int .i64)) te28 rfl ?_)
    refine sN (oM (v := (.lst _ _)) rfl ?_)
    refine sN (oLnL (f := GStamp.lv) te31 rfl ?_)
    refine sN (oNe rfl rfl ?_)
    exact s0 (Wk.to (eC rfl (eC rfl (eC rfl eN))) mN rfl (prK rfl))
  refine LH.cond (t := ((p1.length : Int) != (p0.length : Int))) rfl (fun hc1 => ?_) (fun hc1 => ?_)
  · replace h := iteT h hc1
    refine LH.seqT [(4, .nil), (5, .int .i64 1)] [] rfl ?_ ?_
    · refine sN (oA (v := .nil) rfl ?_)
      refine sN (oA (v := (.int _ _)) rfl ?_)
      exact s0 (Wk.to (eC rfl (eC rfl eN)) mN rfl (prK rfl))
    refine LH.ret ?_
    refine thenR ?_
    obtain rfl := Option.some.inj h
    exact retE (congrArg Array.toList Try.results31) (lrT rfl (lrT rfl (lr0 ⟨memN mN, rfl, prK rfl, (Sub.tup (sbL (sbR sbN)))⟩)))
  replace h := iteF h hc1
  refine LH.skip ?_
  refine thenN ?_
  refine LH.wk (Wk.to (el := [(0, .lst 3 (List.map GStamp.lv p0)), (1, .lst 1 (List.map (LV.int .i64) p1))]) (ml := []) (eC rfl (eC rfl eN)) mN rfl (prK rfl)) ?_
  refine LH.seqT [(0, .lst 3 (List.map GStamp.lv p0)), (1, .lst 1 (List.map (LV.int .i64) p1)), (6, .nil)] [] rfl ?_ ?_
  · refine sN (oA (v := .nil) rfl ?_)
    exact s0 (Wk.to (eC rfl (eC rfl (eC rfl eN))) mN rfl (prK rfl))
  refine LH.seq ?_
  refine LH.seqT [(0, .lst 3 (List.map GStamp.lv p0)), (1, .lst 1 (List.map (LV.int .i64) p1)), (6, .nil), (7, .int .i64 0)] [] rfl ?_ ?_
  · refine sN (oA (v := (.int _ _)) rfl ?_)
    exact s0 (Wk.to (eC rfl (eC rfl (eC rfl (eC rfl eN)))) mN rfl (prK rfl))
  refine LH.block ?_
  refine LH.wk (Wk.to (el := [(0, .lst 3 (List.map GStamp.lv p0)), (1, .lst 1 (List.map (LV.int .i64) p1)), (6, .lst 2 (List.map GIdentity.lv ([] : List GIdentity))), (7, .int .i64 0)]) (ml := []) (eC rfl (eC rfl (eL rfl (eC rfl eN)))) mN rfl (prK rfl)) ?_
  refine LH.loop (fun n e m => ∃ (l2 : List GIdentity) (n3 : Int), ref02_Disputed_L1 F p0 p1 n l2 n3 = some r ∧ e = Env.of [(0, .lst 3 (List.map GStamp.lv p0)), (1, .lst 1 (List.map (LV.int .i64) p1)), (6, .lst 2 (List.map GIdentity.lv l2)), (7, .int .i64 n3)] ∧ m = Mem.of []) F ⟨([] : List GIdentity), 0, h, rfl, rfl⟩ ?_
  clear h
  rintro n e m ⟨l2, n3, h, rfl, rfl⟩
  rcases n with _ | n
  · cases (show Option.none = some _ from h)
  obtain ⟨rec1, hrec1⟩ : ∃ f, f = ref02_Disputed_L1 F p0 p1 n := ⟨_, rfl⟩
  replace h : ref02_Disputed_L1_B F p0 p1 rec1 l2 n3 = some r := hrec1 ▸ h
  unfold ref02_Disputed_L1_B at h
  refine LH.seq ?_
  refine LH.seqT [(0, .lst 3 (List.map GStamp.lv p0)), (1, .lst 1 (List.map (LV.int .i64) p1)), (6, .lst 2 (List.map GIdentity.lv l2)), (7, .int .i64 n3), (21, .bool (decide (n3 < (p0.length : Int))))] [] rfl ?_ ?_
  · refine sN (oM (v := (.int _ _)) rfl ?_)
    refine sN (oM (v := (.lst _ _)) rfl ?_)
    refine sN (oLnL (f := GStamp.lv) te31 rfl ?_)
    refine sN (oLt rfl rfl ?_)
    exact s0 (Wk.to (eC rfl (eC rfl (eC rfl (eC rfl (eC rfl eN))))) mN rfl (prK rfl))
  refine LH.cond (t := (decide (n3 < (p0.length : Int)))) rfl (fun hc4 => ?_) (fun hc4 => ?_)
  · replace h := iteT h hc4
    refine LH.skip ?_
    refine thenN ?_
    refine LH.wk (Wk.to (el := [(0, .lst 3 (List.map GStamp.lv p0)), (1, .lst 1 (List.map (LV.int .i64) p1)), (6, .lst 2 (List.map GIdentity.lv l2)), (7, .int .i64 n3)]) (ml := []) (eC rfl (eC rfl (eC rfl (eC rfl eN)))) mN rfl (prK rfl)) ?_
    refine LH.seq ?_
    refine LH.block ?_
    obtain ⟨x5, hx5, h⟩ := bindS h
    obtain ⟨x6, hx6, h⟩ := bindS h
    refine LH.seqJM mixed [] [0, 0, 0, 0, 0, 0, 0, 0, 0, 0, 0, 2, 2] [(0, .lst 3 (List.map GStamp.lv p0)), (1, .lst 1 (List.map (LV.int .i64) p1)), (6, .lst 2 (List.map GIdentity.lv l2)), (7, .int .i64 n3), (8, .sptr [.int .i64 x5.Source, .int .i64 x6.Seq])] [] rfl rfl (by kernel_rfl) ?_ ?_
    · refine mN0 (oM (v := (.lst _ _)) rfl ⟨rfl, ?_⟩)
      refine mN0 (oM (v := (.int _ _)) rfl ⟨rfl, ?_⟩)
      refine mN0 (oIx (f := GStamp.lv) te31 tk23 ts23 rfl rfl GStamp.ok hx5 rfl ⟨rfl, ?_⟩)
      refine mN0 (oFaS tf23_1 tk3 ts3 rfl rfl rfl ⟨rfl, ?_⟩)
      refine mN0 (oLd rfl tk3 ta3 ⟨rfl, ?_⟩)
      refine mN0 (oM (v := (.lst _ _)) rfl ⟨rfl, ?_⟩)
      refine mN0 (oM (v := (.int _ _)) rfl ⟨rfl, ?_⟩)
      refine mN0 (oIx (f := GStamp.lv) te31 tk23 ts23 rfl rfl GStamp.ok hx6 rfl ⟨rfl, ?_⟩)
      refine mN0 (oFaS tf23_2 tk3 ts3 rfl rfl rfl ⟨rfl, ?_⟩)
      refine mN0 (oLd rfl tk3 ta3 ⟨rfl, ?_⟩)
      refine mN0 (oBd (vs := [(0, .int .i64 x5.Source), (1, .int .i64 x6.Seq)]) tu50 tz50 rfl (lf tf50_0 ts3 tk3 rfl rfl rfl (lf tf50_1 ts3 tk3 rfl rfl rfl lf0)) ⟨rfl, ?_⟩)
      refine mN2 (oAl (id := 108) rfl tz50 rfl rfl ?_)
      refine m_2 (oSt rfl rfl rfl tk50 ts50 rfl rfl rfl ?_)
      exact m0 ((Wk.trans (Wk.to (el := [(0, .lst 3 (List.map GStamp.lv p0)), (1, .lst 1 (List.map (LV.int .i64) p1)), (6, .lst 2 (List.map GIdentity.lv l2)), (7, .int .i64 n3), (8, .ptr 108 0)]) (ml := [(108, .box [.int .i64 x5.Source, .int .i64 x6.Seq])]) (eC rfl (eC rfl (eC rfl (eC rfl (eC rfl eN))))) (mC rfl mN) rfl (prK rfl)) (Wk.trans (Wk.frzB 108 [.int .i64 x5.Source, .int .i64 x6.Seq] rfl rfl rfl (prN rfl)) (Wk.to (eC rfl (eC rfl (eC rfl (eC rfl (eC rfl eN))))) mN rfl (prK rfl)))))
    refine LH.seqT [(0, .lst 3 (List.map GStamp.lv p0)), (1, .lst 1 (List.map (LV.int .i64) p1)), (6, .lst 2 (List.map GIdentity.lv l2)), (7, .int .i64 n3), (8, .sptr [.int .i64 x5.Source, .int .i64 x6.Seq]), (9, .bool false)] [] rfl ?_ ?_
    · refine sN (oA (v := (.bool _)) rfl ?_)
      exact s0 (Wk.to (eC rfl (eC rfl (eC rfl (eC rfl (eC rfl (eC rfl eN)))))) mN rfl (prK rfl))
    refine LH.seq ?_
    refine LH.seqT [(0, .lst 3 (List.map GStamp.lv p0)), (1, .lst 1 (List.map (LV.int .i64) p1)), (6, .lst 2 (List.map GIdentity.lv l2)), (7, .int .i64 n3), (8, .sptr [.int .i64 x5.Source, .int .i64 x6.Seq]), (9, .bool false), (10, .int .i64 0)] [] rfl ?_ ?_
    · refine sN (oA (v := (.int _ _)) rfl ?_)
      exact s0 (Wk.to (eC rfl (eC rfl (eC rfl (eC rfl (eC rfl (eC rfl (eC rfl eN))))))) mN rfl (prK rfl))
    refine LH.block ?_
    refine LH.loop (fun n e m => ∃ (b7 : Bool) (n8 : Int), ref02_Disputed_L2 rec1 F p0 p1 l2 n3 x5 x6 n b7 n8 = some r ∧ e = Env.of [(0, .lst 3 (List.map GStamp.lv p0)), (1, .lst 1 (List.map (LV.int .i64) p1)), (6, .lst 2 (List.map GIdentity.lv l2)), (7, .int .i64 n3), (8, .sptr [.int .i64 x5.Source, .int .i64 x6.Seq]), (9, .bool b7), (10, .int .i64 n8)] ∧ m = Mem.of []) F ⟨false, 0, h, rfl, rfl⟩ ?_
    clear h
    rintro n e m ⟨b7, n8, h, rfl, rfl⟩
    rcases n with _ | n
    · cases (show Option.none = some _ from h)
    obtain ⟨rec2, hrec2⟩ : ∃ f, f = ref02_Disputed_L2 rec1 F p0 p1 l2 n3 x5 x6 n := ⟨_, rfl⟩
    replace h : ref02_Disputed_L2_B rec1 F p0 p1 l2 n3 x5 x6 rec2 b7 n8 = some r := hrec2 ▸ h
    unfold ref02_Disputed_L2_B at h
    refine LH.seq ?_
    refine LH.seqT [(0, .lst 3 (List.map GStamp.lv p0)), (1, .lst 1 (List.map (LV.int .i64) p1)), (6, .lst 2 (List.map GIdentity.lv l2)), (7, .int .i64 n3), (8, .sptr [.int .i64 x5.Source, .int .i64 x6.Seq]), (9, .bool b7), (10, .int .i64 n8), (38, .bool (decide (n8 < (p0.length : Int))))] [] rfl ?_ ?_
    · refine sN (oM (v := (.int _ _)) rfl ?_)
      refine sN (oM (v := (.lst _ _)) rfl ?_)
      refine sN (oLnL (f := GStamp.lv) te31 rfl ?_)
      refine sN (oLt rfl rfl ?_)
      exact s0 (Wk.to (eC rfl (eC rfl (eC rfl (eC rfl (eC rfl (eC rfl (eC rfl (eC rfl eN)))))))) mN rfl (prK rfl))
    refine LH.cond (t := (decide (n8 < (p0.length : Int)))) rfl (fun hc9 => ?_) (fun hc9 => ?_)
    · replace h := iteT h hc9
      refine LH.skip ?_
      refine thenN ?_
      refine LH.wk (Wk.to (el := [(0, .lst 3 (List.map GStamp.lv p0)), (1, .lst 1 (List.map (LV.int .i64) p1)), (6, .lst 2 (List.map GIdentity.lv l2)), (7, .int .i64 n3), (8, .sptr [.int .i64 x5.Source, .int .i64 x6.Seq]), (9, .bool b7), (10, .int .i64 n8)]) (ml := []) (eC rfl (eC rfl (eC rfl (eC rfl (eC rfl (eC rfl (eC rfl eN))))))) mN rfl (prK rfl)) ?_
      refine LH.seq ?_
      refine LH.block ?_
      obtain ⟨w11, hv, h⟩ := bindS h
      refine LH.loneTM mixed [] [0, 0, 0, 0, 0, 0, 0, 0, 0, 0, 0, 0, 0, 0, 0, 0, 0, 0, 0, 0, 0, 0, 0, 0, 0, 0, 0, 0, 0, 0, 0, 0, 0, 0, 0] [(0, .lst 3 (List.map GStamp.lv p0)), (1, .lst 1 (List.map (LV.int .i64) p1)), (6, .lst 2 (List.map GIdentity.lv l2)), (7, .int .i64 n3), (8, .sptr [.int .i64 x5.Source, .int .i64 x6.Seq]), (9, .bool w11), (10, .int .i64 n8)] [] rfl rfl (by kernel_rfl) ?_ ?_
      · refine mN0 (oM (v := (.bool _)) rfl ⟨rfl, ?_⟩)
        refine mN0 (oM (v := (.bool _)) rfl ⟨rfl, ?_⟩)
        by_cases hb12 : b7 = true
        · replace hv := iteT hv hb12
          refine mF rfl rfl hb12 ?_
          refine mF rfl rfl hb12 ?_
          refine mF rfl rfl hb12 ?_
          refine mF rfl rfl hb12 ?_
          refine mF rfl rfl hb12 ?_
          refine mF rfl rfl hb12 ?_
          refine mU rfl rfl ?_
          refine mU rfl rfl ?_
          refine mU rfl rfl ?_
          refine mU rfl rfl ?_
          refine mU rfl rfl ?_
          refine mF rfl rfl hb12 ?_
          refine mF rfl rfl hb12 ?_
          refine mU rfl rfl ?_
          refine mU rfl rfl ?_
          refine mU rfl rfl ?_
          refine mU rfl rfl ?_
          refine mU rfl rfl ?_
          refine mU rfl rfl ?_
          refine mU rfl rfl ?_
          refine mU rfl rfl ?_
          refine mU rfl rfl ?_
          refine mU rfl rfl ?_
          refine mU rfl rfl ?_
          refine mU rfl rfl ?_
          refine mU rfl rfl ?_
          refine mU rfl rfl ?_
          refine mU rfl rfl ?_
          refine mU rfl rfl ?_
          refine mU rfl rfl ?_
          refine mF rfl rfl hb12 ?_
          refine mN0 (oPkT (congrArg LV.bool hb12) (v := (.bool _)) rfl ⟨rfl, ?_⟩)
          refine mN0 (oA (v := (.bool _)) rfl ⟨rfl, ?_⟩)
          obtain rfl := Option.some.inj hv
          exact m0 (Wk.to (eC rfl (eC rfl (eC rfl (eC rfl (eC rfl (eC rfl (eC rfl eN))))))) mN rfl (prK rfl))
        · replace hb12 := bF hb12
          replace hv := iteF hv hb12
          refine mT rfl (congrArg LV.bool hb12) (mN0 (oM (v := (.lst _ _)) rfl ⟨rfl, ?_⟩))
          refine mT rfl (congrArg LV.bool hb12) (mN0 (oM (v := (.int _ _)) rfl ⟨rfl, ?_⟩))
          obtain ⟨x13, hx13, hv⟩ := bindS hv
          refine mT rfl (congrArg LV.bool hb12) (mN0 (oIx (f := GStamp.lv) te31 tk23 ts23 rfl rfl GStamp.ok hx13 rfl ⟨rfl, ?_⟩))
          refine mT rfl (congrArg LV.bool hb12) (mN0 (oLdA rfl tk23 ta23 ts23 rfl rfl ⟨rfl, ?_⟩))
          obtain ⟨r14, hr14, hv⟩ := bindS hv
          refine mT rfl (congrArg LV.bool hb12) (mN0 (oCP (args := [.agg [.int .i64 x13.Time, .int .i64 x13.Source, .int .i64 x13.Seq]]) rfl isF13 rfl (sbR sbN) (ref02_Valid_ok hr14) rfl ⟨rfl, ?_⟩))
          refine mT rfl (congrArg LV.bool hb12) (mN0 (oM (v := (.bool _)) rfl ⟨rfl, ?_⟩))
          by_cases hb15 : r14 = true
          · replace hv := iteT hv hb15
            refine mT rfl (congrArg LV.bool hb15) (mN0 (oM (v := (.lst _ _)) rfl ⟨rfl, ?_⟩))
            refine mT rfl (congrArg LV.bool hb15) (mN0 (oM (v := (.int _ _)) rfl ⟨rfl, ?_⟩))
            obtain ⟨x16, hx16, hv⟩ := bindS hv
            refine mT rfl (congrArg LV.bool hb15) (mN0 (oIx (f := GStamp.lv) te31 tk23 ts23 rfl rfl GStamp.ok hx16 rfl ⟨rfl, ?_⟩))
            refine mT rfl (congrArg LV.bool hb15) (mN0 (oLdA rfl tk23 ta23 ts23 rfl rfl ⟨rfl, ?_⟩))
            obtain ⟨r17, hr17, hv⟩ := bindS hv
            refine mT rfl (congrArg LV.bool hb15) (mN0 (oCP (args := [.agg [.int .i64 x16.Time, .int .i64 x16.Source, .int .i64 x16.Seq]]) rfl isF13 rfl (sbR sbN) (ref02_Valid_ok hr17) rfl ⟨rfl, ?_⟩))
            refine mT rfl (congrArg LV.bool hb12) (mN0 (oPkT (congrArg LV.bool hb15) (v := (.bool _)) rfl ⟨rfl, ?_⟩))
            refine mT rfl (congrArg LV.bool hb12) (mN0 (oM (v := (.bool _)) rfl ⟨rfl, ?_⟩))
            by_cases hb18 : r17 = true
            · replace hv := iteT hv hb18
              refine mT rfl (congrArg LV.bool hb18) (mN0 (oM (v := (.lst _ _)) rfl ⟨rfl, ?_⟩))
              refine mT rfl (congrArg LV.bool hb18) (mN0 (oM (v := (.int _ _)) rfl ⟨rfl, ?_⟩))
              obtain ⟨x19, hx19, hv⟩ := bindS hv
              refine mT rfl (congrArg LV.bool hb18) (mN0 (oIx (f := GStamp.lv) te31 tk23 ts23 rfl rfl GStamp.ok hx19 rfl ⟨rfl, ?_⟩))
              refine mT rfl (congrArg LV.bool hb18) (mN0 (oLdA rfl tk23 ta23 ts23 rfl rfl ⟨rfl, ?_⟩))
              refine mT rfl (congrArg LV.bool hb18) (mN0 (oM (v := (.lst _ _)) rfl ⟨rfl, ?_⟩))
              refine mT rfl (congrArg LV.bool hb18) (mN0 (oM (v := (.int _ _)) rfl ⟨rfl, ?_⟩))
              obtain ⟨x20, hx20, hv⟩ := bindS hv
              refine mT rfl (congrArg LV.bool hb18) (mN0 (oIx (f := GStamp.lv) te31 tk23 ts23 rfl rfl GStamp.ok hx20 rfl ⟨rfl, ?_⟩))
              refine mT rfl (congrArg LV.bool hb18) (mN0 (oLdA rfl tk23 ta23 ts23 rfl rfl ⟨rfl, ?_⟩))
              refine mT rfl (congrArg LV.bool hb18) (mN0 (oM (v := (.lst _ _)) rfl ⟨rfl, ?_⟩))
              refine mT rfl (congrArg LV.bool hb18) (mN0 (oM (v := (.int _ _)) rfl ⟨rfl, ?_⟩))
              obtain ⟨x21, hx21, hv⟩ := bindS hv
              refine mT rfl (congrArg LV.bool hb18) (mN0 (oIx (f := (LV.int .i64)) te28 tk3 ts3 rfl rfl okI hx21 rfl ⟨rfl, ?_⟩))
              refine mT rfl (congrArg LV.bool hb18) (mN0 (oLd rfl tk3 ta3 ⟨rfl, ?_⟩))
              refine mT rfl (congrArg LV.bool hb18) (mN0 (oM (v := (.lst _ _)) rfl ⟨rfl, ?_⟩))
              refine mT rfl (congrArg LV.bool hb18) (mN0 (oM (v := (.int _ _)) rfl ⟨rfl, ?_⟩))
              obtain ⟨x22, hx22, hv⟩ := bindS hv
              refine mT rfl (congrArg LV.bool hb18) (mN0 (oIx (f := (LV.int .i64)) te28 tk3 ts3 rfl rfl okI hx22 rfl ⟨rfl, ?_⟩))
              refine mT rfl (congrArg LV.bool hb18) (mN0 (oLd rfl tk3 ta3 ⟨rfl, ?_⟩))
              obtain ⟨r23, hr23, hv⟩ := bindS hv
              refine mT rfl (congrArg LV.bool hb18) (mN0 (oCP (args := [.agg [.int .i64 x19.Time, .int .i64 x19.Source, .int .i64 x19.Seq], .agg [.int .i64 x20.Time, .int .i64 x20.Source, .int .i64 x20.Seq], .int .i64 x21, .int .i64 x22]) rfl isF42 rfl (sbR (sbR (sbR (sbR sbN)))) (ref02_disputes_ok hr23) rfl ⟨rfl, ?_⟩))
              refine mT rfl (congrArg LV.bool hb12) (mN0 (oPkT (congrArg LV.bool hb18) (v := (.bool _)) rfl ⟨rfl, ?_⟩))
              refine mN0 (oPkF (congrArg LV.bool hb12) (v := (.bool _)) rfl ⟨rfl, ?_⟩)
              refine mN0 (oA (v := (.bool _)) rfl ⟨rfl, ?_⟩)
              obtain rfl := Option.some.inj hv
              exact m0 (Wk.to (eC rfl (eC rfl (eC rfl (eC rfl (eC rfl (eC rfl (eC rfl eN))))))) mN rfl (prK rfl))
            · replace hb18 := bF hb18
              replace hv := iteF hv hb18
              refine mF rfl rfl hb18 ?_
              refine mF rfl rfl hb18 ?_
              refine mF rfl rfl hb18 ?_
              refine mF rfl rfl hb18 ?_
              refine mF rfl rfl hb18 ?_
              refine mF rfl rfl hb18 ?_
              refine mF rfl rfl hb18 ?_
              refine mF rfl rfl hb18 ?_
              refine mF rfl rfl hb18 ?_
              refine mF rfl rfl hb18 ?_
              refine mF rfl rfl hb18 ?_
              refine mF rfl rfl hb18 ?_
              refine mF rfl rfl hb18 ?_
              refine mF rfl rfl hb18 ?_
              refine mF rfl rfl hb18 ?_
              refine mF rfl rfl hb18 ?_
              refine mF rfl rfl hb18 ?_
              refine mT rfl (congrArg LV.bool hb12) (mN0 (oPkF (congrArg LV.bool hb18) (v := (.bool _)) rfl ⟨rfl, ?_⟩))
              refine mN0 (oPkF (congrArg LV.bool hb12) (v := (.bool _)) rfl ⟨rfl, ?_⟩)
              refine mN0 (oA (v := (.bool _)) rfl ⟨rfl, ?_⟩)
              obtain rfl := Option.some.inj hv
              exact m0 (Wk.to (eC rfl (eC rfl (eC rfl (eC rfl (eC rfl (eC rfl (eC rfl eN))))))) mN rfl (prK rfl))
          · replace hb15 := bF hb15
            replace hv := iteF hv hb15
            refine mF rfl rfl hb15 ?_
            refine mF rfl rfl hb15 ?_
            refine mF rfl rfl hb15 ?_
            refine mF rfl rfl hb15 ?_
            refine mF rfl rfl hb15 ?_
            refine mT rfl (congrArg LV.bool hb12) (mN0 (oPkF (congrArg LV.bool hb15) (v := (.bool _)) rfl ⟨rfl, ?_⟩))
            refine mT rfl (congrArg LV.bool hb12) (mN0 (oM (v := (.bool _)) rfl ⟨rfl, ?_⟩))
            refine mF rfl rfl rfl ?_
            refine mF rfl rfl rfl ?_
            refine mF rfl rfl rfl ?_
            refine mF rfl rfl rfl ?_
            refine mF rfl rfl rfl ?_
            refine mF rfl rfl rfl ?_
            refine mF rfl rfl rfl ?_
            refine mF rfl rfl rfl ?_
            refine mF rfl rfl rfl ?_
            refine mF rfl rfl rfl ?_
            refine mF rfl rfl rfl ?_
            refine mF rfl rfl rfl ?_
            refine mF rfl rfl rfl ?_
            refine mF rfl rfl rfl ?_
            refine mF rfl rfl rfl ?_
            refine mF rfl rfl rfl ?_
            refine mF rfl rfl rfl ?_
            refine mT rfl (congrArg LV.bool hb12) (mN0 (oPkF rfl (v := (.bool _)) rfl ⟨rfl, ?_⟩))
            refine mN0 (oPkF (congrArg LV.bool hb12) (v := (.bool _)) rfl ⟨rfl, ?_⟩)
            refine mN0 (oA (v := (.bool _)) rfl ⟨rfl, ?_⟩)
            obtain rfl := Option.some.inj hv
            exact m0 (Wk.to (eC rfl (eC rfl (eC rfl (eC rfl (eC rfl (eC rfl (eC rfl eN))))))) mN rfl (prK rfl))
      clear hv
      refine blockN ?_
      refine thenN ?_
      refine LH.loneT [(0, .lst 3 (List.map GStamp.lv p0)), (1, .lst 1 (List.map (LV.int .i64) p1)), (6, .lst 2 (List.map GIdentity.lv l2)), (7, .int .i64 n3), (8, .sptr [.int .i64 x5.Source, .int .i64 x6.Seq]), (9, .bool w11), (10, .int .i64 (i64 (n8 + 1)))] [] rfl ?_ ?_
      · refine sN (oM (v := (.int _ _)) rfl ?_)
        refine sN (oAdd rfl rfl ?_)
        refine sN (oA (v := (.int _ _)) rfl ?_)
        exact s0 (Wk.to (eC rfl (eC rfl (eC rfl (eC rfl (eC rfl (eC rfl (eC rfl eN))))))) mN rfl (prK rfl))
      exact roundN (e' := Env.of [(0, .lst 3 (List.map GStamp.lv p0)), (1, .lst 1 (List.map (LV.int .i64) p1)), (6, .lst 2 (List.map GIdentity.lv l2)), (7, .int .i64 n3), (8, .sptr [.int .i64 x5.Source, .int .i64 x6.Seq]), (9, .bool w11), (10, .int .i64 (i64 (n8 + 1)))]) (m' := Mem.of []) (Wk.to (eC rfl (eC rfl (eC rfl (eC rfl (eC rfl (eC rfl (eC rfl eN))))))) mN rfl (prK rfl)) ⟨w11, (i64 (n8 + 1)), hrec2 ▸ h, rfl, rfl⟩
    replace h := iteF h hc9
    refine LH.exit ?_
    refine thenX ?_
    refine roundX ?_
    refine blockH ?_
    refine thenN ?_
    refine LH.wk (Wk.to (el := [(0, .lst 3 (List.map GStamp.lv p0)), (1, .lst 1 (List.map (LV.int .i64) p1)), (6, .lst 2 (List.map GIdentity.lv l2)), (7, .int .i64 n3), (8, .sptr [.int .i64 x5.Source, .int .i64 x6.Seq]), (9, .bool b7)]) (ml := []) (eC rfl (eC rfl (eC rfl (eC rfl (eC rfl (eC rfl eN)))))) mN rfl (prK rfl)) ?_
    refine LH.seqT [(0, .lst 3 (List.map GStamp.lv p0)), (1, .lst 1 (List.map (LV.int .i64) p1)), (6, .lst 2 (List.map GIdentity.lv l2)), (7, .int .i64 n3), (8, .sptr [.int .i64 x5.Source, .int .i64 x6.Seq]), (9, .bool b7), (11, .int .i64 0)] [] rfl ?_ ?_
    · refine sN (oA (v := (.int _ _)) rfl ?_)
      exact s0 (Wk.to (eC rfl (eC rfl (eC rfl (eC rfl (eC rfl (eC rfl (eC rfl eN))))))) mN rfl (prK rfl))
    refine LH.seq ?_
    refine LH.block ?_
    refine LH.loop (fun n e m => ∃ (n24 : Int), ref02_Disputed_L3 rec1 l2 n3 x5 x6 b7 n n24 = some r ∧ e = Env.of [(0, .lst 3 (List.map GStamp.lv p0)), (1, .lst 1 (List.map (LV.int .i64) p1)), (6, .lst 2 (List.map GIdentity.lv l2)), (7, .int .i64 n3), (8, .sptr [.int .i64 x5.Source, .int .i64 x6.Seq]), (9, .bool b7), (11, .int .i64 n24)] ∧ m = Mem.of []) F ⟨0, h, rfl, rfl⟩ ?_
    clear h
    rintro n e m ⟨n24, h, rfl, rfl⟩
    rcases n with _ | n
    · cases (show Option.none = some _ from h)
    obtain ⟨rec3, hrec3⟩ : ∃ f, f = ref02_Disputed_L3 rec1 l2 n3 x5 x6 b7 n := ⟨_, rfl⟩
    replace h : ref02_Disputed_L3_B rec1 l2 n3 x5 x6 b7 rec3 n24 = some r := hrec3 ▸ h
    unfold ref02_Disputed_L3_B at h
    refine LH.seq ?_
    obtain ⟨w26, hv, h⟩ := bindS h
    refine LH.seqJM mixed [] [0, 0, 0, 0, 0, 0, 0, 0, 0, 0, 0, 0] [(0, .lst 3 (List.map GStamp.lv p0)), (1, .lst 1 (List.map (LV.int .i64) p1)), (6, .lst 2 (List.map GIdentity.lv l2)), (7, .int .i64 n3), (8, .sptr [.int .i64 x5.Source, .int .i64 x6.Seq]), (9, .bool b7), (11, .int .i64 n24), (86, .bool w26)] [] rfl rfl (by kernel_rfl) ?_ ?_
    · refine mN0 (oM (v := (.int _ _)) rfl ⟨rfl, ?_⟩)
      refine mN0 (oM (v := (.lst _ _)) rfl ⟨rfl, ?_⟩)
      refine mN0 (oLnL (f := GIdentity.lv) te46 rfl ⟨rfl, ?_⟩)
      refine mN0 (oLt rfl rfl ⟨rfl, ?_⟩)
      refine mN0 (oM (v := (.bool _)) rfl ⟨rfl, ?_⟩)
      by_cases hb27 : (decide (n24 < (l2.length : Int))) = true
      · replace hv := iteT hv hb27
        refine mT rfl (congrArg LV.bool hb27) (mN0 (oM (v := (.lst _ _)) rfl ⟨rfl, ?_⟩))
        refine mT rfl (congrArg LV.bool hb27) (mN0 (oM (v := (.int _ _)) rfl ⟨rfl, ?_⟩))
        obtain ⟨x28, hx28, hv⟩ := bindS hv
        refine mT rfl (congrArg LV.bool hb27) (mN0 (oIx (f := GIdentity.lv) te46 tk50 ts50 rfl rfl GIdentity.ok hx28 rfl ⟨rfl, ?_⟩))
        refine mT rfl (congrArg LV.bool hb27) (mN0 (oLdA rfl tk50 ta50 ts50 rfl rfl ⟨rfl, ?_⟩))
        refine mT rfl (congrArg LV.bool hb27) (mN0 (oLdA rfl tk50 ta50 ts50 rfl rfl ⟨rfl, ?_⟩))
        obtain ⟨r29, hr29, hv⟩ := bindS hv
        refine mT rfl (congrArg LV.bool hb27) (mN0 (oCP (args := [.agg [.int .i64 x28.Source, .int .i64 x28.Seq], .agg [.int .i64 x5.Source, .int .i64 x6.Seq]]) rfl isF43 rfl (sbR (sbR sbN)) (ref02_before_ok hr29) rfl ⟨rfl, ?_⟩))
        refine mN0 (oPkT (congrArg LV.bool hb27) (v := (.bool _)) rfl ⟨rfl, ?_⟩)
        obtain rfl := Option.some.inj hv
        exact m0 (Wk.to (eC rfl (eC rfl (eC rfl (eC rfl (eC rfl (eC rfl (eC rfl (eC rfl eN)))))))) mN rfl (prK rfl))
      · replace hb27 := bF hb27
        replace hv := iteF hv hb27
        refine mF rfl rfl hb27 ?_
        refine mF rfl rfl hb27 ?_
        refine mF rfl rfl hb27 ?_
        refine mF rfl rfl hb27 ?_
        refine mF rfl rfl hb27 ?_
        refine mF rfl rfl hb27 ?_
        refine mN0 (oPkF (congrArg LV.bool hb27) (v := (.bool _)) rfl ⟨rfl, ?_⟩)
        obtain rfl := Option.some.inj hv
        exact m0 (Wk.to (eC rfl (eC rfl (eC rfl (eC rfl (eC rfl (eC rfl (eC rfl (eC rfl eN)))))))) mN rfl (prK rfl))
    clear hv
    refine LH.cond (t := w26) rfl (fun hc30 => ?_) (fun hc30 => ?_)
    · replace h := iteT h hc30
      refine LH.skip ?_
      refine thenN ?_
      refine LH.wk (Wk.to (el := [(0, .lst 3 (List.map GStamp.lv p0)), (1, .lst 1 (List.map (LV.int .i64) p1)), (6, .lst 2 (List.map GIdentity.lv l2)), (7, .int .i64 n3), (8, .sptr [.int .i64 x5.Source, .int .i64 x6.Seq]), (9, .bool b7), (11, .int .i64 n24)]) (ml := []) (eC rfl (eC rfl (eC rfl (eC rfl (eC rfl (eC rfl (eC rfl eN))))))) mN rfl (prK rfl)) ?_
      refine LH.block ?_
      refine LH.loneT [(0, .lst 3 (List.map GStamp.lv p0)), (1, .lst 1 (List.map (LV.int .i64) p1)), (6, .lst 2 (List.map GIdentity.lv l2)), (7, .int .i64 n3), (8, .sptr [.int .i64 x5.Source, .int .i64 x6.Seq]), (9, .bool b7), (11, .int .i64 (i64 (n24 + 1)))] [] rfl ?_ ?_
      · refine sN (oM (v := (.int _ _)) rfl ?_)
        refine sN (oAdd rfl rfl ?_)
        refine sN (oA (v := (.int _ _)) rfl ?_)
        exact s0 (Wk.to (eC rfl (eC rfl (eC rfl (eC rfl (eC rfl (eC rfl (eC rfl eN))))))) mN rfl (prK rfl))
      refine blockN ?_
      exact roundN (e' := Env.of [(0, .lst 3 (List.map GStamp.lv p0)), (1, .lst 1 (List.map (LV.int .i64) p1)), (6, .lst 2 (List.map GIdentity.lv l2)), (7, .int .i64 n3), (8, .sptr [.int .i64 x5.Source, .int .i64 x6.Seq]), (9, .bool b7), (11, .int .i64 (i64 (n24 + 1)))]) (m' := Mem.of []) (Wk.to (eC rfl (eC rfl (eC rfl (eC rfl (eC rfl (eC rfl (eC rfl eN))))))) mN rfl (prK rfl)) ⟨(i64 (n24 + 1)), hrec3 ▸ h, rfl, rfl⟩
    replace h := iteF h hc30
    refine LH.exit ?_
    refine thenX ?_
    refine roundX ?_
    refine blockH ?_
    refine thenN ?_
    refine LH.wk (Wk.to (el := [(0, .lst 3 (List.map GStamp.lv p0)), (1, .lst 1 (List.map (LV.int .i64) p1)), (6, .lst 2 (List.map GIdentity.lv l2)), (7, .int .i64 n3), (8, .sptr [.int .i64 x5.Source, .int .i64 x6.Seq]), (9, .bool b7), (11, .int .i64 n24)]) (ml := []) (eC rfl (eC rfl (eC rfl (eC rfl (eC rfl (eC rfl (eC rfl eN))))))) mN rfl (prK rfl)) ?_
    refine LH.seq ?_
    obtain ⟨w32, hv, h⟩ := bindS h
    refine LH.seqJM mixed [] [0, 0, 0, 0, 0, 0, 0, 0, 0, 0, 0, 0, 0, 0, 0, 0] [(0, .lst 3 (List.map GStamp.lv p0)), (1, .lst 1 (List.map (LV.int .i64) p1)), (6, .lst 2 (List.map GIdentity.lv l2)), (7, .int .i64 n3), (8, .sptr [.int .i64 x5.Source, .int .i64 x6.Seq]), (11, .int .i64 n24), (104, .bool w32)] [] rfl rfl (by kernel_rfl) ?_ ?_
    · refine mN0 (oM (v := (.bool _)) rfl ⟨rfl, ?_⟩)
      refine mN0 (oNot rfl ⟨rfl, ?_⟩)
      refine mN0 (oM (v := (.bool _)) rfl ⟨rfl, ?_⟩)
      by_cases hb33 : (!b7) = true
      · replace hv := iteT hv hb33
        refine mF rfl rfl hb33 ?_
        refine mF rfl rfl hb33 ?_
        refine mF rfl rfl hb33 ?_
        refine mF rfl rfl hb33 ?_
        refine mF rfl rfl hb33 ?_
        refine mU rfl rfl ?_
        refine mU rfl rfl ?_
        refine mU rfl rfl ?_
        refine mU rfl rfl ?_
        refine mU rfl rfl ?_
        refine mU rfl rfl ?_
        refine mF rfl rfl hb33 ?_
        refine mN0 (oPkT (congrArg LV.bool hb33) (v := (.bool _)) rfl ⟨rfl, ?_⟩)
        obtain rfl := Option.some.inj hv
        exact m0 (Wk.to (eC rfl (eC rfl (eC rfl (eC rfl (eC rfl (eC rfl (eC rfl eN))))))) mN rfl (prK rfl))
      · replace hb33 := bF hb33
        replace hv := iteF hv hb33
        refine mT rfl (congrArg LV.bool hb33) (mN0 (oM (v := (.int _ _)) rfl ⟨rfl, ?_⟩))
        refine mT rfl (congrArg LV.bool hb33) (mN0 (oM (v := (.lst _ _)) rfl ⟨rfl, ?_⟩))
        refine mT rfl (congrArg LV.bool hb33) (mN0 (oLnL (f := GIdentity.lv) te46 rfl ⟨rfl, ?_⟩))
        refine mT rfl (congrArg LV.bool hb33) (mN0 (oLt rfl rfl ⟨rfl, ?_⟩))
        refine mT rfl (congrArg LV.bool hb33) (mN0 (oM (v := (.bool _)) rfl ⟨rfl, ?_⟩))
        by_cases hb34 : (decide (n24 < (l2.length : Int))) = true
        · replace hv := iteT hv hb34
          refine mT rfl (congrArg LV.bool hb34) (mN0 (oM (v := (.lst _ _)) rfl ⟨rfl, ?_⟩))
          refine mT rfl (congrArg LV.bool hb34) (mN0 (oM (v := (.int _ _)) rfl ⟨rfl, ?_⟩))
          obtain ⟨x35, hx35, hv⟩ := bindS hv
          refine mT rfl (congrArg LV.bool hb34) (mN0 (oIx (f := GIdentity.lv) te46 tk50 ts50 rfl rfl GIdentity.ok hx35 rfl ⟨rfl, ?_⟩))
          refine mT rfl (congrArg LV.bool hb34) (mN0 (oLdA rfl tk50 ta50 ts50 rfl rfl ⟨rfl, ?_⟩))
          refine mT rfl (congrArg LV.bool hb34) (mN0 (oLdA rfl tk50 ta50 ts50 rfl rfl ⟨rfl, ?_⟩))
          refine mT rfl (congrArg LV.bool hb34) (mN0 (oEqA rfl rfl (ae50 x35 (GIdentity.mk x5.Source x6.Seq)) ⟨rfl, ?_⟩))
          refine mT rfl (congrArg LV.bool hb33) (mN0 (oPkT (congrArg LV.bool hb34) (v := (.bool _)) rfl ⟨rfl, ?_⟩))
          refine mN0 (oPkF (congrArg LV.bool hb33) (v := (.bool _)) rfl ⟨rfl, ?_⟩)
          obtain rfl := Option.some.inj hv
          exact m0 (Wk.to (eC rfl (eC rfl (eC rfl (eC rfl (eC rfl (eC rfl (eC rfl eN))))))) mN rfl (prK rfl))
        · replace hb34 := bF hb34
          replace hv := iteF hv hb34
          refine mF rfl rfl hb34 ?_
          refine mF rfl rfl hb34 ?_
          refine mF rfl rfl hb34 ?_
          refine mF rfl rfl hb34 ?_
          refine mF rfl rfl hb34 ?_
          refine mF rfl rfl hb34 ?_
          refine mT rfl (congrArg LV.bool hb33) (mN0 (oPkF (congrArg LV.bool hb34) (v := (.bool _)) rfl ⟨rfl, ?_⟩))
          refine mN0 (oPkF (congrArg LV.bool hb33) (v := (.bool _)) rfl ⟨rfl, ?_⟩)
          obtain rfl := Option.some.inj hv
          exact m0 (Wk.to (eC rfl (eC rfl (eC rfl (eC rfl (eC rfl (eC rfl (eC rfl eN))))))) mN rfl (prK rfl))
    clear hv
    refine LH.cond (t := w32) rfl (fun hc36 => ?_) (fun hc36 => ?_)
    · replace h := iteT h hc36
      refine LH.exit ?_
      refine thenX ?_
      refine blockH ?_
      refine thenN ?_
      refine LH.wk (Wk.to (el := [(0, .lst 3 (List.map GStamp.lv p0)), (1, .lst 1 (List.map (LV.int .i64) p1)), (6, .lst 2 (List.map GIdentity.lv l2)), (7, .int .i64 n3)]) (ml := []) (eC rfl (eC rfl (eC rfl (eC rfl eN)))) mN rfl (prK rfl)) ?_
      refine LH.loneT [(0, .lst 3 (List.map GStamp.lv p0)), (1, .lst 1 (List.map (LV.int .i64) p1)), (6, .lst 2 (List.map GIdentity.lv l2)), (7, .int .i64 (i64 (n3 + 1)))] [] rfl ?_ ?_
      · refine sN (oM (v := (.int _ _)) rfl ?_)
        refine sN (oAdd rfl rfl ?_)
        refine sN (oA (v := (.int _ _)) rfl ?_)
        exact s0 (Wk.to (eC rfl (eC rfl (eC rfl (eC rfl eN)))) mN rfl (prK rfl))
      exact roundN (e' := Env.of [(0, .lst 3 (List.map GStamp.lv p0)), (1, .lst 1 (List.map (LV.int .i64) p1)), (6, .lst 2 (List.map GIdentity.lv l2)), (7, .int .i64 (i64 (n3 + 1)))]) (m' := Mem.of []) (Wk.to (eC rfl (eC rfl (eC rfl (eC rfl eN)))) mN rfl (prK rfl)) ⟨l2, (i64 (n3 + 1)), hrec1 ▸ h, rfl, rfl⟩
    replace h := iteF h hc36
    refine LH.skip ?_
    refine thenN ?_
    refine LH.wk (Wk.to (el := [(0, .lst 3 (List.map GStamp.lv p0)), (1, .lst 1 (List.map (LV.int .i64) p1)), (6, .lst 2 (List.map GIdentity.lv l2)), (7, .int .i64 n3), (8, .sptr [.int .i64 x5.Source, .int .i64 x6.Seq]), (11, .int .i64 n24)]) (ml := []) (eC rfl (eC rfl (eC rfl (eC rfl (eC rfl (eC rfl eN)))))) mN rfl (prK rfl)) ?_
    refine LH.seqT [(0, .lst 3 (List.map GStamp.lv p0)), (1, .lst 1 (List.map (LV.int .i64) p1)), (6, .lst 2 (List.map GIdentity.lv l2)), (7, .int .i64 n3), (8, .sptr [.int .i64 x5.Source, .int .i64 x6.Seq]), (11, .int .i64 n24), (12, .nil)] [] rfl ?_ ?_
    · refine sN (oA (v := .nil) rfl ?_)
      exact s0 (Wk.to (eC rfl (eC rfl (eC rfl (eC rfl (eC rfl (eC rfl (eC rfl eN))))))) mN rfl (prK rfl))
    obtain ⟨v37, hv37, h⟩ := bindS h
    obtain ⟨v38, hv38, h⟩ := bindS h
    refine LH.seqT [(0, .lst 3 (List.map GStamp.lv p0)), (1, .lst 1 (List.map (LV.int .i64) p1)), (6, .lst 2 (List.map GIdentity.lv l2)), (7, .int .i64 n3), (8, .sptr [.int .i64 x5.Source, .int .i64 x6.Seq]), (11, .int .i64 n24), (12, .arr 209 (List.length v38))] [(209, .arr 50 2 (List.map GIdentity.lv v38))] rfl ?_ ?_
    · refine sN (oM (v := .nil) rfl ?_)
      refine sN (oM (v := (.lst _ _)) rfl ?_)
      refine sN (oM (v := (.int _ _)) rfl ?_)
      refine sN (oSl (f := GIdentity.lv) te46 tk50 ts50 rfl rfl rfl hv37 ?_)
      refine sN (oApN (f := GIdentity.lv) (id := 209) rfl te46 tr50 ts50 rfl rfl hv38 rfl ?_)
      refine sN (oA (v := (.arr _ _)) rfl ?_)
      exact s0 (Wk.to (eC rfl (eC rfl (eC rfl (eC rfl (eC rfl (eC rfl (eC rfl eN))))))) (mC rfl mN) rfl (prK rfl))
    obtain ⟨v39, hv39, h⟩ := bindS h
    refine LH.seqT [(0, .lst 3 (List.map GStamp.lv p0)), (1, .lst 1 (List.map (LV.int .i64) p1)), (6, .lst 2 (List.map GIdentity.lv l2)), (7, .int .i64 n3), (11, .int .i64 n24), (12, .arr 209 (List.length v39))] [(209, .arr 50 2 (List.map GIdentity.lv v39))] rfl ?_ ?_
    · refine sN (oM (v := (.arr _ _)) rfl ?_)
      refine sN (oLdA rfl tk50 ta50 ts50 rfl rfl ?_)
      refine sN (oBS (f := GIdentity.lv) (ys := [(GIdentity.mk x5.Source x6.Seq)]) te46 tr50 ts50 rfl rfl rfl GIdentity.ok ?_)
      refine sN (oAp (f := GIdentity.lv) te46 tr50 ts50 rfl rfl (prN rfl) rfl hv39 ?_)
      refine sN (oA (v := (.arr _ _)) rfl ?_)
      exact s0 (Wk.to (eC rfl (eC rfl (eC rfl (eC rfl (eC rfl (eC rfl eN)))))) (mC rfl mN) rfl (prK rfl))
    obtain ⟨v40, hv40, h⟩ := bindS h
    obtain ⟨v41, hv41, h⟩ := bindS h
    refine LH.seqT [(0, .lst 3 (List.map GStamp.lv p0)), (1, .lst 1 (List.map (LV.int .i64) p1)), (7, .int .i64 n3), (12, .lst 2 (List.map GIdentity.lv v41))] [] rfl ?_ ?_
    · refine sN (oM (v := (.arr _ _)) rfl ?_)
      refine sN (oM (v := (.lst _ _)) rfl ?_)
      refine sN (oM (v := (.int _ _)) rfl ?_)
      refine sN (oSl (f := GIdentity.lv) te46 tk50 ts50 rfl rfl rfl hv40 ?_)
      refine sN (oAp (f := GIdentity.lv) te46 tr50 ts50 rfl rfl (prN rfl) rfl hv41 ?_)
      refine sN (oA (v := (.arr _ _)) rfl ?_)
      exact s0 ((Wk.trans (Wk.to (el := [(0, .lst 3 (List.map GStamp.lv p0)), (1, .lst 1 (List.map (LV.int .i64) p1)), (7, .int .i64 n3), (12, .arr 209 (List.length v41))]) (ml := [(209, .arr 50 2 (List.map GIdentity.lv v41))]) (eC rfl (eC rfl (eC rfl (eC rfl eN)))) (mC rfl mN) rfl (prK rfl)) (Wk.trans (Wk.frzL (f := GIdentity.lv) (el' := [(0, .lst 3 (List.map GStamp.lv p0)), (1, .lst 1 (List.map (LV.int .i64) p1)), (7, .int .i64 n3), (12, .lst 2 (List.map GIdentity.lv v41))]) 209 50 2 v41 rfl rfl (prN rfl) (fK rfl (fK rfl (fK rfl (fZ fN))))) (Wk.to (eC rfl (eC rfl (eC rfl (eC rfl eN)))) mN rfl (prK rfl)))))
    refine LH.loneT [(0, .lst 3 (List.map GStamp.lv p0)), (1, .lst 1 (List.map (LV.int .i64) p1)), (6, .lst 2 (List.map GIdentity.lv v41)), (7, .int .i64 n3)] [] rfl ?_ ?_
    · refine sN (oM (v := (.lst _ _)) rfl ?_)
      refine sN (oA (v := (.lst _ _)) rfl ?_)
      exact s0 (Wk.to (eC rfl (eC rfl (eC rfl (eC rfl eN)))) mN rfl (prK rfl))
    refine blockN ?_
    refine thenN ?_
    refine LH.loneT [(0, .lst 3 (List.map GStamp.lv p0)), (1, .lst 1 (List.map (LV.int .i64) p1)), (6, .lst 2 (List.map GIdentity.lv v41)), (7, .int .i64 (i64 (n3 + 1)))] [] rfl ?_ ?_
    · refine sN (oM (v := (.int _ _)) rfl ?_)
      refine sN (oAdd rfl rfl ?_)
      refine sN (oA (v := (.int _ _)) rfl ?_)
      exact s0 (Wk.to (eC rfl (eC rfl (eC rfl (eC rfl eN)))) mN rfl (prK rfl))
    exact roundN (e' := Env.of [(0, .lst 3 (List.map GStamp.lv p0)), (1, .lst 1 (List.map (LV.int .i64) p1)), (6, .lst 2 (List.map GIdentity.lv v41)), (7, .int .i64 (i64 (n3 + 1)))]) (m' := Mem.of []) (Wk.to (eC rfl (eC rfl (eC rfl (eC rfl eN)))) mN rfl (prK rfl)) ⟨v41, (i64 (n3 + 1)), hrec1 ▸ h, rfl, rfl⟩
  replace h := iteF h hc4
  refine LH.exit ?_
  refine thenX ?_
  refine roundX ?_
  refine blockH ?_
  refine thenN ?_
  refine LH.wk (Wk.to (el := [(6, .lst 2 (List.map GIdentity.lv l2))]) (ml := []) (eC rfl eN) mN rfl (prK rfl)) ?_
  refine LH.seqT [(4, .lst 2 (List.map GIdentity.lv l2)), (5, .int .i64 0)] [] rfl ?_ ?_
  · refine sN (oM (v := (.lst _ _)) rfl ?_)
    refine sN (oA (v := (.lst _ _)) rfl ?_)
    refine sN (oA (v := (.int _ _)) rfl ?_)
    exact s0 (Wk.to (eC rfl (eC rfl eN)) mN rfl (prK rfl))
  refine LH.ret ?_
  obtain rfl := Option.some.inj h
  exact retE (congrArg Array.toList Try.results31) (lrT rfl (lrT rfl (lr0 ⟨memN mN, rfl, prK rfl, (Sub.tup (sbR (sbR sbN)))⟩)))

end Go.Proofs.Ytdkhlkihhdjbbaa
