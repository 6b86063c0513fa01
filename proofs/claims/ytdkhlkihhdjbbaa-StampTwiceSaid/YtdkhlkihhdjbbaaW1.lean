/- Walks, printed by program (gen.py): each function computes its plain function. -/
import Derived.Test.YtdkhlkihhdjbbaaFacts
import Derived.Test.YtdkhlkihhdjbbaaEqs
import Derived.Test.YtdkhlkihhdjbbaaSort
import Derived.Test.YtdkhlkihhdjbbaaLp
import Derived.Test.YtdkhlkihhdjbbaaSh
set_option linter.unusedVariables false
set_option linter.unusedSimpArgs false
set_option maxRecDepth 100000
namespace Go.Proofs.Ytdkhlkihhdjbbaa
open Go.L Go.Sh
theorem stamp_Valid_ok {p0 : GStamp} {r : Bool} (h : stamp_Valid p0 = some r) : LCall Try.prog 12 [.agg [.int .i64 p0.Time, .int .i64 p0.Source, .int .i64 p0.Seq]] (Mem.of []) (.bool r) (Mem.of []) := by
  unfold stamp_Valid at h
  refine bodyT Try.func12 rfl (by rw [Try.ntmps12]; exact Nat.le_of_ble_eq_true rfl) ?_
  refine LH.wk (Wk.to (el := [(0, .agg [.int .i64 p0.Time, .int .i64 p0.Source, .int .i64 p0.Seq])]) (ml := []) (eC rfl eN) mN rfl (prK rfl)) ?_
  refine LH.seqT [(1, .sptr [.int .i64 p0.Time, .int .i64 p0.Source, .int .i64 p0.Seq])] [] rfl ?_ ?_
  · refine sB (oBxR rfl rfl rfl rfl rfl ?_)
    refine sN (oA (v := (.bool _)) rfl ?_)
    exact s0 (Wk.to (eC rfl eN) mN rfl (prK rfl))
  refine LH.seqT [(2, .bool ((decide (p0.Time ≥ 0)) && ((decide (p0.Time ≤ 1000000)) && ((decide (p0.Source ≥ 0)) && ((decide (p0.Source ≤ 99)) && ((decide (p0.Seq ≥ 0)) && (decide (p0.Seq ≤ 9999))))))))] [] rfl ?_ ?_
  · refine sN (oFaS tf23_0 tk3 ts3 rfl rfl rfl ?_)
    refine sN (oLd rfl tk3 ta3 ?_)
    refine sN (oGe rfl rfl ?_)
    refine sN (oM (v := (.bool _)) rfl ?_)
    by_cases hb2 : (decide (p0.Time ≥ 0)) = true
    · refine sT rfl (congrArg LV.bool hb2) (oFaS tf23_0 tk3 ts3 rfl rfl rfl ?_)
      refine sT rfl (congrArg LV.bool hb2) (oLd rfl tk3 ta3 ?_)
      refine sT rfl (congrArg LV.bool hb2) (oLe rfl rfl ?_)
      refine sN (oPkT (congrArg LV.bool hb2) (v := (.bool _)) rfl ?_)
      refine sN (oM (v := (.bool _)) rfl ?_)
      by_cases hb3 : (decide (p0.Time ≤ 1000000)) = true
      · refine sT rfl (congrArg LV.bool hb3) (oFaS tf23_1 tk3 ts3 rfl rfl rfl ?_)
        refine sT rfl (congrArg LV.bool hb3) (oLd rfl tk3 ta3 ?_)
        refine sT rfl (congrArg LV.bool hb3) (oGe rfl rfl ?_)
        refine sN (oPkT (congrArg LV.bool hb3) (v := (.bool _)) rfl ?_)
        refine sN (oM (v := (.bool _)) rfl ?_)
        by_cases hb4 : (decide (p0.Source ≥ 0)) = true
        · refine sT rfl (congrArg LV.bool hb4) (oFaS tf23_1 tk3 ts3 rfl rfl rfl ?_)
          refine sT rfl (congrArg LV.bool hb4) (oLd rfl tk3 ta3 ?_)
          refine sT rfl (congrArg LV.bool hb4) (oLe rfl rfl ?_)
          refine sN (oPkT (congrArg LV.bool hb4) (v := (.bool _)) rfl ?_)
          refine sN (oM (v := (.bool _)) rfl ?_)
          by_cases hb5 : (decide (p0.Source ≤ 99)) = true
          · refine sT rfl (congrArg LV.bool hb5) (oFaS tf23_2 tk3 ts3 rfl rfl rfl ?_)
            refine sT rfl (congrArg LV.bool hb5) (oLd rfl tk3 ta3 ?_)
            refine sT rfl (congrArg LV.bool hb5) (oGe rfl rfl ?_)
            refine sN (oPkT (congrArg LV.bool hb5) (v := (.bool _)) rfl ?_)
            refine sN (oM (v := (.bool _)) rfl ?_)
            by_cases hb6 : (decide (p0.Seq ≥ 0)) = true
            · refine sT rfl (congrArg LV.bool hb6) (oFaS tf23_2 tk3 ts3 rfl rfl rfl ?_)
              refine sT rfl (congrArg LV.bool hb6) (oLd rfl tk3 ta3 ?_)
              refine sT rfl (congrArg LV.bool hb6) (oLe rfl rfl ?_)
              refine sN (oPkT (congrArg LV.bool hb6) (v := (.bool _)) rfl ?_)
              refine sN (oA (v := (.bool _)) rfl ?_)
              exact s0 (Wk.to (eC (congrArg LV.bool (Eq.trans (Eq.trans (Eq.trans (Eq.trans (andT hb6) (andT hb5)) (andT hb4)) (andT hb3)) (andT hb2))) eN) mN rfl (prK rfl))
            · replace hb6 := bF hb6
              refine sF rfl rfl hb6 ?_
              refine sF rfl rfl hb6 ?_
              refine sF rfl rfl hb6 ?_
              refine sN (oPkF (congrArg LV.bool hb6) (v := (.bool _)) rfl ?_)
              refine sN (oA (v := (.bool _)) rfl ?_)
              exact s0 (Wk.to (eC (congrArg LV.bool (Eq.trans (Eq.trans (Eq.trans (Eq.trans (andF hb6) (andT hb5)) (andT hb4)) (andT hb3)) (andT hb2))) eN) mN rfl (prK rfl))
          · replace hb5 := bF hb5
            refine sF rfl rfl hb5 ?_
            refine sF rfl rfl hb5 ?_
            refine sF rfl rfl hb5 ?_
            refine sN (oPkF (congrArg LV.bool hb5) (v := (.bool _)) rfl ?_)
            refine sN (oM (v := (.bool _)) rfl ?_)
            refine sF rfl rfl rfl ?_
            refine sF rfl rfl rfl ?_
            refine sF rfl rfl rfl ?_
            refine sN (oPkF rfl (v := (.bool _)) rfl ?_)
            refine sN (oA (v := (.bool _)) rfl ?_)
            exact s0 (Wk.to (eC (congrArg LV.bool (Eq.trans (Eq.trans (Eq.trans (andF hb5) (andT hb4)) (andT hb3)) (andT hb2))) eN) mN rfl (prK rfl))
        · replace hb4 := bF hb4
          refine sF rfl rfl hb4 ?_
          refine sF rfl rfl hb4 ?_
          refine sF rfl rfl hb4 ?_
          refine sN (oPkF (congrArg LV.bool hb4) (v := (.bool _)) rfl ?_)
          refine sN (oM (v := (.bool _)) rfl ?_)
          refine sF rfl rfl rfl ?_
          refine sF rfl rfl rfl ?_
          refine sF rfl rfl rfl ?_
          refine sN (oPkF rfl (v := (.bool _)) rfl ?_)
          refine sN (oM (v := (.bool _)) rfl ?_)
          refine sF rfl rfl rfl ?_
          refine sF rfl rfl rfl ?_
          refine sF rfl rfl rfl ?_
          refine sN (oPkF rfl (v := (.bool _)) rfl ?_)
          refine sN (oA (v := (.bool _)) rfl ?_)
          exact s0 (Wk.to (eC (congrArg LV.bool (Eq.trans (Eq.trans (andF hb4) (andT hb3)) (andT hb2))) eN) mN rfl (prK rfl))
      · replace hb3 := bF hb3
        refine sF rfl rfl hb3 ?_
        refine sF rfl rfl hb3 ?_
        refine sF rfl rfl hb3 ?_
        refine sN (oPkF (congrArg LV.bool hb3) (v := (.bool _)) rfl ?_)
        refine sN (oM (v := (.bool _)) rfl ?_)
        refine sF rfl rfl rfl ?_
        refine sF rfl rfl rfl ?_
        refine sF rfl rfl rfl ?_
        refine sN (oPkF rfl (v := (.bool _)) rfl ?_)
        refine sN (oM (v := (.bool _)) rfl ?_)
        refine sF rfl rfl rfl ?_
        refine sF rfl rfl rfl ?_
        refine sF rfl rfl rfl ?_
        refine sN (oPkF rfl (v := (.bool _)) rfl ?_)
        refine sN (oM (v := (.bool _)) rfl ?_)
        refine sF rfl rfl rfl ?_
        refine sF rfl rfl rfl ?_
        refine sF rfl rfl rfl ?_
        refine sN (oPkF rfl (v := (.bool _)) rfl ?_)
        refine sN (oA (v := (.bool _)) rfl ?_)
        exact s0 (Wk.to (eC (congrArg LV.bool (Eq.trans (andF hb3) (andT hb2))) eN) mN rfl (prK rfl))
    · replace hb2 := bF hb2
      refine sF rfl rfl hb2 ?_
      refine sF rfl rfl hb2 ?_
      refine sF rfl rfl hb2 ?_
      refine sN (oPkF (congrArg LV.bool hb2) (v := (.bool _)) rfl ?_)
      refine sN (oM (v := (.bool _)) rfl ?_)
      refine sF rfl rfl rfl ?_
      refine sF rfl rfl rfl ?_
      refine sF rfl rfl rfl ?_
      refine sN (oPkF rfl (v := (.bool _)) rfl ?_)
      refine sN (oM (v := (.bool _)) rfl ?_)
      refine sF rfl rfl rfl ?_
      refine sF rfl rfl rfl ?_
      refine sF rfl rfl rfl ?_
      refine sN (oPkF rfl (v := (.bool _)) rfl ?_)
      refine sN (oM (v := (.bool _)) rfl ?_)
      refine sF rfl rfl rfl ?_
      refine sF rfl rfl rfl ?_
      refine sF rfl rfl rfl ?_
      refine sN (oPkF rfl (v := (.bool _)) rfl ?_)
      refine sN (oM (v := (.bool _)) rfl ?_)
      refine sF rfl rfl rfl ?_
      refine sF rfl rfl rfl ?_
      refine sF rfl rfl rfl ?_
      refine sN (oPkF rfl (v := (.bool _)) rfl ?_)
      refine sN (oA (v := (.bool _)) rfl ?_)
      exact s0 (Wk.to (eC (congrArg LV.bool (andF hb2)) eN) mN rfl (prK rfl))
  refine LH.ret ?_
  obtain rfl := Option.some.inj h
  exact retE (congrArg Array.toList Try.results12) (lrT rfl (lr0 ⟨memN mN, rfl, prK rfl, Sub.rfl⟩))

theorem ref02_Valid_ok {p0 : GStamp} {r : Bool} (h : ref02_Valid p0 = some r) : LCall Try.prog 13 [.agg [.int .i64 p0.Time, .int .i64 p0.Source, .int .i64 p0.Seq]] (Mem.of []) (.bool r) (Mem.of []) := by
  unfold ref02_Valid at h
  refine bodyT Try.func13 rfl (by rw [Try.ntmps13]; exact Nat.le_of_ble_eq_true rfl) ?_
  refine LH.wk (Wk.to (el := [(0, .agg [.int .i64 p0.Time, .int .i64 p0.Source, .int .i64 p0.Seq])]) (ml := []) (eC rfl eN) mN rfl (prK rfl)) ?_
  refine LH.seqT [(1, .sptr [.int .i64 p0.Time, .int .i64 p0.Source, .int .i64 p0.Seq])] [] rfl ?_ ?_
  · refine sB (oBxR rfl rfl rfl rfl rfl ?_)
    refine sN (oA (v := (.bool _)) rfl ?_)
    exact s0 (Wk.to (eC rfl eN) mN rfl (prK rfl))
  refine LH.seqT [(2, .bool ((decide (p0.Time ≥ 0)) && ((decide (p0.Time ≤ 1000000)) && ((decide (p0.Source ≥ 0)) && ((decide (p0.Source ≤ 99)) && ((decide (p0.Seq ≥ 0)) && (decide (p0.Seq ≤ 9999))))))))] [] rfl ?_ ?_
  · refine sN (oFaS tf23_0 tk3 ts3 rfl rfl rfl ?_)
    refine sN (oLd rfl tk3 ta3 ?_)
    refine sN (oGe rfl rfl ?_)
    refine sN (oM (v := (.bool _)) rfl ?_)
    by_cases hb2 : (decide (p0.Time ≥ 0)) = true
    · refine sT rfl (congrArg LV.bool hb2) (oFaS tf23_0 tk3 ts3 rfl rfl rfl ?_)
      refine sT rfl (congrArg LV.bool hb2) (oLd rfl tk3 ta3 ?_)
      refine sT rfl (congrArg LV.bool hb2) (oLe rfl rfl ?_)
      refine sN (oPkT (congrArg LV.bool hb2) (v := (.bool _)) rfl ?_)
      refine sN (oM (v := (.bool _)) rfl ?_)
      by_cases hb3 : (decide (p0.Time ≤ 1000000)) = true
      · refine sT rfl (congrArg LV.bool hb3) (oFaS tf23_1 tk3 ts3 rfl rfl rfl ?_)
        refine sT rfl (congrArg LV.bool hb3) (oLd rfl tk3 ta3 ?_)
        refine sT rfl (congrArg LV.bool hb3) (oGe rfl rfl ?_)
        refine sN (oPkT (congrArg LV.bool hb3) (v := (.bool _)) rfl ?_)
        refine sN (oM (v := (.bool _)) rfl ?_)
        by_cases hb4 : (decide (p0.Source ≥ 0)) = true
        · refine sT rfl (congrArg LV.bool hb4) (oFaS tf23_1 tk3 ts3 rfl rfl rfl ?_)
          refine sT rfl (congrArg LV.bool hb4) (oLd rfl tk3 ta3 ?_)
          refine sT rfl (congrArg LV.bool hb4) (oLe rfl rfl ?_)
          refine sN (oPkT (congrArg LV.bool hb4) (v := (.bool _)) rfl ?_)
          refine sN (oM (v := (.bool _)) rfl ?_)
          by_cases hb5 : (decide (p0.Source ≤ 99)) = true
          · refine sT rfl (congrArg LV.bool hb5) (oFaS tf23_2 tk3 ts3 rfl rfl rfl ?_)
            refine sT rfl (congrArg LV.bool hb5) (oLd rfl tk3 ta3 ?_)
            refine sT rfl (congrArg LV.bool hb5) (oGe rfl rfl ?_)
            refine sN (oPkT (congrArg LV.bool hb5) (v := (.bool _)) rfl ?_)
            refine sN (oM (v := (.bool _)) rfl ?_)
            by_cases hb6 : (decide (p0.Seq ≥ 0)) = true
            · refine sT rfl (congrArg LV.bool hb6) (oFaS tf23_2 tk3 ts3 rfl rfl rfl ?_)
              refine sT rfl (congrArg LV.bool hb6) (oLd rfl tk3 ta3 ?_)
              refine sT rfl (congrArg LV.bool hb6) (oLe rfl rfl ?_)
              refine sN (oPkT (congrArg LV.bool hb6) (v := (.bool _)) rfl ?_)
              refine sN (oA (v := (.bool _)) rfl ?_)
              exact s0 (Wk.to (eC (congrArg LV.bool (Eq.trans (Eq.trans (Eq.trans (Eq.trans (andT hb6) (andT hb5)) (andT hb4)) (andT hb3)) (andT hb2))) eN) mN rfl (prK rfl))
            · replace hb6 := bF hb6
              refine sF rfl rfl hb6 ?_
              refine sF rfl rfl hb6 ?_
              refine sF rfl rfl hb6 ?_
              refine sN (oPkF (congrArg LV.bool hb6) (v := (.bool _)) rfl ?_)
              refine sN (oA (v := (.bool _)) rfl ?_)
              exact s0 (Wk.to (eC (congrArg LV.bool (Eq.trans (Eq.trans (Eq.trans (Eq.trans (andF hb6) (andT hb5)) (andT hb4)) (andT hb3)) (andT hb2))) eN) mN rfl (prK rfl))
          · replace hb5 := bF hb5
            refine sF rfl rfl hb5 ?_
            refine sF rfl rfl hb5 ?_
            refine sF rfl rfl hb5 ?_
            refine sN (oPkF (congrArg LV.bool hb5) (v := (.bool _)) rfl ?_)
            refine sN (oM (v := (.bool _)) rfl ?_)
            refine sF rfl rfl rfl ?_
            refine sF rfl rfl rfl ?_
            refine sF rfl rfl rfl ?_
            refine sN (oPkF rfl (v := (.bool _)) rfl ?_)
            refine sN (oA (v := (.bool _)) rfl ?_)
            exact s0 (Wk.to (eC (congrArg LV.bool (Eq.trans (Eq.trans (Eq.trans (andF hb5) (andT hb4)) (andT hb3)) (andT hb2))) eN) mN rfl (prK rfl))
        · replace hb4 := bF hb4
          refine sF rfl rfl hb4 ?_
          refine sF rfl rfl hb4 ?_
          refine sF rfl rfl hb4 ?_
          refine sN (oPkF (congrArg LV.bool hb4) (v := (.bool _)) rfl ?_)
          refine sN (oM (v := (.bool _)) rfl ?_)
          refine sF rfl rfl rfl ?_
          refine sF rfl rfl rfl ?_
          refine sF rfl rfl rfl ?_
          refine sN (oPkF rfl (v := (.bool _)) rfl ?_)
          refine sN (oM (v := (.bool _)) rfl ?_)
          refine sF rfl rfl rfl ?_
          refine sF rfl rfl rfl ?_
          refine sF rfl rfl rfl ?_
          refine sN (oPkF rfl (v := (.bool _)) rfl ?_)
          refine sN (oA (v := (.bool _)) rfl ?_)
          exact s0 (Wk.to (eC (congrArg LV.bool (Eq.trans (Eq.trans (andF hb4) (andT hb3)) (andT hb2))) eN) mN rfl (prK rfl))
      · replace hb3 := bF hb3
        refine sF rfl rfl hb3 ?_
        refine sF rfl rfl hb3 ?_
        refine sF rfl rfl hb3 ?_
        refine sN (oPkF (congrArg LV.bool hb3) (v := (.bool _)) rfl ?_)
        refine sN (oM (v := (.bool _)) rfl ?_)
        refine sF rfl rfl rfl ?_
        refine sF rfl rfl rfl ?_
        refine sF rfl rfl rfl ?_
        refine sN (oPkF rfl (v := (.bool _)) rfl ?_)
        refine sN (oM (v := (.bool _)) rfl ?_)
        refine sF rfl rfl rfl ?_
        refine sF rfl rfl rfl ?_
        refine sF rfl rfl rfl ?_
        refine sN (oPkF rfl (v := (.bool _)) rfl ?_)
        refine sN (oM (v := (.bool _)) rfl ?_)
        refine sF rfl rfl rfl ?_
        refine sF rfl rfl rfl ?_
        refine sF rfl rfl rfl ?_
        refine sN (oPkF rfl (v := (.bool _)) rfl ?_)
        refine sN (oA (v := (.bool _)) rfl ?_)
        exact s0 (Wk.to (eC (congrArg LV.bool (Eq.trans (andF hb3) (andT hb2))) eN) mN rfl (prK rfl))
    · replace hb2 := bF hb2
      refine sF rfl rfl hb2 ?_
      refine sF rfl rfl hb2 ?_
      refine sF rfl rfl hb2 ?_
      refine sN (oPkF (congrArg LV.bool hb2) (v := (.bool _)) rfl ?_)
      refine sN (oM (v := (.bool _)) rfl ?_)
      refine sF rfl rfl rfl ?_
      refine sF rfl rfl rfl ?_
      refine sF rfl rfl rfl ?_
      refine sN (oPkF rfl (v := (.bool _)) rfl ?_)
      refine sN (oM (v := (.bool _)) rfl ?_)
      refine sF rfl rfl rfl ?_
      refine sF rfl rfl rfl ?_
      refine sF rfl rfl rfl ?_
      refine sN (oPkF rfl (v := (.bool _)) rfl ?_)
      refine sN (oM (v := (.bool _)) rfl ?_)
      refine sF rfl rfl rfl ?_
      refine sF rfl rfl rfl ?_
      refine sF rfl rfl rfl ?_
      refine sN (oPkF rfl (v := (.bool _)) rfl ?_)
      refine sN (oM (v := (.bool _)) rfl ?_)
      refine sF rfl rfl rfl ?_
      refine sF rfl rfl rfl ?_
      refine sF rfl rfl rfl ?_
      refine sN (oPkF rfl (v := (.bool _)) rfl ?_)
      refine sN (oA (v := (.bool _)) rfl ?_)
      exact s0 (Wk.to (eC (congrArg LV.bool (andF hb2)) eN) mN rfl (prK rfl))
  refine LH.ret ?_
  obtain rfl := Option.some.inj h
  exact retE (congrArg Array.toList Try.results13) (lrT rfl (lr0 ⟨memN mN, rfl, prK rfl, Sub.rfl⟩))

theorem cmp_isNaN_int_ok {p0 : Int} {r : Bool} (h : cmp_isNaN_int p0 = some r) : LCall Try.prog 44 [.int .i64 p0] (Mem.of []) (.bool r) (Mem.of []) := by
  unfold cmp_isNaN_int at h
  refine bodyT Try.func44 rfl (by rw [Try.ntmps44]; exact Nat.le_of_ble_eq_true rfl) ?_
  refine LH.wk (Wk.to (el := [(0, .int .i64 p0)]) (ml := []) (eC rfl eN) mN rfl (prK rfl)) ?_
  refine LH.seqT [(0, .int .i64 p0)] [] rfl ?_ ?_
  · refine sN (oA (v := (.bool _)) rfl ?_)
    exact s0 (Wk.to (eC rfl eN) mN rfl (prK rfl))
  refine LH.seqT [(2, .bool (p0 != p0))] [] rfl ?_ ?_
  · refine sN (oM (v := (.int _ _)) rfl ?_)
    refine sN (oM (v := (.int _ _)) rfl ?_)
    refine sN (oNe rfl rfl ?_)
    refine sN (oA (v := (.bool _)) rfl ?_)
    exact s0 (Wk.to (eC rfl eN) mN rfl (prK rfl))
  refine LH.ret ?_
  obtain rfl := Option.some.inj h
  exact retE (congrArg Array.toList Try.results44) (lrT rfl (lr0 ⟨memN mN, rfl, prK rfl, Sub.rfl⟩))

theorem cmp_Compare_int_ok {p0 : Int} {p1 : Int} {r : Int} (h : cmp_Compare_int p0 p1 = some r) : LCall Try.prog 33 [.int .i64 p0, .int .i64 p1] (Mem.of []) (.int .i64 r) (Mem.of []) := by
  unfold cmp_Compare_int at h
  refine bodyT Try.func33 rfl (by rw [Try.ntmps33]; exact Nat.le_of_ble_eq_true rfl) ?_
  refine LH.wk (Wk.to (el := [(0, .int .i64 p0), (1, .int .i64 p1)]) (ml := []) (eC rfl (eC rfl eN)) mN rfl (prK rfl)) ?_
  refine LH.seqT [(0, .int .i64 p0), (1, .int .i64 p1)] [] rfl ?_ ?_
  · refine sN (oA (v := (.int _ _)) rfl ?_)
    exact s0 (Wk.to (eC rfl (eC rfl eN)) mN rfl (prK rfl))
  obtain ⟨r1, hr1, h⟩ := bindS h
  refine LH.seqT [(0, .int .i64 p0), (1, .int .i64 p1), (5, .bool r1)] [] rfl ?_ ?_
  · refine sN (oM (v := (.int _ _)) rfl ?_)
    refine sN (oCP (args := [.int .i64 p0]) rfl isF44 rfl (sbR sbN) (cmp_isNaN_int_ok hr1) rfl ?_)
    refine sN (oA (v := (.bool _)) rfl ?_)
    exact s0 (Wk.to (eC rfl (eC rfl (eC rfl eN))) mN rfl (prK rfl))
  obtain ⟨r2, hr2, h⟩ := bindS h
  refine LH.seqT [(0, .int .i64 p0), (1, .int .i64 p1), (5, .bool r1), (6, .bool r2)] [] rfl ?_ ?_
  · refine sN (oM (v := (.int _ _)) rfl ?_)
    refine sN (oCP (args := [.int .i64 p1]) rfl isF44 rfl (sbR sbN) (cmp_isNaN_int_ok hr2) rfl ?_)
    refine sN (oA (v := (.bool _)) rfl ?_)
    exact s0 (Wk.to (eC rfl (eC rfl (eC rfl (eC rfl eN)))) mN rfl (prK rfl))
  refine LH.seq ?_
  refine LH.seqT [(0, .int .i64 p0), (1, .int .i64 p1), (6, .bool r2), (11, .bool r1)] [] rfl ?_ ?_
  · refine sN (oM (v := (.bool _)) rfl ?_)
    exact s0 (Wk.to (eC rfl (eC rfl (eC rfl (eC rfl eN)))) mN rfl (prK rfl))
  refine LH.cond (t := r1) rfl (fun hc3 => ?_) (fun hc3 => ?_)
  · replace h := iteT h hc3
    refine LH.seq ?_
    refine LH.seqT [(12, .bool r2)] [] rfl ?_ ?_
    · refine sN (oM (v := (.bool _)) rfl ?_)
      exact s0 (Wk.to (eC rfl eN) mN rfl (prK rfl))
    refine LH.cond (t := r2) rfl (fun hc4 => ?_) (fun hc4 => ?_)
    · replace h := iteT h hc4
      refine LH.seqT [(4, .int .i64 0)] [] rfl ?_ ?_
      · refine sN (oA (v := (.int _ _)) rfl ?_)
        exact s0 (Wk.to (eC rfl eN) mN rfl (prK rfl))
      refine LH.ret ?_
      refine thenR ?_
      refine thenR ?_
      obtain rfl := Option.some.inj h
      exact retE (congrArg Array.toList Try.results33) (lrT rfl (lr0 ⟨memN mN, rfl, prK rfl, Sub.rfl⟩))
    replace h := iteF h hc4
    refine LH.skip ?_
    refine thenN ?_
    refine LH.wk (Wk.to (el := []) (ml := []) eN mN rfl (prK rfl)) ?_
    refine LH.seqT [(4, .int .i64 (-1))] [] rfl ?_ ?_
    · refine sN (oA (v := (.int _ _)) rfl ?_)
      exact s0 (Wk.to (eC rfl eN) mN rfl (prK rfl))
    refine LH.ret ?_
    refine thenR ?_
    obtain rfl := Option.some.inj h
    exact retE (congrArg Array.toList Try.results33) (lrT rfl (lr0 ⟨memN mN, rfl, prK rfl, Sub.rfl⟩))
  replace h := iteF h hc3
  refine LH.skip ?_
  refine thenN ?_
  refine LH.wk (Wk.to (el := [(0, .int .i64 p0), (1, .int .i64 p1), (6, .bool r2)]) (ml := []) (eC rfl (eC rfl (eC rfl eN))) mN rfl (prK rfl)) ?_
  refine LH.seq ?_
  refine LH.seqT [(0, .int .i64 p0), (1, .int .i64 p1), (13, .bool r2)] [] rfl ?_ ?_
  · refine sN (oM (v := (.bool _)) rfl ?_)
    exact s0 (Wk.to (eC rfl (eC rfl (eC rfl eN))) mN rfl (prK rfl))
  refine LH.cond (t := r2) rfl (fun hc5 => ?_) (fun hc5 => ?_)
  · replace h := iteT h hc5
    refine LH.seqT [(4, .int .i64 1)] [] rfl ?_ ?_
    · refine sN (oA (v := (.int _ _)) rfl ?_)
      exact s0 (Wk.to (eC rfl eN) mN rfl (prK rfl))
    refine LH.ret ?_
    refine thenR ?_
    obtain rfl := Option.some.inj h
    exact retE (congrArg Array.toList Try.results33) (lrT rfl (lr0 ⟨memN mN, rfl, prK rfl, Sub.rfl⟩))
  replace h := iteF h hc5
  refine LH.skip ?_
  refine thenN ?_
  refine LH.wk (Wk.to (el := [(0, .int .i64 p0), (1, .int .i64 p1)]) (ml := []) (eC rfl (eC rfl eN)) mN rfl (prK rfl)) ?_
  refine LH.seq ?_
  refine LH.seqT [(0, .int .i64 p0), (1, .int .i64 p1), (16, .bool (decide (p0 < p1)))] [] rfl ?_ ?_
  · refine sN (oM (v := (.int _ _)) rfl ?_)
    refine sN (oM (v := (.int _ _)) rfl ?_)
    refine sN (oLt rfl rfl ?_)
    exact s0 (Wk.to (eC rfl (eC rfl (eC rfl eN))) mN rfl (prK rfl))
  refine LH.cond (t := (decide (p0 < p1))) rfl (fun hc6 => ?_) (fun hc6 => ?_)
  · replace h := iteT h hc6
    refine LH.seqT [(4, .int .i64 (-1))] [] rfl ?_ ?_
    · refine sN (oA (v := (.int _ _)) rfl ?_)
      exact s0 (Wk.to (eC rfl eN) mN rfl (prK rfl))
    refine LH.ret ?_
    refine thenR ?_
    obtain rfl := Option.some.inj h
    exact retE (congrArg Array.toList Try.results33) (lrT rfl (lr0 ⟨memN mN, rfl, prK rfl, Sub.rfl⟩))
  replace h := iteF h hc6
  refine LH.skip ?_
  refine thenN ?_
  refine LH.wk (Wk.to (el := [(0, .int .i64 p0), (1, .int .i64 p1)]) (ml := []) (eC rfl (eC rfl eN)) mN rfl (prK rfl)) ?_
  refine LH.seq ?_
  refine LH.seqT [(19, .bool (decide (p0 > p1)))] [] rfl ?_ ?_
  · refine sN (oM (v := (.int _ _)) rfl ?_)
    refine sN (oM (v := (.int _ _)) rfl ?_)
    refine sN (oGt rfl rfl ?_)
    exact s0 (Wk.to (eC rfl eN) mN rfl (prK rfl))
  refine LH.cond (t := (decide (p0 > p1))) rfl (fun hc7 => ?_) (fun hc7 => ?_)
  · replace h := iteT h hc7
    refine LH.seqT [(4, .int .i64 1)] [] rfl ?_ ?_
    · refine sN (oA (v := (.int _ _)) rfl ?_)
      exact s0 (Wk.to (eC rfl eN) mN rfl (prK rfl))
    refine LH.ret ?_
    refine thenR ?_
    obtain rfl := Option.some.inj h
    exact retE (congrArg Array.toList Try.results33) (lrT rfl (lr0 ⟨memN mN, rfl, prK rfl, Sub.rfl⟩))
  replace h := iteF h hc7
  refine LH.skip ?_
  refine thenN ?_
  refine LH.wk (Wk.to (el := []) (ml := []) eN mN rfl (prK rfl)) ?_
  refine LH.seqT [(4, .int .i64 0)] [] rfl ?_ ?_
  · refine sN (oA (v := (.int _ _)) rfl ?_)
    exact s0 (Wk.to (eC rfl eN) mN rfl (prK rfl))
  refine LH.ret ?_
  obtain rfl := Option.some.inj h
  exact retE (congrArg Array.toList Try.results33) (lrT rfl (lr0 ⟨memN mN, rfl, prK rfl, Sub.rfl⟩))

theorem cmp_Or_int_ok {F : Nat} {p0 : List Int} {r : Int} (h : cmp_Or_int F p0 = some r) : LCall Try.prog 32 [.lst 1 (List.map (LV.int .i64) p0)] (Mem.of []) (.int .i64 r) (Mem.of []) := by
  unfold cmp_Or_int at h
  refine bodyT Try.func32 rfl (by rw [Try.ntmps32]; exact Nat.le_of_ble_eq_true rfl) ?_
  refine LH.wk (Wk.to (el := [(0, .lst 1 (List.map (LV.int .i64) p0))]) (ml := []) (eC rfl eN) mN rfl (prK rfl)) ?_
  refine LH.seqT [(0, .lst 1 (List.map (LV.int .i64) p0))] [] rfl ?_ ?_
  · refine sN (oA (v := (.int _ _)) rfl ?_)
    exact s0 (Wk.to (eC rfl eN) mN rfl (prK rfl))
  refine LH.seqT [(0, .lst 1 (List.map (LV.int .i64) p0)), (3, .int .i64 0)] [] rfl ?_ ?_
  · refine sN (oA (v := (.int _ _)) rfl ?_)
    exact s0 (Wk.to (eC rfl (eC rfl eN)) mN rfl (prK rfl))
  refine LH.seq ?_
  refine LH.seqT [(3, .int .i64 0), (6, .lst 1 (List.map (LV.int .i64) p0)), (7, .int .i64 (p0.length : Int)), (8, .int .i64 0)] [] rfl ?_ ?_
  · refine sN (oM (v := (.lst _ _)) rfl ?_)
    refine sN (oLnL (f := (LV.int .i64)) te28 rfl ?_)
    refine sN (oM (v := (.int _ _)) rfl ?_)
    exact s0 (Wk.to (eC rfl (eC rfl (eC rfl (eC rfl eN)))) mN rfl (prK rfl))
  refine LH.block ?_
  refine LH.loop (fun n e m => ∃ (n1 : Int), cmp_Or_int_L1 p0 n n1 = some r ∧ e = Env.of [(3, .int .i64 0), (6, .lst 1 (List.map (LV.int .i64) p0)), (7, .int .i64 (p0.length : Int)), (8, .int .i64 n1)] ∧ m = Mem.of []) F ⟨0, h, rfl, rfl⟩ ?_
  clear h
  rintro n e m ⟨n1, h, rfl, rfl⟩
  rcases n with _ | n
  · cases (show Option.none = some _ from h)
  obtain ⟨rec1, hrec1⟩ : ∃ f, f = cmp_Or_int_L1 p0 n := ⟨_, rfl⟩
  replace h : cmp_Or_int_L1_B p0 rec1 n1 = some r := hrec1 ▸ h
  unfold cmp_Or_int_L1_B at h
  refine LH.seqT [(3, .int .i64 0), (6, .lst 1 (List.map (LV.int .i64) p0)), (7, .int .i64 (p0.length : Int)), (8, .int .i64 n1), (9, .bool (decide (n1 < (p0.length : Int))))] [] rfl ?_ ?_
  · refine sN (oLt rfl rfl ?_)
    exact s0 (Wk.to (eC rfl (eC rfl (eC rfl (eC rfl (eC rfl eN))))) mN rfl (prK rfl))
  refine LH.seq ?_
  refine LH.cond (t := (decide (n1 < (p0.length : Int)))) rfl (fun hc2 => ?_) (fun hc2 => ?_)
  · replace h := iteT h hc2
    refine LH.skip ?_
    refine thenN ?_
    refine LH.wk (Wk.to (el := [(3, .int .i64 0), (6, .lst 1 (List.map (LV.int .i64) p0)), (7, .int .i64 (p0.length : Int)), (8, .int .i64 n1)]) (ml := []) (eC rfl (eC rfl (eC rfl (eC rfl eN)))) mN rfl (prK rfl)) ?_
    refine LH.seq ?_
    refine LH.block ?_
    obtain ⟨x3, hx3, h⟩ := bindS h
    refine LH.seqT [(3, .int .i64 0), (5, .int .i64 x3), (6, .lst 1 (List.map (LV.int .i64) p0)), (7, .int .i64 (p0.length : Int)), (8, .int .i64 n1)] [] rfl ?_ ?_
    · refine sN (oIx (f := (LV.int .i64)) te28 tk3 ts3 rfl rfl okI hx3 rfl ?_)
      refine sN (oLd rfl tk3 ta3 ?_)
      refine sN (oA (v := (.int _ _)) rfl ?_)
      exact s0 (Wk.to (eC rfl (eC rfl (eC rfl (eC rfl (eC rfl eN))))) mN rfl (prK rfl))
    refine LH.seqT [(3, .int .i64 0), (5, .int .i64 x3), (6, .lst 1 (List.map (LV.int .i64) p0)), (7, .int .i64 (p0.length : Int)), (8, .int .i64 n1), (14, .bool (x3 != 0))] [] rfl ?_ ?_
    · refine sN (oM (v := (.int _ _)) rfl ?_)
      refine sN (oM (v := (.int _ _)) rfl ?_)
      refine sN (oNe rfl rfl ?_)
      exact s0 (Wk.to (eC rfl (eC rfl (eC rfl (eC rfl (eC rfl (eC rfl eN)))))) mN rfl (prK rfl))
    refine LH.cond (t := (x3 != 0)) rfl (fun hc4 => ?_) (fun hc4 => ?_)
    · replace h := iteT h hc4
      refine LH.seqT [(2, .int .i64 x3)] [] rfl ?_ ?_
      · refine sN (oM (v := (.int _ _)) rfl ?_)
        refine sN (oA (v := (.int _ _)) rfl ?_)
        exact s0 (Wk.to (eC rfl eN) mN rfl (prK rfl))
      refine LH.ret ?_
      refine blockR ?_
      refine thenR ?_
      refine roundR ?_
      refine blockR ?_
      refine thenR ?_
      obtain rfl := Option.some.inj h
      exact retE (congrArg Array.toList Try.results32) (lrT rfl (lr0 ⟨memN mN, rfl, prK rfl, Sub.rfl⟩))
    replace h := iteF h hc4
    refine LH.skip ?_
    refine blockN ?_
    refine thenN ?_
    refine LH.wk (Wk.to (el := [(3, .int .i64 0), (6, .lst 1 (List.map (LV.int .i64) p0)), (7, .int .i64 (p0.length : Int)), (8, .int .i64 n1)]) (ml := []) (eC rfl (eC rfl (eC rfl (eC rfl eN)))) mN rfl (prK rfl)) ?_
    refine LH.loneT [(3, .int .i64 0), (6, .lst 1 (List.map (LV.int .i64) p0)), (7, .int .i64 (p0.length : Int)), (8, .int .i64 (i64 (n1 + 1)))] [] rfl ?_ ?_
    · refine sN (oAdd rfl rfl ?_)
      refine sN (oM (v := (.int _ _)) rfl ?_)
      exact s0 (Wk.to (eC rfl (eC rfl (eC rfl (eC rfl eN)))) mN rfl (prK rfl))
    exact roundN (e' := Env.of [(3, .int .i64 0), (6, .lst 1 (List.map (LV.int .i64) p0)), (7, .int .i64 (p0.length : Int)), (8, .int .i64 (i64 (n1 + 1)))]) (m' := Mem.of []) (Wk.to (eC rfl (eC rfl (eC rfl (eC rfl eN)))) mN rfl (prK rfl)) ⟨(i64 (n1 + 1)), hrec1 ▸ h, rfl, rfl⟩
  replace h := iteF h hc2
  refine LH.exit ?_
  refine thenX ?_
  refine roundX ?_
  refine blockH ?_
  refine thenN ?_
  refine LH.wk (Wk.to (el := [(3, .int .i64 0)]) (ml := []) (eC rfl eN) mN rfl (prK rfl)) ?_
  refine LH.seqT [(2, .int .i64 0)] [] rfl ?_ ?_
  · refine sN (oM (v := (.int _ _)) rfl ?_)
    refine sN (oA (v := (.int _ _)) rfl ?_)
    exact s0 (Wk.to (eC rfl eN) mN rfl (prK rfl))
  refine LH.ret ?_
  obtain rfl := Option.some.inj h
  exact retE (congrArg Array.toList Try.results32) (lrT rfl (lr0 ⟨memN mN, rfl, prK rfl, Sub.rfl⟩))

theorem stamp_Compare_ok {F : Nat} {p0 : GStamp} {p1 : GStamp} {r : Int} (h : stamp_Compare F p0 p1 = some r) : LCall Try.prog 14 [.agg [.int .i64 p0.Time, .int .i64 p0.Source, .int .i64 p0.Seq], .agg [.int .i64 p1.Time, .int .i64 p1.Source, .int .i64 p1.Seq]] (Mem.of []) (.int .i64 r) (Mem.of []) := by
  unfold stamp_Compare at h
  refine bodyT Try.func14 rfl (by rw [Try.ntmps14]; exact Nat.le_of_ble_eq_true rfl) ?_
  refine LH.wk (Wk.to (el := [(0, .agg [.int .i64 p0.Time, .int .i64 p0.Source, .int .i64 p0.Seq]), (1, .agg [.int .i64 p1.Time, .int .i64 p1.Source, .int .i64 p1.Seq])]) (ml := []) (eC rfl (eC rfl eN)) mN rfl (prK rfl)) ?_
  refine LH.seqT [(2, .sptr [.int .i64 p0.Time, .int .i64 p0.Source, .int .i64 p0.Seq]), (3, .sptr [.int .i64 p1.Time, .int .i64 p1.Source, .int .i64 p1.Seq])] [] rfl ?_ ?_
  · refine sB (oBxR rfl rfl rfl rfl rfl ?_)
    refine sB (oBxR rfl rfl rfl rfl rfl ?_)
    refine sN (oA (v := (.int _ _)) rfl ?_)
    exact s0 (Wk.to (eC rfl (eC rfl eN)) mN rfl (prK rfl))
  obtain ⟨r1, hr1, h⟩ := bindS h
  obtain ⟨r2, hr2, h⟩ := bindS h
  obtain ⟨r3, hr3, h⟩ := bindS h
  obtain ⟨r4, hr4, h⟩ := bindS h
  refine LH.seqJM mixed [] [0, 0, 0, 0, 0, 0, 0, 0, 0, 0, 0, 0, 0, 0, 0, 0, 0, 0] [(4, .int .i64 r4)] [] rfl rfl (by kernel_rfl) ?_ ?_
  · refine mN0 (oFaS tf23_0 tk3 ts3 rfl rfl rfl ⟨rfl, ?_⟩)
    refine mN0 (oLd rfl tk3 ta3 ⟨rfl, ?_⟩)
    refine mN0 (oFaS tf23_0 tk3 ts3 rfl rfl rfl ⟨rfl, ?_⟩)
    refine mN0 (oLd rfl tk3 ta3 ⟨rfl, ?_⟩)
    refine mN0 (oCP (args := [.int .i64 p0.Time, .int .i64 p1.Time]) rfl isF33 rfl (sbR (sbR sbN)) (cmp_Compare_int_ok hr1) rfl ⟨rfl, ?_⟩)
    refine mN0 (oFaS tf23_1 tk3 ts3 rfl rfl rfl ⟨rfl, ?_⟩)
    refine mN0 (oLd rfl tk3 ta3 ⟨rfl, ?_⟩)
    refine mN0 (oFaS tf23_1 tk3 ts3 rfl rfl rfl ⟨rfl, ?_⟩)
    refine mN0 (oLd rfl tk3 ta3 ⟨rfl, ?_⟩)
    refine mN0 (oCP (args := [.int .i64 p0.Source, .int .i64 p1.Source]) rfl isF33 rfl (sbR (sbR sbN)) (cmp_Compare_int_ok hr2) rfl ⟨rfl, ?_⟩)
    refine mN0 (oFaS tf23_2 tk3 ts3 rfl rfl rfl ⟨rfl, ?_⟩)
    refine mN0 (oLd rfl tk3 ta3 ⟨rfl, ?_⟩)
    refine mN0 (oFaS tf23_2 tk3 ts3 rfl rfl rfl ⟨rfl, ?_⟩)
    refine mN0 (oLd rfl tk3 ta3 ⟨rfl, ?_⟩)
    refine mN0 (oCP (args := [.int .i64 p0.Seq, .int .i64 p1.Seq]) rfl isF33 rfl (sbR (sbR sbN)) (cmp_Compare_int_ok hr3) rfl ⟨rfl, ?_⟩)
    refine mN0 (oBS (f := (LV.int .i64)) (ys := [r1, r2, r3]) te28 tr3 ts3 rfl rfl rfl okI ⟨rfl, ?_⟩)
    refine mN0 (oCP (args := [.lst 1 (List.map (LV.int .i64) [r1, r2, r3])]) rfl isF32 rfl (sbR sbN) (cmp_Or_int_ok hr4) rfl ⟨rfl, ?_⟩)
    refine mN0 (oA (v := (.int _ _)) rfl ⟨rfl, ?_⟩)
    exact m0 (Wk.to (eC rfl eN) mN rfl (prK rfl))
  refine LH.ret ?_
  obtain rfl := Option.some.inj h
  exact retE (congrArg Array.toList Try.results14) (lrT rfl (lr0 ⟨memN mN, rfl, prK rfl, Sub.rfl⟩))

theorem ref02_order_ok {p0 : Int} {p1 : Int} {r : Int} (h : ref02_order p0 p1 = some r) : LCall Try.prog 34 [.int .i64 p0, .int .i64 p1] (Mem.of []) (.int .i64 r) (Mem.of []) := by
  unfold ref02_order at h
  refine bodyT Try.func34 rfl (by rw [Try.ntmps34]; exact Nat.le_of_ble_eq_true rfl) ?_
  refine LH.wk (Wk.to (el := [(0, .int .i64 p0), (1, .int .i64 p1)]) (ml := []) (eC rfl (eC rfl eN)) mN rfl (prK rfl)) ?_
  refine LH.seqT [(0, .int .i64 p0), (1, .int .i64 p1)] [] rfl ?_ ?_
  · refine sN (oA (v := (.int _ _)) rfl ?_)
    exact s0 (Wk.to (eC rfl (eC rfl eN)) mN rfl (prK rfl))
  refine LH.seq ?_
  refine LH.seqT [(0, .int .i64 p0), (1, .int .i64 p1), (7, .bool (decide (p0 < p1)))] [] rfl ?_ ?_
  · refine sN (oM (v := (.int _ _)) rfl ?_)
    refine sN (oM (v := (.int _ _)) rfl ?_)
    refine sN (oLt rfl rfl ?_)
    exact s0 (Wk.to (eC rfl (eC rfl (eC rfl eN))) mN rfl (prK rfl))
  refine LH.cond (t := (decide (p0 < p1))) rfl (fun hc1 => ?_) (fun hc1 => ?_)
  · replace h := iteT h hc1
    refine LH.seqT [(4, .int .i64 (-1))] [] rfl ?_ ?_
    · refine sN (oA (v := (.int _ _)) rfl ?_)
      exact s0 (Wk.to (eC rfl eN) mN rfl (prK rfl))
    refine LH.ret ?_
    refine thenR ?_
    obtain rfl := Option.some.inj h
    exact retE (congrArg Array.toList Try.results34) (lrT rfl (lr0 ⟨memN mN, rfl, prK rfl, Sub.rfl⟩))
  replace h := iteF h hc1
  refine LH.skip ?_
  refine thenN ?_
  refine LH.wk (Wk.to (el := [(0, .int .i64 p0), (1, .int .i64 p1)]) (ml := []) (eC rfl (eC rfl eN)) mN rfl (prK rfl)) ?_
  refine LH.seq ?_
  refine LH.seqT [(10, .bool (decide (p0 > p1)))] [] rfl ?_ ?_
  · refine sN (oM (v := (.int _ _)) rfl ?_)
    refine sN (oM (v := (.int _ _)) rfl ?_)
    refine sN (oGt rfl rfl ?_)
    exact s0 (Wk.to (eC rfl eN) mN rfl (prK rfl))
  refine LH.cond (t := (decide (p0 > p1))) rfl (fun hc2 => ?_) (fun hc2 => ?_)
  · replace h := iteT h hc2
    refine LH.seqT [(4, .int .i64 1)] [] rfl ?_ ?_
    · refine sN (oA (v := (.int _ _)) rfl ?_)
      exact s0 (Wk.to (eC rfl eN) mN rfl (prK rfl))
    refine LH.ret ?_
    refine thenR ?_
    obtain rfl := Option.some.inj h
    exact retE (congrArg Array.toList Try.results34) (lrT rfl (lr0 ⟨memN mN, rfl, prK rfl, Sub.rfl⟩))
  replace h := iteF h hc2
  refine LH.skip ?_
  refine thenN ?_
  refine LH.wk (Wk.to (el := []) (ml := []) eN mN rfl (prK rfl)) ?_
  refine LH.seqT [(4, .int .i64 0)] [] rfl ?_ ?_
  · refine sN (oA (v := (.int _ _)) rfl ?_)
    exact s0 (Wk.to (eC rfl eN) mN rfl (prK rfl))
  refine LH.ret ?_
  obtain rfl := Option.some.inj h
  exact retE (congrArg Array.toList Try.results34) (lrT rfl (lr0 ⟨memN mN, rfl, prK rfl, Sub.rfl⟩))

theorem ref02_Compare_ok {p0 : GStamp} {p1 : GStamp} {r : Int} (h : ref02_Compare p0 p1 = some r) : LCall Try.prog 15 [.agg [.int .i64 p0.Time, .int .i64 p0.Source, .int .i64 p0.Seq], .agg [.int .i64 p1.Time, .int .i64 p1.Source, .int .i64 p1.Seq]] (Mem.of []) (.int .i64 r) (Mem.of []) := by
  unfold ref02_Compare at h
  refine bodyT Try.func15 rfl (by rw [Try.ntmps15]; exact Nat.le_of_ble_eq_true rfl) ?_
  refine LH.wk (Wk.to (el := [(0, .agg [.int .i64 p0.Time, .int .i64 p0.Source, .int .i64 p0.Seq]), (1, .agg [.int .i64 p1.Time, .int .i64 p1.Source, .int .i64 p1.Seq])]) (ml := []) (eC rfl (eC rfl eN)) mN rfl (prK rfl)) ?_
  refine LH.seqT [(2, .sptr [.int .i64 p0.Time, .int .i64 p0.Source, .int .i64 p0.Seq]), (3, .sptr [.int .i64 p1.Time, .int .i64 p1.Source, .int .i64 p1.Seq])] [] rfl ?_ ?_
  · refine sB (oBxR rfl rfl rfl rfl rfl ?_)
    refine sB (oBxR rfl rfl rfl rfl rfl ?_)
    refine sN (oA (v := (.int _ _)) rfl ?_)
    exact s0 (Wk.to (eC rfl (eC rfl eN)) mN rfl (prK rfl))
  obtain ⟨r1, hr1, h⟩ := bindS h
  refine LH.seqT [(2, .sptr [.int .i64 p0.Time, .int .i64 p0.Source, .int .i64 p0.Seq]), (3, .sptr [.int .i64 p1.Time, .int .i64 p1.Source, .int .i64 p1.Seq]), (5, .int .i64 r1)] [] rfl ?_ ?_
  · refine sN (oFaS tf23_0 tk3 ts3 rfl rfl rfl ?_)
    refine sN (oLd rfl tk3 ta3 ?_)
    refine sN (oFaS tf23_0 tk3 ts3 rfl rfl rfl ?_)
    refine sN (oLd rfl tk3 ta3 ?_)
    refine sN (oCP (args := [.int .i64 p0.Time, .int .i64 p1.Time]) rfl isF34 rfl (sbR (sbR sbN)) (ref02_order_ok hr1) rfl ?_)
    refine sN (oA (v := (.int _ _)) rfl ?_)
    exact s0 (Wk.to (eC rfl (eC rfl (eC rfl eN))) mN rfl (prK rfl))
  refine LH.seq ?_
  refine LH.seqT [(2, .sptr [.int .i64 p0.Time, .int .i64 p0.Source, .int .i64 p0.Seq]), (3, .sptr [.int .i64 p1.Time, .int .i64 p1.Source, .int .i64 p1.Seq]), (5, .int .i64 r1), (12, .bool (r1 == 0))] [] rfl ?_ ?_
  · refine sN (oM (v := (.int _ _)) rfl ?_)
    refine sN (oEq rfl rfl ?_)
    exact s0 (Wk.to (eC rfl (eC rfl (eC rfl (eC rfl eN)))) mN rfl (prK rfl))
  refine LH.cond (t := (r1 == 0)) rfl (fun hc2 => ?_) (fun hc2 => ?_)
  · replace h := iteT h hc2
    obtain ⟨r3, hr3, h⟩ := bindS h
    refine LH.loneT [(2, .sptr [.int .i64 p0.Time, .int .i64 p0.Source, .int .i64 p0.Seq]), (3, .sptr [.int .i64 p1.Time, .int .i64 p1.Source, .int .i64 p1.Seq]), (5, .int .i64 r3)] [] rfl ?_ ?_
    · refine sN (oFaS tf23_1 tk3 ts3 rfl rfl rfl ?_)
      refine sN (oLd rfl tk3 ta3 ?_)
      refine sN (oFaS tf23_1 tk3 ts3 rfl rfl rfl ?_)
      refine sN (oLd rfl tk3 ta3 ?_)
      refine sN (oCP (args := [.int .i64 p0.Source, .int .i64 p1.Source]) rfl isF34 rfl (sbR (sbR sbN)) (ref02_order_ok hr3) rfl ?_)
      refine sN (oA (v := (.int _ _)) rfl ?_)
      exact s0 (Wk.to (eC rfl (eC rfl (eC rfl eN))) mN rfl (prK rfl))
    refine thenN ?_
    refine LH.seq ?_
    refine LH.seqT [(2, .sptr [.int .i64 p0.Time, .int .i64 p0.Source, .int .i64 p0.Seq]), (3, .sptr [.int .i64 p1.Time, .int .i64 p1.Source, .int .i64 p1.Seq]), (5, .int .i64 r3), (19, .bool (r3 == 0))] [] rfl ?_ ?_
    · refine sN (oM (v := (.int _ _)) rfl ?_)
      refine sN (oEq rfl rfl ?_)
      exact s0 (Wk.to (eC rfl (eC rfl (eC rfl (eC rfl eN)))) mN rfl (prK rfl))
    refine LH.cond (t := (r3 == 0)) rfl (fun hc4 => ?_) (fun hc4 => ?_)
    · replace h := iteT h hc4
      obtain ⟨r5, hr5, h⟩ := bindS h
      refine LH.loneT [(5, .int .i64 r5)] [] rfl ?_ ?_
      · refine sN (oFaS tf23_2 tk3 ts3 rfl rfl rfl ?_)
        refine sN (oLd rfl tk3 ta3 ?_)
        refine sN (oFaS tf23_2 tk3 ts3 rfl rfl rfl ?_)
        refine sN (oLd rfl tk3 ta3 ?_)
        refine sN (oCP (args := [.int .i64 p0.Seq, .int .i64 p1.Seq]) rfl isF34 rfl (sbR (sbR sbN)) (ref02_order_ok hr5) rfl ?_)
        refine sN (oA (v := (.int _ _)) rfl ?_)
        exact s0 (Wk.to (eC rfl eN) mN rfl (prK rfl))
      refine thenN ?_
      refine LH.seqT [(4, .int .i64 r5)] [] rfl ?_ ?_
      · refine sN (oM (v := (.int _ _)) rfl ?_)
        refine sN (oA (v := (.int _ _)) rfl ?_)
        exact s0 (Wk.to (eC rfl eN) mN rfl (prK rfl))
      refine LH.ret ?_
      obtain rfl := Option.some.inj h
      exact retE (congrArg Array.toList Try.results15) (lrT rfl (lr0 ⟨memN mN, rfl, prK rfl, Sub.rfl⟩))
    replace h := iteF h hc4
    refine LH.skip ?_
    refine thenN ?_
    refine LH.wk (Wk.to (el := [(5, .int .i64 r3)]) (ml := []) (eC rfl eN) mN rfl (prK rfl)) ?_
    refine LH.seqT [(4, .int .i64 r3)] [] rfl ?_ ?_
    · refine sN (oM (v := (.int _ _)) rfl ?_)
      refine sN (oA (v := (.int _ _)) rfl ?_)
      exact s0 (Wk.to (eC rfl eN) mN rfl (prK rfl))
    refine LH.ret ?_
    obtain rfl := Option.some.inj h
    exact retE (congrArg Array.toList Try.results15) (lrT rfl (lr0 ⟨memN mN, rfl, prK rfl, Sub.rfl⟩))
  replace h := iteF h hc2
  refine LH.skip ?_
  refine thenN ?_
  refine LH.wk (Wk.to (el := [(2, .sptr [.int .i64 p0.Time, .int .i64 p0.Source, .int .i64 p0.Seq]), (3, .sptr [.int .i64 p1.Time, .int .i64 p1.Source, .int .i64 p1.Seq]), (5, .int .i64 r1)]) (ml := []) (eC rfl (eC rfl (eC rfl eN))) mN rfl (prK rfl)) ?_
  refine LH.seq ?_
  refine LH.seqT [(2, .sptr [.int .i64 p0.Time, .int .i64 p0.Source, .int .i64 p0.Seq]), (3, .sptr [.int .i64 p1.Time, .int .i64 p1.Source, .int .i64 p1.Seq]), (5, .int .i64 r1), (19, .bool (r1 == 0))] [] rfl ?_ ?_
  · refine sN (oM (v := (.int _ _)) rfl ?_)
    refine sN (oEq rfl rfl ?_)
    exact s0 (Wk.to (eC rfl (eC rfl (eC rfl (eC rfl eN)))) mN rfl (prK rfl))
  refine LH.cond (t := (r1 == 0)) rfl (fun hc6 => ?_) (fun hc6 => ?_)
  · replace h := iteT h hc6
    obtain ⟨r7, hr7, h⟩ := bindS h
    refine LH.loneT [(5, .int .i64 r7)] [] rfl ?_ ?_
    · refine sN (oFaS tf23_2 tk3 ts3 rfl rfl rfl ?_)
      refine sN (oLd rfl tk3 ta3 ?_)
      refine sN (oFaS tf23_2 tk3 ts3 rfl rfl rfl ?_)
      refine sN (oLd rfl tk3 ta3 ?_)
      refine sN (oCP (args := [.int .i64 p0.Seq, .int .i64 p1.Seq]) rfl isF34 rfl (sbR (sbR sbN)) (ref02_order_ok hr7) rfl ?_)
      refine sN (oA (v := (.int _ _)) rfl ?_)
      exact s0 (Wk.to (eC rfl eN) mN rfl (prK rfl))
    refine thenN ?_
    refine LH.seqT [(4, .int .i64 r7)] [] rfl ?_ ?_
    · refine sN (oM (v := (.int _ _)) rfl ?_)
      refine sN (oA (v := (.int _ _)) rfl ?_)
      exact s0 (Wk.to (eC rfl eN) mN rfl (prK rfl))
    refine LH.ret ?_
    obtain rfl := Option.some.inj h
    exact retE (congrArg Array.toList Try.results15) (lrT rfl (lr0 ⟨memN mN, rfl, prK rfl, Sub.rfl⟩))
  replace h := iteF h hc6
  refine LH.skip ?_
  refine thenN ?_
  refine LH.wk (Wk.to (el := [(5, .int .i64 r1)]) (ml := []) (eC rfl eN) mN rfl (prK rfl)) ?_
  refine LH.seqT [(4, .int .i64 r1)] [] rfl ?_ ?_
  · refine sN (oM (v := (.int _ _)) rfl ?_)
    refine sN (oA (v := (.int _ _)) rfl ?_)
    exact s0 (Wk.to (eC rfl eN) mN rfl (prK rfl))
  refine LH.ret ?_
  obtain rfl := Option.some.inj h
  exact retE (congrArg Array.toList Try.results15) (lrT rfl (lr0 ⟨memN mN, rfl, prK rfl, Sub.rfl⟩))

theorem stamp_compareIdentity_ok {F : Nat} {p0 : GStamp} {p1 : GStamp} {r : Int} (h : stamp_compareIdentity F p0 p1 = some r) : LCall Try.prog 48 [.agg [.int .i64 p0.Time, .int .i64 p0.Source, .int .i64 p0.Seq], .agg [.int .i64 p1.Time, .int .i64 p1.Source, .int .i64 p1.Seq]] (Mem.of []) (.int .i64 r) (Mem.of []) := by
  unfold stamp_compareIdentity at h
  refine bodyT Try.func48 rfl (by rw [Try.ntmps48]; exact Nat.le_of_ble_eq_true rfl) ?_
  refine LH.wk (Wk.to (el := [(0, .agg [.int .i64 p0.Time, .int .i64 p0.Source, .int .i64 p0.Seq]), (1, .agg [.int .i64 p1.Time, .int .i64 p1.Source, .int .i64 p1.Seq])]) (ml := []) (eC rfl (eC rfl eN)) mN rfl (prK rfl)) ?_
  refine LH.seqT [(2, .sptr [.int .i64 p0.Time, .int .i64 p0.Source, .int .i64 p0.Seq]), (3, .sptr [.int .i64 p1.Time, .int .i64 p1.Source, .int .i64 p1.Seq])] [] rfl ?_ ?_
  · refine sB (oBxR rfl rfl rfl rfl rfl ?_)
    refine sB (oBxR rfl rfl rfl rfl rfl ?_)
    refine sN (oA (v := (.int _ _)) rfl ?_)
    exact s0 (Wk.to (eC rfl (eC rfl eN)) mN rfl (prK rfl))
  obtain ⟨r1, hr1, h⟩ := bindS h
  obtain ⟨r2, hr2, h⟩ := bindS h
  obtain ⟨r3, hr3, h⟩ := bindS h
  refine LH.seqJM mixed [] [0, 0, 0, 0, 0, 0, 0, 0, 0, 0, 0, 0, 0] [(4, .int .i64 r3)] [] rfl rfl (by kernel_rfl) ?_ ?_
  · refine mN0 (oFaS tf23_1 tk3 ts3 rfl rfl rfl ⟨rfl, ?_⟩)
    refine mN0 (oLd rfl tk3 ta3 ⟨rfl, ?_⟩)
    refine mN0 (oFaS tf23_1 tk3 ts3 rfl rfl rfl ⟨rfl, ?_⟩)
    refine mN0 (oLd rfl tk3 ta3 ⟨rfl, ?_⟩)
    refine mN0 (oCP (args := [.int .i64 p0.Source, .int .i64 p1.Source]) rfl isF33 rfl (sbR (sbR sbN)) (cmp_Compare_int_ok hr1) rfl ⟨rfl, ?_⟩)
    refine mN0 (oFaS tf23_2 tk3 ts3 rfl rfl rfl ⟨rfl, ?_⟩)
    refine mN0 (oLd rfl tk3 ta3 ⟨rfl, ?_⟩)
    refine mN0 (oFaS tf23_2 tk3 ts3 rfl rfl rfl ⟨rfl, ?_⟩)
    refine mN0 (oLd rfl tk3 ta3 ⟨rfl, ?_⟩)
    refine mN0 (oCP (args := [.int .i64 p0.Seq, .int .i64 p1.Seq]) rfl isF33 rfl (sbR (sbR sbN)) (cmp_Compare_int_ok hr2) rfl ⟨rfl, ?_⟩)
    refine mN0 (oBS (f := (LV.int .i64)) (ys := [r1, r2]) te28 tr3 ts3 rfl rfl rfl okI ⟨rfl, ?_⟩)
    refine mN0 (oCP (args := [.lst 1 (List.map (LV.int .i64) [r1, r2])]) rfl isF32 rfl (sbR sbN) (cmp_Or_int_ok hr3) rfl ⟨rfl, ?_⟩)
    refine mN0 (oA (v := (.int _ _)) rfl ⟨rfl, ?_⟩)
    exact m0 (Wk.to (eC rfl eN) mN rfl (prK rfl))
  refine LH.ret ?_
  obtain rfl := Option.some.inj h
  exact retE (congrArg Array.toList Try.results48) (lrT rfl (lr0 ⟨memN mN, rfl, prK rfl, Sub.rfl⟩))

theorem stamp_groups_1_ok {F : Nat} {p0 : Int} {p1 : Int} {c0 : List GStamp} {r : Int} (h : stamp_groups_1 F p0 p1 c0 = some r) : LCall Try.prog 47 [.int .i64 p0, .int .i64 p1, .sptr [.lst 3 (List.map GStamp.lv c0)]] (Mem.of []) (.int .i64 r) (Mem.of []) := by
  unfold stamp_groups_1 at h
  refine bodyT Try.func47 rfl (by rw [Try.ntmps47]; exact Nat.le_of_ble_eq_true rfl) ?_
  refine LH.wk (Wk.to (el := [(0, .int .i64 p0), (1, .int .i64 p1), (2, .sptr [.lst 3 (List.map GStamp.lv c0)])]) (ml := []) (eC rfl (eC rfl (eC rfl eN))) mN rfl (prK rfl)) ?_
  refine LH.seqT [(0, .int .i64 p0), (1, .int .i64 p1), (2, .sptr [.lst 3 (List.map GStamp.lv c0)])] [] rfl ?_ ?_
  · refine sN (oA (v := (.int _ _)) rfl ?_)
    exact s0 (Wk.to (eC rfl (eC rfl (eC rfl eN))) mN rfl (prK rfl))
  obtain ⟨x1, hx1, h⟩ := bindS h
  obtain ⟨x2, hx2, h⟩ := bindS h
  obtain ⟨r3, hr3, h⟩ := bindS h
  obtain ⟨r4, hr4, h⟩ := bindS h
  obtain ⟨r5, hr5, h⟩ := bindS h
  refine LH.seqJM mixed [] [0, 0, 0, 0, 0, 0, 0, 0, 0, 0, 0, 0, 0, 0, 0] [(5, .int .i64 r5)] [] rfl rfl (by kernel_rfl) ?_ ?_
  · refine mN0 (oLd rfl tk31 ta31 ⟨rfl, ?_⟩)
    refine mN0 (oM (v := (.int _ _)) rfl ⟨rfl, ?_⟩)
    refine mN0 (oIx (f := GStamp.lv) te31 tk23 ts23 rfl rfl GStamp.ok hx1 rfl ⟨rfl, ?_⟩)
    refine mN0 (oLdA rfl tk23 ta23 ts23 rfl rfl ⟨rfl, ?_⟩)
    refine mN0 (oLd rfl tk31 ta31 ⟨rfl, ?_⟩)
    refine mN0 (oM (v := (.int _ _)) rfl ⟨rfl, ?_⟩)
    refine mN0 (oIx (f := GStamp.lv) te31 tk23 ts23 rfl rfl GStamp.ok hx2 rfl ⟨rfl, ?_⟩)
    refine mN0 (oLdA rfl tk23 ta23 ts23 rfl rfl ⟨rfl, ?_⟩)
    refine mN0 (oCP (args := [.agg [.int .i64 x1.Time, .int .i64 x1.Source, .int .i64 x1.Seq], .agg [.int .i64 x2.Time, .int .i64 x2.Source, .int .i64 x2.Seq]]) rfl isF48 rfl (sbR (sbR sbN)) (stamp_compareIdentity_ok hr3) rfl ⟨rfl, ?_⟩)
    refine mN0 (oM (v := (.int _ _)) rfl ⟨rfl, ?_⟩)
    refine mN0 (oM (v := (.int _ _)) rfl ⟨rfl, ?_⟩)
    refine mN0 (oCP (args := [.int .i64 p0, .int .i64 p1]) rfl isF33 rfl (sbR (sbR sbN)) (cmp_Compare_int_ok hr4) rfl ⟨rfl, ?_⟩)
    refine mN0 (oBS (f := (LV.int .i64)) (ys := [r3, r4]) te28 tr3 ts3 rfl rfl rfl okI ⟨rfl, ?_⟩)
    refine mN0 (oCP (args := [.lst 1 (List.map (LV.int .i64) [r3, r4])]) rfl isF32 rfl (sbR sbN) (cmp_Or_int_ok hr5) rfl ⟨rfl, ?_⟩)
    refine mN0 (oA (v := (.int _ _)) rfl ⟨rfl, ?_⟩)
    exact m0 (Wk.to (eC rfl eN) mN rfl (prK rfl))
  refine LH.ret ?_
  obtain rfl := Option.some.inj h
  exact retE (congrArg Array.toList Try.results47) (lrT rfl (lr0 ⟨memN mN, rfl, prK rfl, Sub.rfl⟩))

end Go.Proofs.Ytdkhlkihhdjbbaa
