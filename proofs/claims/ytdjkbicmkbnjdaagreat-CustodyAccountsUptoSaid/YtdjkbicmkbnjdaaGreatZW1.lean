import Derived.Test.YtdjkbicmkbnjdaaGreatZLb
import Derived.Test.YtdjkbicmkbnjdaaGreatZRow
import Derived.Test.YtdjkbicmkbnjdaaGreatZFacts
import Derived.Test.YtdjkbicmkbnjdaaGreatZEqs
import Derived.Test.YtdjkbicmkbnjdaaGreatZSort
import Derived.Test.YtdjkbicmkbnjdaaGreatZSh
set_option linter.unusedVariables false
set_option linter.unusedSimpArgs false
set_option maxRecDepth 100000
namespace Go.Proofs.YtdjkbicmkbnjdaaGreat
open Go.L Go.Sh
theorem q284q {p0 : List Int} {r : GTape} (h : make_New p0 = some r) : LCall Tryz.prog 7 [.L p0] (Mem.of []) (.ptr 110 0) (Mem.of [(110, .box [.L r.L, .I r.At])]) := by
  unfold make_New at h
  refine bodyT Tryz.func7 R (nT Tryz.ntmps7 R) (LH.wk (Wk.eq (el := [(0, .L p0)]) (ml := []) R R R R) (LH.seqT [(0, .L p0)] [] R (sN (oA (v := .nilp) R zS)) (LH.seq (LH.seqT [(0, .L p0), (5, .bool (decide ((p0.length : Int) > 600)))] [] R (sMl R (sN (oLnL (f := LV.I) te22 R (sN (oGt R R zS))))) (LH.cond (t := (decide ((p0.length : Int) > 600))) R (fun hc1 => ?_) (fun hc1 => ?_))))))
  ·replace h := iteT h hc1
   obtain ⟨v2, hv2, h⟩ := bindS h
   refine LH.loneT [(0, .L v2)] [] R (sMl R (sN (oSl (f := LV.I) te22 tk3 ts3 R R R hv2 (sAl R zS)))) (thenN (LH.seqT [(2, .ptr 110 0)] [(110, .box [.L v2, .I 0])] R (sMl R (sN (oBd (vs := [(0, .L v2)]) tu58 tz58 R (lf tf58_0 ts22 tk22 R R R lf0) (sN (oBx (id := 110) R R R R R R (sAp R zS)))))) (LH.ret ?_)))
   obtain rfl := oI h
   exact retE (aT Tryz.results7) (lrT R (lr0 ⟨memN (mC R mN), R, prK R, Sub.rfl⟩))
  replace h := iteF h hc1
  refine LH.skip (thenN (LH.seqT [(2, .ptr 110 0)] [(110, .box [.L p0, .I 0])] R (sMl R (sN (oBd (vs := [(0, .L p0)]) tu58 tz58 R (lf tf58_0 ts22 tk22 R R R lf0) (sN (oBx (id := 110) R R R R R R (sAp R zS)))))) (LH.ret ?_)))
  obtain rfl := oI h
  exact retE (aT Tryz.results7) (lrT R (lr0 ⟨memN (mC R mN), R, prK R, Sub.rfl⟩))
theorem q285q {p0 : List Int} {r : GTape} (h : make_New p0 = some r) : LCall Tryz.prog 7 [.L p0] (Mem.of []) (.ptr 7 0) (Mem.of [(7, .box [.L r.L, .I r.At])]) := LCall.renamePtr 7 rfl (q284q h)

theorem Gq26 {p0 : GTape} {r : Int × GTape} (h : Gq25 p0 = some r) : LCall Tryz.prog 49 [.ptr 7 0] (Mem.of [(7, .box [.L p0.L, .I p0.At])]) (.I r.1) (Mem.of [(7, .box [.L r.2.L, .I r.2.At])]) := by
  unfold Gq25 at h
  refine bodyT Tryz.func49 R (nT Tryz.ntmps49 R) (LH.wk (Wk.eq (el := [(0, .ptr 7 0)]) (ml := [(7, .box [.L p0.L, .I p0.At])]) R R R R) (LH.seqT [(0, .ptr 7 0)] [(7, .box [.L p0.L, .I p0.At])] R (sAi R zS) (LH.seq (LH.seqJM mixed [] [0, 0, 0, 1007, 0, 0, 0, 1007, 0, 0] [(0, .ptr 7 0), (12, .bool (decide (p0.At ≥ (p0.L.length : Int))))] [(7, .box [.L p0.L, .I p0.At])] R R (by kernel_rfl) (mMp R (mN0 (oNC R ⟨R, mN0 (oFa tf58_1 tk3 ts3 R R ⟨R, mD R R R (fun _ b _ d => oLdP R b R R tk3 ta3 d) (mMp R (mN0 (oNC R ⟨R, mN0 (oFa tf58_0 tk22 ts22 R R ⟨R, mD R R R (fun _ b _ d => oLdP R b R R tk22 ta22 d) (mN0 (oLnL (f := LV.I) te22 R ⟨R, mN0 (oGe R R ⟨R, zM⟩)⟩))⟩)⟩)))⟩)⟩))) (LH.cond (t := (decide (p0.At ≥ (p0.L.length : Int)))) R (fun hc1 => ?_) (fun hc1 => ?_))))))
  ·replace h := iteT h hc1
   refine LH.seqT [(2, .I 0)] [(7, .box [.L p0.L, .I p0.At])] R (sAi R zS) (LH.ret (thenR ?_))
   obtain rfl := oI h
   exact retE (aT Tryz.results49) (lrT R (lr0 ⟨memN (mC R mN), R, prK R, Sub.rfl⟩))
  replace h := iteF h hc1
  refine LH.skip (thenN (LH.seqT [(0, .ptr 7 0)] [(7, .box [.L p0.L, .I (i64 (p0.At + 1))])] R (sMp R (sN (oNC R (sN (oFa tf58_1 tk3 ts3 R R (sN (oLdP R R R R tk3 ta3 (sN (oAdd R R (sN (oNC R (sN (oFa tf58_1 tk3 ts3 R R (s_ (oSt R R R tk3 ts3 R R R zS))))))))))))))) ?_))
  obtain ⟨x2, hx2, h⟩ := bindS h
  refine LH.seqJM mixed [] [0, 0, 0, 1007, 0, 0, 0, 1007, 0, 0, 0, 0] [(2, .I x2)] [(7, .box [.L p0.L, .I (i64 (p0.At + 1))])] R R (by kernel_rfl) (mMp R (mN0 (oNC R ⟨R, mN0 (oFa tf58_0 tk22 ts22 R R ⟨R, mD R R R (fun _ b _ d => oLdP R b R R tk22 ta22 d) (mMp R (mN0 (oNC R ⟨R, mN0 (oFa tf58_1 tk3 ts3 R R ⟨R, mD R R R (fun _ b _ d => oLdP R b R R tk3 ta3 d) (mN0 (oSub R R ⟨R, mN0 (oIx (f := LV.I) te22 tk3 ts3 R R okI hx2 R ⟨R, mN0 (oLd R tk3 ta3 ⟨R, mAi R zM⟩)⟩)⟩))⟩)⟩)))⟩)⟩))) (LH.ret ?_)
  obtain rfl := oI h
  exact retE (aT Tryz.results49) (lrT R (lr0 ⟨memN (mC R mN), R, prK R, Sub.rfl⟩))

theorem q255q {p0 : Int} {p1 : Int} {r : Int} (h : make_Cut p0 p1 = some r) : LCall Tryz.prog 23 [.I p0, .I p1] (Mem.of []) (.I r) (Mem.of []) := by
  unfold make_Cut at h
  refine bodyT Tryz.func23 R (nT Tryz.ntmps23 R) (LH.wk (Wk.eq (el := [(0, .I p0), (1, .I p1)]) (ml := []) R R R R) (LH.seqT [(0, .I p0), (1, .I p1)] [] R (sAi R zS) (LH.seq (LH.seqT [(0, .I p0), (1, .I p1), (6, .bool (decide (p1 < 1)))] [] R (sMi R (sN (oLt R R zS))) (LH.cond (t := (decide (p1 < 1))) R (fun hc1 => ?_) (fun hc1 => ?_))))))
  ·replace h := iteT h hc1
   refine LH.seqT [(4, .I 0)] [] R (sAi R zS) (LH.ret (thenR ?_))
   obtain rfl := oI h
   exact retE (aT Tryz.results23) (lrT R (lr0 ⟨memN mN, R, prK R, Sub.rfl⟩))
  replace h := iteF h hc1
  refine LH.skip (thenN ?_)
  obtain ⟨v2, hv2, h⟩ := bindS h
  refine LH.seqT [(0, .I v2), (1, .I p1)] [] R (sMi R (sMi R (sN (oRem R R hv2 (sAi R zS))))) (LH.seq (LH.seqT [(0, .I v2), (1, .I p1), (11, .bool (decide (v2 < 0)))] [] R (sMi R (sN (oLt R R zS))) (LH.cond (t := (decide (v2 < 0))) R (fun hc3 => ?_) (fun hc3 => ?_))))
  ·replace h := iteT h hc3
   refine LH.loneT [(0, .I (i64 (v2 + p1)))] [] R (sMi R (sMi R (sN (oAdd R R (sAi R zS))))) (thenN (LH.seqT [(4, .I (i64 (v2 + p1)))] [] R (sMi R (sAi R zS)) (LH.ret ?_)))
   obtain rfl := oI h
   exact retE (aT Tryz.results23) (lrT R (lr0 ⟨memN mN, R, prK R, Sub.rfl⟩))
  replace h := iteF h hc3
  refine LH.skip (thenN (LH.seqT [(4, .I v2)] [] R (sMi R (sAi R zS)) (LH.ret ?_)))
  obtain rfl := oI h
  exact retE (aT Tryz.results23) (lrT R (lr0 ⟨memN mN, R, prK R, Sub.rfl⟩))

theorem Gq18 {p0 : GTape} {p1 : Int} {r : Int × GTape} (h : Gq17 p0 p1 = some r) : LCall Tryz.prog 26 [.ptr 7 0, .I p1] (Mem.of [(7, .box [.L p0.L, .I p0.At])]) (.I r.1) (Mem.of [(7, .box [.L r.2.L, .I r.2.At])]) := by
  unfold Gq17 at h
  refine bodyT Tryz.func26 R (nT Tryz.ntmps26 R) (LH.wk (Wk.eq (el := [(0, .ptr 7 0), (1, .I p1)]) (ml := [(7, .box [.L p0.L, .I p0.At])]) R R R R) (LH.seqT [(0, .ptr 7 0), (1, .I p1)] [(7, .box [.L p0.L, .I p0.At])] R (sAi R zS) ?_))
  obtain ⟨r1, hr1, h⟩ := bindS h
  obtain ⟨r2, hr2, h⟩ := bindS h
  refine LH.seqT [(4, .I r2)] [(7, .box [.L r1.2.L, .I r1.2.At])] R (sMp R (sN (oCM (args := [.ptr 7 0]) (ml := [(7, .box [.L p0.L, .I p0.At])]) (ml' := [(7, .box [.L r1.2.L, .I r1.2.At])]) R isF49 R (sbR sbN) (Gq26 hr1) (mC R mN) (newI R newN) R (sMi R (sN (oCP (args := [.I r1.1, .I p1]) R isF23 R (sbR (sbR sbN)) (q255q hr2) R (sAi R zS))))))) (LH.ret ?_)
  obtain rfl := oI h
  exact retE (aT Tryz.results26) (lrT R (lr0 ⟨memN (mC R mN), R, prK R, Sub.rfl⟩))

theorem Gq24 {p0 : GTape} {p1 : Int} {p2 : Int} {r : Int × GTape} (h : Gq23 p0 p1 p2 = some r) : LCall Tryz.prog 13 [.ptr 7 0, .I p1, .I p2] (Mem.of [(7, .box [.L p0.L, .I p0.At])]) (.I r.1) (Mem.of [(7, .box [.L r.2.L, .I r.2.At])]) := by
  unfold Gq23 at h
  refine bodyT Tryz.func13 R (nT Tryz.ntmps13 R) (LH.wk (Wk.eq (el := [(0, .ptr 7 0), (1, .I p1), (2, .I p2)]) (ml := [(7, .box [.L p0.L, .I p0.At])]) R R R R) (LH.seqT [(0, .ptr 7 0), (1, .I p1), (2, .I p2)] [(7, .box [.L p0.L, .I p0.At])] R (sAi R zS) ?_))
  obtain ⟨r1, hr1, h⟩ := bindS h
  refine LH.seqT [(6, .I (i64 (p1 + r1.1)))] [(7, .box [.L r1.2.L, .I r1.2.At])] R (sMi R (sMp R (sMi R (sMi R (sN (oSub R R (sN (oAdd R R (sN (oCM (args := [.ptr 7 0, .I (i64 ((i64 (p2 - p1)) + 1))]) (ml := [(7, .box [.L p0.L, .I p0.At])]) (ml' := [(7, .box [.L r1.2.L, .I r1.2.At])]) R isF26 R (sbR (sbR sbN)) (Gq18 hr1) (mC R mN) (newI R newN) R (sN (oAdd R R (sAi R zS))))))))))))) (LH.ret ?_)
  obtain rfl := oI h
  exact retE (aT Tryz.results13) (lrT R (lr0 ⟨memN (mC R mN), R, prK R, Sub.rfl⟩))

theorem Gq22 {p0 : GTape} {p1 : List Int} {r : Int × GTape} (h : Gq21 p0 p1 = some r) : LCall Tryz.prog 29 [.ptr 7 0, .L p1] (Mem.of [(7, .box [.L p0.L, .I p0.At])]) (.I r.1) (Mem.of [(7, .box [.L r.2.L, .I r.2.At])]) := by
  unfold Gq21 at h
  refine bodyT Tryz.func29 R (nT Tryz.ntmps29 R) (LH.wk (Wk.eq (el := [(0, .ptr 7 0), (1, .L p1)]) (ml := [(7, .box [.L p0.L, .I p0.At])]) R R R R) (LH.seqT [(0, .ptr 7 0), (1, .L p1)] [(7, .box [.L p0.L, .I p0.At])] R (sAi R zS) ?_))
  obtain ⟨r1, hr1, h⟩ := bindS h
  obtain ⟨x2, hx2, h⟩ := bindS h
  refine LH.seqT [(4, .I x2)] [(7, .box [.L r1.2.L, .I r1.2.At])] R (sMl R (sMp R (sMl R (sN (oLnL (f := LV.I) te22 R (sN (oCM (args := [.ptr 7 0, .I (p1.length : Int)]) (ml := [(7, .box [.L p0.L, .I p0.At])]) (ml' := [(7, .box [.L r1.2.L, .I r1.2.At])]) R isF26 R (sbR (sbR sbN)) (Gq18 hr1) (mC R mN) (newI R newN) R (sN (oIx (f := LV.I) te22 tk3 ts3 R R okI hx2 R (sN (oLd R tk3 ta3 (sAi R zS)))))))))))) (LH.ret ?_)
  obtain rfl := oI h
  exact retE (aT Tryz.results29) (lrT R (lr0 ⟨memN (mC R mN), R, prK R, Sub.rfl⟩))

theorem Gq30 {F : Nat} {p0 : GTape} {p1 : Int} {r : List Int × GTape} (h : Gq27 F p0 p1 = some r) : LCall Tryz.prog 30 [.ptr 7 0, .I p1] (Mem.of [(7, .box [.L p0.L, .I p0.At])]) (.arr 181 (List.length r.1)) (Mem.of [(7, .box [.L r.2.L, .I r.2.At]), (181, .arr 3 1 (List.map LV.I r.1))]) := by
  unfold Gq27 at h
  refine bodyT Tryz.func30 R (nT Tryz.ntmps30 R) (LH.wk (Wk.eq (el := [(0, .ptr 7 0), (1, .I p1)]) (ml := [(7, .box [.L p0.L, .I p0.At])]) R R R R) (LH.seqT [(0, .ptr 7 0), (1, .I p1)] [(7, .box [.L p0.L, .I p0.At])] R (sAn R zS) (LH.seqT [(0, .ptr 7 0), (1, .I p1), (5, .nil)] [(7, .box [.L p0.L, .I p0.At])] R (sAn R zS) (LH.seq (LH.seqT [(0, .ptr 7 0), (1, .I p1), (5, .nil), (6, .I 0)] [(7, .box [.L p0.L, .I p0.At])] R (sAi R zS) (LH.block (LH.wk ((Wk.trans (Wk.eq (el := [(0, .ptr 7 0), (1, .I p1), (5, .nil), (6, .I 0)]) (ml := [(7, .box [.L p0.L, .I p0.At])]) R R R R) (Wk.trans (Wk.eq (el := [(0, .ptr 7 0), (1, .I p1), (5, .nil), (6, .I 0)]) (ml := [(7, .box [.L p0.L, .I p0.At])]) R R R R) (Wk.trans (Wk.ownL (el' := [(0, .ptr 7 0), (1, .I p1), (5, .arr 118 (List.length ([] : List Int))), (6, .I 0)]) 118 3 1 R R (wK (wK (wO (wK wN))))) (Wk.eq (el := [(0, .ptr 7 0), (1, .I p1), (5, .arr 118 (List.length ([] : List Int))), (6, .I 0)]) (ml := [(7, .box [.L p0.L, .I p0.At]), (118, .arr 3 1 (List.map LV.I ([] : List Int)))]) R R R R))))) (LH.loop (fun n e m => ∃ (n1 : Int) (l2 : List Int) (n3 : Int) (l4 : List Int), Gq28 p1 n n1 l2 n3 l4 = some r ∧ e = Env.of [(0, .ptr 7 0), (1, .I p1), (5, .arr 118 (List.length l4)), (6, .I n1)] ∧ m = Mem.of [(7, .box [.L l2, .I n3]), (118, .arr 3 1 (List.map LV.I l4))]) F ⟨0, p0.L, p0.At, ([] : List Int), h, R, R⟩ ?_))))))))
  clear h
  rintro n e m ⟨n1, l2, n3, l4, h, rfl, rfl⟩
  rcases n with _ | n
  · cases (show Option.none = some _ from h)
  obtain ⟨rec1, hrec1⟩ : ∃ f, f = Gq28 p1 n := ⟨_, rfl⟩
  replace h : Gq29 p1 rec1 n1 l2 n3 l4 = some r := hrec1 ▸ h
  unfold Gq29 at h
  refine LH.seq (LH.seqT [(0, .ptr 7 0), (1, .I p1), (5, .arr 118 (List.length l4)), (6, .I n1), (9, .bool (decide (n1 < p1)))] [(7, .box [.L l2, .I n3]), (118, .arr 3 1 (List.map LV.I l4))] R (sMi R (sMi R (sN (oLt R R zS)))) (LH.cond (t := (decide (n1 < p1))) R (fun hc5 => ?_) (fun hc5 => ?_)))
  ·replace h := iteT h hc5
   refine LH.skip (thenN (LH.wk (Wk.eq (el := [(0, .ptr 7 0), (1, .I p1), (5, .arr 118 (List.length l4)), (6, .I n1)]) (ml := [(7, .box [.L l2, .I n3]), (118, .arr 3 1 (List.map LV.I l4))]) R R R R) (LH.seq (LH.block ?_))))
   obtain ⟨r6, hr6, h⟩ := bindS h
   refine LH.seqT [(0, .ptr 7 0), (1, .I p1), (5, .arr 118 (List.length l4)), (6, .I n1), (14, .bool (r6.1 == 1))] [(7, .box [.L r6.2.L, .I r6.2.At]), (118, .arr 3 1 (List.map LV.I l4))] R (sMp R (sN (oCM (args := [.ptr 7 0, .I 2]) (ml := [(7, .box [.L l2, .I n3])]) (ml' := [(7, .box [.L r6.2.L, .I r6.2.At])]) R isF26 R (sbR (sbR sbN)) (Gq18 hr6) (mC R mN) (newI R newN) R (sN (oEq R R zS))))) (LH.cond (t := (r6.1 == 1)) R (fun hc7 => ?_) (fun hc7 => ?_))
   ·replace h := iteT h hc7
    obtain ⟨v8, hv8, h⟩ := bindS h
    refine LH.loneT [(0, .ptr 7 0), (1, .I p1), (5, .arr 118 (List.length v8)), (6, .I n1)] [(7, .box [.L r6.2.L, .I r6.2.At]), (118, .arr 3 1 (List.map LV.I v8))] R (sMa R (sMi R (sN (oBS (f := LV.I) (ys := [n1]) te22 tr3 ts3 R R R okI (sN (oAp (f := LV.I) te22 tr3 ts3 R R (prN R) R hv8 (sAa R zS))))))) (blockN (thenN (LH.loneT [(0, .ptr 7 0), (1, .I p1), (5, .arr 118 (List.length v8)), (6, .I (i64 (n1 + 1)))] [(7, .box [.L r6.2.L, .I r6.2.At]), (118, .arr 3 1 (List.map LV.I v8))] R (sMi R (sN (oAdd R R (sAi R zS)))) ?_)))
    exact roundI ⟨(i64 (n1 + 1)), r6.2.L, r6.2.At, v8, hrec1 ▸ h, R, R⟩ (Wk.eq R R R R)
   replace h := iteF h hc7
   refine LH.skip (blockN (thenN (LH.loneT [(0, .ptr 7 0), (1, .I p1), (5, .arr 118 (List.length l4)), (6, .I (i64 (n1 + 1)))] [(7, .box [.L r6.2.L, .I r6.2.At]), (118, .arr 3 1 (List.map LV.I l4))] R (sMi R (sN (oAdd R R (sAi R zS)))) ?_)))
   exact roundI ⟨(i64 (n1 + 1)), r6.2.L, r6.2.At, l4, hrec1 ▸ h, R, R⟩ (Wk.eq R R R R)
  replace h := iteF h hc5
  refine LH.exit (thenX (roundX (blockH (thenN (LH.seqT [(4, .arr 118 (List.length l4))] [(7, .box [.L l2, .I n3]), (118, .arr 3 1 (List.map LV.I l4))] R (sMa R (sAa R zS)) (LH.wk ((Wk.trans (Wk.eq (el := [(4, .arr 118 (List.length l4))]) (ml := [(7, .box [.L l2, .I n3]), (118, .arr 3 1 (List.map LV.I l4))]) R R R R) (Wk.trans (Wk.ren 118 181 R R R R R (prN R)) (Wk.eq (el := [(4, .arr 181 (List.length l4))]) (ml := [(7, .box [.L l2, .I n3]), (181, .arr 3 1 (List.map LV.I l4))]) R R R R)))) (LH.ret ?_)))))))
  obtain rfl := oI h
  exact retE (aT Tryz.results30) (lrT R (lr0 ⟨memN (mC R (mC R mN)), R, prK R, Sub.rfl⟩))

theorem Gq20 {p0 : GTape} {p1 : Int} {r : Bool × GTape} (h : Gq19 p0 p1 = some r) : LCall Tryz.prog 31 [.ptr 7 0, .I p1] (Mem.of [(7, .box [.L p0.L, .I p0.At])]) (.bool r.1) (Mem.of [(7, .box [.L r.2.L, .I r.2.At])]) := by
  unfold Gq19 at h
  refine bodyT Tryz.func31 R (nT Tryz.ntmps31 R) (LH.wk (Wk.eq (el := [(0, .ptr 7 0), (1, .I p1)]) (ml := [(7, .box [.L p0.L, .I p0.At])]) R R R R) (LH.seqT [(0, .ptr 7 0), (1, .I p1)] [(7, .box [.L p0.L, .I p0.At])] R (sAb R zS) ?_))
  obtain ⟨r1, hr1, h⟩ := bindS h
  refine LH.seqT [(4, .bool (r1.1 == (i64 (p1 - 1))))] [(7, .box [.L r1.2.L, .I r1.2.At])] R (sMp R (sMi R (sN (oCM (args := [.ptr 7 0, .I p1]) (ml := [(7, .box [.L p0.L, .I p0.At])]) (ml' := [(7, .box [.L r1.2.L, .I r1.2.At])]) R isF26 R (sbR (sbR sbN)) (Gq18 hr1) (mC R mN) (newI R newN) R (sMi R (sN (oSub R R (sN (oEq R R (sAb R zS)))))))))) (LH.ret ?_)
  obtain rfl := oI h
  exact retE (aT Tryz.results31) (lrT R (lr0 ⟨memN (mC R mN), R, prK R, Sub.rfl⟩))

theorem Gq34 {p0 : GTape} {r : Int × GTape} (h : Gq33 p0 = some r) : LCall Tryz.prog 54 [.ptr 7 0] (Mem.of [(7, .box [.L p0.L, .I p0.At])]) (.I r.1) (Mem.of [(7, .box [.L r.2.L, .I r.2.At])]) := by
  unfold Gq33 at h
  refine bodyT Tryz.func54 R (nT Tryz.ntmps54 R) (LH.wk (Wk.eq (el := [(0, .ptr 7 0)]) (ml := [(7, .box [.L p0.L, .I p0.At])]) R R R R) (LH.seqT [(0, .ptr 7 0)] [(7, .box [.L p0.L, .I p0.At])] R (sAi R zS) ?_))
  obtain ⟨r1, hr1, h⟩ := bindS h
  refine LH.seqT [(2, .I r1.1)] [(7, .box [.L r1.2.L, .I r1.2.At])] R (sMp R (sN (oBS (f := LV.I) (ys := [(-1), 0, 1, 2, 31, 32, 99, 100, 200, 201, 9999, 10000, 1000000, 1000001, 1152921504606846976, 1152921504606846977, (-1152921504606846976), 9223372036854775807, (-9223372036854775808)]) te22 tr3 ts3 R R R okI (sN (oCM (args := [.ptr 7 0, .L [(-1), 0, 1, 2, 31, 32, 99, 100, 200, 201, 9999, 10000, 1000000, 1000001, 1152921504606846976, 1152921504606846977, (-1152921504606846976), 9223372036854775807, (-9223372036854775808)]]) (ml := [(7, .box [.L p0.L, .I p0.At])]) (ml' := [(7, .box [.L r1.2.L, .I r1.2.At])]) R isF29 R (sbR (sbR sbN)) (Gq22 hr1) (mC R mN) (newI R newN) R (sAi R zS)))))) (LH.ret ?_)
  obtain rfl := oI h
  exact retE (aT Tryz.results54) (lrT R (lr0 ⟨memN (mC R mN), R, prK R, Sub.rfl⟩))

theorem Gq32 {p0 : GTape} {p1 : Int} {r : Gq3 × GTape} (h : Gq31 p0 p1 = some r) : LCall Tryz.prog 32 [.ptr 7 0, .I p1] (Mem.of [(7, .box [.L p0.L, .I p0.At])]) (.agg [.I r.1.Time, .I r.1.Source, .I r.1.Seq]) (Mem.of [(7, .box [.L r.2.L, .I r.2.At])]) := by
  unfold Gq31 at h
  refine bodyT Tryz.func32 R (nT Tryz.ntmps32 R) (LH.wk (Wk.eq (el := [(0, .ptr 7 0), (1, .I p1)]) (ml := [(7, .box [.L p0.L, .I p0.At])]) R R R R) (LH.seqT [(0, .ptr 7 0), (1, .I p1), (4, .ptr 104 0)] [(7, .box [.L p0.L, .I p0.At]), (104, .box [.I 0, .I 0, .I 0])] R (sN (oAl (id := 104) R tz50 R R zS)) ?_))
  obtain ⟨r1, hr1, h⟩ := bindS h
  obtain ⟨r2, hr2, h⟩ := bindS h
  obtain ⟨r3, hr3, h⟩ := bindS h
  refine LH.seqT [(0, .ptr 7 0), (1, .I p1), (4, .ptr 104 0), (5, .ptr 105 0)] [(7, .box [.L r3.2.L, .I r3.2.At]), (104, .box [.I 0, .I 0, .I 0]), (105, .box [.I r1.1, .I r2.1, .I r3.1])] R (sMp R (sN (oCM (args := [.ptr 7 0, .I 0, .I 24]) (ml := [(7, .box [.L p0.L, .I p0.At])]) (ml' := [(7, .box [.L r1.2.L, .I r1.2.At])]) R isF13 R (sbR (sbR (sbR sbN))) (Gq24 hr1) (mC R mN) (newI R newN) R (sMp R (sN (oCM (args := [.ptr 7 0, .I 0, .I 3]) (ml := [(7, .box [.L r1.2.L, .I r1.2.At])]) (ml' := [(7, .box [.L r2.2.L, .I r2.2.At])]) R isF13 R (sbR (sbR (sbR sbN))) (Gq24 hr2) (mC R mN) (newI R newN) R (sMp R (sN (oCM (args := [.ptr 7 0, .I 0, .I 9]) (ml := [(7, .box [.L r2.2.L, .I r2.2.At])]) (ml' := [(7, .box [.L r3.2.L, .I r3.2.At])]) R isF13 R (sbR (sbR (sbR sbN))) (Gq24 hr3) (mC R mN) (newI R newN) R (sN (oBd (vs := [(0, .I r1.1), (1, .I r2.1), (2, .I r3.1)]) tu50 tz50 R (lf tf50_0 ts3 tk3 R R R (lf tf50_1 ts3 tk3 R R R (lf tf50_2 ts3 tk3 R R R lf0))) (sN (oAl (id := 105) R tz50 R R (s_ (oSt R R R tk50 ts50 R R R zS))))))))))))))) (LH.seq ?_)
  obtain ⟨w7, hv, h⟩ := bindS h
  refine LH.seqT [(0, .ptr 7 0), (4, .ptr 104 0), (5, .ptr 105 0), (19, .bool w7.1)] [(7, .box [.L w7.2.1, .I w7.2.2]), (104, .box [.I 0, .I 0, .I 0]), (105, .box [.I r1.1, .I r2.1, .I r3.1])] R ?_ ?_
  ·refine sMi R (sN (oGt R R (sMb R ?_)))
   by_cases hb8 : (decide (p1 > 0)) = true
   ·replace hv := iteT hv hb8
    refine sT R (cB hb8) (oM (v := (.ptr _ _)) R (sT R (cB hb8) (oM (v := (.int _ _)) R ?_)))
    obtain ⟨r9, hr9, hv⟩ := bindS hv
    refine sT R (cB hb8) (oCM (args := [.ptr 7 0, .I p1]) (ml := [(7, .box [.L r3.2.L, .I r3.2.At])]) (ml' := [(7, .box [.L r9.2.L, .I r9.2.At])]) R isF31 R (sbR (sbR sbN)) (Gq20 hr9) (mC R mN) (newI R newN) R (sN (oPkT (cB hb8) (v := (.bool _)) R ?_)))
    obtain rfl := oI hv
    exact zS
   ·replace hb8 := bF hb8
    replace hv := iteF hv hb8
    refine sF R R hb8 (sF R R hb8 (sF R R hb8 (sN (oPkF (cB hb8) (v := (.bool _)) R ?_))))
    obtain rfl := oI hv
    exact zS
  clear hv
  refine LH.cond (t := w7.1) R (fun hc10 => ?_) (fun hc10 => ?_)
  ·replace h := iteT h hc10
   obtain ⟨r11, hr11, h⟩ := bindS h
   refine LH.seqT [(0, .ptr 7 0), (4, .ptr 104 0), (5, .ptr 105 0), (21, .I r11.1)] [(7, .box [.L r11.2.L, .I r11.2.At]), (104, .box [.I 0, .I 0, .I 0]), (105, .box [.I r1.1, .I r2.1, .I r3.1])] R (sMp R (sN (oCM (args := [.ptr 7 0, .I 3]) (ml := [(7, .box [.L w7.2.1, .I w7.2.2])]) (ml' := [(7, .box [.L r11.2.L, .I r11.2.At])]) R isF26 R (sbR (sbR sbN)) (Gq18 hr11) (mC R mN) (newI R newN) R zS))) (LH.block (LH.seqT [(0, .ptr 7 0), (4, .ptr 104 0), (5, .ptr 105 0), (21, .I r11.1), (25, .bool (r11.1 == 0))] [(7, .box [.L r11.2.L, .I r11.2.At]), (104, .box [.I 0, .I 0, .I 0]), (105, .box [.I r1.1, .I r2.1, .I r3.1])] R (sN (oEq R R (sAb R zS))) (LH.cond (t := (r11.1 == 0)) R (fun hc12 => ?_) (fun hc12 => ?_))))
   ·replace h := iteT h hc12
    obtain ⟨r13, hr13, h⟩ := bindS h
    refine LH.loneT [(4, .ptr 104 0), (5, .sptr [.I r13.1, .I r2.1, .I r3.1])] [(7, .box [.L r13.2.L, .I r13.2.At]), (104, .box [.I 0, .I 0, .I 0])] R (sMp R (sN (oCM (args := [.ptr 7 0]) (ml := [(7, .box [.L r11.2.L, .I r11.2.At])]) (ml' := [(7, .box [.L r13.2.L, .I r13.2.At])]) R isF54 R (sbR sbN) (Gq34 hr13) (mC R mN) (newI R newN) R (sN (oFa tf50_0 tk3 ts3 R R (s_ (oSt R R R tk3 ts3 R R R (s0 ((Wk.trans (Wk.eq (el := [(4, .ptr 104 0), (5, .ptr 105 0)]) (ml := [(7, .box [.L r13.2.L, .I r13.2.At]), (104, .box [.I 0, .I 0, .I 0]), (105, .box [.I r13.1, .I r2.1, .I r3.1])]) R R R R) (Wk.trans (Wk.frzB 105 [.I r13.1, .I r2.1, .I r3.1] R R R (prN R)) (Wk.eq R R R R)))))))))))) (blockN (thenN (LH.seqT [(4, .sptr [.I r13.1, .I r2.1, .I r3.1])] [(7, .box [.L r13.2.L, .I r13.2.At])] R (sN (oLdA R tk50 ta50 ts50 R R (s_ (oSt R R R tk50 ts50 R R R (s0 ((Wk.trans (Wk.eq (el := [(4, .ptr 104 0)]) (ml := [(7, .box [.L r13.2.L, .I r13.2.At]), (104, .box [.I r13.1, .I r2.1, .I r3.1])]) R R R R) (Wk.trans (Wk.frzB 104 [.I r13.1, .I r2.1, .I r3.1] R R R (prN R)) (Wk.eq R R R R))))))))) (LH.ret ?_))))
    obtain rfl := oI h
    exact retE (aT Tryz.results32) (lrSA R tk50 ta50 ts50 R R (lr0 ⟨memN (mC R mN), R, prK R, Sub.rfl⟩))
   replace h := iteF h hc12
   refine LH.seqT [(0, .ptr 7 0), (4, .ptr 104 0), (5, .ptr 105 0), (30, .bool (r11.1 == 1))] [(7, .box [.L r11.2.L, .I r11.2.At]), (104, .box [.I 0, .I 0, .I 0]), (105, .box [.I r1.1, .I r2.1, .I r3.1])] R (sN (oEq R R (sAb R zS))) (LH.cond (t := (r11.1 == 1)) R (fun hc14 => ?_) (fun hc14 => ?_))
   ·replace h := iteT h hc14
    obtain ⟨r15, hr15, h⟩ := bindS h
    refine LH.loneT [(4, .ptr 104 0), (5, .sptr [.I r1.1, .I r15.1, .I r3.1])] [(7, .box [.L r15.2.L, .I r15.2.At]), (104, .box [.I 0, .I 0, .I 0])] R (sMp R (sN (oCM (args := [.ptr 7 0]) (ml := [(7, .box [.L r11.2.L, .I r11.2.At])]) (ml' := [(7, .box [.L r15.2.L, .I r15.2.At])]) R isF54 R (sbR sbN) (Gq34 hr15) (mC R mN) (newI R newN) R (sN (oFa tf50_1 tk3 ts3 R R (s_ (oSt R R R tk3 ts3 R R R (s0 ((Wk.trans (Wk.eq (el := [(4, .ptr 104 0), (5, .ptr 105 0)]) (ml := [(7, .box [.L r15.2.L, .I r15.2.At]), (104, .box [.I 0, .I 0, .I 0]), (105, .box [.I r1.1, .I r15.1, .I r3.1])]) R R R R) (Wk.trans (Wk.frzB 105 [.I r1.1, .I r15.1, .I r3.1] R R R (prN R)) (Wk.eq R R R R)))))))))))) (blockN (thenN (LH.seqT [(4, .sptr [.I r1.1, .I r15.1, .I r3.1])] [(7, .box [.L r15.2.L, .I r15.2.At])] R (sN (oLdA R tk50 ta50 ts50 R R (s_ (oSt R R R tk50 ts50 R R R (s0 ((Wk.trans (Wk.eq (el := [(4, .ptr 104 0)]) (ml := [(7, .box [.L r15.2.L, .I r15.2.At]), (104, .box [.I r1.1, .I r15.1, .I r3.1])]) R R R R) (Wk.trans (Wk.frzB 104 [.I r1.1, .I r15.1, .I r3.1] R R R (prN R)) (Wk.eq R R R R))))))))) (LH.ret ?_))))
    obtain rfl := oI h
    exact retE (aT Tryz.results32) (lrSA R tk50 ta50 ts50 R R (lr0 ⟨memN (mC R mN), R, prK R, Sub.rfl⟩))
   replace h := iteF h hc14
   obtain ⟨r16, hr16, h⟩ := bindS h
   refine LH.loneT [(4, .ptr 104 0), (5, .sptr [.I r1.1, .I r2.1, .I r16.1])] [(7, .box [.L r16.2.L, .I r16.2.At]), (104, .box [.I 0, .I 0, .I 0])] R (sMp R (sN (oCM (args := [.ptr 7 0]) (ml := [(7, .box [.L r11.2.L, .I r11.2.At])]) (ml' := [(7, .box [.L r16.2.L, .I r16.2.At])]) R isF54 R (sbR sbN) (Gq34 hr16) (mC R mN) (newI R newN) R (sN (oFa tf50_2 tk3 ts3 R R (s_ (oSt R R R tk3 ts3 R R R (s0 ((Wk.trans (Wk.eq (el := [(4, .ptr 104 0), (5, .ptr 105 0)]) (ml := [(7, .box [.L r16.2.L, .I r16.2.At]), (104, .box [.I 0, .I 0, .I 0]), (105, .box [.I r1.1, .I r2.1, .I r16.1])]) R R R R) (Wk.trans (Wk.frzB 105 [.I r1.1, .I r2.1, .I r16.1] R R R (prN R)) (Wk.eq R R R R)))))))))))) (blockN (thenN (LH.seqT [(4, .sptr [.I r1.1, .I r2.1, .I r16.1])] [(7, .box [.L r16.2.L, .I r16.2.At])] R (sN (oLdA R tk50 ta50 ts50 R R (s_ (oSt R R R tk50 ts50 R R R (s0 ((Wk.trans (Wk.eq (el := [(4, .ptr 104 0)]) (ml := [(7, .box [.L r16.2.L, .I r16.2.At]), (104, .box [.I r1.1, .I r2.1, .I r16.1])]) R R R R) (Wk.trans (Wk.frzB 104 [.I r1.1, .I r2.1, .I r16.1] R R R (prN R)) (Wk.eq R R R R))))))))) (LH.ret ?_))))
   obtain rfl := oI h
   exact retE (aT Tryz.results32) (lrSA R tk50 ta50 ts50 R R (lr0 ⟨memN (mC R mN), R, prK R, Sub.rfl⟩))
  replace h := iteF h hc10
  refine LH.skip (thenN (LH.wk ((Wk.trans (Wk.eq (el := [(4, .ptr 104 0), (5, .ptr 105 0)]) (ml := [(7, .box [.L w7.2.1, .I w7.2.2]), (104, .box [.I 0, .I 0, .I 0]), (105, .box [.I r1.1, .I r2.1, .I r3.1])]) R R R R) (Wk.trans (Wk.frzB 105 [.I r1.1, .I r2.1, .I r3.1] R R R (prN R)) (Wk.eq (el := [(4, .ptr 104 0), (5, .sptr [.I r1.1, .I r2.1, .I r3.1])]) (ml := [(7, .box [.L w7.2.1, .I w7.2.2]), (104, .box [.I 0, .I 0, .I 0])]) R R R R)))) (LH.seqT [(4, .sptr [.I r1.1, .I r2.1, .I r3.1])] [(7, .box [.L w7.2.1, .I w7.2.2])] R (sN (oLdA R tk50 ta50 ts50 R R (s_ (oSt R R R tk50 ts50 R R R (s0 ((Wk.trans (Wk.eq (el := [(4, .ptr 104 0)]) (ml := [(7, .box [.L w7.2.1, .I w7.2.2]), (104, .box [.I r1.1, .I r2.1, .I r3.1])]) R R R R) (Wk.trans (Wk.frzB 104 [.I r1.1, .I r2.1, .I r3.1] R R R (prN R)) (Wk.eq R R R R))))))))) (LH.ret ?_))))
  obtain rfl := oI h
  exact retE (aT Tryz.results32) (lrSA R tk50 ta50 ts50 R R (lr0 ⟨memN (mC R mN), R, prK R, Sub.rfl⟩))

set_option maxHeartbeats 4000000 in
theorem Gq12 {F : Nat} {p0 : GTape} {p1 : Int} {p2 : Int} {r : List Gq0 × GTape} (h : Gq4 F p0 p1 p2 = some r) : LCall Tryz.prog 8 [.ptr 7 0, .I p1, .I p2] (Mem.of [(7, .box [.L p0.L, .I p0.At])]) (.lst 9 (List.map Gq0.lv r.1)) (Mem.of [(7, .box [.L r.2.L, .I r.2.At])]) := by
  unfold Gq4 at h
  refine bodyT Tryz.func8 R (nT Tryz.ntmps8 R) (LH.wk (Wk.eq (el := [(0, .ptr 7 0), (1, .I p1), (2, .I p2)]) (ml := [(7, .box [.L p0.L, .I p0.At])]) R R R R) (LH.seqT [(0, .ptr 7 0), (1, .I p1), (2, .I p2)] [(7, .box [.L p0.L, .I p0.At])] R (sAn R zS) (LH.seqT [(0, .ptr 7 0), (1, .I p1), (2, .I p2), (7, .nil)] [(7, .box [.L p0.L, .I p0.At])] R (sAn R zS) (LH.seqT [(0, .ptr 7 0), (1, .I p1), (2, .I p2), (7, .nil), (8, .arr 114 (List.length [(-1), (-1), (-1)]))] [(7, .box [.L p0.L, .I p0.At]), (114, .arr 3 1 (List.map LV.I [(-1), (-1), (-1)]))] R (sX (ok_bsA (g := LV.I) (ys := [(-1), (-1), (-1)]) (id := 114) te22 tr3 ts3 R R R okI R) (sAa R zS)) (LH.seqT [(0, .ptr 7 0), (1, .I p1), (2, .I p2), (7, .nil), (8, .arr 114 (List.length [(-1), (-1), (-1)])), (9, .arr 115 (List.length [0, 0, 0]))] [(7, .box [.L p0.L, .I p0.At]), (114, .arr 3 1 (List.map LV.I [(-1), (-1), (-1)])), (115, .arr 3 1 (List.map LV.I [0, 0, 0]))] R (sX (ok_bsA (g := LV.I) (ys := [0, 0, 0]) (id := 115) te22 tr3 ts3 R R R okI R) (sAa R zS)) (LH.seq ?_))))))
  obtain ⟨r1, hr1, h⟩ := bindS h
  refine LH.seqT [(0, .ptr 7 0), (2, .I p2), (7, .nil), (8, .arr 114 (List.length [(-1), (-1), (-1)])), (9, .arr 115 (List.length [0, 0, 0])), (10, .I r1.1)] [(7, .box [.L r1.2.L, .I r1.2.At]), (114, .arr 3 1 (List.map LV.I [(-1), (-1), (-1)])), (115, .arr 3 1 (List.map LV.I [0, 0, 0]))] R (sMp R (sMi R (sN (oCM (args := [.ptr 7 0, .I 0, .I p1]) (ml := [(7, .box [.L p0.L, .I p0.At])]) (ml' := [(7, .box [.L r1.2.L, .I r1.2.At])]) R isF13 R (sbR (sbR (sbR sbN))) (Gq24 hr1) (mC R mN) (newI R newN) R (sAi R zS))))) (LH.block (LH.wk ((Wk.trans (Wk.eq (el := [(0, .ptr 7 0), (2, .I p2), (7, .nil), (8, .arr 114 (List.length [(-1), (-1), (-1)])), (9, .arr 115 (List.length [0, 0, 0])), (10, .I r1.1)]) (ml := [(7, .box [.L r1.2.L, .I r1.2.At]), (114, .arr 3 1 (List.map LV.I [(-1), (-1), (-1)])), (115, .arr 3 1 (List.map LV.I [0, 0, 0]))]) R R R R) (Wk.trans (Wk.eq (el := [(0, .ptr 7 0), (2, .I p2), (7, .nil), (8, .arr 114 (List.length [(-1), (-1), (-1)])), (9, .arr 115 (List.length [0, 0, 0])), (10, .I r1.1)]) (ml := [(7, .box [.L r1.2.L, .I r1.2.At]), (114, .arr 3 1 (List.map LV.I [(-1), (-1), (-1)])), (115, .arr 3 1 (List.map LV.I [0, 0, 0]))]) R R R R) (Wk.trans (Wk.ownL (el' := [(0, .ptr 7 0), (2, .I p2), (7, .arr 282 (List.length ([] : List Gq0))), (8, .arr 114 (List.length [(-1), (-1), (-1)])), (9, .arr 115 (List.length [0, 0, 0])), (10, .I r1.1)]) 282 52 9 R R (wK (wK (wO (wK (wK (wK wN))))))) (Wk.eq (el := [(0, .ptr 7 0), (2, .I p2), (7, .arr 282 (List.length ([] : List Gq0))), (8, .arr 114 (List.length [(-1), (-1), (-1)])), (9, .arr 115 (List.length [0, 0, 0])), (10, .I r1.1)]) (ml := [(7, .box [.L r1.2.L, .I r1.2.At]), (114, .arr 3 1 (List.map LV.I [(-1), (-1), (-1)])), (115, .arr 3 1 (List.map LV.I [0, 0, 0])), (282, .arr 52 9 (List.map Gq0.lv ([] : List Gq0)))]) R R R R))))) (LH.loop (fun n e m => ∃ (n2 : Int) (l3 : List Int) (n4 : Int) (l5 : List Int) (l6 : List Int) (l7 : List Gq0), Gq8 F p2 n n2 l3 n4 l5 l6 l7 = some r ∧ e = Env.of [(0, .ptr 7 0), (2, .I p2), (7, .arr 282 (List.length l7)), (8, .arr 114 (List.length l5)), (9, .arr 115 (List.length l6)), (10, .I n2)] ∧ m = Mem.of [(7, .box [.L l3, .I n4]), (114, .arr 3 1 (List.map LV.I l5)), (115, .arr 3 1 (List.map LV.I l6)), (282, .arr 52 9 (List.map Gq0.lv l7))]) F ⟨r1.1, r1.2.L, r1.2.At, [(-1), (-1), (-1)], [0, 0, 0], ([] : List Gq0), h, R, R⟩ ?_)))
  clear h
  rintro n e m ⟨n2, l3, n4, l5, l6, l7, h, rfl, rfl⟩
  rcases n with _ | n
  · cases (show Option.none = some _ from h)
  obtain ⟨rec1, hrec1⟩ : ∃ f, f = Gq8 F p2 n := ⟨_, rfl⟩
  replace h : Gq9 F p2 rec1 n2 l3 n4 l5 l6 l7 = some r := hrec1 ▸ h
  unfold Gq9 at h
  refine LH.seq (LH.seqT [(0, .ptr 7 0), (2, .I p2), (7, .arr 282 (List.length l7)), (8, .arr 114 (List.length l5)), (9, .arr 115 (List.length l6)), (10, .I n2), (20, .bool (decide (n2 > 0)))] [(7, .box [.L l3, .I n4]), (114, .arr 3 1 (List.map LV.I l5)), (115, .arr 3 1 (List.map LV.I l6)), (282, .arr 52 9 (List.map Gq0.lv l7))] R (sMi R (sN (oGt R R zS))) (LH.cond (t := (decide (n2 > 0))) R (fun hc8 => ?_) (fun hc8 => ?_)))
  ·replace h := iteT h hc8
   refine LH.skip (thenN (LH.wk (Wk.eq (el := [(0, .ptr 7 0), (2, .I p2), (7, .arr 282 (List.length l7)), (8, .arr 114 (List.length l5)), (9, .arr 115 (List.length l6)), (10, .I n2)]) (ml := [(7, .box [.L l3, .I n4]), (114, .arr 3 1 (List.map LV.I l5)), (115, .arr 3 1 (List.map LV.I l6)), (282, .arr 52 9 (List.map Gq0.lv l7))]) R R R R) (LH.seq (LH.block ?_))))
   obtain ⟨r9, hr9, h⟩ := bindS h
   refine LH.seqT [(0, .ptr 7 0), (2, .I p2), (7, .arr 282 (List.length l7)), (8, .arr 114 (List.length l5)), (9, .arr 115 (List.length l6)), (10, .I n2), (11, .I r9.1)] [(7, .box [.L r9.2.L, .I r9.2.At]), (114, .arr 3 1 (List.map LV.I l5)), (115, .arr 3 1 (List.map LV.I l6)), (282, .arr 52 9 (List.map Gq0.lv l7))] R (sMp R (sN (oCM (args := [.ptr 7 0, .I 3]) (ml := [(7, .box [.L l3, .I n4])]) (ml' := [(7, .box [.L r9.2.L, .I r9.2.At])]) R isF26 R (sbR (sbR sbN)) (Gq18 hr9) (mC R mN) (newI R newN) R (sAi R zS)))) ?_
   obtain ⟨r10, hr10, h⟩ := bindS h
   obtain ⟨r11, hr11, h⟩ := bindS h
   obtain ⟨x12, hx12, h⟩ := bindS h
   obtain ⟨x13, hx13, h⟩ := bindS h
   obtain ⟨r14, hr14, h⟩ := bindS h
   refine LH.seqJM mixed [] [0, 1282, 0, 100007, 0, 1282, 0, 0, 0, 100007, 0, 0, 0, 1115, 1115, 0, 0, 1114, 1114, 0, 0, 100007, 0, 2, 100112] [(0, .ptr 7 0), (2, .I p2), (7, .arr 282 (List.length l7)), (8, .arr 114 (List.length l5)), (9, .arr 115 (List.length l6)), (10, .I n2), (11, .I r9.1), (12, .ptr 112 0)] [(7, .box [.L r14.2.L, .I r14.2.At]), (112, .box [.I (l7.length : Int), .I r10.1, .I (l7.length : Int), .I r11.1, .I r9.1, .I x12, .I x13, .I r14.1, .nil]), (114, .arr 3 1 (List.map LV.I l5)), (115, .arr 3 1 (List.map LV.I l6)), (282, .arr 52 9 (List.map Gq0.lv l7))] R R (by kernel_rfl) ?_ ?_
   ·exact mMa R (mD R R R (fun _ b _ d => oLnA (f := Gq0.lv) te25 R b d) (mMp R (mW R R R (fun _ b _ d => oCM (args := [.ptr 7 0, .I 2]) (ml := [(7, .box [.L r9.2.L, .I r9.2.At])]) (ml' := [(7, .box [.L r10.2.L, .I r10.2.At])]) R isF26 R (sbR (sbR sbN)) (Gq18 hr10) (mC b mN) (newI R newN) R d) (mMa R (mD R R R (fun _ b _ d => oLnA (f := Gq0.lv) te25 R b d) (mN0 (oBd (vs := [(0, .I (l7.length : Int)), (1, .I r10.1), (2, .I (l7.length : Int))]) tu50 tz50 R (lf tf50_0 ts3 tk3 R R R (lf tf50_1 ts3 tk3 R R R (lf tf50_2 ts3 tk3 R R R lf0))) ⟨R, mMp R (mN0 (oBS (f := LV.I) (ys := [2, 2, 3, 4]) te22 tr3 ts3 R R R okI ⟨R, mW R R R (fun _ b _ d => oCM (args := [.ptr 7 0, .L [2, 2, 3, 4]]) (ml := [(7, .box [.L r10.2.L, .I r10.2.At])]) (ml' := [(7, .box [.L r11.2.L, .I r11.2.At])]) R isF29 R (sbR (sbR sbN)) (Gq22 hr11) (mC b mN) (newI R newN) R d) (mMi R (mMa R (mMi R (mD R R R (fun _ b _ d => oIxA (f := LV.I) te22 tk3 ts3 R b R hx12 d) (mD R R R (fun _ b _ d => oLdE (f := LV.I) R b (idxOk hx12).2 R R R tk3 ta3 d) (mMa R (mMi R (mD R R R (fun _ b _ d => oIxA (f := LV.I) te22 tk3 ts3 R b R hx13 d) (mD R R R (fun _ b _ d => oLdE (f := LV.I) R b (idxOk hx13).2 R R R tk3 ta3 d) (mMp R (mN0 (oBS (f := LV.I) (ys := [0, 0, 1, 2]) te22 tr3 ts3 R R R okI ⟨R, mW R R R (fun _ b _ d => oCM (args := [.ptr 7 0, .L [0, 0, 1, 2]]) (ml := [(7, .box [.L r11.2.L, .I r11.2.At])]) (ml' := [(7, .box [.L r14.2.L, .I r14.2.At])]) R isF29 R (sbR (sbR sbN)) (Gq22 hr14) (mC b mN) (newI R newN) R d) (mN0 (oBd (vs := [(0, .agg [.I (l7.length : Int), .I r10.1, .I (l7.length : Int)]), (1, .I r11.1), (2, .I r9.1), (3, .I x12), (4, .I x13), (5, .I r14.1)]) tu52 tz52 R (lf tf52_0 ts50 tk50 R R R (lf tf52_1 ts3 tk3 R R R (lf tf52_2 ts3 tk3 R R R (lf tf52_3 ts3 tk3 R R R (lf tf52_4 ts3 tk3 R R R (lf tf52_5 ts3 tk3 R R R lf0)))))) ⟨R, mN2 (oAl (id := 112) R tz52 R R (mS R R R (fun _ b _ d => oSt R R R tk52 ts52 b R R d) zM))⟩))⟩))))))))))))⟩))⟩)))))))
   refine LH.mid (fun e m => ∃ (l15 : List Int) (n16 : Int) (n17 : Int) (n18 : Int) (n19 : Int) (n20 : Int) (l21 : List Int) (l22 : List Int) (l23 : List Int), Gq5 rec1 p2 n2 l7 r9 r10 l15 n16 n17 n18 n19 n20 l21 l22 l23 = some r ∧ Wk (fun id => Mem.of [(7, .box [.L p0.L, .I p0.At])] id ≠ .none) e m (Env.of [(0, .ptr 7 0), (2, .I p2), (7, .arr 282 (List.length l7)), (8, .arr 114 (List.length l21)), (9, .arr 115 (List.length l22)), (10, .I n2), (12, .ptr 112 0)]) (Mem.of [(7, .box [.L l15, .I n16]), (112, .box [.I (l7.length : Int), .I r10.1, .I (l7.length : Int), .I n17, .I r9.1, .I n18, .I n19, .I n20, .arr 181 (List.length l23)]), (114, .arr 3 1 (List.map LV.I l21)), (115, .arr 3 1 (List.map LV.I l22)), (181, .arr 3 1 (List.map LV.I l23)), (282, .arr 52 9 (List.map Gq0.lv l7))])) ?_ ?_
   ·obtain ⟨x65, hx65, h⟩ := bindS h
    refine LH.seqT [(0, .ptr 7 0), (2, .I p2), (7, .arr 282 (List.length l7)), (8, .arr 114 (List.length l5)), (9, .arr 115 (List.length l6)), (10, .I n2), (11, .I r9.1), (12, .ptr 112 0), (52, .bool (decide (x65 < 0)))] [(7, .box [.L r14.2.L, .I r14.2.At]), (112, .box [.I (l7.length : Int), .I r10.1, .I (l7.length : Int), .I r11.1, .I r9.1, .I x12, .I x13, .I r14.1, .nil]), (114, .arr 3 1 (List.map LV.I l5)), (115, .arr 3 1 (List.map LV.I l6)), (282, .arr 52 9 (List.map Gq0.lv l7))] R (sMa R (sMi R (sN (oIxA (f := LV.I) te22 tk3 ts3 R R R hx65 (sN (oLdE (f := LV.I) R R (idxOk hx65).2 R R R tk3 ta3 (sN (oLt R R zS)))))))) (LH.cond (t := (decide (x65 < 0))) R (fun hc66 => ?_) (fun hc66 => ?_))
    ·replace h := iteT h hc66
     obtain ⟨r67, hr67, h⟩ := bindS h
     obtain ⟨r68, hr68, h⟩ := bindS h
     refine LH.seqT [(0, .ptr 7 0), (2, .I p2), (7, .arr 282 (List.length l7)), (8, .arr 114 (List.length l5)), (9, .arr 115 (List.length l6)), (10, .I n2), (11, .I r9.1), (12, .ptr 112 0)] [(7, .box [.L r68.2.L, .I r68.2.At]), (112, .box [.I (l7.length : Int), .I r10.1, .I (l7.length : Int), .I 1, .I r9.1, .I (i64 ((i64 (10 * r9.1)) + r68.1)), .I r67.1, .I 0, .nil]), (114, .arr 3 1 (List.map LV.I l5)), (115, .arr 3 1 (List.map LV.I l6)), (282, .arr 52 9 (List.map Gq0.lv l7))] R ?_ ?_
     ·exact sMp R (sN (oCM (args := [.ptr 7 0, .I 1, .I 3]) (ml := [(7, .box [.L r14.2.L, .I r14.2.At])]) (ml' := [(7, .box [.L r67.2.L, .I r67.2.At])]) R isF13 R (sbR (sbR (sbR sbN))) (Gq24 hr67) (mC R mN) (newI R newN) R (sMi R (sN (oMul R R (sMp R (sN (oCM (args := [.ptr 7 0, .I 4]) (ml := [(7, .box [.L r67.2.L, .I r67.2.At])]) (ml' := [(7, .box [.L r68.2.L, .I r68.2.At])]) R isF26 R (sbR (sbR sbN)) (Gq18 hr68) (mC R mN) (newI R newN) R (sN (oAdd R R (sN (oFa tf52_1 tk3 ts3 R R (s_ (oSt R R R tk3 ts3 R R R (sN (oFa tf52_4 tk3 ts3 R R (s_ (oSt R R R tk3 ts3 R R R (sN (oFa tf52_3 tk3 ts3 R R (s_ (oSt R R R tk3 ts3 R R R (sN (oFa tf52_5 tk3 ts3 R R (s_ (oSt R R R tk3 ts3 R R R zS))))))))))))))))))))))))))
     refine LH.seq (LH.seqT [(0, .ptr 7 0), (2, .I p2), (7, .arr 282 (List.length l7)), (8, .arr 114 (List.length l5)), (9, .arr 115 (List.length l6)), (10, .I n2), (11, .I r9.1), (12, .ptr 112 0), (13, .I 0)] [(7, .box [.L r68.2.L, .I r68.2.At]), (112, .box [.I (l7.length : Int), .I r10.1, .I (l7.length : Int), .I 1, .I r9.1, .I (i64 ((i64 (10 * r9.1)) + r68.1)), .I r67.1, .I 0, .nil]), (114, .arr 3 1 (List.map LV.I l5)), (115, .arr 3 1 (List.map LV.I l6)), (282, .arr 52 9 (List.map Gq0.lv l7))] R (sAi R zS) (LH.block (LH.wk ((Wk.trans (Wk.eq (el := [(0, .ptr 7 0), (2, .I p2), (7, .arr 282 (List.length l7)), (8, .arr 114 (List.length l5)), (9, .arr 115 (List.length l6)), (10, .I n2), (11, .I r9.1), (12, .ptr 112 0), (13, .I 0)]) (ml := [(7, .box [.L r68.2.L, .I r68.2.At]), (112, .box [.I (l7.length : Int), .I r10.1, .I (l7.length : Int), .I 1, .I r9.1, .I (i64 ((i64 (10 * r9.1)) + r68.1)), .I r67.1, .I 0, .nil]), (114, .arr 3 1 (List.map LV.I l5)), (115, .arr 3 1 (List.map LV.I l6)), (282, .arr 52 9 (List.map Gq0.lv l7))]) R R R R) (Wk.trans (Wk.eq (el := [(0, .ptr 7 0), (2, .I p2), (7, .arr 282 (List.length l7)), (8, .arr 114 (List.length l5)), (9, .arr 115 (List.length l6)), (10, .I n2), (11, .I r9.1), (12, .ptr 112 0), (13, .I 0)]) (ml := [(7, .box [.L r68.2.L, .I r68.2.At]), (112, .box [.I (l7.length : Int), .I r10.1, .I (l7.length : Int), .I 1, .I r9.1, .I (i64 ((i64 (10 * r9.1)) + r68.1)), .I r67.1, .I 0, .nil]), (114, .arr 3 1 (List.map LV.I l5)), (115, .arr 3 1 (List.map LV.I l6)), (282, .arr 52 9 (List.map Gq0.lv l7))]) R R R R) (Wk.trans (Wk.ownBx 181 3 1 112 8 R R R R R (prN R)) (Wk.eq (el := [(0, .ptr 7 0), (2, .I p2), (7, .arr 282 (List.length l7)), (8, .arr 114 (List.length l5)), (9, .arr 115 (List.length l6)), (10, .I n2), (11, .I r9.1), (12, .ptr 112 0), (13, .I 0)]) (ml := [(7, .box [.L r68.2.L, .I r68.2.At]), (112, .box [.I (l7.length : Int), .I r10.1, .I (l7.length : Int), .I 1, .I r9.1, .I (i64 ((i64 (10 * r9.1)) + r68.1)), .I r67.1, .I 0, .arr 181 (List.length ([] : List Int))]), (114, .arr 3 1 (List.map LV.I l5)), (115, .arr 3 1 (List.map LV.I l6)), (181, .arr 3 1 (List.map LV.I ([] : List Int))), (282, .arr 52 9 (List.map Gq0.lv l7))]) R R R R))))) (LH.loop (fun n e m => ∃ (n69 : Int) (l70 : List Int) (n71 : Int) (l72 : List Int), Gq10 rec1 p2 n2 l5 l6 l7 r9 r10 r67 r68 n n69 l70 n71 l72 = some r ∧ e = Env.of [(0, .ptr 7 0), (2, .I p2), (7, .arr 282 (List.length l7)), (8, .arr 114 (List.length l5)), (9, .arr 115 (List.length l6)), (10, .I n2), (11, .I r9.1), (12, .ptr 112 0), (13, .I n69)] ∧ m = Mem.of [(7, .box [.L l70, .I n71]), (112, .box [.I (l7.length : Int), .I r10.1, .I (l7.length : Int), .I 1, .I r9.1, .I (i64 ((i64 (10 * r9.1)) + r68.1)), .I r67.1, .I 0, .arr 181 (List.length l72)]), (114, .arr 3 1 (List.map LV.I l5)), (115, .arr 3 1 (List.map LV.I l6)), (181, .arr 3 1 (List.map LV.I l72)), (282, .arr 52 9 (List.map Gq0.lv l7))]) F ⟨0, r68.2.L, r68.2.At, ([] : List Int), h, R, R⟩ ?_))))
     clear h
     rintro n e m ⟨n69, l70, n71, l72, h, rfl, rfl⟩
     rcases n with _ | n
     · cases (show Option.none = some _ from h)
     obtain ⟨rec5, hrec5⟩ : ∃ f, f = Gq10 rec1 p2 n2 l5 l6 l7 r9 r10 r67 r68 n := ⟨_, rfl⟩
     replace h : Gq11 rec1 p2 n2 l5 l6 l7 r9 r10 r67 r68 rec5 n69 l70 n71 l72 = some r := hrec5 ▸ h
     unfold Gq11 at h
     refine LH.seq (LH.seqT [(0, .ptr 7 0), (2, .I p2), (7, .arr 282 (List.length l7)), (8, .arr 114 (List.length l5)), (9, .arr 115 (List.length l6)), (10, .I n2), (11, .I r9.1), (12, .ptr 112 0), (13, .I n69), (65, .bool (decide (n69 < 9)))] [(7, .box [.L l70, .I n71]), (112, .box [.I (l7.length : Int), .I r10.1, .I (l7.length : Int), .I 1, .I r9.1, .I (i64 ((i64 (10 * r9.1)) + r68.1)), .I r67.1, .I 0, .arr 181 (List.length l72)]), (114, .arr 3 1 (List.map LV.I l5)), (115, .arr 3 1 (List.map LV.I l6)), (181, .arr 3 1 (List.map LV.I l72)), (282, .arr 52 9 (List.map Gq0.lv l7))] R (sMi R (sN (oLt R R zS))) (LH.cond (t := (decide (n69 < 9))) R (fun hc73 => ?_) (fun hc73 => ?_)))
     ·replace h := iteT h hc73
      refine LH.skip (thenN (LH.wk (Wk.eq (el := [(0, .ptr 7 0), (2, .I p2), (7, .arr 282 (List.length l7)), (8, .arr 114 (List.length l5)), (9, .arr 115 (List.length l6)), (10, .I n2), (11, .I r9.1), (12, .ptr 112 0), (13, .I n69)]) (ml := [(7, .box [.L l70, .I n71]), (112, .box [.I (l7.length : Int), .I r10.1, .I (l7.length : Int), .I 1, .I r9.1, .I (i64 ((i64 (10 * r9.1)) + r68.1)), .I r67.1, .I 0, .arr 181 (List.length l72)]), (114, .arr 3 1 (List.map LV.I l5)), (115, .arr 3 1 (List.map LV.I l6)), (181, .arr 3 1 (List.map LV.I l72)), (282, .arr 52 9 (List.map Gq0.lv l7))]) R R R R) (LH.seq (LH.block ?_))))
      obtain ⟨w77, hv, h⟩ := bindS h
      refine LH.seqT [(0, .ptr 7 0), (2, .I p2), (7, .arr 282 (List.length l7)), (8, .arr 114 (List.length l5)), (9, .arr 115 (List.length l6)), (10, .I n2), (11, .I r9.1), (12, .ptr 112 0), (13, .I n69), (76, .bool w77.1)] [(7, .box [.L w77.2.1, .I w77.2.2]), (112, .box [.I (l7.length : Int), .I r10.1, .I (l7.length : Int), .I 1, .I r9.1, .I (i64 ((i64 (10 * r9.1)) + r68.1)), .I r67.1, .I 0, .arr 181 (List.length l72)]), (114, .arr 3 1 (List.map LV.I l5)), (115, .arr 3 1 (List.map LV.I l6)), (181, .arr 3 1 (List.map LV.I l72)), (282, .arr 52 9 (List.map Gq0.lv l7))] R ?_ ?_
      ·refine sMi R ?_
       obtain ⟨r78, hr78, hv⟩ := bindS hv
       refine sN (oCP (args := [.I n69, .I 3]) R isF23 R (sbR (sbR sbN)) (q255q hr78) R (sMi R (sN (oEq R R (sMb R ?_)))))
       by_cases hb79 : (r78 == r9.1) = true
       ·replace hv := iteT hv hb79
        refine sT R (cB hb79) (oM (v := (.ptr _ _)) R ?_)
        obtain ⟨r80, hr80, hv⟩ := bindS hv
        refine sT R (cB hb79) (oCM (args := [.ptr 7 0, .I 3]) (ml := [(7, .box [.L l70, .I n71])]) (ml' := [(7, .box [.L r80.2.L, .I r80.2.At])]) R isF26 R (sbR (sbR sbN)) (Gq18 hr80) (mC R mN) (newI R newN) R (sT R (cB hb79) (oGt R R (sN (oPkT (cB hb79) (v := (.bool _)) R ?_)))))
        obtain rfl := oI hv
        exact zS
       ·replace hb79 := bF hb79
        replace hv := iteF hv hb79
        refine sF R R hb79 (sF R R hb79 (sF R R hb79 (sN (oPkF (cB hb79) (v := (.bool _)) R ?_))))
        obtain rfl := oI hv
        exact zS
      clear hv
      refine LH.cond (t := w77.1) R (fun hc81 => ?_) (fun hc81 => ?_)
      ·replace h := iteT h hc81
       obtain ⟨v82, hv82, h⟩ := bindS h
       refine LH.loneT [(0, .ptr 7 0), (2, .I p2), (7, .arr 282 (List.length l7)), (8, .arr 114 (List.length l5)), (9, .arr 115 (List.length l6)), (10, .I n2), (11, .I r9.1), (12, .ptr 112 0), (13, .I n69)] [(7, .box [.L w77.2.1, .I w77.2.2]), (112, .box [.I (l7.length : Int), .I r10.1, .I (l7.length : Int), .I 1, .I r9.1, .I (i64 ((i64 (10 * r9.1)) + r68.1)), .I r67.1, .I 0, .arr 181 (List.length v82)]), (114, .arr 3 1 (List.map LV.I l5)), (115, .arr 3 1 (List.map LV.I l6)), (181, .arr 3 1 (List.map LV.I v82)), (282, .arr 52 9 (List.map Gq0.lv l7))] R (sN (oFa tf52_6 tk22 ts22 R R (sN (oLdP R R R R tk22 ta22 (sMi R (sN (oBS (f := LV.I) (ys := [n69]) te22 tr3 ts3 R R R okI (sN (oAp (f := LV.I) te22 tr3 ts3 R R (prN R) R hv82 (sN (oFa tf52_6 tk22 ts22 R R (s_ (oSt R R R tk22 ts22 R R R zS))))))))))))) (blockN (thenN (LH.loneT [(0, .ptr 7 0), (2, .I p2), (7, .arr 282 (List.length l7)), (8, .arr 114 (List.length l5)), (9, .arr 115 (List.length l6)), (10, .I n2), (11, .I r9.1), (12, .ptr 112 0), (13, .I (i64 (n69 + 1)))] [(7, .box [.L w77.2.1, .I w77.2.2]), (112, .box [.I (l7.length : Int), .I r10.1, .I (l7.length : Int), .I 1, .I r9.1, .I (i64 ((i64 (10 * r9.1)) + r68.1)), .I r67.1, .I 0, .arr 181 (List.length v82)]), (114, .arr 3 1 (List.map LV.I l5)), (115, .arr 3 1 (List.map LV.I l6)), (181, .arr 3 1 (List.map LV.I v82)), (282, .arr 52 9 (List.map Gq0.lv l7))] R (sMi R (sN (oAdd R R (sAi R zS)))) ?_)))
       exact roundI ⟨(i64 (n69 + 1)), w77.2.1, w77.2.2, v82, hrec5 ▸ h, R, R⟩ (Wk.eq R R R R)
      replace h := iteF h hc81
      refine LH.skip (blockN (thenN (LH.loneT [(0, .ptr 7 0), (2, .I p2), (7, .arr 282 (List.length l7)), (8, .arr 114 (List.length l5)), (9, .arr 115 (List.length l6)), (10, .I n2), (11, .I r9.1), (12, .ptr 112 0), (13, .I (i64 (n69 + 1)))] [(7, .box [.L w77.2.1, .I w77.2.2]), (112, .box [.I (l7.length : Int), .I r10.1, .I (l7.length : Int), .I 1, .I r9.1, .I (i64 ((i64 (10 * r9.1)) + r68.1)), .I r67.1, .I 0, .arr 181 (List.length l72)]), (114, .arr 3 1 (List.map LV.I l5)), (115, .arr 3 1 (List.map LV.I l6)), (181, .arr 3 1 (List.map LV.I l72)), (282, .arr 52 9 (List.map Gq0.lv l7))] R (sMi R (sN (oAdd R R (sAi R zS)))) ?_)))
      exact roundI ⟨(i64 (n69 + 1)), w77.2.1, w77.2.2, l72, hrec5 ▸ h, R, R⟩ (Wk.eq R R R R)
     replace h := iteF h hc73
     refine LH.exit (thenX (roundX (blockH (thenN ?_))))
     obtain ⟨x83, hx83, h⟩ := bindS h
     obtain ⟨x84, hx84, h⟩ := bindS h
     exact LH.loneTM mixed [] [0, 0, 0, 0, 0, 1112, 0, 1112, 1114, 100114, 1115, 100115] [(0, .ptr 7 0), (2, .I p2), (7, .arr 282 (List.length l7)), (8, .arr 114 (List.length (l5.set r9.1.toNat r67.1))), (9, .arr 115 (List.length (l6.set r9.1.toNat (i64 ((i64 (10 * r9.1)) + r68.1))))), (10, .I n2), (12, .ptr 112 0)] [(7, .box [.L l70, .I n71]), (112, .box [.I (l7.length : Int), .I r10.1, .I (l7.length : Int), .I 1, .I r9.1, .I (i64 ((i64 (10 * r9.1)) + r68.1)), .I r67.1, .I 0, .arr 181 (List.length l72)]), (114, .arr 3 1 (List.map LV.I (l5.set r9.1.toNat r67.1))), (115, .arr 3 1 (List.map LV.I (l6.set r9.1.toNat (i64 ((i64 (10 * r9.1)) + r68.1))))), (181, .arr 3 1 (List.map LV.I l72)), (282, .arr 52 9 (List.map Gq0.lv l7))] R R (by kernel_rfl) (mMa R (mMi R (mMa R (mMi R (mN0 (oFa tf52_4 tk3 ts3 R R ⟨R, mD R R R (fun _ b _ d => oLdP R b R R tk3 ta3 d) (mN0 (oFa tf52_3 tk3 ts3 R R ⟨R, mD R R R (fun _ b _ d => oLdP R b R R tk3 ta3 d) (mD R R R (fun _ b _ d => oIxA (f := LV.I) te22 tk3 ts3 R b R hx83 d) (mS R R R (fun _ b _ d => oStE (f := LV.I) (z' := r67.1) R R R R tk3 ts3 b (idxOk hx83).2 R d) (mD R R R (fun _ b _ d => oIxA (f := LV.I) te22 tk3 ts3 R b R hx84 d) (mS R R R (fun _ b _ d => oStE (f := LV.I) (z' := (i64 ((i64 (10 * r9.1)) + r68.1))) R R R R tk3 ts3 b (idxOk hx84).2 R d) (m0 (Wk.to (eC R (eC R (eC R (eC (congrArg (LV.arr 114) (by simp)) (eC (congrArg (LV.arr 115) (by simp)) (eC R (eC R eN))))))) ⟨R, R, R, R, R, R, trivial⟩ R (prK R)))))))⟩))⟩)))))) (thenN ⟨l70, n71, 1, (i64 ((i64 (10 * r9.1)) + r68.1)), r67.1, 0, (l5.set r9.1.toNat r67.1), (l6.set r9.1.toNat (i64 ((i64 (10 * r9.1)) + r68.1))), l72, h, Wk.eq R R R R⟩)
    replace h := iteF h hc66
    refine LH.seqT [(0, .ptr 7 0), (2, .I p2), (7, .arr 282 (List.length l7)), (8, .arr 114 (List.length l5)), (9, .arr 115 (List.length l6)), (10, .I n2), (11, .I r9.1), (12, .ptr 112 0), (95, .bool (r11.1 == 2))] [(7, .box [.L r14.2.L, .I r14.2.At]), (112, .box [.I (l7.length : Int), .I r10.1, .I (l7.length : Int), .I r11.1, .I r9.1, .I x12, .I x13, .I r14.1, .nil]), (114, .arr 3 1 (List.map LV.I l5)), (115, .arr 3 1 (List.map LV.I l6)), (282, .arr 52 9 (List.map Gq0.lv l7))] R (sN (oFa tf52_1 tk3 ts3 R R (sN (oLdP R R R R tk3 ta3 (sN (oEq R R zS)))))) (LH.cond (t := (r11.1 == 2)) R (fun hc85 => ?_) (fun hc85 => ?_))
    ·replace h := iteT h hc85
     obtain ⟨x86, hx86, h⟩ := bindS h
     exact LH.loneT [(0, .ptr 7 0), (2, .I p2), (7, .arr 282 (List.length l7)), (8, .arr 114 (List.length (l5.set r9.1.toNat r14.1))), (9, .arr 115 (List.length l6)), (10, .I n2), (12, .ptr 112 0)] [(7, .box [.L r14.2.L, .I r14.2.At]), (112, .box [.I (l7.length : Int), .I r10.1, .I (l7.length : Int), .I r11.1, .I r9.1, .I x12, .I x13, .I r14.1, .nil]), (114, .arr 3 1 (List.map LV.I (l5.set r9.1.toNat r14.1))), (115, .arr 3 1 (List.map LV.I l6)), (282, .arr 52 9 (List.map Gq0.lv l7))] R (sMa R (sMi R (sN (oFa tf52_5 tk3 ts3 R R (sN (oLdP R R R R tk3 ta3 (sN (oIxA (f := LV.I) te22 tk3 ts3 R R R hx86 (s_ (oStE (f := LV.I) (z' := r14.1) R R R R tk3 ts3 R (idxOk hx86).2 R (s0 (Wk.to (eC R (eC R (eC R (eC (congrArg (LV.arr 114) (by simp)) (eC R (eC R (eC R eN))))))) ⟨R, R, R, R, R, trivial⟩ R (prK R))))))))))))) (thenN ⟨r14.2.L, r14.2.At, r11.1, x12, x13, r14.1, (l5.set r9.1.toNat r14.1), l6, ([] : List Int), h, (Wk.trans (Wk.eq (el := [(0, .ptr 7 0), (2, .I p2), (7, .arr 282 (List.length l7)), (8, .arr 114 (List.length (l5.set r9.1.toNat r14.1))), (9, .arr 115 (List.length l6)), (10, .I n2), (12, .ptr 112 0)]) (ml := [(7, .box [.L r14.2.L, .I r14.2.At]), (112, .box [.I (l7.length : Int), .I r10.1, .I (l7.length : Int), .I r11.1, .I r9.1, .I x12, .I x13, .I r14.1, .nil]), (114, .arr 3 1 (List.map LV.I (l5.set r9.1.toNat r14.1))), (115, .arr 3 1 (List.map LV.I l6)), (282, .arr 52 9 (List.map Gq0.lv l7))]) R R R R) (Wk.trans (Wk.eq (el := [(0, .ptr 7 0), (2, .I p2), (7, .arr 282 (List.length l7)), (8, .arr 114 (List.length (l5.set r9.1.toNat r14.1))), (9, .arr 115 (List.length l6)), (10, .I n2), (12, .ptr 112 0)]) (ml := [(7, .box [.L r14.2.L, .I r14.2.At]), (112, .box [.I (l7.length : Int), .I r10.1, .I (l7.length : Int), .I r11.1, .I r9.1, .I x12, .I x13, .I r14.1, .nil]), (114, .arr 3 1 (List.map LV.I (l5.set r9.1.toNat r14.1))), (115, .arr 3 1 (List.map LV.I l6)), (282, .arr 52 9 (List.map Gq0.lv l7))]) R R R R) (Wk.trans (Wk.ownBx 181 3 1 112 8 R R R R R (prN R)) (Wk.eq R R R R))))⟩)
    replace h := iteF h hc85
    refine LH.seqT [(0, .ptr 7 0), (2, .I p2), (7, .arr 282 (List.length l7)), (8, .arr 114 (List.length l5)), (9, .arr 115 (List.length l6)), (10, .I n2), (11, .I r9.1), (12, .ptr 112 0), (103, .bool (r11.1 == 4))] [(7, .box [.L r14.2.L, .I r14.2.At]), (112, .box [.I (l7.length : Int), .I r10.1, .I (l7.length : Int), .I r11.1, .I r9.1, .I x12, .I x13, .I r14.1, .nil]), (114, .arr 3 1 (List.map LV.I l5)), (115, .arr 3 1 (List.map LV.I l6)), (282, .arr 52 9 (List.map Gq0.lv l7))] R (sN (oFa tf52_1 tk3 ts3 R R (sN (oLdP R R R R tk3 ta3 (sN (oEq R R zS)))))) (LH.cond (t := (r11.1 == 4)) R (fun hc87 => ?_) (fun hc87 => ?_))
    ·replace h := iteT h hc87
     obtain ⟨r88, hr88, h⟩ := bindS h
     refine LH.seqT [(0, .ptr 7 0), (2, .I p2), (7, .arr 282 (List.length l7)), (8, .arr 114 (List.length l5)), (9, .arr 115 (List.length l6)), (10, .I n2), (11, .I r9.1), (12, .ptr 112 0)] [(7, .box [.L r88.2.L, .I r88.2.At]), (112, .box [.I (l7.length : Int), .I r10.1, .I (l7.length : Int), .I r11.1, .I r9.1, .I (i64 (100 + r88.1)), .I x13, .I r14.1, .nil]), (114, .arr 3 1 (List.map LV.I l5)), (115, .arr 3 1 (List.map LV.I l6)), (282, .arr 52 9 (List.map Gq0.lv l7))] R (sMp R (sN (oCM (args := [.ptr 7 0, .I 40]) (ml := [(7, .box [.L r14.2.L, .I r14.2.At])]) (ml' := [(7, .box [.L r88.2.L, .I r88.2.At])]) R isF26 R (sbR (sbR sbN)) (Gq18 hr88) (mC R mN) (newI R newN) R (sN (oAdd R R (sN (oFa tf52_3 tk3 ts3 R R (s_ (oSt R R R tk3 ts3 R R R zS))))))))) ?_
     obtain ⟨x89, hx89, h⟩ := bindS h
     exact LH.loneT [(0, .ptr 7 0), (2, .I p2), (7, .arr 282 (List.length l7)), (8, .arr 114 (List.length l5)), (9, .arr 115 (List.length (l6.set r9.1.toNat (i64 (100 + r88.1))))), (10, .I n2), (12, .ptr 112 0)] [(7, .box [.L r88.2.L, .I r88.2.At]), (112, .box [.I (l7.length : Int), .I r10.1, .I (l7.length : Int), .I r11.1, .I r9.1, .I (i64 (100 + r88.1)), .I x13, .I r14.1, .nil]), (114, .arr 3 1 (List.map LV.I l5)), (115, .arr 3 1 (List.map LV.I (l6.set r9.1.toNat (i64 (100 + r88.1))))), (282, .arr 52 9 (List.map Gq0.lv l7))] R (sMa R (sMi R (sN (oFa tf52_3 tk3 ts3 R R (sN (oLdP R R R R tk3 ta3 (sN (oIxA (f := LV.I) te22 tk3 ts3 R R R hx89 (s_ (oStE (f := LV.I) (z' := (i64 (100 + r88.1))) R R R R tk3 ts3 R (idxOk hx89).2 R (s0 (Wk.to (eC R (eC R (eC R (eC R (eC (congrArg (LV.arr 115) (by simp)) (eC R (eC R eN))))))) ⟨R, R, R, R, R, trivial⟩ R (prK R))))))))))))) (thenN ⟨r88.2.L, r88.2.At, r11.1, (i64 (100 + r88.1)), x13, r14.1, l5, (l6.set r9.1.toNat (i64 (100 + r88.1))), ([] : List Int), h, (Wk.trans (Wk.eq (el := [(0, .ptr 7 0), (2, .I p2), (7, .arr 282 (List.length l7)), (8, .arr 114 (List.length l5)), (9, .arr 115 (List.length (l6.set r9.1.toNat (i64 (100 + r88.1))))), (10, .I n2), (12, .ptr 112 0)]) (ml := [(7, .box [.L r88.2.L, .I r88.2.At]), (112, .box [.I (l7.length : Int), .I r10.1, .I (l7.length : Int), .I r11.1, .I r9.1, .I (i64 (100 + r88.1)), .I x13, .I r14.1, .nil]), (114, .arr 3 1 (List.map LV.I l5)), (115, .arr 3 1 (List.map LV.I (l6.set r9.1.toNat (i64 (100 + r88.1))))), (282, .arr 52 9 (List.map Gq0.lv l7))]) R R R R) (Wk.trans (Wk.eq (el := [(0, .ptr 7 0), (2, .I p2), (7, .arr 282 (List.length l7)), (8, .arr 114 (List.length l5)), (9, .arr 115 (List.length (l6.set r9.1.toNat (i64 (100 + r88.1))))), (10, .I n2), (12, .ptr 112 0)]) (ml := [(7, .box [.L r88.2.L, .I r88.2.At]), (112, .box [.I (l7.length : Int), .I r10.1, .I (l7.length : Int), .I r11.1, .I r9.1, .I (i64 (100 + r88.1)), .I x13, .I r14.1, .nil]), (114, .arr 3 1 (List.map LV.I l5)), (115, .arr 3 1 (List.map LV.I (l6.set r9.1.toNat (i64 (100 + r88.1))))), (282, .arr 52 9 (List.map Gq0.lv l7))]) R R R R) (Wk.trans (Wk.ownBx 181 3 1 112 8 R R R R R (prN R)) (Wk.eq R R R R))))⟩)
    replace h := iteF h hc87
    refine LH.seqT [(0, .ptr 7 0), (2, .I p2), (7, .arr 282 (List.length l7)), (8, .arr 114 (List.length l5)), (9, .arr 115 (List.length l6)), (10, .I n2), (12, .ptr 112 0), (115, .bool (r11.1 == 3))] [(7, .box [.L r14.2.L, .I r14.2.At]), (112, .box [.I (l7.length : Int), .I r10.1, .I (l7.length : Int), .I r11.1, .I r9.1, .I x12, .I x13, .I r14.1, .nil]), (114, .arr 3 1 (List.map LV.I l5)), (115, .arr 3 1 (List.map LV.I l6)), (282, .arr 52 9 (List.map Gq0.lv l7))] R (sN (oFa tf52_1 tk3 ts3 R R (sN (oLdP R R R R tk3 ta3 (sN (oEq R R zS)))))) (LH.cond (t := (r11.1 == 3)) R (fun hc90 => ?_) (fun hc90 => ?_))
    ·replace h := iteT h hc90
     obtain ⟨r91, hr91, h⟩ := bindS h
     exact LH.loneT [(0, .ptr 7 0), (2, .I p2), (7, .arr 282 (List.length l7)), (8, .arr 114 (List.length l5)), (9, .arr 115 (List.length l6)), (10, .I n2), (12, .ptr 112 0)] [(7, .box [.L r91.2.L, .I r91.2.At]), (112, .box [.I (l7.length : Int), .I r10.1, .I (l7.length : Int), .I r11.1, .I r9.1, .I x12, .I x13, .I r14.1, .arr 181 (List.length r91.1)]), (114, .arr 3 1 (List.map LV.I l5)), (115, .arr 3 1 (List.map LV.I l6)), (181, .arr 3 1 (List.map LV.I r91.1)), (282, .arr 52 9 (List.map Gq0.lv l7))] R (sMp R (sN (oCM (args := [.ptr 7 0, .I 9]) (ml := [(7, .box [.L r14.2.L, .I r14.2.At])]) (ml' := [(7, .box [.L r91.2.L, .I r91.2.At]), (181, .arr 3 1 (List.map LV.I r91.1))]) R isF30 R (sbR (sbR sbN)) (Gq30 hr91) ⟨R, trivial⟩ (newI R (newF R newN)) R (sN (oFa tf52_6 tk22 ts22 R R (s_ (oSt R R R tk22 ts22 R R R zS))))))) (thenN ⟨r91.2.L, r91.2.At, r11.1, x12, x13, r14.1, l5, l6, r91.1, h, Wk.eq R R R R⟩)
    replace h := iteF h hc90
    exact LH.skip (thenN ⟨r14.2.L, r14.2.At, r11.1, x12, x13, r14.1, l5, l6, ([] : List Int), h, (Wk.trans (Wk.eq (el := [(0, .ptr 7 0), (2, .I p2), (7, .arr 282 (List.length l7)), (8, .arr 114 (List.length l5)), (9, .arr 115 (List.length l6)), (10, .I n2), (12, .ptr 112 0)]) (ml := [(7, .box [.L r14.2.L, .I r14.2.At]), (112, .box [.I (l7.length : Int), .I r10.1, .I (l7.length : Int), .I r11.1, .I r9.1, .I x12, .I x13, .I r14.1, .nil]), (114, .arr 3 1 (List.map LV.I l5)), (115, .arr 3 1 (List.map LV.I l6)), (282, .arr 52 9 (List.map Gq0.lv l7))]) R R R R) (Wk.trans (Wk.eq (el := [(0, .ptr 7 0), (2, .I p2), (7, .arr 282 (List.length l7)), (8, .arr 114 (List.length l5)), (9, .arr 115 (List.length l6)), (10, .I n2), (12, .ptr 112 0)]) (ml := [(7, .box [.L r14.2.L, .I r14.2.At]), (112, .box [.I (l7.length : Int), .I r10.1, .I (l7.length : Int), .I r11.1, .I r9.1, .I x12, .I x13, .I r14.1, .nil]), (114, .arr 3 1 (List.map LV.I l5)), (115, .arr 3 1 (List.map LV.I l6)), (282, .arr 52 9 (List.map Gq0.lv l7))]) R R R R) (Wk.trans (Wk.ownBx 181 3 1 112 8 R R R R R (prN R)) (Wk.eq R R R R))))⟩)
   clear h
   rintro e m ⟨l15, n16, n17, n18, n19, n20, l21, l22, l23, h, hw⟩
   refine LH.wk hw ?_
   clear hw
   unfold Gq5 at h
   refine LH.mid (fun e m => ∃ (n24 : Int), Gq6 rec1 p2 n2 l7 r9 l15 n16 n17 n18 n19 n20 l21 l22 l23 n24 = some r ∧ Wk (fun id => Mem.of [(7, .box [.L p0.L, .I p0.At])] id ≠ .none) e m (Env.of [(0, .ptr 7 0), (2, .I p2), (7, .arr 282 (List.length l7)), (8, .arr 114 (List.length l21)), (9, .arr 115 (List.length l22)), (10, .I n2), (12, .ptr 112 0)]) (Mem.of [(7, .box [.L l15, .I n16]), (112, .box [.I (l7.length : Int), .I n24, .I (l7.length : Int), .I n17, .I r9.1, .I n18, .I n19, .I n20, .arr 181 (List.length l23)]), (114, .arr 3 1 (List.map LV.I l21)), (115, .arr 3 1 (List.map LV.I l22)), (181, .arr 3 1 (List.map LV.I l23)), (282, .arr 52 9 (List.map Gq0.lv l7))])) ?_ ?_
   ·refine LH.seqT [(0, .ptr 7 0), (2, .I p2), (7, .arr 282 (List.length l7)), (8, .arr 114 (List.length l21)), (9, .arr 115 (List.length l22)), (10, .I n2), (12, .ptr 112 0), (122, .bool (r10.1 != 0))] [(7, .box [.L l15, .I n16]), (112, .box [.I (l7.length : Int), .I r10.1, .I (l7.length : Int), .I n17, .I r9.1, .I n18, .I n19, .I n20, .arr 181 (List.length l23)]), (114, .arr 3 1 (List.map LV.I l21)), (115, .arr 3 1 (List.map LV.I l22)), (181, .arr 3 1 (List.map LV.I l23)), (282, .arr 52 9 (List.map Gq0.lv l7))] R (sN (oFa tf52_0 tk50 ts50 R R (sN (oFa tf50_1 tk3 ts3 R R (sN (oLdP R R R R tk3 ta3 (sN (oNe R R zS)))))))) (LH.cond (t := (r10.1 != 0)) R (fun hc64 => ?_) (fun hc64 => ?_))
    ·replace h := iteT h hc64
     exact LH.loneT [(0, .ptr 7 0), (2, .I p2), (7, .arr 282 (List.length l7)), (8, .arr 114 (List.length l21)), (9, .arr 115 (List.length l22)), (10, .I n2), (12, .ptr 112 0)] [(7, .box [.L l15, .I n16]), (112, .box [.I (l7.length : Int), .I (max n19 0), .I (l7.length : Int), .I n17, .I r9.1, .I n18, .I n19, .I n20, .arr 181 (List.length l23)]), (114, .arr 3 1 (List.map LV.I l21)), (115, .arr 3 1 (List.map LV.I l22)), (181, .arr 3 1 (List.map LV.I l23)), (282, .arr 52 9 (List.map Gq0.lv l7))] R (sN (oFa tf52_4 tk3 ts3 R R (sN (oLdP R R R R tk3 ta3 (sX ((ok_max R R).ok) (sN (oFa tf52_0 tk50 ts50 R R (sN (oFa tf50_1 tk3 ts3 R R (s_ (oSt R R R tk3 ts3 R R R zS))))))))))) (thenN ⟨(max n19 0), h, Wk.eq R R R R⟩)
    replace h := iteF h hc64
    exact LH.skip (thenN ⟨r10.1, h, Wk.eq R R R R⟩)
   clear h
   rintro e m ⟨n24, h, hw⟩
   refine LH.wk hw ?_
   clear hw
   unfold Gq6 at h
   refine LH.mid (fun e m => ∃ (n25 : Int) (n26 : Int) (n27 : Int) (n28 : Int) (n29 : Int) (n30 : Int) (n31 : Int) (n32 : Int) (l33 : List Int) (l34 : List Int) (n35 : Int), Gq7 rec1 n2 l7 l21 l22 n25 n26 n27 n28 n29 n30 n31 n32 l33 l34 n35 = some r ∧ Wk (fun id => Mem.of [(7, .box [.L p0.L, .I p0.At])] id ≠ .none) e m (Env.of [(0, .ptr 7 0), (2, .I p2), (7, .arr 282 (List.length l7)), (8, .arr 114 (List.length l21)), (9, .arr 115 (List.length l22)), (10, .I n2), (12, .sptr [.I n25, .I n26, .I n27, .I n28, .I n29, .I n30, .I n31, .I n32, .L l33])]) (Mem.of [(7, .box [.L l34, .I n35]), (114, .arr 3 1 (List.map LV.I l21)), (115, .arr 3 1 (List.map LV.I l22)), (282, .arr 52 9 (List.map Gq0.lv l7))])) ?_ ?_
   ·obtain ⟨w45, hv, h⟩ := bindS h
    refine LH.seqT [(0, .ptr 7 0), (2, .I p2), (7, .arr 282 (List.length l7)), (8, .arr 114 (List.length l21)), (9, .arr 115 (List.length l22)), (10, .I n2), (12, .ptr 112 0), (134, .bool w45.1)] [(7, .box [.L w45.2.1, .I w45.2.2]), (112, .box [.I (l7.length : Int), .I n24, .I (l7.length : Int), .I n17, .I r9.1, .I n18, .I n19, .I n20, .arr 181 (List.length l23)]), (114, .arr 3 1 (List.map LV.I l21)), (115, .arr 3 1 (List.map LV.I l22)), (181, .arr 3 1 (List.map LV.I l23)), (282, .arr 52 9 (List.map Gq0.lv l7))] R ?_ ?_
    ·refine sMi R (sN (oGt R R (sMb R ?_)))
     by_cases hb46 : (decide (p2 > 0)) = true
     ·replace hv := iteT hv hb46
      refine sT R (cB hb46) (oM (v := (.ptr _ _)) R (sT R (cB hb46) (oM (v := (.int _ _)) R ?_)))
      obtain ⟨r47, hr47, hv⟩ := bindS hv
      refine sT R (cB hb46) (oCM (args := [.ptr 7 0, .I p2]) (ml := [(7, .box [.L l15, .I n16])]) (ml' := [(7, .box [.L r47.2.L, .I r47.2.At])]) R isF31 R (sbR (sbR sbN)) (Gq20 hr47) (mC R mN) (newI R newN) R (sN (oPkT (cB hb46) (v := (.bool _)) R ?_)))
      obtain rfl := oI hv
      exact zS
     ·replace hb46 := bF hb46
      replace hv := iteF hv hb46
      refine sF R R hb46 (sF R R hb46 (sF R R hb46 (sN (oPkF (cB hb46) (v := (.bool _)) R ?_))))
      obtain rfl := oI hv
      exact zS
    clear hv
    refine LH.cond (t := w45.1) R (fun hc48 => ?_) (fun hc48 => ?_)
    ·replace h := iteT h hc48
     obtain ⟨r49, hr49, h⟩ := bindS h
     refine LH.seqT [(0, .ptr 7 0), (2, .I p2), (7, .arr 282 (List.length l7)), (8, .arr 114 (List.length l21)), (9, .arr 115 (List.length l22)), (10, .I n2), (12, .ptr 112 0), (136, .I r49.1)] [(7, .box [.L r49.2.L, .I r49.2.At]), (112, .box [.I (l7.length : Int), .I n24, .I (l7.length : Int), .I n17, .I r9.1, .I n18, .I n19, .I n20, .arr 181 (List.length l23)]), (114, .arr 3 1 (List.map LV.I l21)), (115, .arr 3 1 (List.map LV.I l22)), (181, .arr 3 1 (List.map LV.I l23)), (282, .arr 52 9 (List.map Gq0.lv l7))] R (sMp R (sN (oCM (args := [.ptr 7 0, .I 7]) (ml := [(7, .box [.L w45.2.1, .I w45.2.2])]) (ml' := [(7, .box [.L r49.2.L, .I r49.2.At])]) R isF26 R (sbR (sbR sbN)) (Gq18 hr49) (mC R mN) (newI R newN) R zS))) (LH.block (LH.seqT [(0, .ptr 7 0), (2, .I p2), (7, .arr 282 (List.length l7)), (8, .arr 114 (List.length l21)), (9, .arr 115 (List.length l22)), (10, .I n2), (12, .ptr 112 0), (136, .I r49.1), (140, .bool (r49.1 == 0))] [(7, .box [.L r49.2.L, .I r49.2.At]), (112, .box [.I (l7.length : Int), .I n24, .I (l7.length : Int), .I n17, .I r9.1, .I n18, .I n19, .I n20, .arr 181 (List.length l23)]), (114, .arr 3 1 (List.map LV.I l21)), (115, .arr 3 1 (List.map LV.I l22)), (181, .arr 3 1 (List.map LV.I l23)), (282, .arr 52 9 (List.map Gq0.lv l7))] R (sN (oEq R R (sAb R zS))) (LH.cond (t := (r49.1 == 0)) R (fun hc50 => ?_) (fun hc50 => ?_))))
     ·replace h := iteT h hc50
      obtain ⟨r51, hr51, h⟩ := bindS h
      exact LH.loneT [(0, .ptr 7 0), (2, .I p2), (7, .arr 282 (List.length l7)), (8, .arr 114 (List.length l21)), (9, .arr 115 (List.length l22)), (10, .I n2), (12, .sptr [.I (l7.length : Int), .I n24, .I (l7.length : Int), .I r51.1, .I r9.1, .I n18, .I n19, .I n20, .L l23])] [(7, .box [.L r51.2.L, .I r51.2.At]), (114, .arr 3 1 (List.map LV.I l21)), (115, .arr 3 1 (List.map LV.I l22)), (282, .arr 52 9 (List.map Gq0.lv l7))] R (sMp R (sN (oCM (args := [.ptr 7 0, .I (-1), .I 6]) (ml := [(7, .box [.L r49.2.L, .I r49.2.At])]) (ml' := [(7, .box [.L r51.2.L, .I r51.2.At])]) R isF13 R (sbR (sbR (sbR sbN))) (Gq24 hr51) (mC R mN) (newI R newN) R (sN (oFa tf52_1 tk3 ts3 R R (s_ (oSt R R R tk3 ts3 R R R (s0 ((Wk.trans (Wk.eq (el := [(0, .ptr 7 0), (2, .I p2), (7, .arr 282 (List.length l7)), (8, .arr 114 (List.length l21)), (9, .arr 115 (List.length l22)), (10, .I n2), (12, .ptr 112 0)]) (ml := [(7, .box [.L r51.2.L, .I r51.2.At]), (112, .box [.I (l7.length : Int), .I n24, .I (l7.length : Int), .I r51.1, .I r9.1, .I n18, .I n19, .I n20, .arr 181 (List.length l23)]), (114, .arr 3 1 (List.map LV.I l21)), (115, .arr 3 1 (List.map LV.I l22)), (181, .arr 3 1 (List.map LV.I l23)), (282, .arr 52 9 (List.map Gq0.lv l7))]) R R R R) (Wk.trans (Wk.eq (el := [(0, .ptr 7 0), (2, .I p2), (7, .arr 282 (List.length l7)), (8, .arr 114 (List.length l21)), (9, .arr 115 (List.length l22)), (10, .I n2), (12, .ptr 112 0)]) (ml := [(7, .box [.L r51.2.L, .I r51.2.At]), (112, .box [.I (l7.length : Int), .I n24, .I (l7.length : Int), .I r51.1, .I r9.1, .I n18, .I n19, .I n20, .arr 181 (List.length l23)]), (114, .arr 3 1 (List.map LV.I l21)), (115, .arr 3 1 (List.map LV.I l22)), (181, .arr 3 1 (List.map LV.I l23)), (282, .arr 52 9 (List.map Gq0.lv l7))]) R R R R) (Wk.trans (Wk.trans (Wk.frzBx (f := LV.I) 181 3 1 l23 112 R R R (frAK R (frAK R (frAK R (frAK R (frAK R (frAK R (frAK R (frAK R (frAZ frA0))))))))) R R (prN R)) (Wk.eq (el := [(0, .ptr 7 0), (2, .I p2), (7, .arr 282 (List.length l7)), (8, .arr 114 (List.length l21)), (9, .arr 115 (List.length l22)), (10, .I n2), (12, .ptr 112 0)]) (ml := [(7, .box [.L r51.2.L, .I r51.2.At]), (112, .box [.I (l7.length : Int), .I n24, .I (l7.length : Int), .I r51.1, .I r9.1, .I n18, .I n19, .I n20, .L l23]), (114, .arr 3 1 (List.map LV.I l21)), (115, .arr 3 1 (List.map LV.I l22)), (282, .arr 52 9 (List.map Gq0.lv l7))]) R R R R)) (Wk.trans (Wk.frzB 112 [.I (l7.length : Int), .I n24, .I (l7.length : Int), .I r51.1, .I r9.1, .I n18, .I n19, .I n20, .L l23] R R R (prN R)) (Wk.eq R R R R)))))))))))))) (blockN (thenN ⟨(l7.length : Int), n24, (l7.length : Int), r51.1, r9.1, n18, n19, n20, l23, r51.2.L, r51.2.At, h, Wk.eq R R R R⟩))
     replace h := iteF h hc50
     refine LH.seqT [(0, .ptr 7 0), (2, .I p2), (7, .arr 282 (List.length l7)), (8, .arr 114 (List.length l21)), (9, .arr 115 (List.length l22)), (10, .I n2), (12, .ptr 112 0), (136, .I r49.1), (145, .bool (r49.1 == 1))] [(7, .box [.L r49.2.L, .I r49.2.At]), (112, .box [.I (l7.length : Int), .I n24, .I (l7.length : Int), .I n17, .I r9.1, .I n18, .I n19, .I n20, .arr 181 (List.length l23)]), (114, .arr 3 1 (List.map LV.I l21)), (115, .arr 3 1 (List.map LV.I l22)), (181, .arr 3 1 (List.map LV.I l23)), (282, .arr 52 9 (List.map Gq0.lv l7))] R (sN (oEq R R (sAb R zS))) (LH.cond (t := (r49.1 == 1)) R (fun hc52 => ?_) (fun hc52 => ?_))
     ·replace h := iteT h hc52
      obtain ⟨r53, hr53, h⟩ := bindS h
      exact LH.loneT [(0, .ptr 7 0), (2, .I p2), (7, .arr 282 (List.length l7)), (8, .arr 114 (List.length l21)), (9, .arr 115 (List.length l22)), (10, .I n2), (12, .sptr [.I (l7.length : Int), .I n24, .I (l7.length : Int), .I n17, .I r53.1, .I n18, .I n19, .I n20, .L l23])] [(7, .box [.L r53.2.L, .I r53.2.At]), (114, .arr 3 1 (List.map LV.I l21)), (115, .arr 3 1 (List.map LV.I l22)), (282, .arr 52 9 (List.map Gq0.lv l7))] R (sMp R (sN (oBS (f := LV.I) (ys := [(-1), 0, 3, 9999, 10000]) te22 tr3 ts3 R R R okI (sN (oCM (args := [.ptr 7 0, .L [(-1), 0, 3, 9999, 10000]]) (ml := [(7, .box [.L r49.2.L, .I r49.2.At])]) (ml' := [(7, .box [.L r53.2.L, .I r53.2.At])]) R isF29 R (sbR (sbR sbN)) (Gq22 hr53) (mC R mN) (newI R newN) R (sN (oFa tf52_2 tk3 ts3 R R (s_ (oSt R R R tk3 ts3 R R R (s0 ((Wk.trans (Wk.eq (el := [(0, .ptr 7 0), (2, .I p2), (7, .arr 282 (List.length l7)), (8, .arr 114 (List.length l21)), (9, .arr 115 (List.length l22)), (10, .I n2), (12, .ptr 112 0)]) (ml := [(7, .box [.L r53.2.L, .I r53.2.At]), (112, .box [.I (l7.length : Int), .I n24, .I (l7.length : Int), .I n17, .I r53.1, .I n18, .I n19, .I n20, .arr 181 (List.length l23)]), (114, .arr 3 1 (List.map LV.I l21)), (115, .arr 3 1 (List.map LV.I l22)), (181, .arr 3 1 (List.map LV.I l23)), (282, .arr 52 9 (List.map Gq0.lv l7))]) R R R R) (Wk.trans (Wk.eq (el := [(0, .ptr 7 0), (2, .I p2), (7, .arr 282 (List.length l7)), (8, .arr 114 (List.length l21)), (9, .arr 115 (List.length l22)), (10, .I n2), (12, .ptr 112 0)]) (ml := [(7, .box [.L r53.2.L, .I r53.2.At]), (112, .box [.I (l7.length : Int), .I n24, .I (l7.length : Int), .I n17, .I r53.1, .I n18, .I n19, .I n20, .arr 181 (List.length l23)]), (114, .arr 3 1 (List.map LV.I l21)), (115, .arr 3 1 (List.map LV.I l22)), (181, .arr 3 1 (List.map LV.I l23)), (282, .arr 52 9 (List.map Gq0.lv l7))]) R R R R) (Wk.trans (Wk.trans (Wk.frzBx (f := LV.I) 181 3 1 l23 112 R R R (frAK R (frAK R (frAK R (frAK R (frAK R (frAK R (frAK R (frAK R (frAZ frA0))))))))) R R (prN R)) (Wk.eq (el := [(0, .ptr 7 0), (2, .I p2), (7, .arr 282 (List.length l7)), (8, .arr 114 (List.length l21)), (9, .arr 115 (List.length l22)), (10, .I n2), (12, .ptr 112 0)]) (ml := [(7, .box [.L r53.2.L, .I r53.2.At]), (112, .box [.I (l7.length : Int), .I n24, .I (l7.length : Int), .I n17, .I r53.1, .I n18, .I n19, .I n20, .L l23]), (114, .arr 3 1 (List.map LV.I l21)), (115, .arr 3 1 (List.map LV.I l22)), (282, .arr 52 9 (List.map Gq0.lv l7))]) R R R R)) (Wk.trans (Wk.frzB 112 [.I (l7.length : Int), .I n24, .I (l7.length : Int), .I n17, .I r53.1, .I n18, .I n19, .I n20, .L l23] R R R (prN R)) (Wk.eq R R R R)))))))))))))))) (blockN (thenN ⟨(l7.length : Int), n24, (l7.length : Int), n17, r53.1, n18, n19, n20, l23, r53.2.L, r53.2.At, h, Wk.eq R R R R⟩))
     replace h := iteF h hc52
     refine LH.seqT [(0, .ptr 7 0), (2, .I p2), (7, .arr 282 (List.length l7)), (8, .arr 114 (List.length l21)), (9, .arr 115 (List.length l22)), (10, .I n2), (12, .ptr 112 0), (136, .I r49.1), (151, .bool (r49.1 == 2))] [(7, .box [.L r49.2.L, .I r49.2.At]), (112, .box [.I (l7.length : Int), .I n24, .I (l7.length : Int), .I n17, .I r9.1, .I n18, .I n19, .I n20, .arr 181 (List.length l23)]), (114, .arr 3 1 (List.map LV.I l21)), (115, .arr 3 1 (List.map LV.I l22)), (181, .arr 3 1 (List.map LV.I l23)), (282, .arr 52 9 (List.map Gq0.lv l7))] R (sN (oEq R R (sAb R zS))) (LH.cond (t := (r49.1 == 2)) R (fun hc54 => ?_) (fun hc54 => ?_))
     ·replace h := iteT h hc54
      obtain ⟨r55, hr55, h⟩ := bindS h
      exact LH.loneT [(0, .ptr 7 0), (2, .I p2), (7, .arr 282 (List.length l7)), (8, .arr 114 (List.length l21)), (9, .arr 115 (List.length l22)), (10, .I n2), (12, .sptr [.I (l7.length : Int), .I n24, .I (l7.length : Int), .I n17, .I r9.1, .I r55.1, .I n19, .I n20, .L l23])] [(7, .box [.L r55.2.L, .I r55.2.At]), (114, .arr 3 1 (List.map LV.I l21)), (115, .arr 3 1 (List.map LV.I l22)), (282, .arr 52 9 (List.map Gq0.lv l7))] R (sMp R (sN (oBS (f := LV.I) (ys := [(-1), 0, 10, 1000000, 1000001]) te22 tr3 ts3 R R R okI (sN (oCM (args := [.ptr 7 0, .L [(-1), 0, 10, 1000000, 1000001]]) (ml := [(7, .box [.L r49.2.L, .I r49.2.At])]) (ml' := [(7, .box [.L r55.2.L, .I r55.2.At])]) R isF29 R (sbR (sbR sbN)) (Gq22 hr55) (mC R mN) (newI R newN) R (sN (oFa tf52_3 tk3 ts3 R R (s_ (oSt R R R tk3 ts3 R R R (s0 ((Wk.trans (Wk.eq (el := [(0, .ptr 7 0), (2, .I p2), (7, .arr 282 (List.length l7)), (8, .arr 114 (List.length l21)), (9, .arr 115 (List.length l22)), (10, .I n2), (12, .ptr 112 0)]) (ml := [(7, .box [.L r55.2.L, .I r55.2.At]), (112, .box [.I (l7.length : Int), .I n24, .I (l7.length : Int), .I n17, .I r9.1, .I r55.1, .I n19, .I n20, .arr 181 (List.length l23)]), (114, .arr 3 1 (List.map LV.I l21)), (115, .arr 3 1 (List.map LV.I l22)), (181, .arr 3 1 (List.map LV.I l23)), (282, .arr 52 9 (List.map Gq0.lv l7))]) R R R R) (Wk.trans (Wk.eq (el := [(0, .ptr 7 0), (2, .I p2), (7, .arr 282 (List.length l7)), (8, .arr 114 (List.length l21)), (9, .arr 115 (List.length l22)), (10, .I n2), (12, .ptr 112 0)]) (ml := [(7, .box [.L r55.2.L, .I r55.2.At]), (112, .box [.I (l7.length : Int), .I n24, .I (l7.length : Int), .I n17, .I r9.1, .I r55.1, .I n19, .I n20, .arr 181 (List.length l23)]), (114, .arr 3 1 (List.map LV.I l21)), (115, .arr 3 1 (List.map LV.I l22)), (181, .arr 3 1 (List.map LV.I l23)), (282, .arr 52 9 (List.map Gq0.lv l7))]) R R R R) (Wk.trans (Wk.trans (Wk.frzBx (f := LV.I) 181 3 1 l23 112 R R R (frAK R (frAK R (frAK R (frAK R (frAK R (frAK R (frAK R (frAK R (frAZ frA0))))))))) R R (prN R)) (Wk.eq (el := [(0, .ptr 7 0), (2, .I p2), (7, .arr 282 (List.length l7)), (8, .arr 114 (List.length l21)), (9, .arr 115 (List.length l22)), (10, .I n2), (12, .ptr 112 0)]) (ml := [(7, .box [.L r55.2.L, .I r55.2.At]), (112, .box [.I (l7.length : Int), .I n24, .I (l7.length : Int), .I n17, .I r9.1, .I r55.1, .I n19, .I n20, .L l23]), (114, .arr 3 1 (List.map LV.I l21)), (115, .arr 3 1 (List.map LV.I l22)), (282, .arr 52 9 (List.map Gq0.lv l7))]) R R R R)) (Wk.trans (Wk.frzB 112 [.I (l7.length : Int), .I n24, .I (l7.length : Int), .I n17, .I r9.1, .I r55.1, .I n19, .I n20, .L l23] R R R (prN R)) (Wk.eq R R R R)))))))))))))))) (blockN (thenN ⟨(l7.length : Int), n24, (l7.length : Int), n17, r9.1, r55.1, n19, n20, l23, r55.2.L, r55.2.At, h, Wk.eq R R R R⟩))
     replace h := iteF h hc54
     refine LH.seqT [(0, .ptr 7 0), (2, .I p2), (7, .arr 282 (List.length l7)), (8, .arr 114 (List.length l21)), (9, .arr 115 (List.length l22)), (10, .I n2), (12, .ptr 112 0), (136, .I r49.1), (157, .bool (r49.1 == 3))] [(7, .box [.L r49.2.L, .I r49.2.At]), (112, .box [.I (l7.length : Int), .I n24, .I (l7.length : Int), .I n17, .I r9.1, .I n18, .I n19, .I n20, .arr 181 (List.length l23)]), (114, .arr 3 1 (List.map LV.I l21)), (115, .arr 3 1 (List.map LV.I l22)), (181, .arr 3 1 (List.map LV.I l23)), (282, .arr 52 9 (List.map Gq0.lv l7))] R (sN (oEq R R (sAb R zS))) (LH.cond (t := (r49.1 == 3)) R (fun hc56 => ?_) (fun hc56 => ?_))
     ·replace h := iteT h hc56
      obtain ⟨r57, hr57, h⟩ := bindS h
      exact LH.loneT [(0, .ptr 7 0), (2, .I p2), (7, .arr 282 (List.length l7)), (8, .arr 114 (List.length l21)), (9, .arr 115 (List.length l22)), (10, .I n2), (12, .sptr [.I (l7.length : Int), .I n24, .I (l7.length : Int), .I n17, .I r9.1, .I n18, .I r57.1, .I n20, .L l23])] [(7, .box [.L r57.2.L, .I r57.2.At]), (114, .arr 3 1 (List.map LV.I l21)), (115, .arr 3 1 (List.map LV.I l22)), (282, .arr 52 9 (List.map Gq0.lv l7))] R (sMp R (sN (oBS (f := LV.I) (ys := [(-1), 0, 1, 99, 100]) te22 tr3 ts3 R R R okI (sN (oCM (args := [.ptr 7 0, .L [(-1), 0, 1, 99, 100]]) (ml := [(7, .box [.L r49.2.L, .I r49.2.At])]) (ml' := [(7, .box [.L r57.2.L, .I r57.2.At])]) R isF29 R (sbR (sbR sbN)) (Gq22 hr57) (mC R mN) (newI R newN) R (sN (oFa tf52_4 tk3 ts3 R R (s_ (oSt R R R tk3 ts3 R R R (s0 ((Wk.trans (Wk.eq (el := [(0, .ptr 7 0), (2, .I p2), (7, .arr 282 (List.length l7)), (8, .arr 114 (List.length l21)), (9, .arr 115 (List.length l22)), (10, .I n2), (12, .ptr 112 0)]) (ml := [(7, .box [.L r57.2.L, .I r57.2.At]), (112, .box [.I (l7.length : Int), .I n24, .I (l7.length : Int), .I n17, .I r9.1, .I n18, .I r57.1, .I n20, .arr 181 (List.length l23)]), (114, .arr 3 1 (List.map LV.I l21)), (115, .arr 3 1 (List.map LV.I l22)), (181, .arr 3 1 (List.map LV.I l23)), (282, .arr 52 9 (List.map Gq0.lv l7))]) R R R R) (Wk.trans (Wk.eq (el := [(0, .ptr 7 0), (2, .I p2), (7, .arr 282 (List.length l7)), (8, .arr 114 (List.length l21)), (9, .arr 115 (List.length l22)), (10, .I n2), (12, .ptr 112 0)]) (ml := [(7, .box [.L r57.2.L, .I r57.2.At]), (112, .box [.I (l7.length : Int), .I n24, .I (l7.length : Int), .I n17, .I r9.1, .I n18, .I r57.1, .I n20, .arr 181 (List.length l23)]), (114, .arr 3 1 (List.map LV.I l21)), (115, .arr 3 1 (List.map LV.I l22)), (181, .arr 3 1 (List.map LV.I l23)), (282, .arr 52 9 (List.map Gq0.lv l7))]) R R R R) (Wk.trans (Wk.trans (Wk.frzBx (f := LV.I) 181 3 1 l23 112 R R R (frAK R (frAK R (frAK R (frAK R (frAK R (frAK R (frAK R (frAK R (frAZ frA0))))))))) R R (prN R)) (Wk.eq (el := [(0, .ptr 7 0), (2, .I p2), (7, .arr 282 (List.length l7)), (8, .arr 114 (List.length l21)), (9, .arr 115 (List.length l22)), (10, .I n2), (12, .ptr 112 0)]) (ml := [(7, .box [.L r57.2.L, .I r57.2.At]), (112, .box [.I (l7.length : Int), .I n24, .I (l7.length : Int), .I n17, .I r9.1, .I n18, .I r57.1, .I n20, .L l23]), (114, .arr 3 1 (List.map LV.I l21)), (115, .arr 3 1 (List.map LV.I l22)), (282, .arr 52 9 (List.map Gq0.lv l7))]) R R R R)) (Wk.trans (Wk.frzB 112 [.I (l7.length : Int), .I n24, .I (l7.length : Int), .I n17, .I r9.1, .I n18, .I r57.1, .I n20, .L l23] R R R (prN R)) (Wk.eq R R R R)))))))))))))))) (blockN (thenN ⟨(l7.length : Int), n24, (l7.length : Int), n17, r9.1, n18, r57.1, n20, l23, r57.2.L, r57.2.At, h, Wk.eq R R R R⟩))
     replace h := iteF h hc56
     refine LH.seqT [(0, .ptr 7 0), (2, .I p2), (7, .arr 282 (List.length l7)), (8, .arr 114 (List.length l21)), (9, .arr 115 (List.length l22)), (10, .I n2), (12, .ptr 112 0), (136, .I r49.1), (163, .bool (r49.1 == 4))] [(7, .box [.L r49.2.L, .I r49.2.At]), (112, .box [.I (l7.length : Int), .I n24, .I (l7.length : Int), .I n17, .I r9.1, .I n18, .I n19, .I n20, .arr 181 (List.length l23)]), (114, .arr 3 1 (List.map LV.I l21)), (115, .arr 3 1 (List.map LV.I l22)), (181, .arr 3 1 (List.map LV.I l23)), (282, .arr 52 9 (List.map Gq0.lv l7))] R (sN (oEq R R (sAb R zS))) (LH.cond (t := (r49.1 == 4)) R (fun hc58 => ?_) (fun hc58 => ?_))
     ·replace h := iteT h hc58
      obtain ⟨r59, hr59, h⟩ := bindS h
      exact LH.loneT [(0, .ptr 7 0), (2, .I p2), (7, .arr 282 (List.length l7)), (8, .arr 114 (List.length l21)), (9, .arr 115 (List.length l22)), (10, .I n2), (12, .sptr [.I (l7.length : Int), .I n24, .I (l7.length : Int), .I n17, .I r9.1, .I n18, .I n19, .I r59.1, .L l23])] [(7, .box [.L r59.2.L, .I r59.2.At]), (114, .arr 3 1 (List.map LV.I l21)), (115, .arr 3 1 (List.map LV.I l22)), (282, .arr 52 9 (List.map Gq0.lv l7))] R (sMp R (sN (oBS (f := LV.I) (ys := [(-1), 0, 1, 99, 100]) te22 tr3 ts3 R R R okI (sN (oCM (args := [.ptr 7 0, .L [(-1), 0, 1, 99, 100]]) (ml := [(7, .box [.L r49.2.L, .I r49.2.At])]) (ml' := [(7, .box [.L r59.2.L, .I r59.2.At])]) R isF29 R (sbR (sbR sbN)) (Gq22 hr59) (mC R mN) (newI R newN) R (sN (oFa tf52_5 tk3 ts3 R R (s_ (oSt R R R tk3 ts3 R R R (s0 ((Wk.trans (Wk.eq (el := [(0, .ptr 7 0), (2, .I p2), (7, .arr 282 (List.length l7)), (8, .arr 114 (List.length l21)), (9, .arr 115 (List.length l22)), (10, .I n2), (12, .ptr 112 0)]) (ml := [(7, .box [.L r59.2.L, .I r59.2.At]), (112, .box [.I (l7.length : Int), .I n24, .I (l7.length : Int), .I n17, .I r9.1, .I n18, .I n19, .I r59.1, .arr 181 (List.length l23)]), (114, .arr 3 1 (List.map LV.I l21)), (115, .arr 3 1 (List.map LV.I l22)), (181, .arr 3 1 (List.map LV.I l23)), (282, .arr 52 9 (List.map Gq0.lv l7))]) R R R R) (Wk.trans (Wk.eq (el := [(0, .ptr 7 0), (2, .I p2), (7, .arr 282 (List.length l7)), (8, .arr 114 (List.length l21)), (9, .arr 115 (List.length l22)), (10, .I n2), (12, .ptr 112 0)]) (ml := [(7, .box [.L r59.2.L, .I r59.2.At]), (112, .box [.I (l7.length : Int), .I n24, .I (l7.length : Int), .I n17, .I r9.1, .I n18, .I n19, .I r59.1, .arr 181 (List.length l23)]), (114, .arr 3 1 (List.map LV.I l21)), (115, .arr 3 1 (List.map LV.I l22)), (181, .arr 3 1 (List.map LV.I l23)), (282, .arr 52 9 (List.map Gq0.lv l7))]) R R R R) (Wk.trans (Wk.trans (Wk.frzBx (f := LV.I) 181 3 1 l23 112 R R R (frAK R (frAK R (frAK R (frAK R (frAK R (frAK R (frAK R (frAK R (frAZ frA0))))))))) R R (prN R)) (Wk.eq (el := [(0, .ptr 7 0), (2, .I p2), (7, .arr 282 (List.length l7)), (8, .arr 114 (List.length l21)), (9, .arr 115 (List.length l22)), (10, .I n2), (12, .ptr 112 0)]) (ml := [(7, .box [.L r59.2.L, .I r59.2.At]), (112, .box [.I (l7.length : Int), .I n24, .I (l7.length : Int), .I n17, .I r9.1, .I n18, .I n19, .I r59.1, .L l23]), (114, .arr 3 1 (List.map LV.I l21)), (115, .arr 3 1 (List.map LV.I l22)), (282, .arr 52 9 (List.map Gq0.lv l7))]) R R R R)) (Wk.trans (Wk.frzB 112 [.I (l7.length : Int), .I n24, .I (l7.length : Int), .I n17, .I r9.1, .I n18, .I n19, .I r59.1, .L l23] R R R (prN R)) (Wk.eq R R R R)))))))))))))))) (blockN (thenN ⟨(l7.length : Int), n24, (l7.length : Int), n17, r9.1, n18, n19, r59.1, l23, r59.2.L, r59.2.At, h, Wk.eq R R R R⟩))
     replace h := iteF h hc58
     refine LH.seqT [(0, .ptr 7 0), (2, .I p2), (7, .arr 282 (List.length l7)), (8, .arr 114 (List.length l21)), (9, .arr 115 (List.length l22)), (10, .I n2), (12, .ptr 112 0), (169, .bool (r49.1 == 5))] [(7, .box [.L r49.2.L, .I r49.2.At]), (112, .box [.I (l7.length : Int), .I n24, .I (l7.length : Int), .I n17, .I r9.1, .I n18, .I n19, .I n20, .arr 181 (List.length l23)]), (114, .arr 3 1 (List.map LV.I l21)), (115, .arr 3 1 (List.map LV.I l22)), (181, .arr 3 1 (List.map LV.I l23)), (282, .arr 52 9 (List.map Gq0.lv l7))] R (sN (oEq R R (sAb R zS))) (LH.cond (t := (r49.1 == 5)) R (fun hc60 => ?_) (fun hc60 => ?_))
     ·replace h := iteT h hc60
      obtain ⟨r61, hr61, h⟩ := bindS h
      obtain ⟨v62, hv62, h⟩ := bindS h
      exact LH.loneTM mixed [] [0, 1112, 0, 0, 100007, 0, 2, 0, 100112] [(0, .ptr 7 0), (2, .I p2), (7, .arr 282 (List.length l7)), (8, .arr 114 (List.length l21)), (9, .arr 115 (List.length l22)), (10, .I n2), (12, .sptr [.I (l7.length : Int), .I n24, .I (l7.length : Int), .I n17, .I r9.1, .I n18, .I n19, .I n20, .L v62])] [(7, .box [.L r61.2.L, .I r61.2.At]), (114, .arr 3 1 (List.map LV.I l21)), (115, .arr 3 1 (List.map LV.I l22)), (282, .arr 52 9 (List.map Gq0.lv l7))] R R (by kernel_rfl) (mN0 (oFa tf52_6 tk22 ts22 R R ⟨R, mD R R R (fun _ b _ d => oLdP R b R R tk22 ta22 d) (mMp R (mN0 (oBS (f := LV.I) (ys := [0, 9999, 10000, (-1)]) te22 tr3 ts3 R R R okI ⟨R, mW R R R (fun _ b _ d => oCM (args := [.ptr 7 0, .L [0, 9999, 10000, (-1)]]) (ml := [(7, .box [.L r49.2.L, .I r49.2.At])]) (ml' := [(7, .box [.L r61.2.L, .I r61.2.At])]) R isF29 R (sbR (sbR sbN)) (Gq22 hr61) (mC b mN) (newI R newN) R d) (mN0 (oBS (f := LV.I) (ys := [r61.1]) te22 tr3 ts3 R R R okI ⟨R, mN2 (oAp (f := LV.I) te22 tr3 ts3 R R (prN R) R hv62 (mN0 (oFa tf52_6 tk22 ts22 R R ⟨R, mS R R R (fun _ b _ d => oSt R R R tk22 ts22 b R R d) (m0 ((Wk.trans (Wk.eq (el := [(0, .ptr 7 0), (2, .I p2), (7, .arr 282 (List.length l7)), (8, .arr 114 (List.length l21)), (9, .arr 115 (List.length l22)), (10, .I n2), (12, .ptr 112 0)]) (ml := [(7, .box [.L r61.2.L, .I r61.2.At]), (112, .box [.I (l7.length : Int), .I n24, .I (l7.length : Int), .I n17, .I r9.1, .I n18, .I n19, .I n20, .arr 181 (List.length v62)]), (114, .arr 3 1 (List.map LV.I l21)), (115, .arr 3 1 (List.map LV.I l22)), (181, .arr 3 1 (List.map LV.I v62)), (282, .arr 52 9 (List.map Gq0.lv l7))]) R R R R) (Wk.trans (Wk.eq (el := [(0, .ptr 7 0), (2, .I p2), (7, .arr 282 (List.length l7)), (8, .arr 114 (List.length l21)), (9, .arr 115 (List.length l22)), (10, .I n2), (12, .ptr 112 0)]) (ml := [(7, .box [.L r61.2.L, .I r61.2.At]), (112, .box [.I (l7.length : Int), .I n24, .I (l7.length : Int), .I n17, .I r9.1, .I n18, .I n19, .I n20, .arr 181 (List.length v62)]), (114, .arr 3 1 (List.map LV.I l21)), (115, .arr 3 1 (List.map LV.I l22)), (181, .arr 3 1 (List.map LV.I v62)), (282, .arr 52 9 (List.map Gq0.lv l7))]) R R R R) (Wk.trans (Wk.trans (Wk.frzBx (f := LV.I) 181 3 1 v62 112 R R R (frAK R (frAK R (frAK R (frAK R (frAK R (frAK R (frAK R (frAK R (frAZ frA0))))))))) R R (prN R)) (Wk.eq (el := [(0, .ptr 7 0), (2, .I p2), (7, .arr 282 (List.length l7)), (8, .arr 114 (List.length l21)), (9, .arr 115 (List.length l22)), (10, .I n2), (12, .ptr 112 0)]) (ml := [(7, .box [.L r61.2.L, .I r61.2.At]), (112, .box [.I (l7.length : Int), .I n24, .I (l7.length : Int), .I n17, .I r9.1, .I n18, .I n19, .I n20, .L v62]), (114, .arr 3 1 (List.map LV.I l21)), (115, .arr 3 1 (List.map LV.I l22)), (282, .arr 52 9 (List.map Gq0.lv l7))]) R R R R)) (Wk.trans (Wk.frzB 112 [.I (l7.length : Int), .I n24, .I (l7.length : Int), .I n17, .I r9.1, .I n18, .I n19, .I n20, .L v62] R R R (prN R)) (Wk.eq R R R R)))))))⟩)))⟩))⟩)))⟩)) (blockN (thenN ⟨(l7.length : Int), n24, (l7.length : Int), n17, r9.1, n18, n19, n20, v62, r61.2.L, r61.2.At, h, Wk.eq R R R R⟩))
     replace h := iteF h hc60
     obtain ⟨r63, hr63, h⟩ := bindS h
     exact LH.loneT [(0, .ptr 7 0), (2, .I p2), (7, .arr 282 (List.length l7)), (8, .arr 114 (List.length l21)), (9, .arr 115 (List.length l22)), (10, .I n2), (12, .sptr [.I r63.1.Time, .I r63.1.Source, .I r63.1.Seq, .I n17, .I r9.1, .I n18, .I n19, .I n20, .L l23])] [(7, .box [.L r63.2.L, .I r63.2.At]), (114, .arr 3 1 (List.map LV.I l21)), (115, .arr 3 1 (List.map LV.I l22)), (282, .arr 52 9 (List.map Gq0.lv l7))] R (sMp R (sN (oCM (args := [.ptr 7 0, .I 4]) (ml := [(7, .box [.L r49.2.L, .I r49.2.At])]) (ml' := [(7, .box [.L r63.2.L, .I r63.2.At])]) R isF32 R (sbR (sbR sbN)) (Gq32 hr63) (mC R mN) (newI R newN) R (sN (oFa tf52_0 tk50 ts50 R R (s_ (oSt R R R tk50 ts50 R R R (s0 ((Wk.trans (Wk.eq (el := [(0, .ptr 7 0), (2, .I p2), (7, .arr 282 (List.length l7)), (8, .arr 114 (List.length l21)), (9, .arr 115 (List.length l22)), (10, .I n2), (12, .ptr 112 0)]) (ml := [(7, .box [.L r63.2.L, .I r63.2.At]), (112, .box [.I r63.1.Time, .I r63.1.Source, .I r63.1.Seq, .I n17, .I r9.1, .I n18, .I n19, .I n20, .arr 181 (List.length l23)]), (114, .arr 3 1 (List.map LV.I l21)), (115, .arr 3 1 (List.map LV.I l22)), (181, .arr 3 1 (List.map LV.I l23)), (282, .arr 52 9 (List.map Gq0.lv l7))]) R R R R) (Wk.trans (Wk.eq (el := [(0, .ptr 7 0), (2, .I p2), (7, .arr 282 (List.length l7)), (8, .arr 114 (List.length l21)), (9, .arr 115 (List.length l22)), (10, .I n2), (12, .ptr 112 0)]) (ml := [(7, .box [.L r63.2.L, .I r63.2.At]), (112, .box [.I r63.1.Time, .I r63.1.Source, .I r63.1.Seq, .I n17, .I r9.1, .I n18, .I n19, .I n20, .arr 181 (List.length l23)]), (114, .arr 3 1 (List.map LV.I l21)), (115, .arr 3 1 (List.map LV.I l22)), (181, .arr 3 1 (List.map LV.I l23)), (282, .arr 52 9 (List.map Gq0.lv l7))]) R R R R) (Wk.trans (Wk.trans (Wk.frzBx (f := LV.I) 181 3 1 l23 112 R R R (frAK R (frAK R (frAK R (frAK R (frAK R (frAK R (frAK R (frAK R (frAZ frA0))))))))) R R (prN R)) (Wk.eq (el := [(0, .ptr 7 0), (2, .I p2), (7, .arr 282 (List.length l7)), (8, .arr 114 (List.length l21)), (9, .arr 115 (List.length l22)), (10, .I n2), (12, .ptr 112 0)]) (ml := [(7, .box [.L r63.2.L, .I r63.2.At]), (112, .box [.I r63.1.Time, .I r63.1.Source, .I r63.1.Seq, .I n17, .I r9.1, .I n18, .I n19, .I n20, .L l23]), (114, .arr 3 1 (List.map LV.I l21)), (115, .arr 3 1 (List.map LV.I l22)), (282, .arr 52 9 (List.map Gq0.lv l7))]) R R R R)) (Wk.trans (Wk.frzB 112 [.I r63.1.Time, .I r63.1.Source, .I r63.1.Seq, .I n17, .I r9.1, .I n18, .I n19, .I n20, .L l23] R R R (prN R)) (Wk.eq R R R R)))))))))))))) (blockN (thenN ⟨r63.1.Time, r63.1.Source, r63.1.Seq, n17, r9.1, n18, n19, n20, l23, r63.2.L, r63.2.At, h, Wk.eq R R R R⟩))
    replace h := iteF h hc48
    exact LH.skip (thenN ⟨(l7.length : Int), n24, (l7.length : Int), n17, r9.1, n18, n19, n20, l23, w45.2.1, w45.2.2, h, (Wk.trans (Wk.eq (el := [(0, .ptr 7 0), (2, .I p2), (7, .arr 282 (List.length l7)), (8, .arr 114 (List.length l21)), (9, .arr 115 (List.length l22)), (10, .I n2), (12, .ptr 112 0)]) (ml := [(7, .box [.L w45.2.1, .I w45.2.2]), (112, .box [.I (l7.length : Int), .I n24, .I (l7.length : Int), .I n17, .I r9.1, .I n18, .I n19, .I n20, .arr 181 (List.length l23)]), (114, .arr 3 1 (List.map LV.I l21)), (115, .arr 3 1 (List.map LV.I l22)), (181, .arr 3 1 (List.map LV.I l23)), (282, .arr 52 9 (List.map Gq0.lv l7))]) R R R R) (Wk.trans (Wk.eq (el := [(0, .ptr 7 0), (2, .I p2), (7, .arr 282 (List.length l7)), (8, .arr 114 (List.length l21)), (9, .arr 115 (List.length l22)), (10, .I n2), (12, .ptr 112 0)]) (ml := [(7, .box [.L w45.2.1, .I w45.2.2]), (112, .box [.I (l7.length : Int), .I n24, .I (l7.length : Int), .I n17, .I r9.1, .I n18, .I n19, .I n20, .arr 181 (List.length l23)]), (114, .arr 3 1 (List.map LV.I l21)), (115, .arr 3 1 (List.map LV.I l22)), (181, .arr 3 1 (List.map LV.I l23)), (282, .arr 52 9 (List.map Gq0.lv l7))]) R R R R) (Wk.trans (Wk.trans (Wk.frzBx (f := LV.I) 181 3 1 l23 112 R R R (frAK R (frAK R (frAK R (frAK R (frAK R (frAK R (frAK R (frAK R (frAZ frA0))))))))) R R (prN R)) (Wk.eq (el := [(0, .ptr 7 0), (2, .I p2), (7, .arr 282 (List.length l7)), (8, .arr 114 (List.length l21)), (9, .arr 115 (List.length l22)), (10, .I n2), (12, .ptr 112 0)]) (ml := [(7, .box [.L w45.2.1, .I w45.2.2]), (112, .box [.I (l7.length : Int), .I n24, .I (l7.length : Int), .I n17, .I r9.1, .I n18, .I n19, .I n20, .L l23]), (114, .arr 3 1 (List.map LV.I l21)), (115, .arr 3 1 (List.map LV.I l22)), (282, .arr 52 9 (List.map Gq0.lv l7))]) R R R R)) (Wk.trans (Wk.frzB 112 [.I (l7.length : Int), .I n24, .I (l7.length : Int), .I n17, .I r9.1, .I n18, .I n19, .I n20, .L l23] R R R (prN R)) (Wk.eq R R R R)))))⟩)
   clear h
   rintro e m ⟨n25, n26, n27, n28, n29, n30, n31, n32, l33, l34, n35, h, hw⟩
   refine LH.wk hw ?_
   clear hw
   unfold Gq7 at h
   obtain ⟨v36, hv36, h⟩ := bindS h
   refine LH.seqT [(0, .ptr 7 0), (2, .I p2), (7, .arr 282 (List.length v36)), (8, .arr 114 (List.length l21)), (9, .arr 115 (List.length l22)), (10, .I n2)] [(7, .box [.L l34, .I n35]), (114, .arr 3 1 (List.map LV.I l21)), (115, .arr 3 1 (List.map LV.I l22)), (282, .arr 52 9 (List.map Gq0.lv v36))] R (sMa R (sN (oLdA R tk52 ta52 ts52 R R (sN (oBS (f := Gq0.lv) (ys := [(Gq0.mk (Gq3.mk n25 n26 n27) n28 n29 n30 n31 n32 l33)]) te25 tr52 ts52 R R R Gq0.ok (sN (oAp (f := Gq0.lv) te25 tr52 ts52 R R (prN R) R hv36 (sAa R zS)))))))) ?_
   obtain ⟨r37, hr37, h⟩ := bindS h
   refine LH.seqT [(0, .ptr 7 0), (2, .I p2), (7, .arr 282 (List.length v36)), (8, .arr 114 (List.length l21)), (9, .arr 115 (List.length l22)), (10, .I n2), (184, .bool r37.1)] [(7, .box [.L r37.2.L, .I r37.2.At]), (114, .arr 3 1 (List.map LV.I l21)), (115, .arr 3 1 (List.map LV.I l22)), (282, .arr 52 9 (List.map Gq0.lv v36))] R (sMp R (sN (oCM (args := [.ptr 7 0, .I 8]) (ml := [(7, .box [.L l34, .I n35])]) (ml' := [(7, .box [.L r37.2.L, .I r37.2.At])]) R isF31 R (sbR (sbR sbN)) (Gq20 hr37) (mC R mN) (newI R newN) R zS))) (LH.cond (t := r37.1) R (fun hc38 => ?_) (fun hc38 => ?_))
   ·replace h := iteT h hc38
    obtain ⟨r39, hr39, h⟩ := bindS h
    obtain ⟨x40, hx40, h⟩ := bindS h
    obtain ⟨v41, hv41, h⟩ := bindS h
    refine LH.loneT [(0, .ptr 7 0), (2, .I p2), (7, .arr 282 (List.length v41)), (8, .arr 114 (List.length l21)), (9, .arr 115 (List.length l22)), (10, .I n2)] [(7, .box [.L r39.2.L, .I r39.2.At]), (114, .arr 3 1 (List.map LV.I l21)), (115, .arr 3 1 (List.map LV.I l22)), (282, .arr 52 9 (List.map Gq0.lv v41))] R (sMa R (sMa R (sMp R (sMa R (sN (oLnA (f := Gq0.lv) te25 R R (sN (oCM (args := [.ptr 7 0, .I (v36.length : Int)]) (ml := [(7, .box [.L r37.2.L, .I r37.2.At])]) (ml' := [(7, .box [.L r39.2.L, .I r39.2.At])]) R isF26 R (sbR (sbR sbN)) (Gq18 hr39) (mC R mN) (newI R newN) R (sN (oIxA (f := Gq0.lv) te25 tk52 ts52 R R R hx40 (sN (oLdEA (f := Gq0.lv) R R (idxOk hx40).2 R R tk52 ta52 ts52 R R (sN (oBS (f := Gq0.lv) (ys := [x40]) te25 tr52 ts52 R R R Gq0.ok (sN (oAp (f := Gq0.lv) te25 tr52 ts52 R R (prN R) R hv41 (sAa R zS))))))))))))))))) (blockN (thenN (LH.loneT [(0, .ptr 7 0), (2, .I p2), (7, .arr 282 (List.length v41)), (8, .arr 114 (List.length l21)), (9, .arr 115 (List.length l22)), (10, .I (i64 (n2 - 1)))] [(7, .box [.L r39.2.L, .I r39.2.At]), (114, .arr 3 1 (List.map LV.I l21)), (115, .arr 3 1 (List.map LV.I l22)), (282, .arr 52 9 (List.map Gq0.lv v41))] R (sMi R (sN (oSub R R (sAi R zS)))) ?_)))
    exact roundI ⟨(i64 (n2 - 1)), r39.2.L, r39.2.At, l21, l22, v41, hrec1 ▸ h, R, R⟩ (Wk.eq R R R R)
   replace h := iteF h hc38
   refine LH.skip (blockN (thenN (LH.loneT [(0, .ptr 7 0), (2, .I p2), (7, .arr 282 (List.length v36)), (8, .arr 114 (List.length l21)), (9, .arr 115 (List.length l22)), (10, .I (i64 (n2 - 1)))] [(7, .box [.L r37.2.L, .I r37.2.At]), (114, .arr 3 1 (List.map LV.I l21)), (115, .arr 3 1 (List.map LV.I l22)), (282, .arr 52 9 (List.map Gq0.lv v36))] R (sMi R (sN (oSub R R (sAi R zS)))) ?_)))
   exact roundI ⟨(i64 (n2 - 1)), r37.2.L, r37.2.At, l21, l22, v36, hrec1 ▸ h, R, R⟩ (Wk.eq R R R R)
  replace h := iteF h hc8
  refine LH.exit (thenX (roundX (blockH (thenN (LH.wk ((Wk.trans (Wk.eq (el := [(7, .arr 282 (List.length l7))]) (ml := [(7, .box [.L l3, .I n4]), (282, .arr 52 9 (List.map Gq0.lv l7))]) R R R R) (Wk.trans (Wk.frzL (f := Gq0.lv) (el' := [(7, .lst 9 (List.map Gq0.lv l7))]) 282 52 9 l7 R R (prN R) (fZ fN)) (Wk.eq (el := [(7, .lst 9 (List.map Gq0.lv l7))]) (ml := [(7, .box [.L l3, .I n4])]) R R R R)))) (LH.seqT [(6, .lst 9 (List.map Gq0.lv l7))] [(7, .box [.L l3, .I n4])] R (sMl R (sAl R zS)) (LH.ret ?_)))))))
  obtain rfl := oI h
  exact retE (aT Tryz.results8) (lrT R (lr0 ⟨memN (mC R mN), R, prK R, Sub.rfl⟩))

theorem copies_Split_BagEvent_ok {F : Nat} {p0 : List Gq0} {p1 : (Gq0 → Option Gq3)} {p2 : (Gq0 → Gq0 → Option Bool)} {r : List Gq3 × List Int} {p1_f : Nat} {p1_c : List LV} (p1_i : IsF Tryz.prog p1_f) (p1_q : LV.pureL p1_c = true) (p1_k : ∀ (x0 : Gq0) (q : Gq3), p1 x0 = some q → LCall Tryz.prog p1_f ([.agg [.I x0.Stamp.Time, .I x0.Stamp.Source, .I x0.Stamp.Seq, .I x0.Kind, .I x0.Bag, .I x0.Seal, .I x0.From, .I x0.To, .L x0.Candidates]] ++ p1_c) (Mem.of []) (.agg [.I q.Time, .I q.Source, .I q.Seq]) (Mem.of [])) {p2_f : Nat} {p2_c : List LV} (p2_i : IsF Tryz.prog p2_f) (p2_q : LV.pureL p2_c = true) (p2_k : ∀ (x0 : Gq0) (x1 : Gq0) (q : Bool), p2 x0 x1 = some q → LCall Tryz.prog p2_f ([.agg [.I x0.Stamp.Time, .I x0.Stamp.Source, .I x0.Stamp.Seq, .I x0.Kind, .I x0.Bag, .I x0.Seal, .I x0.From, .I x0.To, .L x0.Candidates], .agg [.I x1.Stamp.Time, .I x1.Stamp.Source, .I x1.Stamp.Seq, .I x1.Kind, .I x1.Bag, .I x1.Seal, .I x1.From, .I x1.To, .L x1.Candidates]] ++ p2_c) (Mem.of []) (.bool q) (Mem.of [])) (h : copies_Split_BagEvent F p0 p1 p2 = some r) : LCall Tryz.prog 79 [.lst 9 (List.map Gq0.lv p0), .fn p1_f p1_c, .fn p2_f p2_c] (Mem.of []) (.tup [.lst 3 (List.map Gq3.lv r.1), .L r.2]) (Mem.of []) := by
  have p2_p : ∀ {l : List LV}, LV.pureL l = true → LV.pureL (l ++ p2_c) = true := pnC p2_q
  have p2_r : LV.refsL p2_c = [] := refsL_pure p2_q
  have p1_p : ∀ {l : List LV}, LV.pureL l = true → LV.pureL (l ++ p1_c) = true := pnC p1_q
  have p1_r : LV.refsL p1_c = [] := refsL_pure p1_q
  unfold copies_Split_BagEvent at h
  refine bodyT Tryz.func79 R (nT Tryz.ntmps79 R) (LH.wk (Wk.to (el := [(0, .lst 9 (List.map Gq0.lv p0)), (1, .fn p1_f p1_c), (2, .fn p2_f p2_c)]) (ml := []) (eQ ⟨R, R, R, trivial⟩) mN (by simp [keptRefs, LV.refs, LV.refsL, LV.cells, lev, Env.args, Env.of, Env.put, Env.drop, p1_r, p2_r]) (prK R)) (LH.seqT [(0, .lst 9 (List.map Gq0.lv p0)), (1, .fn p1_f p1_c), (2, .fn p2_f p2_c)] [] R (sAn R (sAn R (s0 (Wk.to (eQ ⟨R, R, R, trivial⟩) mN (by simp [keptRefs, LV.refs, LV.refsL, LV.cells, lev, Env.args, Env.of, Env.put, Env.drop, p1_r, p2_r]) (prK R))))) ?_))
  obtain ⟨v1, hv1, h⟩ := bindS h
  refine LH.seqT [(0, .lst 9 (List.map Gq0.lv p0)), (1, .fn p1_f p1_c), (2, .fn p2_f p2_c), (8, .arr 117 (List.length v1))] [(117, .arr 50 3 (List.map Gq3.lv v1))] R (sMl R (sN (oLnL (f := Gq0.lv) te25 R (sN (oMk (f := Gq3.lv) (z := (Gq3.mk 0 0 0)) (id := 117) R te95 tz50 tr50 ts50 R R R hv1 R (sAa R (s0 (Wk.to (eQ ⟨R, R, R, R, trivial⟩) ⟨R, trivial⟩ (by simp [keptRefs, LV.refs, LV.refsL, LV.cells, lev, Env.args, Env.of, Env.put, Env.drop, p1_r, p2_r]) (prK R))))))))) ?_
  obtain ⟨v2, hv2, h⟩ := bindS h
  refine LH.seqT [(0, .lst 9 (List.map Gq0.lv p0)), (1, .fn p1_f p1_c), (2, .fn p2_f p2_c), (8, .arr 117 (List.length v1)), (9, .arr 120 (List.length v2))] [(117, .arr 50 3 (List.map Gq3.lv v1)), (120, .arr 3 1 (List.map LV.I v2))] R (sMl R (sN (oLnL (f := Gq0.lv) te25 R (sN (oMk (f := LV.I) (z := 0) (id := 120) R te22 tz3 tr3 ts3 R R R hv2 R (sAa R (s0 (Wk.to (eQ ⟨R, R, R, R, R, trivial⟩) ⟨R, R, trivial⟩ (by simp [keptRefs, LV.refs, LV.refsL, LV.cells, lev, Env.args, Env.of, Env.put, Env.drop, p1_r, p2_r]) (prK R))))))))) (LH.seqT [(0, .lst 9 (List.map Gq0.lv p0)), (1, .fn p1_f p1_c), (2, .fn p2_f p2_c), (8, .arr 117 (List.length v1)), (9, .arr 120 (List.length v2)), (10, .mp 121)] [(117, .arr 50 3 (List.map Gq3.lv v1)), (120, .arr 3 1 (List.map LV.I v2)), (121, .map 50 3 (mlv Gq3.lv LV.I ([] : List (Gq3 × Int))))] R (sX ((ok_makeMap (kt := 50) (vt := 3) (id := 121) R).ok) (sN (oA (v := (.mp _)) R (s0 (Wk.to (eQ ⟨R, R, R, R, R, R, trivial⟩) ⟨R, R, R, trivial⟩ (by simp [keptRefs, LV.refs, LV.refsL, LV.cells, lev, Env.args, Env.of, Env.put, Env.drop, p1_r, p2_r]) (prK R)))))) (LH.seq (LH.seqT [(0, .lst 9 (List.map Gq0.lv p0)), (1, .fn p1_f p1_c), (2, .fn p2_f p2_c), (8, .arr 117 (List.length v1)), (9, .arr 120 (List.length v2)), (10, .mp 121), (22, .lst 9 (List.map Gq0.lv p0)), (23, .I (p0.length : Int)), (24, .I 0)] [(117, .arr 50 3 (List.map Gq3.lv v1)), (120, .arr 3 1 (List.map LV.I v2)), (121, .map 50 3 (mlv Gq3.lv LV.I ([] : List (Gq3 × Int))))] R (sMl R (sN (oLnL (f := Gq0.lv) te25 R (sMi R (s0 (Wk.to (eQ ⟨R, R, R, R, R, R, R, R, R, trivial⟩) ⟨R, R, R, trivial⟩ (by simp [keptRefs, LV.refs, LV.refsL, LV.cells, lev, Env.args, Env.of, Env.put, Env.drop, p1_r, p2_r]) (prK R))))))) (LH.block (LH.loop (fun n e m => ∃ (n3 : Int) (l4 : List Gq3) (l5 : List Int) (m6 : List (Gq3 × Int)), copies_Split_BagEvent_L1 p0 p1 p2 n n3 l4 l5 m6 = some r ∧ e = Env.of [(0, .lst 9 (List.map Gq0.lv p0)), (1, .fn p1_f p1_c), (2, .fn p2_f p2_c), (8, .arr 117 (List.length l4)), (9, .arr 120 (List.length l5)), (10, .mp 121), (22, .lst 9 (List.map Gq0.lv p0)), (23, .I (p0.length : Int)), (24, .I n3)] ∧ m = Mem.of [(117, .arr 50 3 (List.map Gq3.lv l4)), (120, .arr 3 1 (List.map LV.I l5)), (121, .map 50 3 (mlv Gq3.lv LV.I m6))]) F ⟨0, v1, v2, ([] : List (Gq3 × Int)), h, R, R⟩ ?_)))))
  clear h
  rintro n e m ⟨n3, l4, l5, m6, h, rfl, rfl⟩
  rcases n with _ | n
  · cases (show Option.none = some _ from h)
  obtain ⟨rec1, hrec1⟩ : ∃ f, f = copies_Split_BagEvent_L1 p0 p1 p2 n := ⟨_, rfl⟩
  replace h : copies_Split_BagEvent_L1_B p0 p1 p2 rec1 n3 l4 l5 m6 = some r := hrec1 ▸ h
  unfold copies_Split_BagEvent_L1_B at h
  refine LH.seqT [(0, .lst 9 (List.map Gq0.lv p0)), (1, .fn p1_f p1_c), (2, .fn p2_f p2_c), (8, .arr 117 (List.length l4)), (9, .arr 120 (List.length l5)), (10, .mp 121), (22, .lst 9 (List.map Gq0.lv p0)), (23, .I (p0.length : Int)), (24, .I n3), (25, .bool (decide (n3 < (p0.length : Int))))] [(117, .arr 50 3 (List.map Gq3.lv l4)), (120, .arr 3 1 (List.map LV.I l5)), (121, .map 50 3 (mlv Gq3.lv LV.I m6))] R (sN (oLt R R (s0 (Wk.to (eQ ⟨R, R, R, R, R, R, R, R, R, R, trivial⟩) ⟨R, R, R, trivial⟩ (by simp [keptRefs, LV.refs, LV.refsL, LV.cells, lev, Env.args, Env.of, Env.put, Env.drop, p1_r, p2_r]) (prK R))))) (LH.seq (LH.cond (t := (decide (n3 < (p0.length : Int)))) R (fun hc7 => ?_) (fun hc7 => ?_)))
  ·replace h := iteT h hc7
   refine LH.skip (thenN (LH.wk (Wk.to (el := [(0, .lst 9 (List.map Gq0.lv p0)), (1, .fn p1_f p1_c), (2, .fn p2_f p2_c), (8, .arr 117 (List.length l4)), (9, .arr 120 (List.length l5)), (10, .mp 121), (22, .lst 9 (List.map Gq0.lv p0)), (23, .I (p0.length : Int)), (24, .I n3)]) (ml := [(117, .arr 50 3 (List.map Gq3.lv l4)), (120, .arr 3 1 (List.map LV.I l5)), (121, .map 50 3 (mlv Gq3.lv LV.I m6))]) (eQ ⟨R, R, R, R, R, R, R, R, R, trivial⟩) ⟨R, R, R, trivial⟩ (by simp [keptRefs, LV.refs, LV.refsL, LV.cells, lev, Env.args, Env.of, Env.put, Env.drop, p1_r, p2_r]) (prK R)) (LH.seq (LH.block ?_))))
   obtain ⟨x8, hx8, h⟩ := bindS h
   refine LH.seqT [(0, .lst 9 (List.map Gq0.lv p0)), (1, .fn p1_f p1_c), (2, .fn p2_f p2_c), (8, .arr 117 (List.length l4)), (9, .arr 120 (List.length l5)), (10, .mp 121), (11, .I n3), (12, .ptr 112 0), (22, .lst 9 (List.map Gq0.lv p0)), (23, .I (p0.length : Int)), (24, .I n3)] [(112, .box [.I x8.Stamp.Time, .I x8.Stamp.Source, .I x8.Stamp.Seq, .I x8.Kind, .I x8.Bag, .I x8.Seal, .I x8.From, .I x8.To, .L x8.Candidates]), (117, .arr 50 3 (List.map Gq3.lv l4)), (120, .arr 3 1 (List.map LV.I l5)), (121, .map 50 3 (mlv Gq3.lv LV.I m6))] R (sMi R (sN (oIx (f := Gq0.lv) te25 tk52 ts52 R R Gq0.ok hx8 R (sN (oLdA R tk52 ta52 ts52 R R (sN (oAl (id := 112) R tz52 R R (sAi R (s_ (oSt R R R tk52 ts52 R R R (s0 (Wk.to (eQ ⟨R, R, R, R, R, R, R, R, R, R, R, trivial⟩) ⟨R, R, R, R, trivial⟩ (by simp [keptRefs, LV.refs, LV.refsL, LV.cells, lev, Env.args, Env.of, Env.put, Env.drop, p1_r, p2_r]) (prK R))))))))))))) ?_
   obtain ⟨r9, hr9, h⟩ := bindS h
   obtain ⟨x10, hx10, h⟩ := bindS h
   refine LH.seqT [(0, .lst 9 (List.map Gq0.lv p0)), (1, .fn p1_f p1_c), (2, .fn p2_f p2_c), (8, .arr 117 (List.length (l4.set n3.toNat r9))), (9, .arr 120 (List.length l5)), (10, .mp 121), (11, .I n3), (12, .ptr 112 0), (22, .lst 9 (List.map Gq0.lv p0)), (23, .I (p0.length : Int)), (24, .I n3)] [(112, .box [.I x8.Stamp.Time, .I x8.Stamp.Source, .I x8.Stamp.Seq, .I x8.Kind, .I x8.Bag, .I x8.Seal, .I x8.From, .I x8.To, .L x8.Candidates]), (117, .arr 50 3 (List.map Gq3.lv (l4.set n3.toNat r9))), (120, .arr 3 1 (List.map LV.I l5)), (121, .map 50 3 (mlv Gq3.lv LV.I m6))] R ?_ ?_
   ·refine sMa R (sMi R (sN (oM (v := (.fn _ _)) R (sN (oLdPA R R R tk52 ta52 ts52 R R (sN (oCP (args := [.agg [.I x8.Stamp.Time, .I x8.Stamp.Source, .I x8.Stamp.Seq, .I x8.Kind, .I x8.Bag, .I x8.Seal, .I x8.From, .I x8.To, .L x8.Candidates]] ++ p1_c) (args' := [.agg [.I x8.Stamp.Time, .I x8.Stamp.Source, .I x8.Stamp.Seq, .I x8.Kind, .I x8.Bag, .I x8.Seal, .I x8.From, .I x8.To, .L x8.Candidates]] ++ p1_c) R p1_i R SubL.rfl (p1_k _ _ hr9) (p1_p R) ?_)))))))
    exact sN (oIxA (f := Gq3.lv) te95 tk50 ts50 R R R hx10 (s_ (oStE (f := Gq3.lv) (z' := r9) R R R R tk50 ts50 R (idxOk hx10).2 R (s0 (Wk.to (eC R (eC R (eC R (eC (congrArg (LV.arr 117) (by simp)) (eC R (eC R (eC R (eC R (eC R (eC R (eC R eN))))))))))) ⟨R, R, R, R, trivial⟩ (by simp [keptRefs, LV.refs, LV.refsL, LV.cells, lev, Env.args, Env.of, Env.put, Env.drop, p1_r, p2_r]) (prK R))))))
   obtain ⟨x11, hx11, h⟩ := bindS h
   refine LH.seqT [(0, .lst 9 (List.map Gq0.lv p0)), (1, .fn p1_f p1_c), (2, .fn p2_f p2_c), (8, .arr 117 (List.length (l4.set n3.toNat r9))), (9, .arr 120 (List.length l5)), (10, .mp 121), (11, .I n3), (12, .ptr 112 0), (13, .I ((mget m6 x11).getD 0)), (14, .bool ((mget m6 x11).isSome)), (22, .lst 9 (List.map Gq0.lv p0)), (23, .I (p0.length : Int)), (24, .I n3)] [(112, .box [.I x8.Stamp.Time, .I x8.Stamp.Source, .I x8.Stamp.Seq, .I x8.Kind, .I x8.Bag, .I x8.Seal, .I x8.From, .I x8.To, .L x8.Candidates]), (117, .arr 50 3 (List.map Gq3.lv (l4.set n3.toNat r9))), (120, .arr 3 1 (List.map LV.I l5)), (121, .map 50 3 (mlv Gq3.lv LV.I m6))] R (sN (oM (v := (.mp _)) R (sMa R (sMi R (sN (oIxA (f := Gq3.lv) te95 tk50 ts50 R R R hx11 (sN (oLdEA (f := Gq3.lv) R R (idxOk hx11).2 R R tk50 ta50 ts50 R R (sX ((ok_lookup2 (f := Gq3.lv) (g := LV.I) (xs := m6) (key := x11) (z := 0) tm108 kok50 kf50 R R R tz3).ok) (sMt R (sN (oEx R R (sN (oEx R R (sAi R (sAb R (s0 (Wk.to (eQ ⟨R, R, R, R, R, R, R, R, R, R, R, R, R, trivial⟩) ⟨R, R, R, R, trivial⟩ (by simp [keptRefs, LV.refs, LV.refsL, LV.cells, lev, Env.args, Env.of, Env.put, Env.drop, p1_r, p2_r]) (prK R))))))))))))))))))) (LH.seqT [(0, .lst 9 (List.map Gq0.lv p0)), (1, .fn p1_f p1_c), (2, .fn p2_f p2_c), (8, .arr 117 (List.length (l4.set n3.toNat r9))), (9, .arr 120 (List.length l5)), (10, .mp 121), (11, .I n3), (12, .ptr 112 0), (13, .I ((mget m6 x11).getD 0)), (22, .lst 9 (List.map Gq0.lv p0)), (23, .I (p0.length : Int)), (24, .I n3), (45, .bool (!((mget m6 x11).isSome)))] [(112, .box [.I x8.Stamp.Time, .I x8.Stamp.Source, .I x8.Stamp.Seq, .I x8.Kind, .I x8.Bag, .I x8.Seal, .I x8.From, .I x8.To, .L x8.Candidates]), (117, .arr 50 3 (List.map Gq3.lv (l4.set n3.toNat r9))), (120, .arr 3 1 (List.map LV.I l5)), (121, .map 50 3 (mlv Gq3.lv LV.I m6))] R (sMb R (sN (oNot R (s0 (Wk.to (eQ ⟨R, R, R, R, R, R, R, R, R, R, R, R, R, trivial⟩) ⟨R, R, R, R, trivial⟩ (by simp [keptRefs, LV.refs, LV.refsL, LV.cells, lev, Env.args, Env.of, Env.put, Env.drop, p1_r, p2_r]) (prK R)))))) (LH.cond (t := (!((mget m6 x11).isSome))) R (fun hc12 => ?_) (fun hc12 => ?_)))
   ·replace h := iteT h hc12
    obtain ⟨x13, hx13, h⟩ := bindS h
    refine LH.loneT [(0, .lst 9 (List.map Gq0.lv p0)), (1, .fn p1_f p1_c), (2, .fn p2_f p2_c), (8, .arr 117 (List.length (l4.set n3.toNat r9))), (9, .arr 120 (List.length l5)), (10, .mp 121), (22, .lst 9 (List.map Gq0.lv p0)), (23, .I (p0.length : Int)), (24, .I n3)] [(117, .arr 50 3 (List.map Gq3.lv (l4.set n3.toNat r9))), (120, .arr 3 1 (List.map LV.I l5)), (121, .map 50 3 (mlv Gq3.lv LV.I (mput m6 x13 n3)))] R (sN (oM (v := (.mp _)) R (sMa R (sMi R (sN (oIxA (f := Gq3.lv) te95 tk50 ts50 R R R hx13 (sN (oLdEA (f := Gq3.lv) R R (idxOk hx13).2 R R tk50 ta50 ts50 R R (sMi R (sX_ ((ok_update (f := Gq3.lv) (g := LV.I) (xs := m6) (key := x13) (val := n3) (.inl R) tm108 kok50 kf50 (fun _ => R) R R R R).ok) (s0 (Wk.to (eQ ⟨R, R, R, R, R, R, R, R, R, trivial⟩) ⟨R, R, R, trivial⟩ (by simp [keptRefs, LV.refs, LV.refsL, LV.cells, lev, Env.args, Env.of, Env.put, Env.drop, p1_r, p2_r]) (prK R))))))))))))) (blockN (thenN (LH.loneT [(0, .lst 9 (List.map Gq0.lv p0)), (1, .fn p1_f p1_c), (2, .fn p2_f p2_c), (8, .arr 117 (List.length (l4.set n3.toNat r9))), (9, .arr 120 (List.length l5)), (10, .mp 121), (22, .lst 9 (List.map Gq0.lv p0)), (23, .I (p0.length : Int)), (24, .I (i64 (n3 + 1)))] [(117, .arr 50 3 (List.map Gq3.lv (l4.set n3.toNat r9))), (120, .arr 3 1 (List.map LV.I l5)), (121, .map 50 3 (mlv Gq3.lv LV.I (mput m6 x13 n3)))] R (sN (oAdd R R (sMi R (s0 (Wk.to (eQ ⟨R, R, R, R, R, R, R, R, R, trivial⟩) ⟨R, R, R, trivial⟩ (by simp [keptRefs, LV.refs, LV.refsL, LV.cells, lev, Env.args, Env.of, Env.put, Env.drop, p1_r, p2_r]) (prK R)))))) ?_)))
    exact roundI ⟨(i64 (n3 + 1)), (l4.set n3.toNat r9), l5, (mput m6 x13 n3), hrec1 ▸ h, R, R⟩ (Wk.to (eQ ⟨R, R, R, R, R, R, R, R, R, trivial⟩) ⟨R, R, R, trivial⟩ (by simp [keptRefs, LV.refs, LV.refsL, LV.cells, lev, Env.args, Env.of, Env.put, Env.drop, p1_r, p2_r]) (prK R))
   replace h := iteF h hc12
   obtain ⟨x14, hx14, h⟩ := bindS h
   obtain ⟨r15, hr15, h⟩ := bindS h
   refine LH.seqJM mixed [] [0, 0, 0, 0, 0, 1112, 0, 0] [(0, .lst 9 (List.map Gq0.lv p0)), (1, .fn p1_f p1_c), (2, .fn p2_f p2_c), (8, .arr 117 (List.length (l4.set n3.toNat r9))), (9, .arr 120 (List.length l5)), (10, .mp 121), (11, .I n3), (22, .lst 9 (List.map Gq0.lv p0)), (23, .I (p0.length : Int)), (24, .I n3), (59, .bool (!r15))] [(117, .arr 50 3 (List.map Gq3.lv (l4.set n3.toNat r9))), (120, .arr 3 1 (List.map LV.I l5)), (121, .map 50 3 (mlv Gq3.lv LV.I m6))] R R (by kernel_rfl) ?_ ?_
   ·refine mMf R (mMl R (mMi R (mN0 (oIx (f := Gq0.lv) te25 tk52 ts52 R R Gq0.ok hx14 R ⟨R, mN0 (oLdA R tk52 ta52 ts52 R R ⟨R, mD R R R (fun _ b _ d => oLdPA R b R tk52 ta52 ts52 R R d) (mN0 (oCP (args := [.agg [.I x14.Stamp.Time, .I x14.Stamp.Source, .I x14.Stamp.Seq, .I x14.Kind, .I x14.Bag, .I x14.Seal, .I x14.From, .I x14.To, .L x14.Candidates], .agg [.I x8.Stamp.Time, .I x8.Stamp.Source, .I x8.Stamp.Seq, .I x8.Kind, .I x8.Bag, .I x8.Seal, .I x8.From, .I x8.To, .L x8.Candidates]] ++ p2_c) (args' := [.agg [.I x14.Stamp.Time, .I x14.Stamp.Source, .I x14.Stamp.Seq, .I x14.Kind, .I x14.Bag, .I x14.Seal, .I x14.From, .I x14.To, .L x14.Candidates], .agg [.I x8.Stamp.Time, .I x8.Stamp.Source, .I x8.Stamp.Seq, .I x8.Kind, .I x8.Bag, .I x8.Seal, .I x8.From, .I x8.To, .L x8.Candidates]] ++ p2_c) R p2_i R SubL.rfl (p2_k _ _ _ hr15) (p2_p R) ⟨R, ?_⟩))⟩)⟩))))
    exact mN0 (oNot R ⟨R, m0 (Wk.to (eQ ⟨R, R, R, R, R, R, R, R, R, R, R, trivial⟩) ⟨R, R, R, trivial⟩ (by simp [keptRefs, LV.refs, LV.refsL, LV.cells, lev, Env.args, Env.of, Env.put, Env.drop, p1_r, p2_r]) (prK R))⟩)
   refine LH.cond (t := (!r15)) R (fun hc16 => ?_) (fun hc16 => ?_)
   ·replace h := iteT h hc16
    obtain ⟨x17, hx17, h⟩ := bindS h
    refine LH.loneT [(0, .lst 9 (List.map Gq0.lv p0)), (1, .fn p1_f p1_c), (2, .fn p2_f p2_c), (8, .arr 117 (List.length (l4.set n3.toNat r9))), (9, .arr 120 (List.length (l5.set n3.toNat 1))), (10, .mp 121), (22, .lst 9 (List.map Gq0.lv p0)), (23, .I (p0.length : Int)), (24, .I n3)] [(117, .arr 50 3 (List.map Gq3.lv (l4.set n3.toNat r9))), (120, .arr 3 1 (List.map LV.I (l5.set n3.toNat 1))), (121, .map 50 3 (mlv Gq3.lv LV.I m6))] R (sMa R (sMi R (sN (oIxA (f := LV.I) te22 tk3 ts3 R R R hx17 (s_ (oStE (f := LV.I) (z' := 1) R R R R tk3 ts3 R (idxOk hx17).2 R (s0 (Wk.to (eC R (eC R (eC R (eC R (eC (congrArg (LV.arr 120) (by simp)) (eC R (eC R (eC R (eC R eN))))))))) ⟨R, R, R, trivial⟩ (by simp [keptRefs, LV.refs, LV.refsL, LV.cells, lev, Env.args, Env.of, Env.put, Env.drop, p1_r, p2_r]) (prK R))))))))) (blockN (thenN (LH.loneT [(0, .lst 9 (List.map Gq0.lv p0)), (1, .fn p1_f p1_c), (2, .fn p2_f p2_c), (8, .arr 117 (List.length (l4.set n3.toNat r9))), (9, .arr 120 (List.length (l5.set n3.toNat 1))), (10, .mp 121), (22, .lst 9 (List.map Gq0.lv p0)), (23, .I (p0.length : Int)), (24, .I (i64 (n3 + 1)))] [(117, .arr 50 3 (List.map Gq3.lv (l4.set n3.toNat r9))), (120, .arr 3 1 (List.map LV.I (l5.set n3.toNat 1))), (121, .map 50 3 (mlv Gq3.lv LV.I m6))] R (sN (oAdd R R (sMi R (s0 (Wk.to (eQ ⟨R, R, R, R, R, R, R, R, R, trivial⟩) ⟨R, R, R, trivial⟩ (by simp [keptRefs, LV.refs, LV.refsL, LV.cells, lev, Env.args, Env.of, Env.put, Env.drop, p1_r, p2_r]) (prK R)))))) ?_)))
    exact roundI ⟨(i64 (n3 + 1)), (l4.set n3.toNat r9), (l5.set n3.toNat 1), m6, hrec1 ▸ h, R, R⟩ (Wk.to (eQ ⟨R, R, R, R, R, R, R, R, R, trivial⟩) ⟨R, R, R, trivial⟩ (by simp [keptRefs, LV.refs, LV.refsL, LV.cells, lev, Env.args, Env.of, Env.put, Env.drop, p1_r, p2_r]) (prK R))
   replace h := iteF h hc16
   refine LH.skip (blockN (thenN (LH.loneT [(0, .lst 9 (List.map Gq0.lv p0)), (1, .fn p1_f p1_c), (2, .fn p2_f p2_c), (8, .arr 117 (List.length (l4.set n3.toNat r9))), (9, .arr 120 (List.length l5)), (10, .mp 121), (22, .lst 9 (List.map Gq0.lv p0)), (23, .I (p0.length : Int)), (24, .I (i64 (n3 + 1)))] [(117, .arr 50 3 (List.map Gq3.lv (l4.set n3.toNat r9))), (120, .arr 3 1 (List.map LV.I l5)), (121, .map 50 3 (mlv Gq3.lv LV.I m6))] R (sN (oAdd R R (sMi R (s0 (Wk.to (eQ ⟨R, R, R, R, R, R, R, R, R, trivial⟩) ⟨R, R, R, trivial⟩ (by simp [keptRefs, LV.refs, LV.refsL, LV.cells, lev, Env.args, Env.of, Env.put, Env.drop, p1_r, p2_r]) (prK R)))))) ?_)))
   exact roundI ⟨(i64 (n3 + 1)), (l4.set n3.toNat r9), l5, m6, hrec1 ▸ h, R, R⟩ (Wk.to (eQ ⟨R, R, R, R, R, R, R, R, R, trivial⟩) ⟨R, R, R, trivial⟩ (by simp [keptRefs, LV.refs, LV.refsL, LV.cells, lev, Env.args, Env.of, Env.put, Env.drop, p1_r, p2_r]) (prK R))
  replace h := iteF h hc7
  refine LH.exit (thenX (roundX (blockH (thenN (LH.wk ((Wk.trans (Wk.to (el := [(8, .arr 117 (List.length l4)), (9, .arr 120 (List.length l5))]) (ml := [(117, .arr 50 3 (List.map Gq3.lv l4)), (120, .arr 3 1 (List.map LV.I l5))]) (eQ ⟨R, R, trivial⟩) ⟨R, R, trivial⟩ (by simp [keptRefs, LV.refs, LV.refsL, LV.cells, lev, Env.args, Env.of, Env.put, Env.drop, p1_r, p2_r]) (prK R)) (Wk.trans (Wk.frzL (f := Gq3.lv) (el' := [(8, .lst 3 (List.map Gq3.lv l4)), (9, .arr 120 (List.length l5))]) 117 50 3 l4 R R (prN R) (fZ (fK R fN))) (Wk.trans (Wk.frzL (f := LV.I) (el' := [(8, .lst 3 (List.map Gq3.lv l4)), (9, .L l5)]) 120 3 1 l5 R R (prN R) (fK R (fZ fN))) (Wk.to (el := [(8, .lst 3 (List.map Gq3.lv l4)), (9, .L l5)]) (ml := []) (eQ ⟨R, R, trivial⟩) mN (by simp [keptRefs, LV.refs, LV.refsL, LV.cells, lev, Env.args, Env.of, Env.put, Env.drop, p1_r, p2_r]) (prK R)))))) (LH.seqT [(6, .lst 3 (List.map Gq3.lv l4)), (7, .L l5)] [] R (sMl R (sMl R (sAl R (sAl R (s0 (Wk.to (eQ ⟨R, R, trivial⟩) mN (by simp [keptRefs, LV.refs, LV.refsL, LV.cells, lev, Env.args, Env.of, Env.put, Env.drop, p1_r, p2_r]) (prK R))))))) (LH.ret ?_)))))))
  obtain rfl := oI h
  exact retE (aT Tryz.results79) (lrT R (lrT R (lr0 ⟨memN mN, R, prK R, (Sub.tup (sbR (sbR sbN)))⟩)))

theorem q276q {p0 : Gq3} {r : Bool} (h : q211q p0 = some r) : LCall Tryz.prog 108 [.agg [.I p0.Time, .I p0.Source, .I p0.Seq]] (Mem.of []) (.bool r) (Mem.of []) := by
  unfold q211q at h
  refine bodyT Tryz.func108 R (nT Tryz.ntmps108 R) (LH.wk (Wk.eq (el := [(0, .agg [.I p0.Time, .I p0.Source, .I p0.Seq])]) (ml := []) R R R R) (LH.seqT [(1, .sptr [.I p0.Time, .I p0.Source, .I p0.Seq])] [] R (sB (oBxR R R R R (sAb R zS))) (LH.seqT [(2, .bool ((decide (p0.Time ≥ 0)) && ((decide (p0.Time ≤ 1000000)) && ((decide (p0.Source ≥ 0)) && ((decide (p0.Source ≤ 99)) && ((decide (p0.Seq ≥ 0)) && (decide (p0.Seq ≤ 9999))))))))] [] R ?_ ?_)))
  ·refine sN (oFaS tf50_0 tk3 ts3 R R R (sN (oLd R tk3 ta3 (sN (oGe R R (sMb R ?_))))))
   by_cases hb2 : (decide (p0.Time ≥ 0)) = true
   ·refine sT R (cB hb2) (oFaS tf50_0 tk3 ts3 R R R (sT R (cB hb2) (oLd R tk3 ta3 (sT R (cB hb2) (oLe R R (sN (oPkT (cB hb2) (v := (.bool _)) R (sMb R ?_))))))))
    by_cases hb3 : (decide (p0.Time ≤ 1000000)) = true
    ·refine sT R (cB hb3) (oFaS tf50_1 tk3 ts3 R R R (sT R (cB hb3) (oLd R tk3 ta3 (sT R (cB hb3) (oGe R R (sN (oPkT (cB hb3) (v := (.bool _)) R (sMb R ?_))))))))
     by_cases hb4 : (decide (p0.Source ≥ 0)) = true
     ·refine sT R (cB hb4) (oFaS tf50_1 tk3 ts3 R R R (sT R (cB hb4) (oLd R tk3 ta3 (sT R (cB hb4) (oLe R R (sN (oPkT (cB hb4) (v := (.bool _)) R (sMb R ?_))))))))
      by_cases hb5 : (decide (p0.Source ≤ 99)) = true
      ·refine sT R (cB hb5) (oFaS tf50_2 tk3 ts3 R R R (sT R (cB hb5) (oLd R tk3 ta3 (sT R (cB hb5) (oGe R R (sN (oPkT (cB hb5) (v := (.bool _)) R (sMb R ?_))))))))
       by_cases hb6 : (decide (p0.Seq ≥ 0)) = true
       ·exact sT R (cB hb6) (oFaS tf50_2 tk3 ts3 R R R (sT R (cB hb6) (oLd R tk3 ta3 (sT R (cB hb6) (oLe R R (sN (oPkT (cB hb6) (v := (.bool _)) R (sAb R (s0 (Wk.to (eC (cB (Eq.trans (Eq.trans (Eq.trans (Eq.trans (andT hb6) (andT hb5)) (andT hb4)) (andT hb3)) (andT hb2))) eN) mN R (prK R)))))))))))
       ·replace hb6 := bF hb6
        exact sF R R hb6 (sF R R hb6 (sF R R hb6 (sN (oPkF (cB hb6) (v := (.bool _)) R (sAb R (s0 (Wk.to (eC (cB (Eq.trans (Eq.trans (Eq.trans (Eq.trans (andF hb6) (andT hb5)) (andT hb4)) (andT hb3)) (andT hb2))) eN) mN R (prK R))))))))
      ·replace hb5 := bF hb5
       exact sF R R hb5 (sF R R hb5 (sF R R hb5 (sN (oPkF (cB hb5) (v := (.bool _)) R (sMb R (sF R R R (sF R R R (sF R R R (sN (oPkF R (v := (.bool _)) R (sAb R (s0 (Wk.to (eC (cB (Eq.trans (Eq.trans (Eq.trans (andF hb5) (andT hb4)) (andT hb3)) (andT hb2))) eN) mN R (prK R))))))))))))))
     ·replace hb4 := bF hb4
      exact sF R R hb4 (sF R R hb4 (sF R R hb4 (sN (oPkF (cB hb4) (v := (.bool _)) R (sMb R (sF R R R (sF R R R (sF R R R (sN (oPkF R (v := (.bool _)) R (sMb R (sF R R R (sF R R R (sF R R R (sN (oPkF R (v := (.bool _)) R (sAb R (s0 (Wk.to (eC (cB (Eq.trans (Eq.trans (andF hb4) (andT hb3)) (andT hb2))) eN) mN R (prK R))))))))))))))))))))
    ·replace hb3 := bF hb3
     exact sF R R hb3 (sF R R hb3 (sF R R hb3 (sN (oPkF (cB hb3) (v := (.bool _)) R (sMb R (sF R R R (sF R R R (sF R R R (sN (oPkF R (v := (.bool _)) R (sMb R (sF R R R (sF R R R (sF R R R (sN (oPkF R (v := (.bool _)) R (sMb R (sF R R R (sF R R R (sF R R R (sN (oPkF R (v := (.bool _)) R (sAb R (s0 (Wk.to (eC (cB (Eq.trans (andF hb3) (andT hb2))) eN) mN R (prK R))))))))))))))))))))))))))
   ·replace hb2 := bF hb2
    exact sF R R hb2 (sF R R hb2 (sF R R hb2 (sN (oPkF (cB hb2) (v := (.bool _)) R (sMb R (sF R R R (sF R R R (sF R R R (sN (oPkF R (v := (.bool _)) R (sMb R (sF R R R (sF R R R (sF R R R (sN (oPkF R (v := (.bool _)) R (sMb R (sF R R R (sF R R R (sF R R R (sN (oPkF R (v := (.bool _)) R (sMb R (sF R R R (sF R R R (sF R R R (sN (oPkF R (v := (.bool _)) R (sAb R (s0 (Wk.to (eC (cB (andF hb2)) eN) mN R (prK R))))))))))))))))))))))))))))))))
  refine LH.ret ?_
  obtain rfl := oI h
  exact retE (aT Tryz.results108) (lrT R (lr0 ⟨memN mN, R, prK R, Sub.rfl⟩))

theorem cmp_isNaN_int_ok {p0 : Int} {r : Bool} (h : cmp_isNaN_int p0 = some r) : LCall Tryz.prog 82 [.I p0] (Mem.of []) (.bool r) (Mem.of []) := by
  unfold cmp_isNaN_int at h
  refine bodyT Tryz.func82 R (nT Tryz.ntmps82 R) (LH.wk (Wk.eq (el := [(0, .I p0)]) (ml := []) R R R R) (LH.seqT [(0, .I p0)] [] R (sAb R zS) (LH.seqT [(2, .bool (p0 != p0))] [] R (sMi R (sMi R (sN (oNe R R (sAb R zS))))) (LH.ret ?_))))
  obtain rfl := oI h
  exact retE (aT Tryz.results82) (lrT R (lr0 ⟨memN mN, R, prK R, Sub.rfl⟩))

theorem cmp_Compare_int_ok {p0 : Int} {p1 : Int} {r : Int} (h : cmp_Compare_int p0 p1 = some r) : LCall Tryz.prog 61 [.I p0, .I p1] (Mem.of []) (.I r) (Mem.of []) := by
  unfold cmp_Compare_int at h
  refine bodyT Tryz.func61 R (nT Tryz.ntmps61 R) (LH.wk (Wk.eq (el := [(0, .I p0), (1, .I p1)]) (ml := []) R R R R) (LH.seqT [(0, .I p0), (1, .I p1)] [] R (sAi R zS) ?_))
  obtain ⟨r1, hr1, h⟩ := bindS h
  refine LH.seqT [(0, .I p0), (1, .I p1), (5, .bool r1)] [] R (sMi R (sN (oCP (args := [.I p0]) R isF82 R (sbR sbN) (cmp_isNaN_int_ok hr1) R (sAb R zS)))) ?_
  obtain ⟨r2, hr2, h⟩ := bindS h
  refine LH.seqT [(0, .I p0), (1, .I p1), (5, .bool r1), (6, .bool r2)] [] R (sMi R (sN (oCP (args := [.I p1]) R isF82 R (sbR sbN) (cmp_isNaN_int_ok hr2) R (sAb R zS)))) (LH.seq (LH.seqT [(0, .I p0), (1, .I p1), (6, .bool r2), (11, .bool r1)] [] R (sMb R zS) (LH.cond (t := r1) R (fun hc3 => ?_) (fun hc3 => ?_))))
  ·replace h := iteT h hc3
   refine LH.seq (LH.seqT [(12, .bool r2)] [] R (sMb R zS) (LH.cond (t := r2) R (fun hc4 => ?_) (fun hc4 => ?_)))
   ·replace h := iteT h hc4
    refine LH.seqT [(4, .I 0)] [] R (sAi R zS) (LH.ret (thenR (thenR ?_)))
    obtain rfl := oI h
    exact retE (aT Tryz.results61) (lrT R (lr0 ⟨memN mN, R, prK R, Sub.rfl⟩))
   replace h := iteF h hc4
   refine LH.skip (thenN (LH.seqT [(4, .I (-1))] [] R (sAi R zS) (LH.ret (thenR ?_))))
   obtain rfl := oI h
   exact retE (aT Tryz.results61) (lrT R (lr0 ⟨memN mN, R, prK R, Sub.rfl⟩))
  replace h := iteF h hc3
  refine LH.skip (thenN (LH.wk (Wk.eq (el := [(0, .I p0), (1, .I p1), (6, .bool r2)]) (ml := []) R R R R) (LH.seq (LH.seqT [(0, .I p0), (1, .I p1), (13, .bool r2)] [] R (sMb R zS) (LH.cond (t := r2) R (fun hc5 => ?_) (fun hc5 => ?_))))))
  ·replace h := iteT h hc5
   refine LH.seqT [(4, .I 1)] [] R (sAi R zS) (LH.ret (thenR ?_))
   obtain rfl := oI h
   exact retE (aT Tryz.results61) (lrT R (lr0 ⟨memN mN, R, prK R, Sub.rfl⟩))
  replace h := iteF h hc5
  refine LH.skip (thenN (LH.wk (Wk.eq (el := [(0, .I p0), (1, .I p1)]) (ml := []) R R R R) (LH.seq (LH.seqT [(0, .I p0), (1, .I p1), (16, .bool (decide (p0 < p1)))] [] R (sMi R (sMi R (sN (oLt R R zS)))) (LH.cond (t := (decide (p0 < p1))) R (fun hc6 => ?_) (fun hc6 => ?_))))))
  ·replace h := iteT h hc6
   refine LH.seqT [(4, .I (-1))] [] R (sAi R zS) (LH.ret (thenR ?_))
   obtain rfl := oI h
   exact retE (aT Tryz.results61) (lrT R (lr0 ⟨memN mN, R, prK R, Sub.rfl⟩))
  replace h := iteF h hc6
  refine LH.skip (thenN (LH.wk (Wk.eq (el := [(0, .I p0), (1, .I p1)]) (ml := []) R R R R) (LH.seq (LH.seqT [(19, .bool (decide (p0 > p1)))] [] R (sMi R (sMi R (sN (oGt R R zS)))) (LH.cond (t := (decide (p0 > p1))) R (fun hc7 => ?_) (fun hc7 => ?_))))))
  ·replace h := iteT h hc7
   refine LH.seqT [(4, .I 1)] [] R (sAi R zS) (LH.ret (thenR ?_))
   obtain rfl := oI h
   exact retE (aT Tryz.results61) (lrT R (lr0 ⟨memN mN, R, prK R, Sub.rfl⟩))
  replace h := iteF h hc7
  refine LH.skip (thenN (LH.seqT [(4, .I 0)] [] R (sAi R zS) (LH.ret ?_)))
  obtain rfl := oI h
  exact retE (aT Tryz.results61) (lrT R (lr0 ⟨memN mN, R, prK R, Sub.rfl⟩))

theorem cmp_Or_int_ok {F : Nat} {p0 : List Int} {r : Int} (h : cmp_Or_int F p0 = some r) : LCall Tryz.prog 110 [.L p0] (Mem.of []) (.I r) (Mem.of []) := by
  unfold cmp_Or_int at h
  refine bodyT Tryz.func110 R (nT Tryz.ntmps110 R) (LH.wk (Wk.eq (el := [(0, .L p0)]) (ml := []) R R R R) (LH.seqT [(0, .L p0)] [] R (sAi R zS) (LH.seqT [(0, .L p0), (3, .I 0)] [] R (sAi R zS) (LH.seq (LH.seqT [(3, .I 0), (6, .L p0), (7, .I (p0.length : Int)), (8, .I 0)] [] R (sMl R (sN (oLnL (f := LV.I) te22 R (sMi R zS)))) (LH.block (LH.loop (fun n e m => ∃ (n1 : Int), cmp_Or_int_L1 p0 n n1 = some r ∧ e = Env.of [(3, .I 0), (6, .L p0), (7, .I (p0.length : Int)), (8, .I n1)] ∧ m = Mem.of []) F ⟨0, h, R, R⟩ ?_)))))))
  clear h
  rintro n e m ⟨n1, h, rfl, rfl⟩
  rcases n with _ | n
  · cases (show Option.none = some _ from h)
  obtain ⟨rec1, hrec1⟩ : ∃ f, f = cmp_Or_int_L1 p0 n := ⟨_, rfl⟩
  replace h : cmp_Or_int_L1_B p0 rec1 n1 = some r := hrec1 ▸ h
  unfold cmp_Or_int_L1_B at h
  refine LH.seqT [(3, .I 0), (6, .L p0), (7, .I (p0.length : Int)), (8, .I n1), (9, .bool (decide (n1 < (p0.length : Int))))] [] R (sN (oLt R R zS)) (LH.seq (LH.cond (t := (decide (n1 < (p0.length : Int)))) R (fun hc2 => ?_) (fun hc2 => ?_)))
  ·replace h := iteT h hc2
   refine LH.skip (thenN (LH.wk (Wk.eq (el := [(3, .I 0), (6, .L p0), (7, .I (p0.length : Int)), (8, .I n1)]) (ml := []) R R R R) (LH.seq (LH.block ?_))))
   obtain ⟨x3, hx3, h⟩ := bindS h
   refine LH.seqT [(3, .I 0), (5, .I x3), (6, .L p0), (7, .I (p0.length : Int)), (8, .I n1)] [] R (sN (oIx (f := LV.I) te22 tk3 ts3 R R okI hx3 R (sN (oLd R tk3 ta3 (sAi R zS))))) (LH.seqT [(3, .I 0), (5, .I x3), (6, .L p0), (7, .I (p0.length : Int)), (8, .I n1), (14, .bool (x3 != 0))] [] R (sMi R (sMi R (sN (oNe R R zS)))) (LH.cond (t := (x3 != 0)) R (fun hc4 => ?_) (fun hc4 => ?_)))
   ·replace h := iteT h hc4
    refine LH.seqT [(2, .I x3)] [] R (sMi R (sAi R zS)) (LH.ret (blockR (thenR (roundR (blockR (thenR ?_))))))
    obtain rfl := oI h
    exact retE (aT Tryz.results110) (lrT R (lr0 ⟨memN mN, R, prK R, Sub.rfl⟩))
   replace h := iteF h hc4
   refine LH.skip (blockN (thenN (LH.loneT [(3, .I 0), (6, .L p0), (7, .I (p0.length : Int)), (8, .I (i64 (n1 + 1)))] [] R (sN (oAdd R R (sMi R zS))) ?_)))
   exact roundI ⟨(i64 (n1 + 1)), hrec1 ▸ h, R, R⟩ (Wk.eq R R R R)
  replace h := iteF h hc2
  refine LH.exit (thenX (roundX (blockH (thenN (LH.seqT [(2, .I 0)] [] R (sMi R (sAi R zS)) (LH.ret ?_))))))
  obtain rfl := oI h
  exact retE (aT Tryz.results110) (lrT R (lr0 ⟨memN mN, R, prK R, Sub.rfl⟩))

theorem q185q {F : Nat} {p0 : Gq3} {p1 : Gq3} {r : Int} (h : q52q F p0 p1 = some r) : LCall Tryz.prog 111 [.agg [.I p0.Time, .I p0.Source, .I p0.Seq], .agg [.I p1.Time, .I p1.Source, .I p1.Seq]] (Mem.of []) (.I r) (Mem.of []) := by
  unfold q52q at h
  refine bodyT Tryz.func111 R (nT Tryz.ntmps111 R) (LH.wk (Wk.eq (el := [(0, .agg [.I p0.Time, .I p0.Source, .I p0.Seq]), (1, .agg [.I p1.Time, .I p1.Source, .I p1.Seq])]) (ml := []) R R R R) (LH.seqT [(2, .sptr [.I p0.Time, .I p0.Source, .I p0.Seq]), (3, .sptr [.I p1.Time, .I p1.Source, .I p1.Seq])] [] R (sB (oBxR R R R R (sB (oBxR R R R R (sAi R zS))))) ?_))
  obtain ⟨r1, hr1, h⟩ := bindS h
  obtain ⟨r2, hr2, h⟩ := bindS h
  obtain ⟨r3, hr3, h⟩ := bindS h
  refine LH.seqJM mixed [] [0, 0, 0, 0, 0, 0, 0, 0, 0, 0, 0, 0, 0] [(4, .I r3)] [] R R (by kernel_rfl) (mN0 (oFaS tf50_1 tk3 ts3 R R R ⟨R, mN0 (oLd R tk3 ta3 ⟨R, mN0 (oFaS tf50_1 tk3 ts3 R R R ⟨R, mN0 (oLd R tk3 ta3 ⟨R, mN0 (oCP (args := [.I p0.Source, .I p1.Source]) R isF61 R (sbR (sbR sbN)) (cmp_Compare_int_ok hr1) R ⟨R, mN0 (oFaS tf50_2 tk3 ts3 R R R ⟨R, mN0 (oLd R tk3 ta3 ⟨R, mN0 (oFaS tf50_2 tk3 ts3 R R R ⟨R, mN0 (oLd R tk3 ta3 ⟨R, mN0 (oCP (args := [.I p0.Seq, .I p1.Seq]) R isF61 R (sbR (sbR sbN)) (cmp_Compare_int_ok hr2) R ⟨R, mN0 (oBS (f := LV.I) (ys := [r1, r2]) te22 tr3 ts3 R R R okI ⟨R, mN0 (oCP (args := [.L [r1, r2]]) R isF110 R (sbR sbN) (cmp_Or_int_ok hr3) R ⟨R, mAi R zM⟩)⟩)⟩)⟩)⟩)⟩)⟩)⟩)⟩)⟩)⟩)⟩)) (LH.ret ?_)
  obtain rfl := oI h
  exact retE (aT Tryz.results111) (lrT R (lr0 ⟨memN mN, R, prK R, Sub.rfl⟩))

theorem q254q {F : Nat} {p0 : Int} {p1 : Int} {c0 : List Gq3} {r : Int} (h : q144q F p0 p1 c0 = some r) : LCall Tryz.prog 109 [.I p0, .I p1, .sptr [.lst 3 (List.map Gq3.lv c0)]] (Mem.of []) (.I r) (Mem.of []) := by
  unfold q144q at h
  refine bodyT Tryz.func109 R (nT Tryz.ntmps109 R) (LH.wk (Wk.eq (el := [(0, .I p0), (1, .I p1), (2, .sptr [.lst 3 (List.map Gq3.lv c0)])]) (ml := []) R R R R) (LH.seqT [(0, .I p0), (1, .I p1), (2, .sptr [.lst 3 (List.map Gq3.lv c0)])] [] R (sAi R zS) ?_))
  obtain ⟨x1, hx1, h⟩ := bindS h
  obtain ⟨x2, hx2, h⟩ := bindS h
  obtain ⟨r3, hr3, h⟩ := bindS h
  obtain ⟨r4, hr4, h⟩ := bindS h
  obtain ⟨r5, hr5, h⟩ := bindS h
  refine LH.seqJM mixed [] [0, 0, 0, 0, 0, 0, 0, 0, 0, 0, 0, 0, 0, 0, 0] [(5, .I r5)] [] R R (by kernel_rfl) ?_ ?_
  ·exact mN0 (oLd R tk95 ta95 ⟨R, mMi R (mN0 (oIx (f := Gq3.lv) te95 tk50 ts50 R R Gq3.ok hx1 R ⟨R, mN0 (oLdA R tk50 ta50 ts50 R R ⟨R, mN0 (oLd R tk95 ta95 ⟨R, mMi R (mN0 (oIx (f := Gq3.lv) te95 tk50 ts50 R R Gq3.ok hx2 R ⟨R, mN0 (oLdA R tk50 ta50 ts50 R R ⟨R, mN0 (oCP (args := [.agg [.I x1.Time, .I x1.Source, .I x1.Seq], .agg [.I x2.Time, .I x2.Source, .I x2.Seq]]) R isF111 R (sbR (sbR sbN)) (q185q hr3) R ⟨R, mMi R (mMi R (mN0 (oCP (args := [.I p0, .I p1]) R isF61 R (sbR (sbR sbN)) (cmp_Compare_int_ok hr4) R ⟨R, mN0 (oBS (f := LV.I) (ys := [r3, r4]) te22 tr3 ts3 R R R okI ⟨R, mN0 (oCP (args := [.L [r3, r4]]) R isF110 R (sbR sbN) (cmp_Or_int_ok hr5) R ⟨R, mAi R zM⟩)⟩)⟩)))⟩)⟩)⟩))⟩)⟩)⟩))⟩)
  refine LH.ret ?_
  obtain rfl := oI h
  exact retE (aT Tryz.results109) (lrT R (lr0 ⟨memN mN, R, prK R, Sub.rfl⟩))

theorem q270q {F : Nat} {p0 : List Gq3} {p1 : List Int} {r : List q1q} (h : q207q F p0 p1 = some r) : LCall Tryz.prog 98 [.lst 3 (List.map Gq3.lv p0), .L p1] (Mem.of []) (.lst 2 (List.map q1q.lv r)) (Mem.of []) := by
  unfold q207q at h
  refine bodyT Tryz.func98 R (nT Tryz.ntmps98 R) (LH.wk (Wk.eq (el := [(0, .lst 3 (List.map Gq3.lv p0)), (1, .L p1)]) (ml := []) R R R R) (LH.seqT [(1, .L p1), (2, .sptr [.lst 3 (List.map Gq3.lv p0)])] [] R (sB (oBxR R R R R (sAn R zS))) (LH.seqT [(1, .L p1), (2, .sptr [.lst 3 (List.map Gq3.lv p0)]), (5, .nil)] [] R (sAn R zS) (LH.seq (LH.seqT [(1, .L p1), (2, .sptr [.lst 3 (List.map Gq3.lv p0)]), (5, .nil), (13, .lst 3 (List.map Gq3.lv p0)), (14, .I (p0.length : Int)), (15, .I 0)] [] R (sN (oLd R tk95 ta95 (sN (oLnL (f := Gq3.lv) te95 R (sMi R zS))))) (LH.block (LH.wk ((Wk.trans (Wk.eq (el := [(1, .L p1), (2, .sptr [.lst 3 (List.map Gq3.lv p0)]), (5, .nil), (13, .lst 3 (List.map Gq3.lv p0)), (14, .I (p0.length : Int)), (15, .I 0)]) (ml := []) R R R R) (Wk.trans (Wk.eq (el := [(1, .L p1), (2, .sptr [.lst 3 (List.map Gq3.lv p0)]), (5, .nil), (13, .lst 3 (List.map Gq3.lv p0)), (14, .I (p0.length : Int)), (15, .I 0)]) (ml := []) R R R R) (Wk.trans (Wk.ownL (el' := [(1, .L p1), (2, .sptr [.lst 3 (List.map Gq3.lv p0)]), (5, .arr 125 (List.length ([] : List Int))), (13, .lst 3 (List.map Gq3.lv p0)), (14, .I (p0.length : Int)), (15, .I 0)]) 125 3 1 R R (wK (wK (wO (wK (wK (wK wN))))))) (Wk.eq (el := [(1, .L p1), (2, .sptr [.lst 3 (List.map Gq3.lv p0)]), (5, .arr 125 (List.length ([] : List Int))), (13, .lst 3 (List.map Gq3.lv p0)), (14, .I (p0.length : Int)), (15, .I 0)]) (ml := [(125, .arr 3 1 (List.map LV.I ([] : List Int)))]) R R R R))))) (LH.loop (fun n e m => ∃ (n1 : Int) (l2 : List Int), q127q F p0 p1 n n1 l2 = some r ∧ e = Env.of [(1, .L p1), (2, .sptr [.lst 3 (List.map Gq3.lv p0)]), (5, .arr 125 (List.length l2)), (13, .lst 3 (List.map Gq3.lv p0)), (14, .I (p0.length : Int)), (15, .I n1)] ∧ m = Mem.of [(125, .arr 3 1 (List.map LV.I l2))]) F ⟨0, ([] : List Int), h, R, R⟩ ?_))))))))
  clear h
  rintro n e m ⟨n1, l2, h, rfl, rfl⟩
  rcases n with _ | n
  · cases (show Option.none = some _ from h)
  obtain ⟨rec1, hrec1⟩ : ∃ f, f = q127q F p0 p1 n := ⟨_, rfl⟩
  replace h : q140q F p0 p1 rec1 n1 l2 = some r := hrec1 ▸ h
  unfold q140q at h
  refine LH.seqT [(1, .L p1), (2, .sptr [.lst 3 (List.map Gq3.lv p0)]), (5, .arr 125 (List.length l2)), (13, .lst 3 (List.map Gq3.lv p0)), (14, .I (p0.length : Int)), (15, .I n1), (16, .bool (decide (n1 < (p0.length : Int))))] [(125, .arr 3 1 (List.map LV.I l2))] R (sN (oLt R R zS)) (LH.seq (LH.cond (t := (decide (n1 < (p0.length : Int)))) R (fun hc3 => ?_) (fun hc3 => ?_)))
  ·replace h := iteT h hc3
   refine LH.skip (thenN (LH.wk (Wk.eq (el := [(1, .L p1), (2, .sptr [.lst 3 (List.map Gq3.lv p0)]), (5, .arr 125 (List.length l2)), (13, .lst 3 (List.map Gq3.lv p0)), (14, .I (p0.length : Int)), (15, .I n1)]) (ml := [(125, .arr 3 1 (List.map LV.I l2))]) R R R R) (LH.seq (LH.block ?_))))
   obtain ⟨x4, hx4, h⟩ := bindS h
   refine LH.seqT [(1, .L p1), (2, .sptr [.lst 3 (List.map Gq3.lv p0)]), (5, .arr 125 (List.length l2)), (6, .I n1), (7, .sptr [.I x4.Time, .I x4.Source, .I x4.Seq]), (13, .lst 3 (List.map Gq3.lv p0)), (14, .I (p0.length : Int)), (15, .I n1)] [(125, .arr 3 1 (List.map LV.I l2))] R (sMi R (sN (oIx (f := Gq3.lv) te95 tk50 ts50 R R Gq3.ok hx4 R (sN (oLdA R tk50 ta50 ts50 R R (sN (oAl (id := 107) R tz50 R R (sAi R (s_ (oSt R R R tk50 ts50 R R R (s0 ((Wk.trans (Wk.eq (el := [(1, .L p1), (2, .sptr [.lst 3 (List.map Gq3.lv p0)]), (5, .arr 125 (List.length l2)), (6, .I n1), (7, .ptr 107 0), (13, .lst 3 (List.map Gq3.lv p0)), (14, .I (p0.length : Int)), (15, .I n1)]) (ml := [(107, .box [.I x4.Time, .I x4.Source, .I x4.Seq]), (125, .arr 3 1 (List.map LV.I l2))]) R R R R) (Wk.trans (Wk.frzB 107 [.I x4.Time, .I x4.Source, .I x4.Seq] R R R (prN R)) (Wk.eq R R R R))))))))))))))) ?_
   obtain ⟨r5, hr5, h⟩ := bindS h
   refine LH.seqT [(1, .L p1), (2, .sptr [.lst 3 (List.map Gq3.lv p0)]), (5, .arr 125 (List.length l2)), (6, .I n1), (13, .lst 3 (List.map Gq3.lv p0)), (14, .I (p0.length : Int)), (15, .I n1), (21, .bool r5)] [(125, .arr 3 1 (List.map LV.I l2))] R (sN (oLdA R tk50 ta50 ts50 R R (sN (oCP (args := [.agg [.I x4.Time, .I x4.Source, .I x4.Seq]]) R isF108 R (sbR sbN) (q276q hr5) R zS)))) (LH.cond (t := r5) R (fun hc6 => ?_) (fun hc6 => ?_))
   ·replace h := iteT h hc6
    obtain ⟨v7, hv7, h⟩ := bindS h
    refine LH.loneT [(1, .L p1), (2, .sptr [.lst 3 (List.map Gq3.lv p0)]), (5, .arr 125 (List.length v7)), (13, .lst 3 (List.map Gq3.lv p0)), (14, .I (p0.length : Int)), (15, .I n1)] [(125, .arr 3 1 (List.map LV.I v7))] R (sMa R (sMi R (sN (oBS (f := LV.I) (ys := [n1]) te22 tr3 ts3 R R R okI (sN (oAp (f := LV.I) te22 tr3 ts3 R R (prN R) R hv7 (sAa R zS))))))) (blockN (thenN (LH.loneT [(1, .L p1), (2, .sptr [.lst 3 (List.map Gq3.lv p0)]), (5, .arr 125 (List.length v7)), (13, .lst 3 (List.map Gq3.lv p0)), (14, .I (p0.length : Int)), (15, .I (i64 (n1 + 1)))] [(125, .arr 3 1 (List.map LV.I v7))] R (sN (oAdd R R (sMi R zS))) ?_)))
    exact roundI ⟨(i64 (n1 + 1)), v7, hrec1 ▸ h, R, R⟩ (Wk.eq R R R R)
   replace h := iteF h hc6
   refine LH.skip (blockN (thenN (LH.loneT [(1, .L p1), (2, .sptr [.lst 3 (List.map Gq3.lv p0)]), (5, .arr 125 (List.length l2)), (13, .lst 3 (List.map Gq3.lv p0)), (14, .I (p0.length : Int)), (15, .I (i64 (n1 + 1)))] [(125, .arr 3 1 (List.map LV.I l2))] R (sN (oAdd R R (sMi R zS))) ?_)))
   exact roundI ⟨(i64 (n1 + 1)), l2, hrec1 ▸ h, R, R⟩ (Wk.eq R R R R)
  replace h := iteF h hc3
  refine LH.exit (thenX (roundX (blockH (thenN ?_))))
  obtain ⟨l8, hl8, h⟩ := bindS h
  refine LH.seqT [(1, .L p1), (2, .sptr [.lst 3 (List.map Gq3.lv p0)]), (5, .L l8)] [] R (sMa R (sN (oMF (vs := [.sptr [.lst 3 (List.map Gq3.lv p0)]]) R (sN (oCM (args := [.arr 125 (List.length l2), .fn 109 [.sptr [.lst 3 (List.map Gq3.lv p0)]]]) (ml := [(125, .arr 3 1 (List.map LV.I l2))]) (ml' := [(125, .arr 3 1 (List.map LV.I l8))]) R isF99 R (sbR (sbR sbN)) (sortI_ok Tryz.sortL R isF109 R (fun _ _ _ h => q254q h) 125 3 hl8) (mC R mN) (newI R newN) R (s0 ((Wk.trans (Wk.to (el := [(1, .L p1), (2, .sptr [.lst 3 (List.map Gq3.lv p0)]), (5, .arr 125 (List.length l8))]) (ml := [(125, .arr 3 1 (List.map LV.I l8))]) (eC R (eC R (eC (congrArg (LV.arr 125) (sortF_len hl8)) eN))) ⟨R, trivial⟩ R (prK R)) (Wk.trans (Wk.frzL (f := LV.I) (el' := [(1, .L p1), (2, .sptr [.lst 3 (List.map Gq3.lv p0)]), (5, .L l8)]) 125 3 1 l8 R R (prN R) (fK R (fK R (fZ fN)))) (Wk.eq R R R R)))))))))) (LH.seqT [(1, .L p1), (2, .sptr [.lst 3 (List.map Gq3.lv p0)]), (5, .L l8), (8, .nil)] [] R (sAn R zS) (LH.seq (LH.seqT [(1, .L p1), (2, .sptr [.lst 3 (List.map Gq3.lv p0)]), (8, .nil), (30, .L l8), (31, .I (l8.length : Int)), (32, .I 0)] [] R (sMl R (sN (oLnL (f := LV.I) te22 R (sMi R zS)))) (LH.block (LH.wk ((Wk.trans (Wk.eq (el := [(1, .L p1), (2, .sptr [.lst 3 (List.map Gq3.lv p0)]), (8, .nil), (30, .L l8), (31, .I (l8.length : Int)), (32, .I 0)]) (ml := []) R R R R) (Wk.trans (Wk.eq (el := [(1, .L p1), (2, .sptr [.lst 3 (List.map Gq3.lv p0)]), (8, .nil), (30, .L l8), (31, .I (l8.length : Int)), (32, .I 0)]) (ml := []) R R R R) (Wk.trans (Wk.ownL (el' := [(1, .L p1), (2, .sptr [.lst 3 (List.map Gq3.lv p0)]), (8, .arr 161 (List.length ([] : List q1q))), (30, .L l8), (31, .I (l8.length : Int)), (32, .I 0)]) 161 112 2 R R (wK (wK (wO (wK (wK (wK wN))))))) (Wk.eq (el := [(1, .L p1), (2, .sptr [.lst 3 (List.map Gq3.lv p0)]), (8, .arr 161 (List.length ([] : List q1q))), (30, .L l8), (31, .I (l8.length : Int)), (32, .I 0)]) (ml := [(161, .arr 112 2 (List.map q1q.lv ([] : List q1q)))]) R R R R))))) (LH.loop (fun n e m => ∃ (n9 : Int) (l10 : List q1q), q128q F p0 p1 l8 n n9 l10 = some r ∧ e = Env.of [(1, .L p1), (2, .sptr [.lst 3 (List.map Gq3.lv p0)]), (8, .arr 161 (List.length l10)), (30, .L l8), (31, .I (l8.length : Int)), (32, .I n9)] ∧ m = Mem.of [(161, .arr 112 2 (List.map q1q.lv l10))]) F ⟨0, ([] : List q1q), h, R, R⟩ ?_))))))
  clear h
  rintro n e m ⟨n9, l10, h, rfl, rfl⟩
  rcases n with _ | n
  · cases (show Option.none = some _ from h)
  obtain ⟨rec2, hrec2⟩ : ∃ f, f = q128q F p0 p1 l8 n := ⟨_, rfl⟩
  replace h : q141q F p0 p1 l8 rec2 n9 l10 = some r := hrec2 ▸ h
  unfold q141q at h
  refine LH.seqT [(1, .L p1), (2, .sptr [.lst 3 (List.map Gq3.lv p0)]), (8, .arr 161 (List.length l10)), (30, .L l8), (31, .I (l8.length : Int)), (32, .I n9), (33, .bool (decide (n9 < (l8.length : Int))))] [(161, .arr 112 2 (List.map q1q.lv l10))] R (sN (oLt R R zS)) (LH.seq (LH.cond (t := (decide (n9 < (l8.length : Int)))) R (fun hc11 => ?_) (fun hc11 => ?_)))
  ·replace h := iteT h hc11
   refine LH.skip (thenN (LH.wk (Wk.eq (el := [(1, .L p1), (2, .sptr [.lst 3 (List.map Gq3.lv p0)]), (8, .arr 161 (List.length l10)), (30, .L l8), (31, .I (l8.length : Int)), (32, .I n9)]) (ml := [(161, .arr 112 2 (List.map q1q.lv l10))]) R R R R) (LH.seq (LH.block ?_))))
   obtain ⟨x12, hx12, h⟩ := bindS h
   refine LH.seqT [(1, .L p1), (2, .sptr [.lst 3 (List.map Gq3.lv p0)]), (8, .arr 161 (List.length l10)), (10, .I x12), (30, .L l8), (31, .I (l8.length : Int)), (32, .I n9)] [(161, .arr 112 2 (List.map q1q.lv l10))] R (sN (oIx (f := LV.I) te22 tk3 ts3 R R okI hx12 R (sN (oLd R tk3 ta3 (sAi R zS))))) (LH.seqT [(1, .L p1), (2, .sptr [.lst 3 (List.map Gq3.lv p0)]), (8, .arr 161 (List.length l10)), (10, .I x12), (11, .I (i64 ((l10.length : Int) - 1))), (30, .L l8), (31, .I (l8.length : Int)), (32, .I n9)] [(161, .arr 112 2 (List.map q1q.lv l10))] R (sMa R (sN (oLnA (f := q1q.lv) te109 R R (sN (oSub R R (sAi R zS)))))) (LH.seq ?_))
   obtain ⟨w14, hv, h⟩ := bindS h
   refine LH.seqJM mixed [] [0, 0, 0, 0, 0, 0, 1, 1, 1, 0, 0, 0, 0, 0, 0, 0, 0, 0] [(1, .L p1), (2, .sptr [.lst 3 (List.map Gq3.lv p0)]), (8, .arr 161 (List.length l10)), (10, .I x12), (11, .I (i64 ((l10.length : Int) - 1))), (30, .L l8), (31, .I (l8.length : Int)), (32, .I n9), (56, .bool w14)] [(161, .arr 112 2 (List.map q1q.lv l10))] R R (by kernel_rfl) ?_ ?_
   ·refine mMi R (mN0 (oLt R R ⟨R, mMb R ?_⟩))
    by_cases hb15 : (decide ((i64 ((l10.length : Int) - 1)) < 0)) = true
    ·replace hv := iteT hv hb15
     refine mF R R hb15 (mF R R hb15 (mF R R hb15 (mF R R hb15 (mF R R hb15 (mF R R hb15 (mF R R hb15 (mF R R hb15 (mF R R hb15 (mF R R hb15 (mF R R hb15 (mF R R hb15 (mF R R hb15 (mF R R hb15 (mN0 (oPkT (cB hb15) (v := (.bool _)) R ⟨R, ?_⟩)))))))))))))))
     obtain rfl := oI hv
     exact zM
    ·replace hb15 := bF hb15
     replace hv := iteF hv hb15
     refine mT R (cB hb15) (mN0 (oLd R tk95 ta95 ⟨R, mT R (cB hb15) (mMa R (mT R (cB hb15) (mMi R ?_)))⟩))
     obtain ⟨x16, hx16, hv⟩ := bindS hv
     refine mT R (cB hb15) (mN1 (oIxA (f := q1q.lv) te109 tk112 ts112 R R R hx16 ⟨R, mT R (cB hb15) (mN1 (oFaE (f := q1q.lv) tf112_0 tk3 ts3 R R R ⟨R, mT R (cB hb15) (mN1 (oLdE (f := q1q.lv) R R (idxOk hx16).2 R R R tk3 ta3 ⟨R, ?_⟩))⟩))⟩))
     obtain ⟨x17, hx17, hv⟩ := bindS hv
     refine mT R (cB hb15) (mN0 (oIx (f := Gq3.lv) te95 tk50 ts50 R R Gq3.ok hx17 R ⟨R, mT R (cB hb15) (mN0 (oLdA R tk50 ta50 ts50 R R ⟨R, mT R (cB hb15) (mN0 (oLd R tk95 ta95 ⟨R, mT R (cB hb15) (mMi R ?_)⟩))⟩))⟩))
     obtain ⟨x18, hx18, hv⟩ := bindS hv
     refine mT R (cB hb15) (mN0 (oIx (f := Gq3.lv) te95 tk50 ts50 R R Gq3.ok hx18 R ⟨R, mT R (cB hb15) (mN0 (oLdA R tk50 ta50 ts50 R R ⟨R, ?_⟩))⟩))
     obtain ⟨r19, hr19, hv⟩ := bindS hv
     refine mT R (cB hb15) (mN0 (oCP (args := [.agg [.I x17.Time, .I x17.Source, .I x17.Seq], .agg [.I x18.Time, .I x18.Source, .I x18.Seq]]) R isF111 R (sbR (sbR sbN)) (q185q hr19) R ⟨R, mT R (cB hb15) (mN0 (oNe R R ⟨R, mN0 (oPkF (cB hb15) (v := (.bool _)) R ⟨R, ?_⟩)⟩))⟩))
     obtain rfl := oI hv
     exact zM
   clear hv
   refine LH.cond (t := w14) R (fun hc20 => ?_) (fun hc20 => ?_)
   ·replace h := iteT h hc20
    obtain ⟨v21, hv21, h⟩ := bindS h
    refine LH.seqT [(1, .L p1), (2, .sptr [.lst 3 (List.map Gq3.lv p0)]), (8, .arr 161 (List.length v21)), (30, .L l8), (31, .I (l8.length : Int)), (32, .I n9)] [(161, .arr 112 2 (List.map q1q.lv v21))] R (sMa R (sMi R (sN (oBd (vs := [(0, .I x12), (1, .bool false)]) tu112 tz112 R (lf tf112_0 ts3 tk3 R R R (lf tf112_1 ts4 tk4 R R R lf0)) (sN (oBS (f := q1q.lv) (ys := [(q1q.mk x12 false)]) te109 tr112 ts112 R R R q1q.ok (sN (oAp (f := q1q.lv) te109 tr112 ts112 R R (prN R) R hv21 (sAa R zS))))))))) (LH.exit (thenX (blockH (thenN (LH.loneT [(1, .L p1), (2, .sptr [.lst 3 (List.map Gq3.lv p0)]), (8, .arr 161 (List.length v21)), (30, .L l8), (31, .I (l8.length : Int)), (32, .I (i64 (n9 + 1)))] [(161, .arr 112 2 (List.map q1q.lv v21))] R (sN (oAdd R R (sMi R zS))) ?_)))))
    exact roundI ⟨(i64 (n9 + 1)), v21, hrec2 ▸ h, R, R⟩ (Wk.eq R R R R)
   replace h := iteF h hc20
   refine LH.skip (thenN ?_)
   obtain ⟨x22, hx22, h⟩ := bindS h
   refine LH.seqT [(1, .L p1), (2, .sptr [.lst 3 (List.map Gq3.lv p0)]), (8, .arr 161 (List.length l10)), (10, .I x12), (11, .I (i64 ((l10.length : Int) - 1))), (12, .I x22.first), (30, .L l8), (31, .I (l8.length : Int)), (32, .I n9)] [(161, .arr 112 2 (List.map q1q.lv l10))] R (sMa R (sMi R (sN (oIxA (f := q1q.lv) te109 tk112 ts112 R R R hx22 (sN (oFaE (f := q1q.lv) tf112_0 tk3 ts3 R R R (sN (oLdE (f := q1q.lv) R R (idxOk hx22).2 R R R tk3 ta3 (sAi R zS))))))))) ?_
   obtain ⟨w24, hv, h⟩ := bindS h
   refine LH.seqJM mixed [] [0, 0, 0, 0, 0, 0, 0, 0, 0, 0, 0, 0, 0, 0, 0, 0, 0, 0, 0, 0] [(1, .L p1), (2, .sptr [.lst 3 (List.map Gq3.lv p0)]), (8, .arr 161 (List.length l10)), (11, .I (i64 ((l10.length : Int) - 1))), (30, .L l8), (31, .I (l8.length : Int)), (32, .I n9), (86, .bool w24)] [(161, .arr 112 2 (List.map q1q.lv l10))] R R (by kernel_rfl) ?_ ?_
   ·refine mN0 (oLd R tk95 ta95 ⟨R, mMi R ?_⟩)
    obtain ⟨x25, hx25, hv⟩ := bindS hv
    refine mN0 (oIx (f := Gq3.lv) te95 tk50 ts50 R R Gq3.ok hx25 R ⟨R, mN0 (oLdA R tk50 ta50 ts50 R R ⟨R, mN0 (oLd R tk95 ta95 ⟨R, mMi R ?_⟩)⟩)⟩)
    obtain ⟨x26, hx26, hv⟩ := bindS hv
    refine mN0 (oIx (f := Gq3.lv) te95 tk50 ts50 R R Gq3.ok hx26 R ⟨R, mN0 (oLdA R tk50 ta50 ts50 R R ⟨R, mN0 (oNeA R R (ae50 x25 x26) ⟨R, mMb R ?_⟩)⟩)⟩)
    by_cases hb27 : (!(decide (x25 = x26))) = true
    ·replace hv := iteT hv hb27
     refine mF R R hb27 (mF R R hb27 (mF R R hb27 (mF R R hb27 (mF R R hb27 (mF R R hb27 (mF R R hb27 (mF R R hb27 (mF R R hb27 (mN0 (oPkT (cB hb27) (v := (.bool _)) R ⟨R, ?_⟩))))))))))
     obtain rfl := oI hv
     exact zM
    ·replace hb27 := bF hb27
     replace hv := iteF hv hb27
     refine mT R (cB hb27) (mMl R (mT R (cB hb27) (mMi R ?_)))
     obtain ⟨x28, hx28, hv⟩ := bindS hv
     refine mT R (cB hb27) (mN0 (oIx (f := LV.I) te22 tk3 ts3 R R okI hx28 R ⟨R, mT R (cB hb27) (mN0 (oLd R tk3 ta3 ⟨R, mT R (cB hb27) (mMl R (mT R (cB hb27) (mMi R ?_)))⟩))⟩))
     obtain ⟨x29, hx29, hv⟩ := bindS hv
     refine mT R (cB hb27) (mN0 (oIx (f := LV.I) te22 tk3 ts3 R R okI hx29 R ⟨R, mT R (cB hb27) (mN0 (oLd R tk3 ta3 ⟨R, mT R (cB hb27) (mN0 (oNe R R ⟨R, mN0 (oPkF (cB hb27) (v := (.bool _)) R ⟨R, ?_⟩)⟩))⟩))⟩))
     obtain rfl := oI hv
     exact zM
   clear hv
   refine LH.cond (t := w24) R (fun hc30 => ?_) (fun hc30 => ?_)
   ·replace h := iteT h hc30
    obtain ⟨x31, hx31, h⟩ := bindS h
    refine LH.loneT [(1, .L p1), (2, .sptr [.lst 3 (List.map Gq3.lv p0)]), (8, .arr 161 (List.length (l10.set ((i64 ((l10.length : Int) - 1)).toNat) (q1q.mk x31.first true)))), (30, .L l8), (31, .I (l8.length : Int)), (32, .I n9)] [(161, .arr 112 2 (List.map q1q.lv (l10.set ((i64 ((l10.length : Int) - 1)).toNat) (q1q.mk x31.first true))))] R (sMa R (sMi R (sN (oIxA (f := q1q.lv) te109 tk112 ts112 R R R hx31 (sN (oFaE (f := q1q.lv) tf112_1 tk4 ts4 R R R (s_ (oStE (f := q1q.lv) (z' := (q1q.mk x31.first true)) R R R R tk4 ts4 R (idxOk hx31).2 R (s0 (Wk.to (eC R (eC R (eC (congrArg (LV.arr 161) (by simp)) (eC R (eC R (eC R eN)))))) ⟨R, trivial⟩ R (prK R))))))))))) (blockN (thenN (LH.loneT [(1, .L p1), (2, .sptr [.lst 3 (List.map Gq3.lv p0)]), (8, .arr 161 (List.length (l10.set ((i64 ((l10.length : Int) - 1)).toNat) (q1q.mk x31.first true)))), (30, .L l8), (31, .I (l8.length : Int)), (32, .I (i64 (n9 + 1)))] [(161, .arr 112 2 (List.map q1q.lv (l10.set ((i64 ((l10.length : Int) - 1)).toNat) (q1q.mk x31.first true))))] R (sN (oAdd R R (sMi R zS))) ?_)))
    exact roundI ⟨(i64 (n9 + 1)), (l10.set ((i64 ((l10.length : Int) - 1)).toNat) (q1q.mk x31.first true)), hrec2 ▸ h, R, R⟩ (Wk.eq R R R R)
   replace h := iteF h hc30
   refine LH.skip (blockN (thenN (LH.loneT [(1, .L p1), (2, .sptr [.lst 3 (List.map Gq3.lv p0)]), (8, .arr 161 (List.length l10)), (30, .L l8), (31, .I (l8.length : Int)), (32, .I (i64 (n9 + 1)))] [(161, .arr 112 2 (List.map q1q.lv l10))] R (sN (oAdd R R (sMi R zS))) ?_)))
   exact roundI ⟨(i64 (n9 + 1)), l10, hrec2 ▸ h, R, R⟩ (Wk.eq R R R R)
  replace h := iteF h hc11
  refine LH.exit (thenX (roundX (blockH (thenN (LH.wk ((Wk.trans (Wk.eq (el := [(8, .arr 161 (List.length l10))]) (ml := [(161, .arr 112 2 (List.map q1q.lv l10))]) R R R R) (Wk.trans (Wk.frzL (f := q1q.lv) (el' := [(8, .lst 2 (List.map q1q.lv l10))]) 161 112 2 l10 R R (prN R) (fZ fN)) (Wk.eq (el := [(8, .lst 2 (List.map q1q.lv l10))]) (ml := []) R R R R)))) (LH.seqT [(4, .lst 2 (List.map q1q.lv l10))] [] R (sMl R (sAl R zS)) (LH.ret ?_)))))))
  obtain rfl := oI h
  exact retE (aT Tryz.results98) (lrT R (lr0 ⟨memN mN, R, prK R, Sub.rfl⟩))

theorem q262q {F : Nat} {p0 : Gq3} {p1 : Gq3} {r : Int} (h : q174q F p0 p1 = some r) : LCall Tryz.prog 101 [.agg [.I p0.Time, .I p0.Source, .I p0.Seq], .agg [.I p1.Time, .I p1.Source, .I p1.Seq]] (Mem.of []) (.I r) (Mem.of []) := by
  unfold q174q at h
  refine bodyT Tryz.func101 R (nT Tryz.ntmps101 R) (LH.wk (Wk.eq (el := [(0, .agg [.I p0.Time, .I p0.Source, .I p0.Seq]), (1, .agg [.I p1.Time, .I p1.Source, .I p1.Seq])]) (ml := []) R R R R) (LH.seqT [(2, .sptr [.I p0.Time, .I p0.Source, .I p0.Seq]), (3, .sptr [.I p1.Time, .I p1.Source, .I p1.Seq])] [] R (sB (oBxR R R R R (sB (oBxR R R R R (sAi R zS))))) ?_))
  obtain ⟨r1, hr1, h⟩ := bindS h
  obtain ⟨r2, hr2, h⟩ := bindS h
  obtain ⟨r3, hr3, h⟩ := bindS h
  obtain ⟨r4, hr4, h⟩ := bindS h
  refine LH.seqJM mixed [] [0, 0, 0, 0, 0, 0, 0, 0, 0, 0, 0, 0, 0, 0, 0, 0, 0, 0] [(4, .I r4)] [] R R (by kernel_rfl) ?_ ?_
  ·exact mN0 (oFaS tf50_0 tk3 ts3 R R R ⟨R, mN0 (oLd R tk3 ta3 ⟨R, mN0 (oFaS tf50_0 tk3 ts3 R R R ⟨R, mN0 (oLd R tk3 ta3 ⟨R, mN0 (oCP (args := [.I p0.Time, .I p1.Time]) R isF61 R (sbR (sbR sbN)) (cmp_Compare_int_ok hr1) R ⟨R, mN0 (oFaS tf50_1 tk3 ts3 R R R ⟨R, mN0 (oLd R tk3 ta3 ⟨R, mN0 (oFaS tf50_1 tk3 ts3 R R R ⟨R, mN0 (oLd R tk3 ta3 ⟨R, mN0 (oCP (args := [.I p0.Source, .I p1.Source]) R isF61 R (sbR (sbR sbN)) (cmp_Compare_int_ok hr2) R ⟨R, mN0 (oFaS tf50_2 tk3 ts3 R R R ⟨R, mN0 (oLd R tk3 ta3 ⟨R, mN0 (oFaS tf50_2 tk3 ts3 R R R ⟨R, mN0 (oLd R tk3 ta3 ⟨R, mN0 (oCP (args := [.I p0.Seq, .I p1.Seq]) R isF61 R (sbR (sbR sbN)) (cmp_Compare_int_ok hr3) R ⟨R, mN0 (oBS (f := LV.I) (ys := [r1, r2, r3]) te22 tr3 ts3 R R R okI ⟨R, mN0 (oCP (args := [.L [r1, r2, r3]]) R isF110 R (sbR sbN) (cmp_Or_int_ok hr4) R ⟨R, mAi R zM⟩)⟩)⟩)⟩)⟩)⟩)⟩)⟩)⟩)⟩)⟩)⟩)⟩)⟩)⟩)⟩)⟩)
  refine LH.ret ?_
  obtain rfl := oI h
  exact retE (aT Tryz.results101) (lrT R (lr0 ⟨memN mN, R, prK R, Sub.rfl⟩))

theorem q244q {F : Nat} {p0 : Int} {p1 : Int} {c0 : List Gq3} {r : Int} (h : q103q F p0 p1 c0 = some r) : LCall Tryz.prog 100 [.I p0, .I p1, .sptr [.lst 3 (List.map Gq3.lv c0)]] (Mem.of []) (.I r) (Mem.of []) := by
  unfold q103q at h
  refine bodyT Tryz.func100 R (nT Tryz.ntmps100 R) (LH.wk (Wk.eq (el := [(0, .I p0), (1, .I p1), (2, .sptr [.lst 3 (List.map Gq3.lv c0)])]) (ml := []) R R R R) (LH.seqT [(0, .I p0), (1, .I p1), (2, .sptr [.lst 3 (List.map Gq3.lv c0)])] [] R (sAi R zS) ?_))
  obtain ⟨x1, hx1, h⟩ := bindS h
  obtain ⟨x2, hx2, h⟩ := bindS h
  obtain ⟨r3, hr3, h⟩ := bindS h
  refine LH.seqJM mixed [] [0, 0, 0, 0, 0, 0, 0, 0, 0, 0] [(5, .I r3)] [] R R (by kernel_rfl) (mN0 (oLd R tk95 ta95 ⟨R, mMi R (mN0 (oIx (f := Gq3.lv) te95 tk50 ts50 R R Gq3.ok hx1 R ⟨R, mN0 (oLdA R tk50 ta50 ts50 R R ⟨R, mN0 (oLd R tk95 ta95 ⟨R, mMi R (mN0 (oIx (f := Gq3.lv) te95 tk50 ts50 R R Gq3.ok hx2 R ⟨R, mN0 (oLdA R tk50 ta50 ts50 R R ⟨R, mN0 (oCP (args := [.agg [.I x1.Time, .I x1.Source, .I x1.Seq], .agg [.I x2.Time, .I x2.Source, .I x2.Seq]]) R isF101 R (sbR (sbR sbN)) (q262q hr3) R ⟨R, mAi R zM⟩)⟩)⟩))⟩)⟩)⟩))⟩)) (LH.ret ?_)
  obtain rfl := oI h
  exact retE (aT Tryz.results100) (lrT R (lr0 ⟨memN mN, R, prK R, Sub.rfl⟩))

theorem q250q {F : Nat} {p0 : List Gq3} {p1 : List Int} {r : List Int × Int} (h : q126q F p0 p1 = some r) : LCall Tryz.prog 80 [.lst 3 (List.map Gq3.lv p0), .L p1] (Mem.of []) (.tup [.L r.1, .I r.2]) (Mem.of []) := by
  unfold q126q at h
  refine bodyT Tryz.func80 R (nT Tryz.ntmps80 R) (LH.wk (Wk.eq (el := [(0, .lst 3 (List.map Gq3.lv p0)), (1, .L p1)]) (ml := []) R R R R) (LH.seqT [(1, .L p1), (2, .sptr [.lst 3 (List.map Gq3.lv p0)])] [] R (sB (oBxR R R R R (sAn R (sAi R zS)))) (LH.seq (LH.seqT [(1, .L p1), (2, .sptr [.lst 3 (List.map Gq3.lv p0)]), (13, .bool ((p0.length : Int) != (p1.length : Int)))] [] R (sN (oLd R tk95 ta95 (sN (oLnL (f := Gq3.lv) te95 R (sMl R (sN (oLnL (f := LV.I) te22 R (sN (oNe R R zS))))))))) (LH.cond (t := ((p0.length : Int) != (p1.length : Int))) R (fun hc1 => ?_) (fun hc1 => ?_))))))
  ·replace h := iteT h hc1
   refine LH.seqT [(4, .nil), (5, .I 1)] [] R (sAn R (sAi R zS)) (LH.ret (thenR ?_))
   obtain rfl := oI h
   exact retE (aT Tryz.results80) (lrT R (lrT R (lr0 ⟨memN mN, R, prK R, (Sub.tup (sbL (sbR sbN)))⟩)))
  replace h := iteF h hc1
  refine LH.skip (thenN (LH.seqT [(1, .L p1), (2, .sptr [.lst 3 (List.map Gq3.lv p0)]), (6, .nil)] [] R (sAn R zS) (LH.seq ?_)))
  obtain ⟨r2, hr2, h⟩ := bindS h
  refine LH.seqT [(2, .sptr [.lst 3 (List.map Gq3.lv p0)]), (6, .nil), (16, .lst 2 (List.map q1q.lv r2)), (17, .I (r2.length : Int)), (18, .I 0)] [] R (sN (oLd R tk95 ta95 (sMl R (sN (oCP (args := [.lst 3 (List.map Gq3.lv p0), .L p1]) R isF98 R (sbR (sbR sbN)) (q270q hr2) R (sN (oLnL (f := q1q.lv) te109 R (sMi R zS)))))))) (LH.block (LH.wk ((Wk.trans (Wk.eq (el := [(2, .sptr [.lst 3 (List.map Gq3.lv p0)]), (6, .nil), (16, .lst 2 (List.map q1q.lv r2)), (17, .I (r2.length : Int)), (18, .I 0)]) (ml := []) R R R R) (Wk.trans (Wk.eq (el := [(2, .sptr [.lst 3 (List.map Gq3.lv p0)]), (6, .nil), (16, .lst 2 (List.map q1q.lv r2)), (17, .I (r2.length : Int)), (18, .I 0)]) (ml := []) R R R R) (Wk.trans (Wk.ownL (el' := [(2, .sptr [.lst 3 (List.map Gq3.lv p0)]), (6, .arr 129 (List.length ([] : List Int))), (16, .lst 2 (List.map q1q.lv r2)), (17, .I (r2.length : Int)), (18, .I 0)]) 129 3 1 R R (wK (wO (wK (wK (wK wN)))))) (Wk.eq (el := [(2, .sptr [.lst 3 (List.map Gq3.lv p0)]), (6, .arr 129 (List.length ([] : List Int))), (16, .lst 2 (List.map q1q.lv r2)), (17, .I (r2.length : Int)), (18, .I 0)]) (ml := [(129, .arr 3 1 (List.map LV.I ([] : List Int)))]) R R R R))))) (LH.loop (fun n e m => ∃ (n3 : Int) (l4 : List Int), q79q F p0 r2 n n3 l4 = some r ∧ e = Env.of [(2, .sptr [.lst 3 (List.map Gq3.lv p0)]), (6, .arr 129 (List.length l4)), (16, .lst 2 (List.map q1q.lv r2)), (17, .I (r2.length : Int)), (18, .I n3)] ∧ m = Mem.of [(129, .arr 3 1 (List.map LV.I l4))]) F ⟨0, ([] : List Int), h, R, R⟩ ?_)))
  clear h
  rintro n e m ⟨n3, l4, h, rfl, rfl⟩
  rcases n with _ | n
  · cases (show Option.none = some _ from h)
  obtain ⟨rec1, hrec1⟩ : ∃ f, f = q79q F p0 r2 n := ⟨_, rfl⟩
  replace h : q100q F p0 r2 rec1 n3 l4 = some r := hrec1 ▸ h
  unfold q100q at h
  refine LH.seqT [(2, .sptr [.lst 3 (List.map Gq3.lv p0)]), (6, .arr 129 (List.length l4)), (16, .lst 2 (List.map q1q.lv r2)), (17, .I (r2.length : Int)), (18, .I n3), (19, .bool (decide (n3 < (r2.length : Int))))] [(129, .arr 3 1 (List.map LV.I l4))] R (sN (oLt R R zS)) (LH.seq (LH.cond (t := (decide (n3 < (r2.length : Int)))) R (fun hc5 => ?_) (fun hc5 => ?_)))
  ·replace h := iteT h hc5
   refine LH.skip (thenN (LH.wk (Wk.eq (el := [(2, .sptr [.lst 3 (List.map Gq3.lv p0)]), (6, .arr 129 (List.length l4)), (16, .lst 2 (List.map q1q.lv r2)), (17, .I (r2.length : Int)), (18, .I n3)]) (ml := [(129, .arr 3 1 (List.map LV.I l4))]) R R R R) (LH.seq (LH.block ?_))))
   obtain ⟨x6, hx6, h⟩ := bindS h
   refine LH.seqT [(2, .sptr [.lst 3 (List.map Gq3.lv p0)]), (6, .arr 129 (List.length l4)), (8, .sptr [.I x6.first, .bool x6.disputed]), (16, .lst 2 (List.map q1q.lv r2)), (17, .I (r2.length : Int)), (18, .I n3)] [(129, .arr 3 1 (List.map LV.I l4))] R (sN (oIx (f := q1q.lv) te109 tk112 ts112 R R q1q.ok hx6 R (sN (oLdA R tk112 ta112 ts112 R R (sN (oAl (id := 108) R tz112 R R (s_ (oSt R R R tk112 ts112 R R R (s0 ((Wk.trans (Wk.eq (el := [(2, .sptr [.lst 3 (List.map Gq3.lv p0)]), (6, .arr 129 (List.length l4)), (8, .ptr 108 0), (16, .lst 2 (List.map q1q.lv r2)), (17, .I (r2.length : Int)), (18, .I n3)]) (ml := [(108, .box [.I x6.first, .bool x6.disputed]), (129, .arr 3 1 (List.map LV.I l4))]) R R R R) (Wk.trans (Wk.frzB 108 [.I x6.first, .bool x6.disputed] R R R (prN R)) (Wk.eq R R R R))))))))))))) (LH.seqT [(2, .sptr [.lst 3 (List.map Gq3.lv p0)]), (6, .arr 129 (List.length l4)), (8, .sptr [.I x6.first, .bool x6.disputed]), (16, .lst 2 (List.map q1q.lv r2)), (17, .I (r2.length : Int)), (18, .I n3), (24, .bool (!x6.disputed))] [(129, .arr 3 1 (List.map LV.I l4))] R (sN (oFaS tf112_1 tk4 ts4 R R R (sN (oLd R tk4 ta4 (sN (oNot R zS)))))) (LH.cond (t := (!x6.disputed)) R (fun hc7 => ?_) (fun hc7 => ?_)))
   ·replace h := iteT h hc7
    obtain ⟨v8, hv8, h⟩ := bindS h
    refine LH.loneT [(2, .sptr [.lst 3 (List.map Gq3.lv p0)]), (6, .arr 129 (List.length v8)), (16, .lst 2 (List.map q1q.lv r2)), (17, .I (r2.length : Int)), (18, .I n3)] [(129, .arr 3 1 (List.map LV.I v8))] R (sMa R (sN (oFaS tf112_0 tk3 ts3 R R R (sN (oLd R tk3 ta3 (sN (oBS (f := LV.I) (ys := [x6.first]) te22 tr3 ts3 R R R okI (sN (oAp (f := LV.I) te22 tr3 ts3 R R (prN R) R hv8 (sAa R zS)))))))))) (blockN (thenN (LH.loneT [(2, .sptr [.lst 3 (List.map Gq3.lv p0)]), (6, .arr 129 (List.length v8)), (16, .lst 2 (List.map q1q.lv r2)), (17, .I (r2.length : Int)), (18, .I (i64 (n3 + 1)))] [(129, .arr 3 1 (List.map LV.I v8))] R (sN (oAdd R R (sMi R zS))) ?_)))
    exact roundI ⟨(i64 (n3 + 1)), v8, hrec1 ▸ h, R, R⟩ (Wk.eq R R R R)
   replace h := iteF h hc7
   refine LH.skip (blockN (thenN (LH.loneT [(2, .sptr [.lst 3 (List.map Gq3.lv p0)]), (6, .arr 129 (List.length l4)), (16, .lst 2 (List.map q1q.lv r2)), (17, .I (r2.length : Int)), (18, .I (i64 (n3 + 1)))] [(129, .arr 3 1 (List.map LV.I l4))] R (sN (oAdd R R (sMi R zS))) ?_)))
   exact roundI ⟨(i64 (n3 + 1)), l4, hrec1 ▸ h, R, R⟩ (Wk.eq R R R R)
  replace h := iteF h hc5
  refine LH.exit (thenX (roundX (blockH (thenN (LH.wk (Wk.eq (el := [(2, .sptr [.lst 3 (List.map Gq3.lv p0)]), (6, .arr 129 (List.length l4))]) (ml := [(129, .arr 3 1 (List.map LV.I l4))]) R R R R) (LH.seq (LH.seqT [(2, .sptr [.lst 3 (List.map Gq3.lv p0)]), (6, .arr 129 (List.length l4)), (33, .bool (decide ((l4.length : Int) > 300)))] [(129, .arr 3 1 (List.map LV.I l4))] R (sMa R (sN (oLnA (f := LV.I) te22 R R (sN (oGt R R zS))))) (LH.cond (t := (decide ((l4.length : Int) > 300))) R (fun hc9 => ?_) (fun hc9 => ?_)))))))))
  ·replace h := iteT h hc9
   refine LH.seqT [(4, .nil), (5, .I 3)] [] R (sAn R (sAi R zS)) (LH.ret (thenR ?_))
   obtain rfl := oI h
   exact retE (aT Tryz.results80) (lrT R (lrT R (lr0 ⟨memN mN, R, prK R, (Sub.tup (sbL (sbR sbN)))⟩)))
  replace h := iteF h hc9
  refine LH.skip (thenN ?_)
  obtain ⟨l10, hl10, h⟩ := bindS h
  refine LH.seqT [(6, .L l10)] [] R (sMa R (sN (oMF (vs := [.sptr [.lst 3 (List.map Gq3.lv p0)]]) R (sN (oCM (args := [.arr 129 (List.length l4), .fn 100 [.sptr [.lst 3 (List.map Gq3.lv p0)]]]) (ml := [(129, .arr 3 1 (List.map LV.I l4))]) (ml' := [(129, .arr 3 1 (List.map LV.I l10))]) R isF99 R (sbR (sbR sbN)) (sortI_ok Tryz.sortL R isF100 R (fun _ _ _ h => q244q h) 129 3 hl10) (mC R mN) (newI R newN) R (s0 ((Wk.trans (Wk.to (el := [(6, .arr 129 (List.length l10))]) (ml := [(129, .arr 3 1 (List.map LV.I l10))]) (eC (congrArg (LV.arr 129) (sortF_len hl10)) eN) ⟨R, trivial⟩ R (prK R)) (Wk.trans (Wk.frzL (f := LV.I) (el' := [(6, .L l10)]) 129 3 1 l10 R R (prN R) (fZ fN)) (Wk.eq R R R R)))))))))) (LH.seqT [(4, .L l10), (5, .I 0)] [] R (sMl R (sAl R (sAi R zS))) (LH.ret ?_))
  obtain rfl := oI h
  exact retE (aT Tryz.results80) (lrT R (lrT R (lr0 ⟨memN mN, R, prK R, (Sub.tup (sbR (sbR sbN)))⟩)))

theorem copies_Canonical_BagEvent_ok {F : Nat} {p0 : List Gq0} {p1 : (Gq0 → Option Gq3)} {p2 : (Gq0 → Gq0 → Option Bool)} {r : List Int × Int} {p1_f : Nat} {p1_c : List LV} (p1_i : IsF Tryz.prog p1_f) (p1_q : LV.pureL p1_c = true) (p1_k : ∀ (x0 : Gq0) (q : Gq3), p1 x0 = some q → LCall Tryz.prog p1_f ([.agg [.I x0.Stamp.Time, .I x0.Stamp.Source, .I x0.Stamp.Seq, .I x0.Kind, .I x0.Bag, .I x0.Seal, .I x0.From, .I x0.To, .L x0.Candidates]] ++ p1_c) (Mem.of []) (.agg [.I q.Time, .I q.Source, .I q.Seq]) (Mem.of [])) {p2_f : Nat} {p2_c : List LV} (p2_i : IsF Tryz.prog p2_f) (p2_q : LV.pureL p2_c = true) (p2_k : ∀ (x0 : Gq0) (x1 : Gq0) (q : Bool), p2 x0 x1 = some q → LCall Tryz.prog p2_f ([.agg [.I x0.Stamp.Time, .I x0.Stamp.Source, .I x0.Stamp.Seq, .I x0.Kind, .I x0.Bag, .I x0.Seal, .I x0.From, .I x0.To, .L x0.Candidates], .agg [.I x1.Stamp.Time, .I x1.Stamp.Source, .I x1.Stamp.Seq, .I x1.Kind, .I x1.Bag, .I x1.Seal, .I x1.From, .I x1.To, .L x1.Candidates]] ++ p2_c) (Mem.of []) (.bool q) (Mem.of [])) (h : copies_Canonical_BagEvent F p0 p1 p2 = some r) : LCall Tryz.prog 55 [.lst 9 (List.map Gq0.lv p0), .fn p1_f p1_c, .fn p2_f p2_c] (Mem.of []) (.tup [.L r.1, .I r.2]) (Mem.of []) := by
  have p2_p : ∀ {l : List LV}, LV.pureL l = true → LV.pureL (l ++ p2_c) = true := pnC p2_q
  have p2_r : LV.refsL p2_c = [] := refsL_pure p2_q
  have p1_p : ∀ {l : List LV}, LV.pureL l = true → LV.pureL (l ++ p1_c) = true := pnC p1_q
  have p1_r : LV.refsL p1_c = [] := refsL_pure p1_q
  unfold copies_Canonical_BagEvent at h
  refine bodyT Tryz.func55 R (nT Tryz.ntmps55 R) (LH.wk (Wk.to (el := [(0, .lst 9 (List.map Gq0.lv p0)), (1, .fn p1_f p1_c), (2, .fn p2_f p2_c)]) (ml := []) (eQ ⟨R, R, R, trivial⟩) mN (by simp [keptRefs, LV.refs, LV.refsL, LV.cells, lev, Env.args, Env.of, Env.put, Env.drop, p1_r, p2_r]) (prK R)) (LH.seqT [(0, .lst 9 (List.map Gq0.lv p0)), (1, .fn p1_f p1_c), (2, .fn p2_f p2_c)] [] R (sAn R (sAi R (s0 (Wk.to (eQ ⟨R, R, R, trivial⟩) mN (by simp [keptRefs, LV.refs, LV.refsL, LV.cells, lev, Env.args, Env.of, Env.put, Env.drop, p1_r, p2_r]) (prK R))))) ?_))
  obtain ⟨r1, hr1, h⟩ := bindS h
  refine LH.seqT [(8, .lst 3 (List.map Gq3.lv r1.1)), (9, .L r1.2)] [] R (sMl R (sN (oM (v := (.fn _ _)) R (sN (oM (v := (.fn _ _)) R (sN (oCP (args := [.lst 9 (List.map Gq0.lv p0), .fn p1_f p1_c, .fn p2_f p2_c]) R isF79 R (sbR (sbR (sbR sbN))) (copies_Split_BagEvent_ok p1_i p1_q p1_k p2_i p2_q p2_k hr1) (by simp [LV.pure, LV.pureL, p1_q, p2_q]) (sMt R (sN (oEx R R (sN (oEx R R (sAl R (sAl R (s0 (Wk.to (eQ ⟨R, R, trivial⟩) mN (by simp [keptRefs, LV.refs, LV.refsL, LV.cells, lev, Env.args, Env.of, Env.put, Env.drop, p1_r, p2_r]) (prK R))))))))))))))))) ?_
  obtain ⟨r2, hr2, h⟩ := bindS h
  refine LH.seqT [(6, .L r2.1), (7, .I r2.2)] [] R (sMl R (sMl R (sN (oCP (args := [.lst 3 (List.map Gq3.lv r1.1), .L r1.2]) R isF80 R (sbR (sbR sbN)) (q250q hr2) R (sN (oEx R R (sN (oEx R R (sAl R (sAi R (s0 (Wk.to (eQ ⟨R, R, trivial⟩) mN (by simp [keptRefs, LV.refs, LV.refsL, LV.cells, lev, Env.args, Env.of, Env.put, Env.drop, p1_r, p2_r]) (prK R))))))))))))) (LH.ret ?_)
  obtain rfl := oI h
  exact retE (aT Tryz.results55) (lrT R (lrT R (lr0 ⟨memN mN, R, prK R, (Sub.tup (sbR (sbR sbN)))⟩)))

theorem q239q {p0 : Gq0} {r : Gq3} (h : q157q p0 = some r) : LCall Tryz.prog 56 [Gq0.lv p0] (Mem.of []) (.agg [.I r.Time, .I r.Source, .I r.Seq]) (Mem.of []) := by
  unfold q157q at h
  refine bodyT Tryz.func56 R (nT Tryz.ntmps56 R) (LH.wk (Wk.eq (el := [(0, Gq0.lv p0)]) (ml := []) R R R R) (LH.seqT [(1, .sptr (Gq0.lv p0).cells), (2, .ptr 102 0)] [(102, .box [.I 0, .I 0, .I 0])] R (sB (oBxR R R R R (sN (oAl (id := 102) R tz50 R R zS)))) (LH.seqT [(2, .sptr [.I p0.Stamp.Time, .I p0.Stamp.Source, .I p0.Stamp.Seq])] [] R (sN (oFaS tf52_0 tk50 ts50 R R R (sN (oLdA R tk50 ta50 ts50 R R (s_ (oSt R R R tk50 ts50 R R R (s0 ((Wk.trans (Wk.eq (el := [(2, .ptr 102 0)]) (ml := [(102, .box [.I p0.Stamp.Time, .I p0.Stamp.Source, .I p0.Stamp.Seq])]) R R R R) (Wk.trans (Wk.frzB 102 [.I p0.Stamp.Time, .I p0.Stamp.Source, .I p0.Stamp.Seq] R R R (prN R)) (Wk.eq R R R R))))))))))) (LH.ret ?_))))
  obtain rfl := oI h
  exact retE (aT Tryz.results56) (lrSA R tk50 ta50 ts50 R R (lr0 ⟨memN mN, R, prK R, Sub.rfl⟩))

theorem q236q {F : Nat} {p0 : List Int} {p1 : List Int} {r : Bool} (h : q16q F p0 p1 = some r) : LCall Tryz.prog 81 [.L p0, .L p1] (Mem.of []) (.bool r) (Mem.of []) := by
  unfold q16q at h
  refine bodyT Tryz.func81 R (nT Tryz.ntmps81 R) (LH.wk (Wk.eq (el := [(0, .L p0), (1, .L p1)]) (ml := []) R R R R) (LH.seqT [(0, .L p0), (1, .L p1)] [] R (sAb R zS) (LH.seq (LH.seqT [(0, .L p0), (1, .L p1), (10, .bool ((p0.length : Int) != (p1.length : Int)))] [] R (sMl R (sN (oLnL (f := LV.I) te22 R (sMl R (sN (oLnL (f := LV.I) te22 R (sN (oNe R R zS)))))))) (LH.cond (t := ((p0.length : Int) != (p1.length : Int))) R (fun hc1 => ?_) (fun hc1 => ?_))))))
  ·replace h := iteT h hc1
   refine LH.seqT [(4, .bool false)] [] R (sAb R zS) (LH.ret (thenR ?_))
   obtain rfl := oI h
   exact retE (aT Tryz.results81) (lrT R (lr0 ⟨memN mN, R, prK R, Sub.rfl⟩))
  replace h := iteF h hc1
  refine LH.skip (thenN (LH.wk (Wk.eq (el := [(0, .L p0), (1, .L p1)]) (ml := []) R R R R) (LH.seq (LH.seqT [(0, .L p0), (1, .L p1), (12, .I (p0.length : Int)), (13, .I 0)] [] R (sMl R (sN (oLnL (f := LV.I) te22 R (sMi R zS)))) (LH.block (LH.loop (fun n e m => ∃ (n2 : Int), q2q p0 p1 n n2 = some r ∧ e = Env.of [(0, .L p0), (1, .L p1), (12, .I (p0.length : Int)), (13, .I n2)] ∧ m = Mem.of []) F ⟨0, h, R, R⟩ ?_))))))
  clear h
  rintro n e m ⟨n2, h, rfl, rfl⟩
  rcases n with _ | n
  · cases (show Option.none = some _ from h)
  obtain ⟨rec1, hrec1⟩ : ∃ f, f = q2q p0 p1 n := ⟨_, rfl⟩
  replace h : q9q p0 p1 rec1 n2 = some r := hrec1 ▸ h
  unfold q9q at h
  refine LH.seqT [(0, .L p0), (1, .L p1), (12, .I (p0.length : Int)), (13, .I n2), (14, .bool (decide (n2 < (p0.length : Int))))] [] R (sN (oLt R R zS)) (LH.seq (LH.cond (t := (decide (n2 < (p0.length : Int)))) R (fun hc3 => ?_) (fun hc3 => ?_)))
  ·replace h := iteT h hc3
   refine LH.skip (thenN (LH.wk (Wk.eq (el := [(0, .L p0), (1, .L p1), (12, .I (p0.length : Int)), (13, .I n2)]) (ml := []) R R R R) (LH.seq (LH.block (LH.seqT [(0, .L p0), (1, .L p1), (5, .I n2), (12, .I (p0.length : Int)), (13, .I n2)] [] R (sMi R (sAi R zS)) ?_)))))
   obtain ⟨x4, hx4, h⟩ := bindS h
   obtain ⟨x5, hx5, h⟩ := bindS h
   refine LH.seqJM mixed [] [0, 0, 0, 0, 0, 0, 0, 0, 0] [(0, .L p0), (1, .L p1), (12, .I (p0.length : Int)), (13, .I n2), (24, .bool (x4 != x5))] [] R R (by kernel_rfl) (mMl R (mMi R (mN0 (oIx (f := LV.I) te22 tk3 ts3 R R okI hx4 R ⟨R, mN0 (oLd R tk3 ta3 ⟨R, mMl R (mMi R (mN0 (oIx (f := LV.I) te22 tk3 ts3 R R okI hx5 R ⟨R, mN0 (oLd R tk3 ta3 ⟨R, mN0 (oNe R R ⟨R, zM⟩)⟩)⟩)))⟩)⟩)))) (LH.cond (t := (x4 != x5)) R (fun hc6 => ?_) (fun hc6 => ?_))
   ·replace h := iteT h hc6
    refine LH.seqT [(4, .bool false)] [] R (sAb R zS) (LH.ret (blockR (thenR (roundR (blockR (thenR ?_))))))
    obtain rfl := oI h
    exact retE (aT Tryz.results81) (lrT R (lr0 ⟨memN mN, R, prK R, Sub.rfl⟩))
   replace h := iteF h hc6
   refine LH.skip (blockN (thenN (LH.loneT [(0, .L p0), (1, .L p1), (12, .I (p0.length : Int)), (13, .I (i64 (n2 + 1)))] [] R (sN (oAdd R R (sMi R zS))) ?_)))
   exact roundI ⟨(i64 (n2 + 1)), hrec1 ▸ h, R, R⟩ (Wk.eq R R R R)
  replace h := iteF h hc3
  refine LH.exit (thenX (roundX (blockH (thenN (LH.seqT [(4, .bool true)] [] R (sAb R zS) (LH.ret ?_))))))
  obtain rfl := oI h
  exact retE (aT Tryz.results81) (lrT R (lr0 ⟨memN mN, R, prK R, Sub.rfl⟩))

theorem q266q {F : Nat} {p0 : Gq0} {p1 : Gq0} {r : Bool} (h : q145q F p0 p1 = some r) : LCall Tryz.prog 57 [Gq0.lv p0, Gq0.lv p1] (Mem.of []) (.bool r) (Mem.of []) := by
  unfold q145q at h
  refine bodyT Tryz.func57 R (nT Tryz.ntmps57 R) (LH.wk (Wk.eq (el := [(0, Gq0.lv p0), (1, Gq0.lv p1)]) (ml := []) R R R R) (LH.seqT [(2, .sptr (Gq0.lv p0).cells), (3, .sptr (Gq0.lv p1).cells)] [] R (sB (oBxR R R R R (sB (oBxR R R R R (sAb R zS))))) ?_))
  obtain ⟨w2, hv, h⟩ := bindS h
  refine LH.seqT [(4, .bool w2)] [] R ?_ ?_
  ·refine sN (oFaS tf52_0 tk50 ts50 R R R (sN (oLdA R tk50 ta50 ts50 R R (sN (oFaS tf52_0 tk50 ts50 R R R (sN (oLdA R tk50 ta50 ts50 R R (sN (oEqA R R (ae50 p0.Stamp p1.Stamp) (sMb R ?_))))))))))
   by_cases hb3 : (decide (p0.Stamp = p1.Stamp)) = true
   ·replace hv := iteT hv hb3
    refine sT R (cB hb3) (oFaS tf52_1 tk3 ts3 R R R (sT R (cB hb3) (oLd R tk3 ta3 (sT R (cB hb3) (oFaS tf52_1 tk3 ts3 R R R (sT R (cB hb3) (oLd R tk3 ta3 (sT R (cB hb3) (oEq R R (sN (oPkT (cB hb3) (v := (.bool _)) R (sMb R ?_))))))))))))
    by_cases hb4 : (p0.Kind == p1.Kind) = true
    ·replace hv := iteT hv hb4
     refine sT R (cB hb4) (oFaS tf52_2 tk3 ts3 R R R (sT R (cB hb4) (oLd R tk3 ta3 (sT R (cB hb4) (oFaS tf52_2 tk3 ts3 R R R (sT R (cB hb4) (oLd R tk3 ta3 (sT R (cB hb4) (oEq R R (sN (oPkT (cB hb4) (v := (.bool _)) R (sMb R ?_))))))))))))
     by_cases hb5 : (p0.Bag == p1.Bag) = true
     ·replace hv := iteT hv hb5
      refine sT R (cB hb5) (oFaS tf52_3 tk3 ts3 R R R (sT R (cB hb5) (oLd R tk3 ta3 (sT R (cB hb5) (oFaS tf52_3 tk3 ts3 R R R (sT R (cB hb5) (oLd R tk3 ta3 (sT R (cB hb5) (oEq R R (sN (oPkT (cB hb5) (v := (.bool _)) R (sMb R ?_))))))))))))
      by_cases hb6 : (p0.Seal == p1.Seal) = true
      ·replace hv := iteT hv hb6
       refine sT R (cB hb6) (oFaS tf52_4 tk3 ts3 R R R (sT R (cB hb6) (oLd R tk3 ta3 (sT R (cB hb6) (oFaS tf52_4 tk3 ts3 R R R (sT R (cB hb6) (oLd R tk3 ta3 (sT R (cB hb6) (oEq R R (sN (oPkT (cB hb6) (v := (.bool _)) R (sMb R ?_))))))))))))
       by_cases hb7 : (p0.From == p1.From) = true
       ·replace hv := iteT hv hb7
        refine sT R (cB hb7) (oFaS tf52_5 tk3 ts3 R R R (sT R (cB hb7) (oLd R tk3 ta3 (sT R (cB hb7) (oFaS tf52_5 tk3 ts3 R R R (sT R (cB hb7) (oLd R tk3 ta3 (sT R (cB hb7) (oEq R R (sN (oPkT (cB hb7) (v := (.bool _)) R (sMb R ?_))))))))))))
        by_cases hb8 : (p0.To == p1.To) = true
        ·replace hv := iteT hv hb8
         refine sT R (cB hb8) (oFaS tf52_6 tk22 ts22 R R R (sT R (cB hb8) (oLd R tk22 ta22 (sT R (cB hb8) (oFaS tf52_6 tk22 ts22 R R R (sT R (cB hb8) (oLd R tk22 ta22 ?_)))))))
         obtain ⟨r9, hr9, hv⟩ := bindS hv
         refine sT R (cB hb8) (oCP (args := [.L p0.Candidates, .L p1.Candidates]) R isF81 R (sbR (sbR sbN)) (q236q hr9) R (sN (oPkT (cB hb8) (v := (.bool _)) R (sAb R ?_))))
         obtain rfl := oI hv
         exact zS
        ·replace hb8 := bF hb8
         replace hv := iteF hv hb8
         refine sF R R hb8 (sF R R hb8 (sF R R hb8 (sF R R hb8 (sF R R hb8 (sN (oPkF (cB hb8) (v := (.bool _)) R (sAb R ?_)))))))
         obtain rfl := oI hv
         exact zS
       ·replace hb7 := bF hb7
        replace hv := iteF hv hb7
        refine sF R R hb7 (sF R R hb7 (sF R R hb7 (sF R R hb7 (sF R R hb7 (sN (oPkF (cB hb7) (v := (.bool _)) R (sMb R (sF R R R (sF R R R (sF R R R (sF R R R (sF R R R (sN (oPkF R (v := (.bool _)) R (sAb R ?_)))))))))))))))
        obtain rfl := oI hv
        exact zS
      ·replace hb6 := bF hb6
       replace hv := iteF hv hb6
       refine sF R R hb6 (sF R R hb6 (sF R R hb6 (sF R R hb6 (sF R R hb6 (sN (oPkF (cB hb6) (v := (.bool _)) R (sMb R (sF R R R (sF R R R (sF R R R (sF R R R (sF R R R (sN (oPkF R (v := (.bool _)) R (sMb R (sF R R R (sF R R R (sF R R R (sF R R R (sF R R R (sN (oPkF R (v := (.bool _)) R (sAb R ?_)))))))))))))))))))))))
       obtain rfl := oI hv
       exact zS
     ·replace hb5 := bF hb5
      replace hv := iteF hv hb5
      refine sF R R hb5 (sF R R hb5 (sF R R hb5 (sF R R hb5 (sF R R hb5 (sN (oPkF (cB hb5) (v := (.bool _)) R (sMb R (sF R R R (sF R R R (sF R R R (sF R R R (sF R R R (sN (oPkF R (v := (.bool _)) R (sMb R (sF R R R (sF R R R (sF R R R (sF R R R (sF R R R (sN (oPkF R (v := (.bool _)) R (sMb R (sF R R R (sF R R R (sF R R R (sF R R R (sF R R R (sN (oPkF R (v := (.bool _)) R (sAb R ?_)))))))))))))))))))))))))))))))
      obtain rfl := oI hv
      exact zS
    ·replace hb4 := bF hb4
     replace hv := iteF hv hb4
     refine sF R R hb4 (sF R R hb4 (sF R R hb4 (sF R R hb4 (sF R R hb4 (sN (oPkF (cB hb4) (v := (.bool _)) R (sMb R (sF R R R (sF R R R (sF R R R (sF R R R (sF R R R (sN (oPkF R (v := (.bool _)) R (sMb R (sF R R R (sF R R R (sF R R R (sF R R R (sF R R R (sN (oPkF R (v := (.bool _)) R (sMb R (sF R R R (sF R R R (sF R R R (sF R R R (sF R R R (sN (oPkF R (v := (.bool _)) R (sMb R (sF R R R (sF R R R (sF R R R (sF R R R (sF R R R (sN (oPkF R (v := (.bool _)) R (sAb R ?_)))))))))))))))))))))))))))))))))))))))
     obtain rfl := oI hv
     exact zS
   ·replace hb3 := bF hb3
    replace hv := iteF hv hb3
    refine sF R R hb3 (sF R R hb3 (sF R R hb3 (sF R R hb3 (sF R R hb3 (sN (oPkF (cB hb3) (v := (.bool _)) R (sMb R (sF R R R (sF R R R (sF R R R (sF R R R (sF R R R (sN (oPkF R (v := (.bool _)) R (sMb R (sF R R R (sF R R R (sF R R R (sF R R R (sF R R R (sN (oPkF R (v := (.bool _)) R (sMb R (sF R R R (sF R R R (sF R R R (sF R R R (sF R R R (sN (oPkF R (v := (.bool _)) R (sMb R (sF R R R (sF R R R (sF R R R (sF R R R (sF R R R (sN (oPkF R (v := (.bool _)) R (sMb R (sF R R R (sF R R R (sF R R R (sF R R R (sF R R R (sN (oPkF R (v := (.bool _)) R (sAb R ?_)))))))))))))))))))))))))))))))))))))))))))))))
    obtain rfl := oI hv
    exact zS
  clear hv
  refine LH.ret ?_
  obtain rfl := oI h
  exact retE (aT Tryz.results57) (lrT R (lr0 ⟨memN mN, R, prK R, Sub.rfl⟩))

theorem q243q {F : Nat} {p0 : List Gq0} {r : List Gq0 × Int} (h : q133q F p0 = some r) : LCall Tryz.prog 33 [.lst 9 (List.map Gq0.lv p0)] (Mem.of []) (.tup [.lst 9 (List.map Gq0.lv r.1), .I r.2]) (Mem.of []) := by
  unfold q133q at h
  refine bodyT Tryz.func33 R (nT Tryz.ntmps33 R) (LH.wk (Wk.eq (el := [(0, .lst 9 (List.map Gq0.lv p0))]) (ml := []) R R R R) (LH.seqT [(0, .lst 9 (List.map Gq0.lv p0))] [] R (sAn R (sAi R zS)) ?_))
  obtain ⟨r1, hr1, h⟩ := bindS h
  refine LH.seqT [(0, .lst 9 (List.map Gq0.lv p0)), (4, .L r1.1), (5, .I r1.2)] [] R (sMl R (sN (oCP (args := [.lst 9 (List.map Gq0.lv p0), .fn 56 [], .fn 57 []]) R isF55 R (sbR (sbR (sbR sbN))) (copies_Canonical_BagEvent_ok (p1_f := 56) (p1_c := []) isF56 R (fun _ _ h => q239q h) (p2_f := 57) (p2_c := []) isF57 R (fun _ _ _ h => q266q h) hr1) R (sMt R (sN (oEx R R (sN (oEx R R (sAl R (sAi R zS)))))))))) (LH.seq (LH.seqT [(0, .lst 9 (List.map Gq0.lv p0)), (4, .L r1.1), (5, .I r1.2), (15, .bool (r1.2 != 0))] [] R (sMi R (sN (oNe R R zS))) (LH.cond (t := (r1.2 != 0)) R (fun hc2 => ?_) (fun hc2 => ?_))))
  ·replace h := iteT h hc2
   refine LH.seqT [(2, .nil), (3, .I r1.2)] [] R (sMi R (sAn R (sAi R zS))) (LH.ret (thenR ?_))
   obtain rfl := oI h
   exact retE (aT Tryz.results33) (lrT R (lrT R (lr0 ⟨memN mN, R, prK R, (Sub.tup (sbL (sbR sbN)))⟩)))
  replace h := iteF h hc2
  refine LH.skip (thenN ?_)
  obtain ⟨v3, hv3, h⟩ := bindS h
  refine LH.seqT [(0, .lst 9 (List.map Gq0.lv p0)), (4, .L r1.1), (6, .arr 119 (List.length v3))] [(119, .arr 52 9 (List.map Gq0.lv v3))] R (sMl R (sN (oLnL (f := LV.I) te22 R (sX (ok_mkS (f := Gq0.lv) (z := (Gq0.mk (Gq3.mk 0 0 0) 0 0 0 0 0 [])) (id := 119) R te25 tz52 tr52 ts52 R R R (Sub.agg (sbR (sbR (sbR (sbR (sbR (sbR (sbR (sbR (sbL sbN)))))))))) Gq0.ok hv3 R) (sAa R zS))))) (LH.seq (LH.seqT [(0, .lst 9 (List.map Gq0.lv p0)), (6, .arr 119 (List.length v3)), (20, .L r1.1), (21, .I (r1.1.length : Int)), (22, .I 0)] [(119, .arr 52 9 (List.map Gq0.lv v3))] R (sMl R (sN (oLnL (f := LV.I) te22 R (sMi R zS)))) (LH.block (LH.loop (fun n e m => ∃ (n4 : Int) (l5 : List Gq0), q43q p0 r1 n n4 l5 = some r ∧ e = Env.of [(0, .lst 9 (List.map Gq0.lv p0)), (6, .arr 119 (List.length l5)), (20, .L r1.1), (21, .I (r1.1.length : Int)), (22, .I n4)] ∧ m = Mem.of [(119, .arr 52 9 (List.map Gq0.lv l5))]) F ⟨0, v3, h, R, R⟩ ?_))))
  clear h
  rintro n e m ⟨n4, l5, h, rfl, rfl⟩
  rcases n with _ | n
  · cases (show Option.none = some _ from h)
  obtain ⟨rec1, hrec1⟩ : ∃ f, f = q43q p0 r1 n := ⟨_, rfl⟩
  replace h : q63q p0 r1 rec1 n4 l5 = some r := hrec1 ▸ h
  unfold q63q at h
  refine LH.seqT [(0, .lst 9 (List.map Gq0.lv p0)), (6, .arr 119 (List.length l5)), (20, .L r1.1), (21, .I (r1.1.length : Int)), (22, .I n4), (23, .bool (decide (n4 < (r1.1.length : Int))))] [(119, .arr 52 9 (List.map Gq0.lv l5))] R (sN (oLt R R zS)) (LH.seq (LH.cond (t := (decide (n4 < (r1.1.length : Int)))) R (fun hc6 => ?_) (fun hc6 => ?_)))
  ·replace h := iteT h hc6
   refine LH.skip (thenN (LH.wk (Wk.eq (el := [(0, .lst 9 (List.map Gq0.lv p0)), (6, .arr 119 (List.length l5)), (20, .L r1.1), (21, .I (r1.1.length : Int)), (22, .I n4)]) (ml := [(119, .arr 52 9 (List.map Gq0.lv l5))]) R R R R) (LH.seq (LH.block ?_))))
   obtain ⟨x7, hx7, h⟩ := bindS h
   refine LH.seqT [(0, .lst 9 (List.map Gq0.lv p0)), (6, .arr 119 (List.length l5)), (7, .I n4), (8, .I x7), (20, .L r1.1), (21, .I (r1.1.length : Int)), (22, .I n4)] [(119, .arr 52 9 (List.map Gq0.lv l5))] R (sMi R (sN (oIx (f := LV.I) te22 tk3 ts3 R R okI hx7 R (sN (oLd R tk3 ta3 (sAi R (sAi R zS))))))) ?_
   obtain ⟨x8, hx8, h⟩ := bindS h
   obtain ⟨x9, hx9, h⟩ := bindS h
   refine LH.seqT [(0, .lst 9 (List.map Gq0.lv p0)), (6, .arr 119 (List.length (l5.set n4.toNat x8))), (7, .I n4), (8, .I x7), (20, .L r1.1), (21, .I (r1.1.length : Int)), (22, .I n4)] [(119, .arr 52 9 (List.map Gq0.lv (l5.set n4.toNat x8)))] R (sMa R (sMi R (sMl R (sMi R (sN (oIx (f := Gq0.lv) te25 tk52 ts52 R R Gq0.ok hx8 R (sN (oLdA R tk52 ta52 ts52 R R (sN (oIxA (f := Gq0.lv) te25 tk52 ts52 R R R hx9 (s_ (oStE (f := Gq0.lv) (z' := x8) R R R R tk52 ts52 R (idxOk hx9).2 R (s0 (Wk.to (eC R (eC (congrArg (LV.arr 119) (by simp)) (eC R (eC R (eC R (eC R (eC R eN))))))) ⟨R, trivial⟩ R (prK R))))))))))))))) ?_
   obtain ⟨x10, hx10, h⟩ := bindS h
   obtain ⟨v11, hv11, h⟩ := bindS h
   obtain ⟨x12, hx12, h⟩ := bindS h
   refine LH.loneT [(0, .lst 9 (List.map Gq0.lv p0)), (6, .arr 119 (List.length ((l5.set n4.toNat x8).set n4.toNat (Gq0.mk x12.Stamp x12.Kind x12.Bag x12.Seal x12.From x12.To v11)))), (20, .L r1.1), (21, .I (r1.1.length : Int)), (22, .I n4)] [(119, .arr 52 9 (List.map Gq0.lv ((l5.set n4.toNat x8).set n4.toNat (Gq0.mk x12.Stamp x12.Kind x12.Bag x12.Seal x12.From x12.To v11))))] R (sMa R (sMi R (sMl R (sMi R (sN (oIx (f := Gq0.lv) te25 tk52 ts52 R R Gq0.ok hx10 R (sN (oFaS tf52_6 tk22 ts22 R R R (sN (oLd R tk22 ta22 (sN (oCP (args := [.L x10.Candidates]) R isF58 R (sbR sbN) (LCall.frz (clone_ok (g := LV.I) cloneW58 R 141 hv11) R) R (sN (oIxA (f := Gq0.lv) te25 tk52 ts52 R R R hx12 (sN (oFaE (f := Gq0.lv) tf52_6 tk22 ts22 R R R (s_ (oStE (f := Gq0.lv) (z' := (Gq0.mk x12.Stamp x12.Kind x12.Bag x12.Seal x12.From x12.To v11)) R R R R tk22 ts22 R (idxOk hx12).2 R (s0 (Wk.to (eC R (eC (congrArg (LV.arr 119) (by simp)) (eC R (eC R (eC R eN))))) ⟨R, trivial⟩ R (prK R))))))))))))))))))))) (blockN (thenN (LH.loneT [(0, .lst 9 (List.map Gq0.lv p0)), (6, .arr 119 (List.length ((l5.set n4.toNat x8).set n4.toNat (Gq0.mk x12.Stamp x12.Kind x12.Bag x12.Seal x12.From x12.To v11)))), (20, .L r1.1), (21, .I (r1.1.length : Int)), (22, .I (i64 (n4 + 1)))] [(119, .arr 52 9 (List.map Gq0.lv ((l5.set n4.toNat x8).set n4.toNat (Gq0.mk x12.Stamp x12.Kind x12.Bag x12.Seal x12.From x12.To v11))))] R (sN (oAdd R R (sMi R zS))) ?_)))
   exact roundI ⟨(i64 (n4 + 1)), ((l5.set n4.toNat x8).set n4.toNat (Gq0.mk x12.Stamp x12.Kind x12.Bag x12.Seal x12.From x12.To v11)), hrec1 ▸ h, R, R⟩ (Wk.eq R R R R)
  replace h := iteF h hc6
  refine LH.exit (thenX (roundX (blockH (thenN (LH.wk ((Wk.trans (Wk.eq (el := [(6, .arr 119 (List.length l5))]) (ml := [(119, .arr 52 9 (List.map Gq0.lv l5))]) R R R R) (Wk.trans (Wk.frzL (f := Gq0.lv) (el' := [(6, .lst 9 (List.map Gq0.lv l5))]) 119 52 9 l5 R R (prN R) (fZ fN)) (Wk.eq (el := [(6, .lst 9 (List.map Gq0.lv l5))]) (ml := []) R R R R)))) (LH.seqT [(2, .lst 9 (List.map Gq0.lv l5)), (3, .I 0)] [] R (sMl R (sAl R (sAi R zS))) (LH.ret ?_)))))))
  obtain rfl := oI h
  exact retE (aT Tryz.results33) (lrT R (lrT R (lr0 ⟨memN mN, R, prK R, (Sub.tup (sbR (sbR sbN)))⟩)))

theorem q176q {F : Nat} {p0 : List GBag} {p1 : Int} {p2 : (GBag → Int → Option Int)} {r : Int × Bool} {p2_f : Nat} {p2_c : List LV} (p2_i : IsF Tryz.prog p2_f) (p2_q : LV.pureL p2_c = true) (p2_k : ∀ (x0 : GBag) (x1 : Int) (q : Int), p2 x0 x1 = some q → LCall Tryz.prog p2_f ([.agg [.I x0.Bag, .I x0.Holder, .bool x0.Open, .L x0.Seals, .L x0.Packed, .L x0.Found], .I x1] ++ p2_c) (Mem.of []) (.I q) (Mem.of [])) (h : q12q F p0 p1 p2 = some r) : LCall Tryz.prog 59 [.lst 6 (List.map GBag.lv p0), .I p1, .fn p2_f p2_c] (Mem.of []) (.tup [.I r.1, .bool r.2]) (Mem.of []) := by
  have p2_p : ∀ {l : List LV}, LV.pureL l = true → LV.pureL (l ++ p2_c) = true := pnC p2_q
  have p2_r : LV.refsL p2_c = [] := refsL_pure p2_q
  unfold q12q at h
  refine bodyT Tryz.func59 R (nT Tryz.ntmps59 R) (LH.wk (Wk.to (el := [(0, .lst 6 (List.map GBag.lv p0)), (1, .I p1), (2, .fn p2_f p2_c)]) (ml := []) (eQ ⟨R, R, R, trivial⟩) mN (by simp [keptRefs, LV.refs, LV.refsL, LV.cells, lev, Env.args, Env.of, Env.put, Env.drop, p2_r]) (prK R)) (LH.seqT [(0, .lst 6 (List.map GBag.lv p0)), (1, .I p1), (2, .fn p2_f p2_c)] [] R (sAi R (sAb R (s0 (Wk.to (eQ ⟨R, R, R, trivial⟩) mN (by simp [keptRefs, LV.refs, LV.refsL, LV.cells, lev, Env.args, Env.of, Env.put, Env.drop, p2_r]) (prK R))))) (LH.seqT [(0, .lst 6 (List.map GBag.lv p0)), (1, .I p1), (2, .fn p2_f p2_c), (8, .I (p0.length : Int))] [] R (sMl R (sN (oLnL (f := GBag.lv) te27 R (sAi R (s0 (Wk.to (eQ ⟨R, R, R, R, trivial⟩) mN (by simp [keptRefs, LV.refs, LV.refsL, LV.cells, lev, Env.args, Env.of, Env.put, Env.drop, p2_r]) (prK R))))))) (LH.seqT [(0, .lst 6 (List.map GBag.lv p0)), (1, .I p1), (2, .fn p2_f p2_c), (8, .I (p0.length : Int)), (9, .I 0), (10, .I (p0.length : Int))] [] R (sMi R (sAi R (sAi R (s0 (Wk.to (eQ ⟨R, R, R, R, R, R, trivial⟩) mN (by simp [keptRefs, LV.refs, LV.refsL, LV.cells, lev, Env.args, Env.of, Env.put, Env.drop, p2_r]) (prK R)))))) (LH.seq (LH.block (LH.loop (fun n e m => ∃ (n1 : Int) (n2 : Int), q4q p0 p1 p2 n n1 n2 = some r ∧ e = Env.of [(0, .lst 6 (List.map GBag.lv p0)), (1, .I p1), (2, .fn p2_f p2_c), (8, .I (p0.length : Int)), (9, .I n1), (10, .I n2)] ∧ m = Mem.of []) F ⟨0, (p0.length : Int), h, R, R⟩ ?_)))))))
  clear h
  rintro n e m ⟨n1, n2, h, rfl, rfl⟩
  rcases n with _ | n
  · cases (show Option.none = some _ from h)
  obtain ⟨rec1, hrec1⟩ : ∃ f, f = q4q p0 p1 p2 n := ⟨_, rfl⟩
  replace h : q15q p0 p1 p2 rec1 n1 n2 = some r := hrec1 ▸ h
  unfold q15q at h
  refine LH.seq (LH.seqT [(0, .lst 6 (List.map GBag.lv p0)), (1, .I p1), (2, .fn p2_f p2_c), (8, .I (p0.length : Int)), (9, .I n1), (10, .I n2), (17, .bool (decide (n1 < n2)))] [] R (sMi R (sMi R (sN (oLt R R (s0 (Wk.to (eQ ⟨R, R, R, R, R, R, R, trivial⟩) mN (by simp [keptRefs, LV.refs, LV.refsL, LV.cells, lev, Env.args, Env.of, Env.put, Env.drop, p2_r]) (prK R))))))) (LH.cond (t := (decide (n1 < n2))) R (fun hc3 => ?_) (fun hc3 => ?_)))
  ·replace h := iteT h hc3
   refine LH.skip (thenN (LH.wk (Wk.to (el := [(0, .lst 6 (List.map GBag.lv p0)), (1, .I p1), (2, .fn p2_f p2_c), (8, .I (p0.length : Int)), (9, .I n1), (10, .I n2)]) (ml := []) (eQ ⟨R, R, R, R, R, R, trivial⟩) mN (by simp [keptRefs, LV.refs, LV.refsL, LV.cells, lev, Env.args, Env.of, Env.put, Env.drop, p2_r]) (prK R)) (LH.block (LH.seqT [(0, .lst 6 (List.map GBag.lv p0)), (1, .I p1), (2, .fn p2_f p2_c), (8, .I (p0.length : Int)), (9, .I n1), (10, .I n2), (11, .I (i64 (shrI .u64 (IntKind.u64.wrap (i64 (n1 + n2))) 1)))] [] R (sMi R (sMi R (sN (oAdd R R (sN (oCv tk3 ti102 R (sX ((ok_shr R R (by decide)).ok) (sN (oCv tk102 ti3 R (sAi R (s0 (Wk.to (eQ ⟨R, R, R, R, R, R, R, trivial⟩) mN (by simp [keptRefs, LV.refs, LV.refsL, LV.cells, lev, Env.args, Env.of, Env.put, Env.drop, p2_r]) (prK R))))))))))))) ?_))))
   obtain ⟨x4, hx4, h⟩ := bindS h
   obtain ⟨r5, hr5, h⟩ := bindS h
   refine LH.seqT [(0, .lst 6 (List.map GBag.lv p0)), (1, .I p1), (2, .fn p2_f p2_c), (8, .I (p0.length : Int)), (9, .I n1), (10, .I n2), (11, .I (i64 (shrI .u64 (IntKind.u64.wrap (i64 (n1 + n2))) 1))), (31, .bool (decide (r5 < 0)))] [] R ?_ ?_
   ·refine sN (oM (v := (.fn _ _)) R (sMl R (sMi R (sN (oIx (f := GBag.lv) te27 tk43 ts43 R R GBag.ok hx4 R (sN (oLdA R tk43 ta43 ts43 R R (sMi R (sN (oCP (args := [.agg [.I x4.Bag, .I x4.Holder, .bool x4.Open, .L x4.Seals, .L x4.Packed, .L x4.Found], .I p1] ++ p2_c) (args' := [.agg [.I x4.Bag, .I x4.Holder, .bool x4.Open, .L x4.Seals, .L x4.Packed, .L x4.Found], .I p1] ++ p2_c) R p2_i R SubL.rfl (p2_k _ _ _ hr5) (p2_p R) ?_))))))))))
    exact sN (oLt R R (s0 (Wk.to (eQ ⟨R, R, R, R, R, R, R, R, trivial⟩) mN (by simp [keptRefs, LV.refs, LV.refsL, LV.cells, lev, Env.args, Env.of, Env.put, Env.drop, p2_r]) (prK R))))
   refine LH.cond (t := (decide (r5 < 0))) R (fun hc6 => ?_) (fun hc6 => ?_)
   ·replace h := iteT h hc6
    refine LH.loneT [(0, .lst 6 (List.map GBag.lv p0)), (1, .I p1), (2, .fn p2_f p2_c), (8, .I (p0.length : Int)), (9, .I (i64 ((i64 (shrI .u64 (IntKind.u64.wrap (i64 (n1 + n2))) 1)) + 1))), (10, .I n2)] [] R (sMi R (sN (oAdd R R (sAi R (s0 (Wk.to (eQ ⟨R, R, R, R, R, R, trivial⟩) mN (by simp [keptRefs, LV.refs, LV.refsL, LV.cells, lev, Env.args, Env.of, Env.put, Env.drop, p2_r]) (prK R))))))) (blockN ?_)
    exact roundI ⟨(i64 ((i64 (shrI .u64 (IntKind.u64.wrap (i64 (n1 + n2))) 1)) + 1)), n2, hrec1 ▸ h, R, R⟩ (Wk.to (eQ ⟨R, R, R, R, R, R, trivial⟩) mN (by simp [keptRefs, LV.refs, LV.refsL, LV.cells, lev, Env.args, Env.of, Env.put, Env.drop, p2_r]) (prK R))
   replace h := iteF h hc6
   refine LH.loneT [(0, .lst 6 (List.map GBag.lv p0)), (1, .I p1), (2, .fn p2_f p2_c), (8, .I (p0.length : Int)), (9, .I n1), (10, .I (i64 (shrI .u64 (IntKind.u64.wrap (i64 (n1 + n2))) 1)))] [] R (sMi R (sAi R (s0 (Wk.to (eQ ⟨R, R, R, R, R, R, trivial⟩) mN (by simp [keptRefs, LV.refs, LV.refsL, LV.cells, lev, Env.args, Env.of, Env.put, Env.drop, p2_r]) (prK R))))) (blockN ?_)
   exact roundI ⟨n1, (i64 (shrI .u64 (IntKind.u64.wrap (i64 (n1 + n2))) 1)), hrec1 ▸ h, R, R⟩ (Wk.to (eQ ⟨R, R, R, R, R, R, trivial⟩) mN (by simp [keptRefs, LV.refs, LV.refsL, LV.cells, lev, Env.args, Env.of, Env.put, Env.drop, p2_r]) (prK R))
  replace h := iteF h hc3
  refine LH.exit (thenX (roundX (blockH (thenN ?_))))
  obtain ⟨w8, hv, h⟩ := bindS h
  refine LH.seqT [(6, .I n1), (7, .bool w8)] [] R ?_ ?_
  ·refine sMi R (sMi R (sMi R (sN (oLt R R (sMb R ?_)))))
   by_cases hb9 : (decide (n1 < (p0.length : Int))) = true
   ·replace hv := iteT hv hb9
    refine sT R (cB hb9) (oM (v := (.fn _ _)) R (sT R (cB hb9) (oM (v := (.lst _ _)) R (sT R (cB hb9) (oM (v := (.int _ _)) R ?_)))))
    obtain ⟨x10, hx10, hv⟩ := bindS hv
    refine sT R (cB hb9) (oIx (f := GBag.lv) te27 tk43 ts43 R R GBag.ok hx10 R (sT R (cB hb9) (oLdA R tk43 ta43 ts43 R R (sT R (cB hb9) (oM (v := (.int _ _)) R ?_)))))
    obtain ⟨r11, hr11, hv⟩ := bindS hv
    refine sT R (cB hb9) (oCP (args := [.agg [.I x10.Bag, .I x10.Holder, .bool x10.Open, .L x10.Seals, .L x10.Packed, .L x10.Found], .I p1] ++ p2_c) (args' := [.agg [.I x10.Bag, .I x10.Holder, .bool x10.Open, .L x10.Seals, .L x10.Packed, .L x10.Found], .I p1] ++ p2_c) R p2_i R SubL.rfl (p2_k _ _ _ hr11) (p2_p R) ?_)
    refine sT R (cB hb9) (oEq R R (sN (oPkT (cB hb9) (v := (.bool _)) R (sAi R (sAb R ?_)))))
    obtain rfl := oI hv
    exact s0 (Wk.to (eQ ⟨R, R, trivial⟩) mN (by simp [keptRefs, LV.refs, LV.refsL, LV.cells, lev, Env.args, Env.of, Env.put, Env.drop, p2_r]) (prK R))
   ·replace hb9 := bF hb9
    replace hv := iteF hv hb9
    refine sF R R hb9 (sF R R hb9 (sF R R hb9 (sF R R hb9 (sF R R hb9 (sF R R hb9 (sF R R hb9 (sF R R hb9 (sN (oPkF (cB hb9) (v := (.bool _)) R (sAi R (sAb R ?_)))))))))))
    obtain rfl := oI hv
    exact s0 (Wk.to (eQ ⟨R, R, trivial⟩) mN (by simp [keptRefs, LV.refs, LV.refsL, LV.cells, lev, Env.args, Env.of, Env.put, Env.drop, p2_r]) (prK R))
  clear hv
  refine LH.ret ?_
  obtain rfl := oI h
  exact retE (aT Tryz.results59) (lrT R (lrT R (lr0 ⟨memN mN, R, prK R, (Sub.tup (sbR (sbR sbN)))⟩)))

theorem q252q {p0 : GBag} {p1 : Int} {r : Int} (h : q106q p0 p1 = some r) : LCall Tryz.prog 60 [GBag.lv p0, .I p1] (Mem.of []) (.I r) (Mem.of []) := by
  unfold q106q at h
  refine bodyT Tryz.func60 R (nT Tryz.ntmps60 R) (LH.wk (Wk.eq (el := [(0, GBag.lv p0), (1, .I p1)]) (ml := []) R R R R) (LH.seqT [(1, .I p1), (2, .sptr (GBag.lv p0).cells)] [] R (sB (oBxR R R R R (sAi R zS))) ?_))
  obtain ⟨r1, hr1, h⟩ := bindS h
  refine LH.seqT [(4, .I r1)] [] R (sN (oFaS tf43_0 tk3 ts3 R R R (sN (oLd R tk3 ta3 (sMi R (sN (oCP (args := [.I p0.Bag, .I p1]) R isF61 R (sbR (sbR sbN)) (cmp_Compare_int_ok hr1) R (sAi R zS)))))))) (LH.ret ?_)
  obtain rfl := oI h
  exact retE (aT Tryz.results60) (lrT R (lr0 ⟨memN mN, R, prK R, Sub.rfl⟩))

theorem q256q {p0 : Int} {r : Bool} (h : q168q p0 = some r) : LCall Tryz.prog 73 [.I p0] (Mem.of []) (.bool r) (Mem.of []) := by
  unfold q168q at h
  refine bodyT Tryz.func73 R (nT Tryz.ntmps73 R) (LH.wk (Wk.eq (el := [(0, .I p0)]) (ml := []) R R R R) (LH.seqT [(0, .I p0)] [] R (sAb R zS) (LH.seqT [(2, .bool ((decide (p0 ≥ 0)) && (decide (p0 ≤ 9999))))] [] R ?_ ?_)))
  ·refine sMi R (sN (oGe R R (sMb R ?_)))
   by_cases hb2 : (decide (p0 ≥ 0)) = true
   ·exact sT R (cB hb2) (oM (v := (.int _ _)) R (sT R (cB hb2) (oLe R R (sN (oPkT (cB hb2) (v := (.bool _)) R (sAb R (s0 (Wk.to (eC (cB (andT hb2)) eN) mN R (prK R)))))))))
   ·replace hb2 := bF hb2
    exact sF R R hb2 (sF R R hb2 (sN (oPkF (cB hb2) (v := (.bool _)) R (sAb R (s0 (Wk.to (eC (cB (andF hb2)) eN) mN R (prK R)))))))
  refine LH.ret ?_
  obtain rfl := oI h
  exact retE (aT Tryz.results73) (lrT R (lr0 ⟨memN mN, R, prK R, Sub.rfl⟩))

theorem q251q {p0 : Int} {r : Bool} (h : q165q p0 = some r) : LCall Tryz.prog 77 [.I p0] (Mem.of []) (.bool r) (Mem.of []) := by
  unfold q165q at h
  refine bodyT Tryz.func77 R (nT Tryz.ntmps77 R) (LH.wk (Wk.eq (el := [(0, .I p0)]) (ml := []) R R R R) (LH.seqT [(0, .I p0)] [] R (sAb R zS) (LH.seqT [(2, .bool ((decide (p0 ≥ 0)) && (decide (p0 ≤ 1000000))))] [] R ?_ ?_)))
  ·refine sMi R (sN (oGe R R (sMb R ?_)))
   by_cases hb2 : (decide (p0 ≥ 0)) = true
   ·exact sT R (cB hb2) (oM (v := (.int _ _)) R (sT R (cB hb2) (oLe R R (sN (oPkT (cB hb2) (v := (.bool _)) R (sAb R (s0 (Wk.to (eC (cB (andT hb2)) eN) mN R (prK R)))))))))
   ·replace hb2 := bF hb2
    exact sF R R hb2 (sF R R hb2 (sN (oPkF (cB hb2) (v := (.bool _)) R (sAb R (s0 (Wk.to (eC (cB (andF hb2)) eN) mN R (prK R)))))))
  refine LH.ret ?_
  obtain rfl := oI h
  exact retE (aT Tryz.results77) (lrT R (lr0 ⟨memN mN, R, prK R, Sub.rfl⟩))

theorem q209q {p0 : Int} {r : Bool} (h : q105q p0 = some r) : LCall Tryz.prog 74 [.I p0] (Mem.of []) (.bool r) (Mem.of []) := by
  unfold q105q at h
  refine bodyT Tryz.func74 R (nT Tryz.ntmps74 R) (LH.wk (Wk.eq (el := [(0, .I p0)]) (ml := []) R R R R) (LH.seqT [(0, .I p0)] [] R (sAb R zS) (LH.seqT [(2, .bool ((decide (p0 ≥ 0)) && (decide (p0 ≤ 99))))] [] R ?_ ?_)))
  ·refine sMi R (sN (oGe R R (sMb R ?_)))
   by_cases hb2 : (decide (p0 ≥ 0)) = true
   ·exact sT R (cB hb2) (oM (v := (.int _ _)) R (sT R (cB hb2) (oLe R R (sN (oPkT (cB hb2) (v := (.bool _)) R (sAb R (s0 (Wk.to (eC (cB (andT hb2)) eN) mN R (prK R)))))))))
   ·replace hb2 := bF hb2
    exact sF R R hb2 (sF R R hb2 (sN (oPkF (cB hb2) (v := (.bool _)) R (sAb R (s0 (Wk.to (eC (cB (andF hb2)) eN) mN R (prK R)))))))
  refine LH.ret ?_
  obtain rfl := oI h
  exact retE (aT Tryz.results74) (lrT R (lr0 ⟨memN mN, R, prK R, Sub.rfl⟩))

theorem q225q {F : Nat} {p0 : List Int} {r : Bool} (h : q143q F p0 = some r) : LCall Tryz.prog 41 [.L p0] (Mem.of []) (.bool r) (Mem.of []) := by
  unfold q143q at h
  refine bodyT Tryz.func41 R (nT Tryz.ntmps41 R) (LH.wk (Wk.eq (el := [(0, .L p0)]) (ml := []) R R R R) (LH.seqT [(0, .L p0)] [] R (sAb R zS) (LH.seq (LH.seqT [(0, .L p0), (7, .bool (decide ((p0.length : Int) > 60)))] [] R (sMl R (sN (oLnL (f := LV.I) te22 R (sN (oGt R R zS))))) (LH.cond (t := (decide ((p0.length : Int) > 60))) R (fun hc1 => ?_) (fun hc1 => ?_))))))
  ·replace h := iteT h hc1
   refine LH.seqT [(2, .bool false)] [] R (sAb R zS) (LH.ret (thenR ?_))
   obtain rfl := oI h
   exact retE (aT Tryz.results41) (lrT R (lr0 ⟨memN mN, R, prK R, Sub.rfl⟩))
  replace h := iteF h hc1
  refine LH.skip (thenN (LH.wk (Wk.eq (el := [(0, .L p0)]) (ml := []) R R R R) (LH.seq (LH.seqT [(0, .L p0), (8, .L p0), (9, .I (p0.length : Int)), (10, .I 0)] [] R (sMl R (sN (oLnL (f := LV.I) te22 R (sMi R zS)))) (LH.block (LH.loop (fun n e m => ∃ (n2 : Int), q61q p0 n n2 = some r ∧ e = Env.of [(0, .L p0), (8, .L p0), (9, .I (p0.length : Int)), (10, .I n2)] ∧ m = Mem.of []) F ⟨0, h, R, R⟩ ?_))))))
  clear h
  rintro n e m ⟨n2, h, rfl, rfl⟩
  rcases n with _ | n
  · cases (show Option.none = some _ from h)
  obtain ⟨rec1, hrec1⟩ : ∃ f, f = q61q p0 n := ⟨_, rfl⟩
  replace h : q104q p0 rec1 n2 = some r := hrec1 ▸ h
  unfold q104q at h
  refine LH.seqT [(0, .L p0), (8, .L p0), (9, .I (p0.length : Int)), (10, .I n2), (11, .bool (decide (n2 < (p0.length : Int))))] [] R (sN (oLt R R zS)) (LH.seq (LH.cond (t := (decide (n2 < (p0.length : Int)))) R (fun hc3 => ?_) (fun hc3 => ?_)))
  ·replace h := iteT h hc3
   refine LH.skip (thenN (LH.wk (Wk.eq (el := [(0, .L p0), (8, .L p0), (9, .I (p0.length : Int)), (10, .I n2)]) (ml := []) R R R R) (LH.seq (LH.block ?_))))
   obtain ⟨x4, hx4, h⟩ := bindS h
   refine LH.seqT [(0, .L p0), (3, .I n2), (4, .I x4), (8, .L p0), (9, .I (p0.length : Int)), (10, .I n2)] [] R (sMi R (sN (oIx (f := LV.I) te22 tk3 ts3 R R okI hx4 R (sN (oLd R tk3 ta3 (sAi R (sAi R zS))))))) ?_
   obtain ⟨w6, hv, h⟩ := bindS h
   refine LH.seqT [(0, .L p0), (8, .L p0), (9, .I (p0.length : Int)), (10, .I n2), (33, .bool w6)] [] R ?_ ?_
   ·refine sMi R (sN (oLt R R (sMb R ?_)))
    by_cases hb7 : (decide (x4 < 0)) = true
    ·replace hv := iteT hv hb7
     refine sF R R hb7 (sF R R hb7 (sN (oPkT (cB hb7) (v := (.bool _)) R (sMb R (sF R R R (sF R R R (sF R R R (sU R R (sU R R (sU R R (sU R R (sU R R (sU R R (sU R R (sF R R R (sN (oPkT R (v := (.bool _)) R ?_)))))))))))))))))
     obtain rfl := oI hv
     exact zS
    ·replace hb7 := bF hb7
     replace hv := iteF hv hb7
     refine sT R (cB hb7) (oM (v := (.int _ _)) R (sT R (cB hb7) (oGt R R (sN (oPkF (cB hb7) (v := (.bool _)) R (sMb R ?_))))))
     by_cases hb8 : (decide (x4 > 9999)) = true
     ·replace hv := iteT hv hb8
      refine sF R R hb8 (sF R R hb8 (sF R R hb8 (sU R R (sU R R (sU R R (sU R R (sU R R (sU R R (sU R R (sF R R hb8 (sN (oPkT (cB hb8) (v := (.bool _)) R ?_))))))))))))
      obtain rfl := oI hv
      exact zS
     ·replace hb8 := bF hb8
      replace hv := iteF hv hb8
      refine sT R (cB hb8) (oM (v := (.int _ _)) R (sT R (cB hb8) (oGt R R (sT R (cB hb8) (oM (v := (.bool _)) R ?_)))))
      by_cases hb9 : (decide (n2 > 0)) = true
      ·replace hv := iteT hv hb9
       refine sT R (cB hb9) (oM (v := (.lst _ _)) R (sT R (cB hb9) (oM (v := (.int _ _)) R (sT R (cB hb9) (oSub R R ?_)))))
       obtain ⟨x10, hx10, hv⟩ := bindS hv
       refine sT R (cB hb9) (oIx (f := LV.I) te22 tk3 ts3 R R okI hx10 R (sT R (cB hb9) (oLd R tk3 ta3 (sT R (cB hb9) (oM (v := (.int _ _)) R (sT R (cB hb9) (oGe R R (sT R (cB hb8) (oPkT (cB hb9) (v := (.bool _)) R (sN (oPkF (cB hb8) (v := (.bool _)) R ?_)))))))))))
       obtain rfl := oI hv
       exact zS
      ·replace hb9 := bF hb9
       replace hv := iteF hv hb9
       refine sF R R hb9 (sF R R hb9 (sF R R hb9 (sF R R hb9 (sF R R hb9 (sF R R hb9 (sF R R hb9 (sT R (cB hb8) (oPkF (cB hb9) (v := (.bool _)) R (sN (oPkF (cB hb8) (v := (.bool _)) R ?_))))))))))
       obtain rfl := oI hv
       exact zS
   clear hv
   refine LH.cond (t := w6) R (fun hc11 => ?_) (fun hc11 => ?_)
   ·replace h := iteT h hc11
    refine LH.seqT [(2, .bool false)] [] R (sAb R zS) (LH.ret (blockR (thenR (roundR (blockR (thenR ?_))))))
    obtain rfl := oI h
    exact retE (aT Tryz.results41) (lrT R (lr0 ⟨memN mN, R, prK R, Sub.rfl⟩))
   replace h := iteF h hc11
   refine LH.skip (blockN (thenN (LH.loneT [(0, .L p0), (8, .L p0), (9, .I (p0.length : Int)), (10, .I (i64 (n2 + 1)))] [] R (sN (oAdd R R (sMi R zS))) ?_)))
   exact roundI ⟨(i64 (n2 + 1)), hrec1 ▸ h, R, R⟩ (Wk.eq R R R R)
  replace h := iteF h hc3
  refine LH.exit (thenX (roundX (blockH (thenN (LH.seqT [(2, .bool true)] [] R (sAb R zS) (LH.ret ?_))))))
  obtain rfl := oI h
  exact retE (aT Tryz.results41) (lrT R (lr0 ⟨memN mN, R, prK R, Sub.rfl⟩))

end Go.Proofs.YtdjkbicmkbnjdaaGreat
