import Derived.Test.YtbicmjeldappjaaZLb
import Derived.Test.YtbicmjeldappjaaZRow
import Derived.Test.YtbicmjeldappjaaZFacts
import Derived.Test.YtbicmjeldappjaaZEqs
import Derived.Test.YtbicmjeldappjaaZSort
import Derived.Test.YtbicmjeldappjaaZSh
set_option linter.unusedVariables false
set_option linter.unusedSimpArgs false
set_option maxRecDepth 100000
set_option maxHeartbeats 1000000
namespace Go.Proofs.Ytbicmjeldappjaa
open Go.L Go.Sh
theorem q169q {p0 : List Int} {r : Bool} (h : q135q p0 = some r) : LCall Try.prog 7 [.L p0] (Mem.of []) (.bool r) (Mem.of []) := by
  unfold q135q at h
  refine bodyT Try.func7 R (nT Try.ntmps7 R) (LH.wk (Wk.eq (el := [(0, .L p0)]) (ml := []) R R R R) (LH.seqT [(0, .L p0)] [] R (sAb R zS) (LH.seqT [(2, .bool (decide ((p0.length : Int) ≤ 600)))] [] R (sMl R (sN (oLnL (f := LV.I) te22 R (sN (oLe R R (sAb R zS)))))) (LH.ret ?_))))
  obtain rfl := oI h
  exact retE (aT Try.results7) (lrT R (lr0 ⟨memN mN, R, prK R, Sub.rfl⟩))

theorem q12q {p0 : Int} {p1 : Int} {r : Gq49} (h : q11q p0 p1 = some r) : LCall Try.prog 32 [.I p0, .I p1] (Mem.of []) (Gq49.lv r) (Mem.of []) := by
  unfold q11q at h
  refine bodyT Try.func32 R (nT Try.ntmps32 R) (LH.wk (Wk.eq (el := [(0, .I p0), (1, .I p1)]) (ml := []) R R R R) (LH.seqT [(0, .I p0), (1, .I p1), (4, .ptr 104 0)] [(104, .box [.I 0, .I 0, .I 0, .I 0, .I 0, .I 0, .I 0, .I 0, .nil])] R (sN (oAl (id := 104) R tz47 R R zS)) (LH.seqT [(4, .sptr [.I 5, .I 7, .I p0, .I 0, .I 1, .I 0, .I p1, .I 0, .nil])] [] R (sMi R (sN (oBd (vs := [(0, .I 5), (1, .I 7), (2, .I p0)]) tu45 tz45 R (lf tf45_0 ts3 tk3 R R R (lf tf45_1 ts3 tk3 R R R (lf tf45_2 ts3 tk3 R R R lf0))) (sMi R (sN (oBd (vs := [(0, .agg [.I 5, .I 7, .I p0]), (1, .I 0), (2, .I 1), (4, .I p1)]) tu47 tz47 R (lf tf47_0 ts45 tk45 R R R (lf tf47_1 ts3 tk3 R R R (lf tf47_2 ts3 tk3 R R R (lf tf47_4 ts3 tk3 R R R lf0)))) (s_ (oSt R R R tk47 ts47 R R R (s0 ((Wk.trans (Wk.eq (el := [(4, .ptr 104 0)]) (ml := [(104, .box [.I 5, .I 7, .I p0, .I 0, .I 1, .I 0, .I p1, .I 0, .nil])]) R R R R) (Wk.trans (Wk.frzB 104 [.I 5, .I 7, .I p0, .I 0, .I 1, .I 0, .I p1, .I 0, .nil] R R R (prN R)) (Wk.eq R R R R))))))))))))) (LH.ret ?_))))
  obtain rfl := oI h
  exact retE (aT Try.results32) (lrSA R tk47 ta47 ts47 R R (lr0 ⟨memN mN, R, prK R, (SubL.head (sbS (Sub.agg (sbR (sbR (sbR (sbR (sbR (sbR (sbR (sbR (sbL sbN)))))))))) sbN))⟩))

theorem q166q {p0 : Gq56} {r : Bool} (h : q128q p0 = some r) : LCall Try.prog 51 [.agg [.I p0.Time, .I p0.Source, .I p0.Seq]] (Mem.of []) (.bool r) (Mem.of []) := by
  unfold q128q at h
  refine bodyT Try.func51 R (nT Try.ntmps51 R) (LH.wk (Wk.eq (el := [(0, .agg [.I p0.Time, .I p0.Source, .I p0.Seq])]) (ml := []) R R R R) (LH.seqT [(1, .sptr [.I p0.Time, .I p0.Source, .I p0.Seq])] [] R (sB (oBxR R R R R (sAb R zS))) (LH.seqT [(2, .bool ((decide (p0.Time ≥ 0)) && ((decide (p0.Time ≤ 1000000)) && ((decide (p0.Source ≥ 0)) && ((decide (p0.Source ≤ 99)) && ((decide (p0.Seq ≥ 0)) && (decide (p0.Seq ≤ 9999))))))))] [] R ?_ ?_)))
  ·refine sN (oFaS tf45_0 tk3 ts3 R R R (sN (oLd R tk3 ta3 (sN (oGe R R (sMb R ?_))))))
   by_cases hb2 : (decide (p0.Time ≥ 0)) = true
   ·refine sT R (cB hb2) (oFaS tf45_0 tk3 ts3 R R R (sT R (cB hb2) (oLd R tk3 ta3 (sT R (cB hb2) (oLe R R (sN (oPkT (cB hb2) (v := (.bool _)) R (sMb R ?_))))))))
    by_cases hb3 : (decide (p0.Time ≤ 1000000)) = true
    ·refine sT R (cB hb3) (oFaS tf45_1 tk3 ts3 R R R (sT R (cB hb3) (oLd R tk3 ta3 (sT R (cB hb3) (oGe R R (sN (oPkT (cB hb3) (v := (.bool _)) R (sMb R ?_))))))))
     by_cases hb4 : (decide (p0.Source ≥ 0)) = true
     ·refine sT R (cB hb4) (oFaS tf45_1 tk3 ts3 R R R (sT R (cB hb4) (oLd R tk3 ta3 (sT R (cB hb4) (oLe R R (sN (oPkT (cB hb4) (v := (.bool _)) R (sMb R ?_))))))))
      by_cases hb5 : (decide (p0.Source ≤ 99)) = true
      ·refine sT R (cB hb5) (oFaS tf45_2 tk3 ts3 R R R (sT R (cB hb5) (oLd R tk3 ta3 (sT R (cB hb5) (oGe R R (sN (oPkT (cB hb5) (v := (.bool _)) R (sMb R ?_))))))))
       by_cases hb6 : (decide (p0.Seq ≥ 0)) = true
       ·exact sT R (cB hb6) (oFaS tf45_2 tk3 ts3 R R R (sT R (cB hb6) (oLd R tk3 ta3 (sT R (cB hb6) (oLe R R (sN (oPkT (cB hb6) (v := (.bool _)) R (sAb R (s0 (Wk.to (eC (cB (Eq.trans (Eq.trans (Eq.trans (Eq.trans (andT hb6) (andT hb5)) (andT hb4)) (andT hb3)) (andT hb2))) eN) mN R (prK R)))))))))))
       ·replace hb6 := bF hb6
        exact sF R R hb6 (sF R R hb6 (sF R R hb6 (sN (oPkF (cB hb6) (v := (.bool _)) R (sAb R (s0 (Wk.to (eC (cB (Eq.trans (Eq.trans (Eq.trans (Eq.trans (andF hb6) (andT hb5)) (andT hb4)) (andT hb3)) (andT hb2))) eN) mN R (prK R))))))))
      ·replace hb5 := bF hb5
       exact sF R R hb5 (sF R R hb5 (sF R R hb5 (sN (oPkF (cB hb5) (v := (.bool _)) R (sMb R (sF R R R (sF R R R (sF R R R (sN (oPkF R (v := (.bool _)) R (sAb R (s0 (Wk.to (eC (cB (Eq.trans (Eq.trans (Eq.trans (andF hb5) (andT hb4)) (andT hb3)) (andT hb2))) eN) mN R (prK R))))))))))))))
     ·replace hb4 := bF hb4
      exact sF R R hb4 (sF R R hb4 (sF R R hb4 (sN (oPkF (cB hb4) (v := (.bool _)) R (sMb R (sF R R R (sF R R R (sF R R R (sN (oPkF R (v := (.bool _)) R (sMb R (sF R R R (sF R R R (sF R R R (sN (oPkF R (v := (.bool _)) R (sAb R (s0 (Wk.to (eC (cB (Eq.trans (Eq.trans (andF hb4) (andT hb3)) (andT hb2))) eN) mN R (prK R))))))))))))))))))))
    ·replace hb3 := bF hb3
     exact sF R R hb3 (sF R R hb3 (sF R R hb3 (sN (oPkF (cB hb3) (v := (.bool _)) R (sMb R (sF R R R (sF R R R (sF R R R (sN (oPkF R (v := (.bool _)) R (sMb R (sF R R R (sF R R R (sF R R R (sN (oPkF R (v := (.bool _)) R (sMb R (sF R R R (sF R R R (sF R R R (sN (oPkF R (v := (.bool _)) R (sAb R (s0 (Wk.to (eC (cB (Eq.trans (andF hb3) (andT hb2))) eN) mN R (prK R))))))))))))))))))))))))))
   ·replace hb2 := bF hb2
    exact sF R R hb2 (sF R R hb2 (sF R R hb2 (sN (oPkF (cB hb2) (v := (.bool _)) R (sMb R (sF R R R (sF R R R (sF R R R (sN (oPkF R (v := (.bool _)) R (sMb R (sF R R R (sF R R R (sF R R R (sN (oPkF R (v := (.bool _)) R (sMb R (sF R R R (sF R R R (sF R R R (sN (oPkF R (v := (.bool _)) R (sMb R (sF R R R (sF R R R (sF R R R (sN (oPkF R (v := (.bool _)) R (sAb R (s0 (Wk.to (eC (cB (andF hb2)) eN) mN R (prK R))))))))))))))))))))))))))))))))
  refine LH.ret ?_
  obtain rfl := oI h
  exact retE (aT Try.results51) (lrT R (lr0 ⟨memN mN, R, prK R, Sub.rfl⟩))

theorem q130q {F : Nat} {p0 : List Int} {p1 : (Int → Option Bool)} {r : Int} {p1_f : Nat} {p1_c : List LV} (p1_i : IsF Try.prog p1_f) (p1_q : LV.pureL p1_c = true) (p1_k : ∀ (x0 : Int) (q : Bool), p1 x0 = some q → LCall Try.prog p1_f ([.I x0] ++ p1_c) (Mem.of []) (.bool q) (Mem.of [])) (h : q36q F p0 p1 = some r) : LCall Try.prog 88 [.L p0, .fn p1_f p1_c] (Mem.of []) (.I r) (Mem.of []) := by
  have p1_p : ∀ {l : List LV}, LV.pureL l = true → LV.pureL (l ++ p1_c) = true := pnC p1_q
  have p1_r : LV.refsL p1_c = [] := refsL_pure p1_q
  unfold q36q at h
  refine bodyT Try.func88 R (nT Try.ntmps88 R) (LH.wk (Wk.to (el := [(0, .L p0), (1, .fn p1_f p1_c)]) (ml := []) (eQ ⟨R, R, trivial⟩) mN (by simp [keptRefs, LV.refs, LV.refsL, LV.cells, lev, Env.args, Env.of, Env.put, Env.drop, p1_r]) (prK R)) (LH.seqT [(0, .L p0), (1, .fn p1_f p1_c)] [] R (sAi R (s0 (Wk.to (eQ ⟨R, R, trivial⟩) mN (by simp [keptRefs, LV.refs, LV.refsL, LV.cells, lev, Env.args, Env.of, Env.put, Env.drop, p1_r]) (prK R)))) (LH.seq (LH.seqT [(0, .L p0), (1, .fn p1_f p1_c), (7, .I (p0.length : Int)), (8, .I 0)] [] R (sMl R (sN (oLnL (f := LV.I) te22 R (sMi R (s0 (Wk.to (eQ ⟨R, R, R, R, trivial⟩) mN (by simp [keptRefs, LV.refs, LV.refsL, LV.cells, lev, Env.args, Env.of, Env.put, Env.drop, p1_r]) (prK R))))))) (LH.block (LH.loop (fun n e m => ∃ (n1 : Int), q4q p0 p1 n n1 = some r ∧ e = Env.of [(0, .L p0), (1, .fn p1_f p1_c), (7, .I (p0.length : Int)), (8, .I n1)] ∧ m = Mem.of []) F ⟨0, h, R, R⟩ ?_))))))
  clear h
  rintro n e m ⟨n1, h, rfl, rfl⟩
  rcases n with _ | n
  · cases (show Option.none = some _ from h)
  obtain ⟨rec1, hrec1⟩ : ∃ f, f = q4q p0 p1 n := ⟨_, rfl⟩
  replace h : q7q p0 p1 rec1 n1 = some r := hrec1 ▸ h
  unfold q7q at h
  refine LH.seqT [(0, .L p0), (1, .fn p1_f p1_c), (7, .I (p0.length : Int)), (8, .I n1), (9, .bool (decide (n1 < (p0.length : Int))))] [] R (sN (oLt R R (s0 (Wk.to (eQ ⟨R, R, R, R, R, trivial⟩) mN (by simp [keptRefs, LV.refs, LV.refsL, LV.cells, lev, Env.args, Env.of, Env.put, Env.drop, p1_r]) (prK R))))) (LH.seq (LH.cond (t := (decide (n1 < (p0.length : Int)))) R (fun hc2 => ?_) (fun hc2 => ?_)))
  ·replace h := iteT h hc2
   refine LH.skip (thenN (LH.wk (Wk.to (el := [(0, .L p0), (1, .fn p1_f p1_c), (7, .I (p0.length : Int)), (8, .I n1)]) (ml := []) (eQ ⟨R, R, R, R, trivial⟩) mN (by simp [keptRefs, LV.refs, LV.refsL, LV.cells, lev, Env.args, Env.of, Env.put, Env.drop, p1_r]) (prK R)) (LH.seq (LH.block (LH.seqT [(0, .L p0), (1, .fn p1_f p1_c), (5, .I n1), (7, .I (p0.length : Int)), (8, .I n1)] [] R (sMi R (sAi R (s0 (Wk.to (eQ ⟨R, R, R, R, R, trivial⟩) mN (by simp [keptRefs, LV.refs, LV.refsL, LV.cells, lev, Env.args, Env.of, Env.put, Env.drop, p1_r]) (prK R))))) ?_)))))
   obtain ⟨x3, hx3, h⟩ := bindS h
   obtain ⟨r4, hr4, h⟩ := bindS h
   refine LH.seqT [(0, .L p0), (1, .fn p1_f p1_c), (5, .I n1), (7, .I (p0.length : Int)), (8, .I n1), (16, .bool r4)] [] R ?_ ?_
   ·refine sN (oM (v := (.fn _ _)) R (sMl R (sMi R (sN (oIx (f := LV.I) te22 tk3 ts3 R R okI hx3 R (sN (oLd R tk3 ta3 (sN (oCP (args := [.I x3] ++ p1_c) (args' := [.I x3] ++ p1_c) R p1_i R SubL.rfl (p1_k _ _ hr4) (p1_p R) ?_)))))))))
    exact s0 (Wk.to (eQ ⟨R, R, R, R, R, R, trivial⟩) mN (by simp [keptRefs, LV.refs, LV.refsL, LV.cells, lev, Env.args, Env.of, Env.put, Env.drop, p1_r]) (prK R))
   refine LH.cond (t := r4) R (fun hc5 => ?_) (fun hc5 => ?_)
   ·replace h := iteT h hc5
    refine LH.seqT [(4, .I n1)] [] R (sMi R (sAi R (s0 (Wk.to (eQ ⟨R, trivial⟩) mN (by simp [keptRefs, LV.refs, LV.refsL, LV.cells, lev, Env.args, Env.of, Env.put, Env.drop, p1_r]) (prK R))))) (LH.ret (blockR (thenR (roundR (blockR (thenR ?_))))))
    obtain rfl := oI h
    exact retE (aT Try.results88) (lrT R (lr0 ⟨memN mN, R, prK R, Sub.rfl⟩))
   replace h := iteF h hc5
   refine LH.skip (blockN (thenN (LH.loneT [(0, .L p0), (1, .fn p1_f p1_c), (7, .I (p0.length : Int)), (8, .I (i64 (n1 + 1)))] [] R (sN (oAdd R R (sMi R (s0 (Wk.to (eQ ⟨R, R, R, R, trivial⟩) mN (by simp [keptRefs, LV.refs, LV.refsL, LV.cells, lev, Env.args, Env.of, Env.put, Env.drop, p1_r]) (prK R)))))) ?_)))
   exact roundI ⟨(i64 (n1 + 1)), hrec1 ▸ h, R, R⟩ (Wk.to (eQ ⟨R, R, R, R, trivial⟩) mN (by simp [keptRefs, LV.refs, LV.refsL, LV.cells, lev, Env.args, Env.of, Env.put, Env.drop, p1_r]) (prK R))
  replace h := iteF h hc2
  refine LH.exit (thenX (roundX (blockH (thenN (LH.seqT [(4, .I (-1))] [] R (sAi R (s0 (Wk.to (eQ ⟨R, trivial⟩) mN (by simp [keptRefs, LV.refs, LV.refsL, LV.cells, lev, Env.args, Env.of, Env.put, Env.drop, p1_r]) (prK R)))) (LH.ret ?_))))))
  obtain rfl := oI h
  exact retE (aT Try.results88) (lrT R (lr0 ⟨memN mN, R, prK R, Sub.rfl⟩))

theorem q124q {F : Nat} {p0 : List Int} {p1 : (Int → Option Bool)} {r : Bool} {p1_f : Nat} {p1_c : List LV} (p1_i : IsF Try.prog p1_f) (p1_q : LV.pureL p1_c = true) (p1_k : ∀ (x0 : Int) (q : Bool), p1 x0 = some q → LCall Try.prog p1_f ([.I x0] ++ p1_c) (Mem.of []) (.bool q) (Mem.of [])) (h : q9q F p0 p1 = some r) : LCall Try.prog 68 [.L p0, .fn p1_f p1_c] (Mem.of []) (.bool r) (Mem.of []) := by
  have p1_p : ∀ {l : List LV}, LV.pureL l = true → LV.pureL (l ++ p1_c) = true := pnC p1_q
  have p1_r : LV.refsL p1_c = [] := refsL_pure p1_q
  unfold q9q at h
  refine bodyT Try.func68 R (nT Try.ntmps68 R) (LH.wk (Wk.to (el := [(0, .L p0), (1, .fn p1_f p1_c)]) (ml := []) (eQ ⟨R, R, trivial⟩) mN (by simp [keptRefs, LV.refs, LV.refsL, LV.cells, lev, Env.args, Env.of, Env.put, Env.drop, p1_r]) (prK R)) (LH.seqT [(0, .L p0), (1, .fn p1_f p1_c)] [] R (sAb R (s0 (Wk.to (eQ ⟨R, R, trivial⟩) mN (by simp [keptRefs, LV.refs, LV.refsL, LV.cells, lev, Env.args, Env.of, Env.put, Env.drop, p1_r]) (prK R)))) ?_))
  obtain ⟨r1, hr1, h⟩ := bindS h
  refine LH.seqT [(4, .bool (decide (r1 ≥ 0)))] [] R (sMl R (sN (oM (v := (.fn _ _)) R (sN (oCP (args := [.L p0, .fn p1_f p1_c]) R isF88 R (sbR (sbR sbN)) (q130q p1_i p1_q p1_k hr1) (by simp [LV.pure, LV.pureL, p1_q]) (sN (oGe R R (sAb R (s0 (Wk.to (eQ ⟨R, trivial⟩) mN (by simp [keptRefs, LV.refs, LV.refsL, LV.cells, lev, Env.args, Env.of, Env.put, Env.drop, p1_r]) (prK R))))))))))) (LH.ret ?_)
  obtain rfl := oI h
  exact retE (aT Try.results68) (lrT R (lr0 ⟨memN mN, R, prK R, Sub.rfl⟩))

theorem q142q {p0 : Int} {r : Bool} (h : q80q p0 = some r) : LCall Try.prog 69 [.I p0] (Mem.of []) (.bool r) (Mem.of []) := by
  unfold q80q at h
  refine bodyT Try.func69 R (nT Try.ntmps69 R) (LH.wk (Wk.eq (el := [(0, .I p0)]) (ml := []) R R R R) (LH.seqT [(0, .I p0)] [] R (sAb R zS) (LH.seqT [(2, .bool ((decide (p0 < 0)) || (decide (p0 > 1152921504606846976))))] [] R ?_ ?_)))
  ·refine sMi R (sN (oLt R R (sMb R ?_)))
   by_cases hb2 : (decide (p0 < 0)) = true
   ·exact sF R R hb2 (sF R R hb2 (sN (oPkT (cB hb2) (v := (.bool _)) R (sAb R (s0 (Wk.to (eC (cB (orT hb2)) eN) mN R (prK R)))))))
   ·replace hb2 := bF hb2
    exact sT R (cB hb2) (oM (v := (.int _ _)) R (sT R (cB hb2) (oGt R R (sN (oPkF (cB hb2) (v := (.bool _)) R (sAb R (s0 (Wk.to (eC (cB (orF hb2)) eN) mN R (prK R)))))))))
  refine LH.ret ?_
  obtain rfl := oI h
  exact retE (aT Try.results69) (lrT R (lr0 ⟨memN mN, R, prK R, Sub.rfl⟩))

theorem q146q {F : Nat} {p0 : Gq49} {r : Bool} (h : q64q F p0 = some r) : LCall Try.prog 52 [Gq49.lv p0] (Mem.of []) (.bool r) (Mem.of []) := by
  unfold q64q at h
  refine bodyT Try.func52 R (nT Try.ntmps52 R) (LH.wk (Wk.eq (el := [(0, Gq49.lv p0)]) (ml := []) R R R R) (LH.seqT [(1, .sptr (Gq49.lv p0).cells)] [] R (sB (oBxR R R R R (sAb R zS))) (LH.seq (LH.seqT [(1, .sptr (Gq49.lv p0).cells), (37, .bool ((decide (p0.Stamp.Source < 1)) || ((decide (p0.Part < 0)) || ((decide (p0.Part ≥ 24)) || ((decide (p0.Value < (-1))) || ((decide (p0.Value > 40)) || ((p0.Marker != 0) || (decide ((p0.Pages.length : Int) > 12)))))))))] [] R ?_ ?_))))
  ·refine sN (oFaS tf47_0 tk45 ts45 R R R (sN (oFaS tf45_1 tk3 ts3 R R R (sN (oLd R tk3 ta3 (sN (oLt R R (sMb R ?_))))))))
   by_cases hb2 : (decide (p0.Stamp.Source < 1)) = true
   ·exact sF R R hb2 (sF R R hb2 (sF R R hb2 (sN (oPkT (cB hb2) (v := (.bool _)) R (sMb R (sF R R R (sF R R R (sF R R R (sN (oPkT R (v := (.bool _)) R (sMb R (sF R R R (sF R R R (sF R R R (sN (oPkT R (v := (.bool _)) R (sMb R (sF R R R (sF R R R (sF R R R (sN (oPkT R (v := (.bool _)) R (sMb R (sF R R R (sF R R R (sF R R R (sN (oPkT R (v := (.bool _)) R (sMb R (sF R R R (sF R R R (sF R R R (sF R R R (sN (oPkT R (v := (.bool _)) R (s0 (Wk.to (eC R (eC (cB (orT hb2)) eN)) mN R (prK R))))))))))))))))))))))))))))))))))))))
   ·replace hb2 := bF hb2
    refine sT R (cB hb2) (oFaS tf47_3 tk3 ts3 R R R (sT R (cB hb2) (oLd R tk3 ta3 (sT R (cB hb2) (oLt R R (sN (oPkF (cB hb2) (v := (.bool _)) R (sMb R ?_))))))))
    by_cases hb3 : (decide (p0.Part < 0)) = true
    ·exact sF R R hb3 (sF R R hb3 (sF R R hb3 (sN (oPkT (cB hb3) (v := (.bool _)) R (sMb R (sF R R R (sF R R R (sF R R R (sN (oPkT R (v := (.bool _)) R (sMb R (sF R R R (sF R R R (sF R R R (sN (oPkT R (v := (.bool _)) R (sMb R (sF R R R (sF R R R (sF R R R (sN (oPkT R (v := (.bool _)) R (sMb R (sF R R R (sF R R R (sF R R R (sF R R R (sN (oPkT R (v := (.bool _)) R (s0 (Wk.to (eC R (eC (cB (Eq.trans (orT hb3) (orF hb2))) eN)) mN R (prK R))))))))))))))))))))))))))))))))
    ·replace hb3 := bF hb3
     refine sT R (cB hb3) (oFaS tf47_3 tk3 ts3 R R R (sT R (cB hb3) (oLd R tk3 ta3 (sT R (cB hb3) (oGe R R (sN (oPkF (cB hb3) (v := (.bool _)) R (sMb R ?_))))))))
     by_cases hb4 : (decide (p0.Part ≥ 24)) = true
     ·exact sF R R hb4 (sF R R hb4 (sF R R hb4 (sN (oPkT (cB hb4) (v := (.bool _)) R (sMb R (sF R R R (sF R R R (sF R R R (sN (oPkT R (v := (.bool _)) R (sMb R (sF R R R (sF R R R (sF R R R (sN (oPkT R (v := (.bool _)) R (sMb R (sF R R R (sF R R R (sF R R R (sF R R R (sN (oPkT R (v := (.bool _)) R (s0 (Wk.to (eC R (eC (cB (Eq.trans (Eq.trans (orT hb4) (orF hb3)) (orF hb2))) eN)) mN R (prK R))))))))))))))))))))))))))
     ·replace hb4 := bF hb4
      refine sT R (cB hb4) (oFaS tf47_4 tk3 ts3 R R R (sT R (cB hb4) (oLd R tk3 ta3 (sT R (cB hb4) (oLt R R (sN (oPkF (cB hb4) (v := (.bool _)) R (sMb R ?_))))))))
      by_cases hb5 : (decide (p0.Value < (-1))) = true
      ·exact sF R R hb5 (sF R R hb5 (sF R R hb5 (sN (oPkT (cB hb5) (v := (.bool _)) R (sMb R (sF R R R (sF R R R (sF R R R (sN (oPkT R (v := (.bool _)) R (sMb R (sF R R R (sF R R R (sF R R R (sF R R R (sN (oPkT R (v := (.bool _)) R (s0 (Wk.to (eC R (eC (cB (Eq.trans (Eq.trans (Eq.trans (orT hb5) (orF hb4)) (orF hb3)) (orF hb2))) eN)) mN R (prK R))))))))))))))))))))
      ·replace hb5 := bF hb5
       refine sT R (cB hb5) (oFaS tf47_4 tk3 ts3 R R R (sT R (cB hb5) (oLd R tk3 ta3 (sT R (cB hb5) (oGt R R (sN (oPkF (cB hb5) (v := (.bool _)) R (sMb R ?_))))))))
       by_cases hb6 : (decide (p0.Value > 40)) = true
       ·exact sF R R hb6 (sF R R hb6 (sF R R hb6 (sN (oPkT (cB hb6) (v := (.bool _)) R (sMb R (sF R R R (sF R R R (sF R R R (sF R R R (sN (oPkT R (v := (.bool _)) R (s0 (Wk.to (eC R (eC (cB (Eq.trans (Eq.trans (Eq.trans (Eq.trans (orT hb6) (orF hb5)) (orF hb4)) (orF hb3)) (orF hb2))) eN)) mN R (prK R))))))))))))))
       ·replace hb6 := bF hb6
        refine sT R (cB hb6) (oFaS tf47_5 tk3 ts3 R R R (sT R (cB hb6) (oLd R tk3 ta3 (sT R (cB hb6) (oNe R R (sN (oPkF (cB hb6) (v := (.bool _)) R (sMb R ?_))))))))
        by_cases hb7 : (p0.Marker != 0) = true
        ·exact sF R R hb7 (sF R R hb7 (sF R R hb7 (sF R R hb7 (sN (oPkT (cB hb7) (v := (.bool _)) R (s0 (Wk.to (eC R (eC (cB (Eq.trans (Eq.trans (Eq.trans (Eq.trans (Eq.trans (orT hb7) (orF hb6)) (orF hb5)) (orF hb4)) (orF hb3)) (orF hb2))) eN)) mN R (prK R))))))))
        ·replace hb7 := bF hb7
         exact sT R (cB hb7) (oFaS tf47_6 tk22 ts22 R R R (sT R (cB hb7) (oLd R tk22 ta22 (sT R (cB hb7) (oLnL (f := LV.I) te22 R (sT R (cB hb7) (oGt R R (sN (oPkF (cB hb7) (v := (.bool _)) R (s0 (Wk.to (eC R (eC (cB (Eq.trans (Eq.trans (Eq.trans (Eq.trans (Eq.trans (orF hb7) (orF hb6)) (orF hb5)) (orF hb4)) (orF hb3)) (orF hb2))) eN)) mN R (prK R))))))))))))
  refine LH.cond (t := ((decide (p0.Stamp.Source < 1)) || ((decide (p0.Part < 0)) || ((decide (p0.Part ≥ 24)) || ((decide (p0.Value < (-1))) || ((decide (p0.Value > 40)) || ((p0.Marker != 0) || (decide ((p0.Pages.length : Int) > 12))))))))) R (fun hc8 => ?_) (fun hc8 => ?_)
  ·replace h := iteT h hc8
   refine LH.seqT [(2, .bool false)] [] R (sAb R zS) (LH.ret (thenR ?_))
   obtain rfl := oI h
   exact retE (aT Try.results52) (lrT R (lr0 ⟨memN mN, R, prK R, Sub.rfl⟩))
  replace h := iteF h hc8
  refine LH.skip (thenN ?_)
  obtain ⟨r9, hr9, h⟩ := bindS h
  refine LH.seqT [(2, .bool (!r9))] [] R (sN (oFaS tf47_6 tk22 ts22 R R R (sN (oLd R tk22 ta22 (sN (oCP (args := [.L p0.Pages, .fn 69 []]) R isF68 R (sbR (sbR sbN)) (q124q (p1_f := 69) (p1_c := []) isF69 R (fun _ _ h => q142q h) hr9) R (sN (oNot R (sAb R zS))))))))) (LH.ret ?_)
  obtain rfl := oI h
  exact retE (aT Try.results52) (lrT R (lr0 ⟨memN mN, R, prK R, Sub.rfl⟩))

theorem q120q {F : Nat} {p0 : Gq49} {r : Bool} (h : q60q F p0 = some r) : LCall Try.prog 27 [Gq49.lv p0] (Mem.of []) (.bool r) (Mem.of []) := by
  unfold q60q at h
  refine bodyT Try.func27 R (nT Try.ntmps27 R) (LH.wk (Wk.eq (el := [(0, Gq49.lv p0)]) (ml := []) R R R R) (LH.seqT [(1, .sptr (Gq49.lv p0).cells)] [] R (sB (oBxR R R R R (sAb R zS))) (LH.seq ?_)))
  obtain ⟨w2, hv, h⟩ := bindS h
  refine LH.seqT [(1, .sptr (Gq49.lv p0).cells), (16, .bool w2)] [] R ?_ ?_
  ·refine sN (oFaS tf47_0 tk45 ts45 R R R (sN (oLdA R tk45 ta45 ts45 R R ?_)))
   obtain ⟨r3, hr3, hv⟩ := bindS hv
   refine sN (oCP (args := [.agg [.I p0.Stamp.Time, .I p0.Stamp.Source, .I p0.Stamp.Seq]]) R isF51 R (sbR sbN) (q166q hr3) R (sN (oNot R (sMb R ?_))))
   by_cases hb4 : (!r3) = true
   ·replace hv := iteT hv hb4
    refine sF R R hb4 (sF R R hb4 (sF R R hb4 (sN (oPkT (cB hb4) (v := (.bool _)) R (sMb R (sF R R R (sF R R R (sF R R R (sN (oPkT R (v := (.bool _)) R ?_))))))))))
    obtain rfl := oI hv
    exact zS
   ·replace hb4 := bF hb4
    replace hv := iteF hv hb4
    refine sT R (cB hb4) (oFaS tf47_2 tk3 ts3 R R R (sT R (cB hb4) (oLd R tk3 ta3 (sT R (cB hb4) (oLt R R (sN (oPkF (cB hb4) (v := (.bool _)) R (sMb R ?_))))))))
    by_cases hb5 : (decide (p0.Script < 0)) = true
    ·replace hv := iteT hv hb5
     refine sF R R hb5 (sF R R hb5 (sF R R hb5 (sN (oPkT (cB hb5) (v := (.bool _)) R ?_))))
     obtain rfl := oI hv
     exact zS
    ·replace hb5 := bF hb5
     replace hv := iteF hv hb5
     refine sT R (cB hb5) (oFaS tf47_2 tk3 ts3 R R R (sT R (cB hb5) (oLd R tk3 ta3 (sT R (cB hb5) (oGt R R (sN (oPkF (cB hb5) (v := (.bool _)) R ?_)))))))
     obtain rfl := oI hv
     exact zS
  clear hv
  refine LH.cond (t := w2) R (fun hc6 => ?_) (fun hc6 => ?_)
  ·replace h := iteT h hc6
   refine LH.seqT [(2, .bool false)] [] R (sAb R zS) (LH.ret (thenR ?_))
   obtain rfl := oI h
   exact retE (aT Try.results27) (lrT R (lr0 ⟨memN mN, R, prK R, Sub.rfl⟩))
  replace h := iteF h hc6
  refine LH.skip (thenN (LH.wk (Wk.eq (el := [(1, .sptr (Gq49.lv p0).cells)]) (ml := []) R R R R) (LH.seq (LH.seqT [(1, .sptr (Gq49.lv p0).cells), (18, .I p0.Kind)] [] R (sN (oFaS tf47_1 tk3 ts3 R R R (sN (oLd R tk3 ta3 zS)))) (LH.block (LH.seqT [(1, .sptr (Gq49.lv p0).cells), (18, .I p0.Kind), (19, .bool (p0.Kind == 0))] [] R (sN (oEq R R (sAb R zS))) (LH.cond (t := (p0.Kind == 0)) R (fun hc7 => ?_) (fun hc7 => ?_))))))))
  ·replace h := iteT h hc7
   obtain ⟨r8, hr8, h⟩ := bindS h
   refine LH.seqT [(2, .bool r8)] [] R (sN (oLdA R tk47 ta47 ts47 R R (sN (oCP (args := [Gq49.lv p0]) R isF52 R (sbR sbN) (q146q hr8) R (sAb R zS))))) (LH.ret (blockR (thenR ?_)))
   obtain rfl := oI h
   exact retE (aT Try.results27) (lrT R (lr0 ⟨memN mN, R, prK R, Sub.rfl⟩))
  replace h := iteF h hc7
  refine LH.seqT [(1, .sptr (Gq49.lv p0).cells), (18, .I p0.Kind), (23, .bool (p0.Kind == 1))] [] R (sN (oEq R R (sAb R zS))) (LH.cond (t := (p0.Kind == 1)) R (fun hc9 => ?_) (fun hc9 => ?_))
  ·replace h := iteT h hc9
   refine LH.seqT [(2, .bool ((p0.Stamp.Source == 0) && ((p0.Script == 0) && ((p0.Part == 0) && ((p0.Value == 0) && ((decide (p0.Marker ≥ 1)) && ((decide (p0.Marker ≤ 99)) && ((p0.Pages.length : Int) == 0))))))))] [] R ?_ ?_
   ·refine sN (oFaS tf47_0 tk45 ts45 R R R (sN (oFaS tf45_1 tk3 ts3 R R R (sN (oLd R tk3 ta3 (sN (oEq R R (sMb R ?_))))))))
    by_cases hb11 : (p0.Stamp.Source == 0) = true
    ·refine sT R (cB hb11) (oFaS tf47_2 tk3 ts3 R R R (sT R (cB hb11) (oLd R tk3 ta3 (sT R (cB hb11) (oEq R R (sN (oPkT (cB hb11) (v := (.bool _)) R (sMb R ?_))))))))
     by_cases hb12 : (p0.Script == 0) = true
     ·refine sT R (cB hb12) (oFaS tf47_3 tk3 ts3 R R R (sT R (cB hb12) (oLd R tk3 ta3 (sT R (cB hb12) (oEq R R (sN (oPkT (cB hb12) (v := (.bool _)) R (sMb R ?_))))))))
      by_cases hb13 : (p0.Part == 0) = true
      ·refine sT R (cB hb13) (oFaS tf47_4 tk3 ts3 R R R (sT R (cB hb13) (oLd R tk3 ta3 (sT R (cB hb13) (oEq R R (sN (oPkT (cB hb13) (v := (.bool _)) R (sMb R ?_))))))))
       by_cases hb14 : (p0.Value == 0) = true
       ·refine sT R (cB hb14) (oFaS tf47_5 tk3 ts3 R R R (sT R (cB hb14) (oLd R tk3 ta3 (sT R (cB hb14) (oGe R R (sN (oPkT (cB hb14) (v := (.bool _)) R (sMb R ?_))))))))
        by_cases hb15 : (decide (p0.Marker ≥ 1)) = true
        ·refine sT R (cB hb15) (oFaS tf47_5 tk3 ts3 R R R (sT R (cB hb15) (oLd R tk3 ta3 (sT R (cB hb15) (oLe R R (sN (oPkT (cB hb15) (v := (.bool _)) R (sMb R ?_))))))))
         by_cases hb16 : (decide (p0.Marker ≤ 99)) = true
         ·exact sT R (cB hb16) (oFaS tf47_6 tk22 ts22 R R R (sT R (cB hb16) (oLd R tk22 ta22 (sT R (cB hb16) (oLnL (f := LV.I) te22 R (sT R (cB hb16) (oEq R R (sN (oPkT (cB hb16) (v := (.bool _)) R (sAb R (s0 (Wk.to (eC (cB (Eq.trans (Eq.trans (Eq.trans (Eq.trans (Eq.trans (andT hb16) (andT hb15)) (andT hb14)) (andT hb13)) (andT hb12)) (andT hb11))) eN) mN R (prK R)))))))))))))
         ·replace hb16 := bF hb16
          exact sF R R hb16 (sF R R hb16 (sF R R hb16 (sF R R hb16 (sN (oPkF (cB hb16) (v := (.bool _)) R (sAb R (s0 (Wk.to (eC (cB (Eq.trans (Eq.trans (Eq.trans (Eq.trans (Eq.trans (andF hb16) (andT hb15)) (andT hb14)) (andT hb13)) (andT hb12)) (andT hb11))) eN) mN R (prK R)))))))))
        ·replace hb15 := bF hb15
         exact sF R R hb15 (sF R R hb15 (sF R R hb15 (sN (oPkF (cB hb15) (v := (.bool _)) R (sMb R (sF R R R (sF R R R (sF R R R (sF R R R (sN (oPkF R (v := (.bool _)) R (sAb R (s0 (Wk.to (eC (cB (Eq.trans (Eq.trans (Eq.trans (Eq.trans (andF hb15) (andT hb14)) (andT hb13)) (andT hb12)) (andT hb11))) eN) mN R (prK R)))))))))))))))
       ·replace hb14 := bF hb14
        exact sF R R hb14 (sF R R hb14 (sF R R hb14 (sN (oPkF (cB hb14) (v := (.bool _)) R (sMb R (sF R R R (sF R R R (sF R R R (sN (oPkF R (v := (.bool _)) R (sMb R (sF R R R (sF R R R (sF R R R (sF R R R (sN (oPkF R (v := (.bool _)) R (sAb R (s0 (Wk.to (eC (cB (Eq.trans (Eq.trans (Eq.trans (andF hb14) (andT hb13)) (andT hb12)) (andT hb11))) eN) mN R (prK R)))))))))))))))))))))
      ·replace hb13 := bF hb13
       exact sF R R hb13 (sF R R hb13 (sF R R hb13 (sN (oPkF (cB hb13) (v := (.bool _)) R (sMb R (sF R R R (sF R R R (sF R R R (sN (oPkF R (v := (.bool _)) R (sMb R (sF R R R (sF R R R (sF R R R (sN (oPkF R (v := (.bool _)) R (sMb R (sF R R R (sF R R R (sF R R R (sF R R R (sN (oPkF R (v := (.bool _)) R (sAb R (s0 (Wk.to (eC (cB (Eq.trans (Eq.trans (andF hb13) (andT hb12)) (andT hb11))) eN) mN R (prK R)))))))))))))))))))))))))))
     ·replace hb12 := bF hb12
      exact sF R R hb12 (sF R R hb12 (sF R R hb12 (sN (oPkF (cB hb12) (v := (.bool _)) R (sMb R (sF R R R (sF R R R (sF R R R (sN (oPkF R (v := (.bool _)) R (sMb R (sF R R R (sF R R R (sF R R R (sN (oPkF R (v := (.bool _)) R (sMb R (sF R R R (sF R R R (sF R R R (sN (oPkF R (v := (.bool _)) R (sMb R (sF R R R (sF R R R (sF R R R (sF R R R (sN (oPkF R (v := (.bool _)) R (sAb R (s0 (Wk.to (eC (cB (Eq.trans (andF hb12) (andT hb11))) eN) mN R (prK R)))))))))))))))))))))))))))))))))
    ·replace hb11 := bF hb11
     exact sF R R hb11 (sF R R hb11 (sF R R hb11 (sN (oPkF (cB hb11) (v := (.bool _)) R (sMb R (sF R R R (sF R R R (sF R R R (sN (oPkF R (v := (.bool _)) R (sMb R (sF R R R (sF R R R (sF R R R (sN (oPkF R (v := (.bool _)) R (sMb R (sF R R R (sF R R R (sF R R R (sN (oPkF R (v := (.bool _)) R (sMb R (sF R R R (sF R R R (sF R R R (sN (oPkF R (v := (.bool _)) R (sMb R (sF R R R (sF R R R (sF R R R (sF R R R (sN (oPkF R (v := (.bool _)) R (sAb R (s0 (Wk.to (eC (cB (andF hb11)) eN) mN R (prK R)))))))))))))))))))))))))))))))))))))))
   refine LH.ret (blockR (thenR ?_))
   obtain rfl := oI h
   exact retE (aT Try.results27) (lrT R (lr0 ⟨memN mN, R, prK R, Sub.rfl⟩))
  replace h := iteF h hc9
  refine LH.seqT [(1, .sptr (Gq49.lv p0).cells), (60, .bool (p0.Kind == 2))] [] R (sN (oEq R R (sAb R zS))) (LH.cond (t := (p0.Kind == 2)) R (fun hc17 => ?_) (fun hc17 => ?_))
  ·replace h := iteT h hc17
   refine LH.seqT [(2, .bool ((p0.Stamp.Source == 0) && ((p0.Value == 0) && ((p0.Marker == 0) && ((decide (p0.Part ≥ (-1))) && ((decide (p0.Part < 24)) && ((p0.Pages.length : Int) == 0)))))))] [] R ?_ ?_
   ·refine sN (oFaS tf47_0 tk45 ts45 R R R (sN (oFaS tf45_1 tk3 ts3 R R R (sN (oLd R tk3 ta3 (sN (oEq R R (sMb R ?_))))))))
    by_cases hb19 : (p0.Stamp.Source == 0) = true
    ·refine sT R (cB hb19) (oFaS tf47_4 tk3 ts3 R R R (sT R (cB hb19) (oLd R tk3 ta3 (sT R (cB hb19) (oEq R R (sN (oPkT (cB hb19) (v := (.bool _)) R (sMb R ?_))))))))
     by_cases hb20 : (p0.Value == 0) = true
     ·refine sT R (cB hb20) (oFaS tf47_5 tk3 ts3 R R R (sT R (cB hb20) (oLd R tk3 ta3 (sT R (cB hb20) (oEq R R (sN (oPkT (cB hb20) (v := (.bool _)) R (sMb R ?_))))))))
      by_cases hb21 : (p0.Marker == 0) = true
      ·refine sT R (cB hb21) (oFaS tf47_3 tk3 ts3 R R R (sT R (cB hb21) (oLd R tk3 ta3 (sT R (cB hb21) (oGe R R (sN (oPkT (cB hb21) (v := (.bool _)) R (sMb R ?_))))))))
       by_cases hb22 : (decide (p0.Part ≥ (-1))) = true
       ·refine sT R (cB hb22) (oFaS tf47_3 tk3 ts3 R R R (sT R (cB hb22) (oLd R tk3 ta3 (sT R (cB hb22) (oLt R R (sN (oPkT (cB hb22) (v := (.bool _)) R (sMb R ?_))))))))
        by_cases hb23 : (decide (p0.Part < 24)) = true
        ·exact sT R (cB hb23) (oFaS tf47_6 tk22 ts22 R R R (sT R (cB hb23) (oLd R tk22 ta22 (sT R (cB hb23) (oLnL (f := LV.I) te22 R (sT R (cB hb23) (oEq R R (sN (oPkT (cB hb23) (v := (.bool _)) R (sAb R (s0 (Wk.to (eC (cB (Eq.trans (Eq.trans (Eq.trans (Eq.trans (andT hb23) (andT hb22)) (andT hb21)) (andT hb20)) (andT hb19))) eN) mN R (prK R)))))))))))))
        ·replace hb23 := bF hb23
         exact sF R R hb23 (sF R R hb23 (sF R R hb23 (sF R R hb23 (sN (oPkF (cB hb23) (v := (.bool _)) R (sAb R (s0 (Wk.to (eC (cB (Eq.trans (Eq.trans (Eq.trans (Eq.trans (andF hb23) (andT hb22)) (andT hb21)) (andT hb20)) (andT hb19))) eN) mN R (prK R)))))))))
       ·replace hb22 := bF hb22
        exact sF R R hb22 (sF R R hb22 (sF R R hb22 (sN (oPkF (cB hb22) (v := (.bool _)) R (sMb R (sF R R R (sF R R R (sF R R R (sF R R R (sN (oPkF R (v := (.bool _)) R (sAb R (s0 (Wk.to (eC (cB (Eq.trans (Eq.trans (Eq.trans (andF hb22) (andT hb21)) (andT hb20)) (andT hb19))) eN) mN R (prK R)))))))))))))))
      ·replace hb21 := bF hb21
       exact sF R R hb21 (sF R R hb21 (sF R R hb21 (sN (oPkF (cB hb21) (v := (.bool _)) R (sMb R (sF R R R (sF R R R (sF R R R (sN (oPkF R (v := (.bool _)) R (sMb R (sF R R R (sF R R R (sF R R R (sF R R R (sN (oPkF R (v := (.bool _)) R (sAb R (s0 (Wk.to (eC (cB (Eq.trans (Eq.trans (andF hb21) (andT hb20)) (andT hb19))) eN) mN R (prK R)))))))))))))))))))))
     ·replace hb20 := bF hb20
      exact sF R R hb20 (sF R R hb20 (sF R R hb20 (sN (oPkF (cB hb20) (v := (.bool _)) R (sMb R (sF R R R (sF R R R (sF R R R (sN (oPkF R (v := (.bool _)) R (sMb R (sF R R R (sF R R R (sF R R R (sN (oPkF R (v := (.bool _)) R (sMb R (sF R R R (sF R R R (sF R R R (sF R R R (sN (oPkF R (v := (.bool _)) R (sAb R (s0 (Wk.to (eC (cB (Eq.trans (andF hb20) (andT hb19))) eN) mN R (prK R)))))))))))))))))))))))))))
    ·replace hb19 := bF hb19
     exact sF R R hb19 (sF R R hb19 (sF R R hb19 (sN (oPkF (cB hb19) (v := (.bool _)) R (sMb R (sF R R R (sF R R R (sF R R R (sN (oPkF R (v := (.bool _)) R (sMb R (sF R R R (sF R R R (sF R R R (sN (oPkF R (v := (.bool _)) R (sMb R (sF R R R (sF R R R (sF R R R (sN (oPkF R (v := (.bool _)) R (sMb R (sF R R R (sF R R R (sF R R R (sF R R R (sN (oPkF R (v := (.bool _)) R (sAb R (s0 (Wk.to (eC (cB (andF hb19)) eN) mN R (prK R)))))))))))))))))))))))))))))))))
   refine LH.ret (blockR (thenR ?_))
   obtain rfl := oI h
   exact retE (aT Try.results27) (lrT R (lr0 ⟨memN mN, R, prK R, Sub.rfl⟩))
  replace h := iteF h hc17
  refine LH.skip (blockN (thenN (LH.seqT [(2, .bool false)] [] R (sAb R zS) (LH.ret ?_))))
  obtain rfl := oI h
  exact retE (aT Try.results27) (lrT R (lr0 ⟨memN mN, R, prK R, Sub.rfl⟩))

theorem q149q {p0 : Gq49} {r : (Int × Int)} (h : q96q p0 = some r) : LCall Try.prog 62 [Gq49.lv p0] (Mem.of []) (.agg [.I r.1, .I r.2]) (Mem.of []) := by
  unfold q96q at h
  refine bodyT Try.func62 R (nT Try.ntmps62 R) (LH.wk (Wk.eq (el := [(0, Gq49.lv p0)]) (ml := []) R R R R) (LH.seqT [(1, .sptr (Gq49.lv p0).cells), (2, .ptr 102 0)] [(102, .box [.I 0, .I 0])] R (sB (oBxR R R R R (sN (oAl (id := 102) R tz57 R R zS)))) (LH.seqT [(2, .sptr [.I p0.Stamp.Source, .I p0.Stamp.Seq])] [] R (sN (oFaS tf47_0 tk45 ts45 R R R (sN (oFaS tf45_1 tk3 ts3 R R R (sN (oLd R tk3 ta3 (sN (oFaS tf47_0 tk45 ts45 R R R (sN (oFaS tf45_2 tk3 ts3 R R R (sN (oLd R tk3 ta3 (sX (ok_buildA (xs := [.I p0.Stamp.Source, .I p0.Stamp.Seq]) ty57 R R R) (s_ (oSt R R R tk57 ts57 R R R (s0 ((Wk.trans (Wk.eq (el := [(2, .ptr 102 0)]) (ml := [(102, .box [.I p0.Stamp.Source, .I p0.Stamp.Seq])]) R R R R) (Wk.trans (Wk.frzB 102 [.I p0.Stamp.Source, .I p0.Stamp.Seq] R R R (prN R)) (Wk.eq R R R R)))))))))))))))))))) (LH.ret ?_))))
  obtain rfl := oI h
  exact retE (aT Try.results62) (lrSA R tk57 ta57 ts57 R R (lr0 ⟨memN mN, R, prK R, Sub.rfl⟩))

theorem q139q {F : Nat} {p0 : List Int} {p1 : List Int} {r : Bool} (h : q18q F p0 p1 = some r) : LCall Try.prog 55 [.L p0, .L p1] (Mem.of []) (.bool r) (Mem.of []) := by
  unfold q18q at h
  refine bodyT Try.func55 R (nT Try.ntmps55 R) (LH.wk (Wk.eq (el := [(0, .L p0), (1, .L p1)]) (ml := []) R R R R) (LH.seqT [(0, .L p0), (1, .L p1)] [] R (sAb R zS) (LH.seq (LH.seqT [(0, .L p0), (1, .L p1), (10, .bool ((p0.length : Int) != (p1.length : Int)))] [] R (sMl R (sN (oLnL (f := LV.I) te22 R (sMl R (sN (oLnL (f := LV.I) te22 R (sN (oNe R R zS)))))))) (LH.cond (t := ((p0.length : Int) != (p1.length : Int))) R (fun hc1 => ?_) (fun hc1 => ?_))))))
  ·replace h := iteT h hc1
   refine LH.seqT [(4, .bool false)] [] R (sAb R zS) (LH.ret (thenR ?_))
   obtain rfl := oI h
   exact retE (aT Try.results55) (lrT R (lr0 ⟨memN mN, R, prK R, Sub.rfl⟩))
  replace h := iteF h hc1
  refine LH.skip (thenN (LH.wk (Wk.eq (el := [(0, .L p0), (1, .L p1)]) (ml := []) R R R R) (LH.seq (LH.seqT [(0, .L p0), (1, .L p1), (12, .I (p0.length : Int)), (13, .I 0)] [] R (sMl R (sN (oLnL (f := LV.I) te22 R (sMi R zS)))) (LH.block (LH.loop (fun n e m => ∃ (n2 : Int), q5q p0 p1 n n2 = some r ∧ e = Env.of [(0, .L p0), (1, .L p1), (12, .I (p0.length : Int)), (13, .I n2)] ∧ m = Mem.of []) F ⟨0, h, R, R⟩ ?_))))))
  clear h
  rintro n e m ⟨n2, h, rfl, rfl⟩
  rcases n with _ | n
  · cases (show Option.none = some _ from h)
  obtain ⟨rec1, hrec1⟩ : ∃ f, f = q5q p0 p1 n := ⟨_, rfl⟩
  replace h : q6q p0 p1 rec1 n2 = some r := hrec1 ▸ h
  unfold q6q at h
  refine LH.seqT [(0, .L p0), (1, .L p1), (12, .I (p0.length : Int)), (13, .I n2), (14, .bool (decide (n2 < (p0.length : Int))))] [] R (sN (oLt R R zS)) (LH.seq (LH.cond (t := (decide (n2 < (p0.length : Int)))) R (fun hc3 => ?_) (fun hc3 => ?_)))
  ·replace h := iteT h hc3
   refine LH.skip (thenN (LH.wk (Wk.eq (el := [(0, .L p0), (1, .L p1), (12, .I (p0.length : Int)), (13, .I n2)]) (ml := []) R R R R) (LH.seq (LH.block (LH.seqT [(0, .L p0), (1, .L p1), (5, .I n2), (12, .I (p0.length : Int)), (13, .I n2)] [] R (sMi R (sAi R zS)) ?_)))))
   obtain ⟨x4, hx4, h⟩ := bindS h
   obtain ⟨x5, hx5, h⟩ := bindS h
   refine LH.seqJM mixed [] [0, 0, 0, 0, 0, 0, 0, 0, 0] [(0, .L p0), (1, .L p1), (12, .I (p0.length : Int)), (13, .I n2), (24, .bool (x4 != x5))] [] R R (by kernel_rfl) (mMl R (mMi R (mN0 (oIx (f := LV.I) te22 tk3 ts3 R R okI hx4 R ⟨R, mN0 (oLd R tk3 ta3 ⟨R, mMl R (mMi R (mN0 (oIx (f := LV.I) te22 tk3 ts3 R R okI hx5 R ⟨R, mN0 (oLd R tk3 ta3 ⟨R, mN0 (oNe R R ⟨R, zM⟩)⟩)⟩)))⟩)⟩)))) (LH.cond (t := (x4 != x5)) R (fun hc6 => ?_) (fun hc6 => ?_))
   ·replace h := iteT h hc6
    refine LH.seqT [(4, .bool false)] [] R (sAb R zS) (LH.ret (blockR (thenR (roundR (blockR (thenR ?_))))))
    obtain rfl := oI h
    exact retE (aT Try.results55) (lrT R (lr0 ⟨memN mN, R, prK R, Sub.rfl⟩))
   replace h := iteF h hc6
   refine LH.skip (blockN (thenN (LH.loneT [(0, .L p0), (1, .L p1), (12, .I (p0.length : Int)), (13, .I (i64 (n2 + 1)))] [] R (sN (oAdd R R (sMi R zS))) ?_)))
   exact roundI ⟨(i64 (n2 + 1)), hrec1 ▸ h, R, R⟩ (Wk.eq R R R R)
  replace h := iteF h hc3
  refine LH.exit (thenX (roundX (blockH (thenN (LH.seqT [(4, .bool true)] [] R (sAb R zS) (LH.ret ?_))))))
  obtain rfl := oI h
  exact retE (aT Try.results55) (lrT R (lr0 ⟨memN mN, R, prK R, Sub.rfl⟩))

theorem q123q {F : Nat} {p0 : Gq49} {p1 : Gq49} {r : Bool} (h : q53q F p0 p1 = some r) : LCall Try.prog 29 [Gq49.lv p0, Gq49.lv p1] (Mem.of []) (.bool r) (Mem.of []) := by
  unfold q53q at h
  refine bodyT Try.func29 R (nT Try.ntmps29 R) (LH.wk (Wk.eq (el := [(0, Gq49.lv p0), (1, Gq49.lv p1)]) (ml := []) R R R R) (LH.seqT [(2, .sptr (Gq49.lv p0).cells), (3, .sptr (Gq49.lv p1).cells)] [] R (sB (oBxR R R R R (sB (oBxR R R R R (sAb R zS))))) ?_))
  obtain ⟨w2, hv, h⟩ := bindS h
  refine LH.seqT [(4, .bool w2)] [] R ?_ ?_
  ·refine sN (oFaS tf47_0 tk45 ts45 R R R (sN (oLdA R tk45 ta45 ts45 R R (sN (oFaS tf47_0 tk45 ts45 R R R (sN (oLdA R tk45 ta45 ts45 R R (sN (oEqA R R (ae45 p0.Stamp p1.Stamp) (sMb R ?_))))))))))
   by_cases hb3 : (decide (p0.Stamp = p1.Stamp)) = true
   ·replace hv := iteT hv hb3
    refine sT R (cB hb3) (oFaS tf47_1 tk3 ts3 R R R (sT R (cB hb3) (oLd R tk3 ta3 (sT R (cB hb3) (oFaS tf47_1 tk3 ts3 R R R (sT R (cB hb3) (oLd R tk3 ta3 (sT R (cB hb3) (oEq R R (sN (oPkT (cB hb3) (v := (.bool _)) R (sMb R ?_))))))))))))
    by_cases hb4 : (p0.Kind == p1.Kind) = true
    ·replace hv := iteT hv hb4
     refine sT R (cB hb4) (oFaS tf47_2 tk3 ts3 R R R (sT R (cB hb4) (oLd R tk3 ta3 (sT R (cB hb4) (oFaS tf47_2 tk3 ts3 R R R (sT R (cB hb4) (oLd R tk3 ta3 (sT R (cB hb4) (oEq R R (sN (oPkT (cB hb4) (v := (.bool _)) R (sMb R ?_))))))))))))
     by_cases hb5 : (p0.Script == p1.Script) = true
     ·replace hv := iteT hv hb5
      refine sT R (cB hb5) (oFaS tf47_3 tk3 ts3 R R R (sT R (cB hb5) (oLd R tk3 ta3 (sT R (cB hb5) (oFaS tf47_3 tk3 ts3 R R R (sT R (cB hb5) (oLd R tk3 ta3 (sT R (cB hb5) (oEq R R (sN (oPkT (cB hb5) (v := (.bool _)) R (sMb R ?_))))))))))))
      by_cases hb6 : (p0.Part == p1.Part) = true
      ·replace hv := iteT hv hb6
       refine sT R (cB hb6) (oFaS tf47_4 tk3 ts3 R R R (sT R (cB hb6) (oLd R tk3 ta3 (sT R (cB hb6) (oFaS tf47_4 tk3 ts3 R R R (sT R (cB hb6) (oLd R tk3 ta3 (sT R (cB hb6) (oEq R R (sN (oPkT (cB hb6) (v := (.bool _)) R (sMb R ?_))))))))))))
       by_cases hb7 : (p0.Value == p1.Value) = true
       ·replace hv := iteT hv hb7
        refine sT R (cB hb7) (oFaS tf47_5 tk3 ts3 R R R (sT R (cB hb7) (oLd R tk3 ta3 (sT R (cB hb7) (oFaS tf47_5 tk3 ts3 R R R (sT R (cB hb7) (oLd R tk3 ta3 (sT R (cB hb7) (oEq R R (sN (oPkT (cB hb7) (v := (.bool _)) R (sMb R ?_))))))))))))
        by_cases hb8 : (p0.Marker == p1.Marker) = true
        ·replace hv := iteT hv hb8
         refine sT R (cB hb8) (oFaS tf47_6 tk22 ts22 R R R (sT R (cB hb8) (oLd R tk22 ta22 (sT R (cB hb8) (oFaS tf47_6 tk22 ts22 R R R (sT R (cB hb8) (oLd R tk22 ta22 ?_)))))))
         obtain ⟨r9, hr9, hv⟩ := bindS hv
         refine sT R (cB hb8) (oCP (args := [.L p0.Pages, .L p1.Pages]) R isF55 R (sbR (sbR sbN)) (q139q hr9) R (sN (oPkT (cB hb8) (v := (.bool _)) R (sAb R ?_))))
         obtain rfl := oI hv
         exact zS
        ·replace hb8 := bF hb8
         replace hv := iteF hv hb8
         refine sF R R hb8 (sF R R hb8 (sF R R hb8 (sF R R hb8 (sF R R hb8 (sN (oPkF (cB hb8) (v := (.bool _)) R (sAb R ?_)))))))
         obtain rfl := oI hv
         exact zS
       ·replace hb7 := bF hb7
        replace hv := iteF hv hb7
        refine sF R R hb7 (sF R R hb7 (sF R R hb7 (sF R R hb7 (sF R R hb7 (sN (oPkF (cB hb7) (v := (.bool _)) R (sMb R (sF R R R (sF R R R (sF R R R (sF R R R (sF R R R (sN (oPkF R (v := (.bool _)) R (sAb R ?_)))))))))))))))
        obtain rfl := oI hv
        exact zS
      ·replace hb6 := bF hb6
       replace hv := iteF hv hb6
       refine sF R R hb6 (sF R R hb6 (sF R R hb6 (sF R R hb6 (sF R R hb6 (sN (oPkF (cB hb6) (v := (.bool _)) R (sMb R (sF R R R (sF R R R (sF R R R (sF R R R (sF R R R (sN (oPkF R (v := (.bool _)) R (sMb R (sF R R R (sF R R R (sF R R R (sF R R R (sF R R R (sN (oPkF R (v := (.bool _)) R (sAb R ?_)))))))))))))))))))))))
       obtain rfl := oI hv
       exact zS
     ·replace hb5 := bF hb5
      replace hv := iteF hv hb5
      refine sF R R hb5 (sF R R hb5 (sF R R hb5 (sF R R hb5 (sF R R hb5 (sN (oPkF (cB hb5) (v := (.bool _)) R (sMb R (sF R R R (sF R R R (sF R R R (sF R R R (sF R R R (sN (oPkF R (v := (.bool _)) R (sMb R (sF R R R (sF R R R (sF R R R (sF R R R (sF R R R (sN (oPkF R (v := (.bool _)) R (sMb R (sF R R R (sF R R R (sF R R R (sF R R R (sF R R R (sN (oPkF R (v := (.bool _)) R (sAb R ?_)))))))))))))))))))))))))))))))
      obtain rfl := oI hv
      exact zS
    ·replace hb4 := bF hb4
     replace hv := iteF hv hb4
     refine sF R R hb4 (sF R R hb4 (sF R R hb4 (sF R R hb4 (sF R R hb4 (sN (oPkF (cB hb4) (v := (.bool _)) R (sMb R (sF R R R (sF R R R (sF R R R (sF R R R (sF R R R (sN (oPkF R (v := (.bool _)) R (sMb R (sF R R R (sF R R R (sF R R R (sF R R R (sF R R R (sN (oPkF R (v := (.bool _)) R (sMb R (sF R R R (sF R R R (sF R R R (sF R R R (sF R R R (sN (oPkF R (v := (.bool _)) R (sMb R (sF R R R (sF R R R (sF R R R (sF R R R (sF R R R (sN (oPkF R (v := (.bool _)) R (sAb R ?_)))))))))))))))))))))))))))))))))))))))
     obtain rfl := oI hv
     exact zS
   ·replace hb3 := bF hb3
    replace hv := iteF hv hb3
    refine sF R R hb3 (sF R R hb3 (sF R R hb3 (sF R R hb3 (sF R R hb3 (sN (oPkF (cB hb3) (v := (.bool _)) R (sMb R (sF R R R (sF R R R (sF R R R (sF R R R (sF R R R (sN (oPkF R (v := (.bool _)) R (sMb R (sF R R R (sF R R R (sF R R R (sF R R R (sF R R R (sN (oPkF R (v := (.bool _)) R (sMb R (sF R R R (sF R R R (sF R R R (sF R R R (sF R R R (sN (oPkF R (v := (.bool _)) R (sMb R (sF R R R (sF R R R (sF R R R (sF R R R (sF R R R (sN (oPkF R (v := (.bool _)) R (sMb R (sF R R R (sF R R R (sF R R R (sF R R R (sF R R R (sN (oPkF R (v := (.bool _)) R (sAb R ?_)))))))))))))))))))))))))))))))))))))))))))))))
    obtain rfl := oI hv
    exact zS
  clear hv
  refine LH.ret ?_
  obtain rfl := oI h
  exact retE (aT Try.results29) (lrT R (lr0 ⟨memN mN, R, prK R, Sub.rfl⟩))

theorem q133q {F : Nat} {p0 : List Gq49} {r : (List ((Int × Int) × q0q))} (h : q92q F p0 = some r) : LCall Try.prog 40 [.lst 9 (List.map Gq49.lv p0)] (Mem.of []) (.mp 11009) (Mem.of [(11009, .map 57 82 (mlv (fun (x : Int × Int) => LV.agg [.I x.1, .I x.2]) q0q.lv r))]) := by
  unfold q92q at h
  refine bodyT Try.func40 R (nT Try.ntmps40 R) (LH.wk (Wk.eq (el := [(0, .lst 9 (List.map Gq49.lv p0))]) (ml := []) R R R R) (LH.seqT [(0, .lst 9 (List.map Gq49.lv p0))] [] R (sN (oA (v := .und) R zS)) (LH.seqT [(0, .lst 9 (List.map Gq49.lv p0)), (3, .mp 11009)] [(11009, .map 57 82 (mlv (fun (x : Int × Int) => LV.agg [.I x.1, .I x.2]) q0q.lv ([] : List ((Int × Int) × q0q))))] R (sX ((ok_makeMap (kt := 57) (vt := 82) (id := 11009) R).ok) (sN (oA (v := (.mp _)) R zS))) (LH.seq (LH.seqT [(0, .lst 9 (List.map Gq49.lv p0)), (3, .mp 11009), (10, .lst 9 (List.map Gq49.lv p0)), (11, .I (p0.length : Int)), (12, .I 0)] [(11009, .map 57 82 (mlv (fun (x : Int × Int) => LV.agg [.I x.1, .I x.2]) q0q.lv ([] : List ((Int × Int) × q0q))))] R (sMl R (sN (oLnL (f := Gq49.lv) te27 R (sMi R zS)))) (LH.block (LH.loop (fun n e m => ∃ (n1 : Int) (m2 : List ((Int × Int) × q0q)), q22q F p0 n n1 m2 = some r ∧ e = Env.of [(0, .lst 9 (List.map Gq49.lv p0)), (3, .mp 11009), (10, .lst 9 (List.map Gq49.lv p0)), (11, .I (p0.length : Int)), (12, .I n1)] ∧ m = Mem.of [(11009, .map 57 82 (mlv (fun (x : Int × Int) => LV.agg [.I x.1, .I x.2]) q0q.lv m2))]) F ⟨0, ([] : List ((Int × Int) × q0q)), h, R, R⟩ ?_)))))))
  clear h
  rintro n e m ⟨n1, m2, h, rfl, rfl⟩
  rcases n with _ | n
  · cases (show Option.none = some _ from h)
  obtain ⟨rec1, hrec1⟩ : ∃ f, f = q22q F p0 n := ⟨_, rfl⟩
  replace h : q39q F p0 rec1 n1 m2 = some r := hrec1 ▸ h
  unfold q39q at h
  refine LH.seqT [(0, .lst 9 (List.map Gq49.lv p0)), (3, .mp 11009), (10, .lst 9 (List.map Gq49.lv p0)), (11, .I (p0.length : Int)), (12, .I n1), (13, .bool (decide (n1 < (p0.length : Int))))] [(11009, .map 57 82 (mlv (fun (x : Int × Int) => LV.agg [.I x.1, .I x.2]) q0q.lv m2))] R (sN (oLt R R zS)) (LH.seq (LH.cond (t := (decide (n1 < (p0.length : Int)))) R (fun hc3 => ?_) (fun hc3 => ?_)))
  ·replace h := iteT h hc3
   refine LH.skip (thenN (LH.wk (Wk.eq (el := [(0, .lst 9 (List.map Gq49.lv p0)), (3, .mp 11009), (10, .lst 9 (List.map Gq49.lv p0)), (11, .I (p0.length : Int)), (12, .I n1)]) (ml := [(11009, .map 57 82 (mlv (fun (x : Int × Int) => LV.agg [.I x.1, .I x.2]) q0q.lv m2))]) R R R R) (LH.seq (LH.block ?_))))
   obtain ⟨x4, hx4, h⟩ := bindS h
   refine LH.seqT [(0, .lst 9 (List.map Gq49.lv p0)), (3, .mp 11009), (4, .I n1), (5, .sptr (Gq49.lv x4).cells), (10, .lst 9 (List.map Gq49.lv p0)), (11, .I (p0.length : Int)), (12, .I n1)] [(11009, .map 57 82 (mlv (fun (x : Int × Int) => LV.agg [.I x.1, .I x.2]) q0q.lv m2))] R (sMi R (sN (oIx (f := Gq49.lv) te27 tk47 ts47 R R Gq49.ok hx4 R (sN (oLdA R tk47 ta47 ts47 R R (sN (oAl (id := 105) R tz47 R R (sAi R (s_ (oSt R R R tk47 ts47 R R R (s0 ((Wk.trans (Wk.eq (el := [(0, .lst 9 (List.map Gq49.lv p0)), (3, .mp 11009), (4, .I n1), (5, .ptr 105 0), (10, .lst 9 (List.map Gq49.lv p0)), (11, .I (p0.length : Int)), (12, .I n1)]) (ml := [(105, .box (Gq49.lv x4).cells), (11009, .map 57 82 (mlv (fun (x : Int × Int) => LV.agg [.I x.1, .I x.2]) q0q.lv m2))]) R R R R) (Wk.trans (Wk.frzB 105 (Gq49.lv x4).cells R R R (prN R)) (Wk.eq R R R R))))))))))))))) (LH.seq ?_)
   obtain ⟨r5, hr5, h⟩ := bindS h
   refine LH.seqT [(0, .lst 9 (List.map Gq49.lv p0)), (3, .mp 11009), (4, .I n1), (5, .sptr (Gq49.lv x4).cells), (10, .lst 9 (List.map Gq49.lv p0)), (11, .I (p0.length : Int)), (12, .I n1), (19, .bool (!r5))] [(11009, .map 57 82 (mlv (fun (x : Int × Int) => LV.agg [.I x.1, .I x.2]) q0q.lv m2))] R (sN (oLdA R tk47 ta47 ts47 R R (sN (oCP (args := [Gq49.lv x4]) R isF27 R (sbR sbN) (q120q hr5) R (sN (oNot R zS)))))) (LH.cond (t := (!r5)) R (fun hc6 => ?_) (fun hc6 => ?_))
   ·replace h := iteT h hc6
    refine LH.exit (thenX (blockH (thenN (LH.loneT [(0, .lst 9 (List.map Gq49.lv p0)), (3, .mp 11009), (10, .lst 9 (List.map Gq49.lv p0)), (11, .I (p0.length : Int)), (12, .I (i64 (n1 + 1)))] [(11009, .map 57 82 (mlv (fun (x : Int × Int) => LV.agg [.I x.1, .I x.2]) q0q.lv m2))] R (sN (oAdd R R (sMi R zS))) ?_))))
    exact roundI ⟨(i64 (n1 + 1)), m2, hrec1 ▸ h, R, R⟩ (Wk.eq R R R R)
   replace h := iteF h hc6
   refine LH.skip (thenN ?_)
   obtain ⟨r7, hr7, h⟩ := bindS h
   refine LH.seqT [(0, .lst 9 (List.map Gq49.lv p0)), (3, .mp 11009), (4, .I n1), (5, .sptr (Gq49.lv x4).cells), (6, .sptr [.I r7.1, .I r7.2]), (10, .lst 9 (List.map Gq49.lv p0)), (11, .I (p0.length : Int)), (12, .I n1)] [(11009, .map 57 82 (mlv (fun (x : Int × Int) => LV.agg [.I x.1, .I x.2]) q0q.lv m2))] R (sN (oLdA R tk47 ta47 ts47 R R (sN (oCP (args := [Gq49.lv x4]) R isF62 R (sbR sbN) (q149q hr7) R (sN (oAl (id := 106) R tz57 R R (s_ (oSt R R R tk57 ts57 R R R (s0 ((Wk.trans (Wk.eq (el := [(0, .lst 9 (List.map Gq49.lv p0)), (3, .mp 11009), (4, .I n1), (5, .sptr (Gq49.lv x4).cells), (6, .ptr 106 0), (10, .lst 9 (List.map Gq49.lv p0)), (11, .I (p0.length : Int)), (12, .I n1)]) (ml := [(106, .box [.I r7.1, .I r7.2]), (11009, .map 57 82 (mlv (fun (x : Int × Int) => LV.agg [.I x.1, .I x.2]) q0q.lv m2))]) R R R R) (Wk.trans (Wk.frzB 106 [.I r7.1, .I r7.2] R R R (prN R)) (Wk.eq R R R R))))))))))))) (LH.seqT [(0, .lst 9 (List.map Gq49.lv p0)), (3, .mp 11009), (4, .I n1), (5, .sptr (Gq49.lv x4).cells), (6, .sptr [.I r7.1, .I r7.2]), (7, .ptr 107 0), (8, .bool ((mget m2 r7).isSome)), (10, .lst 9 (List.map Gq49.lv p0)), (11, .I (p0.length : Int)), (12, .I n1)] [(107, .box [.I (((mget m2 r7).getD (q0q.mk 0 false)).first), .bool (((mget m2 r7).getD (q0q.mk 0 false)).disputed)]), (11009, .map 57 82 (mlv (fun (x : Int × Int) => LV.agg [.I x.1, .I x.2]) q0q.lv m2))] R (sN (oM (v := (.mp _)) R (sN (oLdA R tk57 ta57 ts57 R R (sX ((ok_lookup2 (f := (fun (x : Int × Int) => LV.agg [.I x.1, .I x.2])) (g := q0q.lv) (xs := m2) (key := r7) (z := (q0q.mk 0 false)) tm79 kok57 kf57 R R R tz82).ok) (sMt R (sN (oEx R R (sN (oEx R R (sN (oAl (id := 107) R tz82 R R (s_ (oSt R R R tk82 ts82 R R R (sAb R zS))))))))))))))) (LH.seq (LH.seqT [(0, .lst 9 (List.map Gq49.lv p0)), (3, .mp 11009), (4, .I n1), (5, .sptr (Gq49.lv x4).cells), (6, .sptr [.I r7.1, .I r7.2]), (7, .ptr 107 0), (10, .lst 9 (List.map Gq49.lv p0)), (11, .I (p0.length : Int)), (12, .I n1), (29, .bool (!((mget m2 r7).isSome)))] [(107, .box [.I (((mget m2 r7).getD (q0q.mk 0 false)).first), .bool (((mget m2 r7).getD (q0q.mk 0 false)).disputed)]), (11009, .map 57 82 (mlv (fun (x : Int × Int) => LV.agg [.I x.1, .I x.2]) q0q.lv m2))] R (sMb R (sN (oNot R zS))) (LH.cond (t := (!((mget m2 r7).isSome))) R (fun hc8 => ?_) (fun hc8 => ?_)))))
   ·replace h := iteT h hc8
    refine LH.loneT [(0, .lst 9 (List.map Gq49.lv p0)), (3, .mp 11009), (6, .sptr [.I r7.1, .I r7.2]), (7, .sptr [.I n1, .bool (((mget m2 r7).getD (q0q.mk 0 false)).disputed)]), (10, .lst 9 (List.map Gq49.lv p0)), (11, .I (p0.length : Int)), (12, .I n1)] [(11009, .map 57 82 (mlv (fun (x : Int × Int) => LV.agg [.I x.1, .I x.2]) q0q.lv m2))] R (sMi R (sN (oFa tf82_0 tk3 ts3 R R (s_ (oSt R R R tk3 ts3 R R R (s0 ((Wk.trans (Wk.eq (el := [(0, .lst 9 (List.map Gq49.lv p0)), (3, .mp 11009), (6, .sptr [.I r7.1, .I r7.2]), (7, .ptr 107 0), (10, .lst 9 (List.map Gq49.lv p0)), (11, .I (p0.length : Int)), (12, .I n1)]) (ml := [(107, .box [.I n1, .bool (((mget m2 r7).getD (q0q.mk 0 false)).disputed)]), (11009, .map 57 82 (mlv (fun (x : Int × Int) => LV.agg [.I x.1, .I x.2]) q0q.lv m2))]) R R R R) (Wk.trans (Wk.frzB 107 [.I n1, .bool (((mget m2 r7).getD (q0q.mk 0 false)).disputed)] R R R (prN R)) (Wk.eq R R R R)))))))))) (thenN (LH.loneT [(0, .lst 9 (List.map Gq49.lv p0)), (3, .mp 11009), (10, .lst 9 (List.map Gq49.lv p0)), (11, .I (p0.length : Int)), (12, .I n1)] [(11009, .map 57 82 (mlv (fun (x : Int × Int) => LV.agg [.I x.1, .I x.2]) q0q.lv (mput m2 r7 (q0q.mk n1 (((mget m2 r7).getD (q0q.mk 0 false)).disputed)))))] R (sN (oM (v := (.mp _)) R (sN (oLdA R tk57 ta57 ts57 R R (sN (oLdA R tk82 ta82 ts82 R R (sX_ ((ok_update (f := (fun (x : Int × Int) => LV.agg [.I x.1, .I x.2])) (g := q0q.lv) (xs := m2) (key := r7) (val := (q0q.mk n1 (((mget m2 r7).getD (q0q.mk 0 false)).disputed))) (.inl R) tm79 kok57 kf57 (fun _ => R) R R R R).ok) zS))))))) (blockN (thenN (LH.loneT [(0, .lst 9 (List.map Gq49.lv p0)), (3, .mp 11009), (10, .lst 9 (List.map Gq49.lv p0)), (11, .I (p0.length : Int)), (12, .I (i64 (n1 + 1)))] [(11009, .map 57 82 (mlv (fun (x : Int × Int) => LV.agg [.I x.1, .I x.2]) q0q.lv (mput m2 r7 (q0q.mk n1 (((mget m2 r7).getD (q0q.mk 0 false)).disputed)))))] R (sN (oAdd R R (sMi R zS))) ?_)))))
    exact roundI ⟨(i64 (n1 + 1)), (mput m2 r7 (q0q.mk n1 (((mget m2 r7).getD (q0q.mk 0 false)).disputed))), hrec1 ▸ h, R, R⟩ (Wk.eq R R R R)
   replace h := iteF h hc8
   obtain ⟨x9, hx9, h⟩ := bindS h
   obtain ⟨r10, hr10, h⟩ := bindS h
   refine LH.seqJM mixed [] [0, 0, 1107, 0, 0, 0, 0, 0] [(0, .lst 9 (List.map Gq49.lv p0)), (3, .mp 11009), (6, .sptr [.I r7.1, .I r7.2]), (7, .ptr 107 0), (10, .lst 9 (List.map Gq49.lv p0)), (11, .I (p0.length : Int)), (12, .I n1), (39, .bool (!r10))] [(107, .box [.I (((mget m2 r7).getD (q0q.mk 0 false)).first), .bool (((mget m2 r7).getD (q0q.mk 0 false)).disputed)]), (11009, .map 57 82 (mlv (fun (x : Int × Int) => LV.agg [.I x.1, .I x.2]) q0q.lv m2))] R R (by kernel_rfl) (mMl R (mN0 (oFa tf82_0 tk3 ts3 R R ⟨R, mD R R R (fun _ b _ d => oLdP R b R R tk3 ta3 d) (mN0 (oIx (f := Gq49.lv) te27 tk47 ts47 R R Gq49.ok hx9 R ⟨R, mN0 (oLdA R tk47 ta47 ts47 R R ⟨R, mN0 (oLdA R tk47 ta47 ts47 R R ⟨R, mN0 (oCP (args := [Gq49.lv x9, Gq49.lv x4]) R isF29 R (sbR (sbR sbN)) (q123q hr10) R ⟨R, mN0 (oNot R ⟨R, zM⟩)⟩)⟩)⟩)⟩))⟩))) (LH.cond (t := (!r10)) R (fun hc11 => ?_) (fun hc11 => ?_))
   ·replace h := iteT h hc11
    refine LH.loneT [(0, .lst 9 (List.map Gq49.lv p0)), (3, .mp 11009), (6, .sptr [.I r7.1, .I r7.2]), (7, .sptr [.I (((mget m2 r7).getD (q0q.mk 0 false)).first), .bool true]), (10, .lst 9 (List.map Gq49.lv p0)), (11, .I (p0.length : Int)), (12, .I n1)] [(11009, .map 57 82 (mlv (fun (x : Int × Int) => LV.agg [.I x.1, .I x.2]) q0q.lv m2))] R (sN (oFa tf82_1 tk4 ts4 R R (s_ (oSt R R R tk4 ts4 R R R (s0 ((Wk.trans (Wk.eq (el := [(0, .lst 9 (List.map Gq49.lv p0)), (3, .mp 11009), (6, .sptr [.I r7.1, .I r7.2]), (7, .ptr 107 0), (10, .lst 9 (List.map Gq49.lv p0)), (11, .I (p0.length : Int)), (12, .I n1)]) (ml := [(107, .box [.I (((mget m2 r7).getD (q0q.mk 0 false)).first), .bool true]), (11009, .map 57 82 (mlv (fun (x : Int × Int) => LV.agg [.I x.1, .I x.2]) q0q.lv m2))]) R R R R) (Wk.trans (Wk.frzB 107 [.I (((mget m2 r7).getD (q0q.mk 0 false)).first), .bool true] R R R (prN R)) (Wk.eq R R R R))))))))) (thenN (LH.loneT [(0, .lst 9 (List.map Gq49.lv p0)), (3, .mp 11009), (10, .lst 9 (List.map Gq49.lv p0)), (11, .I (p0.length : Int)), (12, .I n1)] [(11009, .map 57 82 (mlv (fun (x : Int × Int) => LV.agg [.I x.1, .I x.2]) q0q.lv (mput m2 r7 (q0q.mk (((mget m2 r7).getD (q0q.mk 0 false)).first) true))))] R (sN (oM (v := (.mp _)) R (sN (oLdA R tk57 ta57 ts57 R R (sN (oLdA R tk82 ta82 ts82 R R (sX_ ((ok_update (f := (fun (x : Int × Int) => LV.agg [.I x.1, .I x.2])) (g := q0q.lv) (xs := m2) (key := r7) (val := (q0q.mk (((mget m2 r7).getD (q0q.mk 0 false)).first) true)) (.inl R) tm79 kok57 kf57 (fun _ => R) R R R R).ok) zS))))))) (blockN (thenN (LH.loneT [(0, .lst 9 (List.map Gq49.lv p0)), (3, .mp 11009), (10, .lst 9 (List.map Gq49.lv p0)), (11, .I (p0.length : Int)), (12, .I (i64 (n1 + 1)))] [(11009, .map 57 82 (mlv (fun (x : Int × Int) => LV.agg [.I x.1, .I x.2]) q0q.lv (mput m2 r7 (q0q.mk (((mget m2 r7).getD (q0q.mk 0 false)).first) true))))] R (sN (oAdd R R (sMi R zS))) ?_)))))
    exact roundI ⟨(i64 (n1 + 1)), (mput m2 r7 (q0q.mk (((mget m2 r7).getD (q0q.mk 0 false)).first) true)), hrec1 ▸ h, R, R⟩ (Wk.eq R R R R)
   replace h := iteF h hc11
   refine LH.skip (thenN (LH.wk ((Wk.trans (Wk.eq (el := [(0, .lst 9 (List.map Gq49.lv p0)), (3, .mp 11009), (6, .sptr [.I r7.1, .I r7.2]), (7, .ptr 107 0), (10, .lst 9 (List.map Gq49.lv p0)), (11, .I (p0.length : Int)), (12, .I n1)]) (ml := [(107, .box [.I (((mget m2 r7).getD (q0q.mk 0 false)).first), .bool (((mget m2 r7).getD (q0q.mk 0 false)).disputed)]), (11009, .map 57 82 (mlv (fun (x : Int × Int) => LV.agg [.I x.1, .I x.2]) q0q.lv m2))]) R R R R) (Wk.trans (Wk.frzB 107 [.I (((mget m2 r7).getD (q0q.mk 0 false)).first), .bool (((mget m2 r7).getD (q0q.mk 0 false)).disputed)] R R R (prN R)) (Wk.eq (el := [(0, .lst 9 (List.map Gq49.lv p0)), (3, .mp 11009), (6, .sptr [.I r7.1, .I r7.2]), (7, .sptr [.I (((mget m2 r7).getD (q0q.mk 0 false)).first), .bool (((mget m2 r7).getD (q0q.mk 0 false)).disputed)]), (10, .lst 9 (List.map Gq49.lv p0)), (11, .I (p0.length : Int)), (12, .I n1)]) (ml := [(11009, .map 57 82 (mlv (fun (x : Int × Int) => LV.agg [.I x.1, .I x.2]) q0q.lv m2))]) R R R R)))) (LH.loneT [(0, .lst 9 (List.map Gq49.lv p0)), (3, .mp 11009), (10, .lst 9 (List.map Gq49.lv p0)), (11, .I (p0.length : Int)), (12, .I n1)] [(11009, .map 57 82 (mlv (fun (x : Int × Int) => LV.agg [.I x.1, .I x.2]) q0q.lv (mput m2 r7 ((mget m2 r7).getD (q0q.mk 0 false)))))] R (sN (oM (v := (.mp _)) R (sN (oLdA R tk57 ta57 ts57 R R (sN (oLdA R tk82 ta82 ts82 R R (sX_ ((ok_update (f := (fun (x : Int × Int) => LV.agg [.I x.1, .I x.2])) (g := q0q.lv) (xs := m2) (key := r7) (val := ((mget m2 r7).getD (q0q.mk 0 false))) (.inl R) tm79 kok57 kf57 (fun _ => R) R R R R).ok) zS))))))) (blockN (thenN (LH.loneT [(0, .lst 9 (List.map Gq49.lv p0)), (3, .mp 11009), (10, .lst 9 (List.map Gq49.lv p0)), (11, .I (p0.length : Int)), (12, .I (i64 (n1 + 1)))] [(11009, .map 57 82 (mlv (fun (x : Int × Int) => LV.agg [.I x.1, .I x.2]) q0q.lv (mput m2 r7 ((mget m2 r7).getD (q0q.mk 0 false)))))] R (sN (oAdd R R (sMi R zS))) ?_))))))
   exact roundI ⟨(i64 (n1 + 1)), (mput m2 r7 ((mget m2 r7).getD (q0q.mk 0 false))), hrec1 ▸ h, R, R⟩ (Wk.eq R R R R)
  replace h := iteF h hc3
  refine LH.exit (thenX (roundX (blockH (thenN (LH.seqT [(2, .mp 11009)] [(11009, .map 57 82 (mlv (fun (x : Int × Int) => LV.agg [.I x.1, .I x.2]) q0q.lv m2))] R (sN (oM (v := (.mp _)) R (sN (oA (v := (.mp _)) R zS)))) (LH.ret ?_))))))
  obtain rfl := oI h
  exact retE (aT Try.results40) (lrT R (lr0 ⟨memN (mC R mN), R, prK R, Sub.rfl⟩))

theorem cmp_isNaN_int_ok {p0 : Int} {r : Bool} (h : cmp_isNaN_int p0 = some r) : LCall Try.prog 67 [.I p0] (Mem.of []) (.bool r) (Mem.of []) := by
  unfold cmp_isNaN_int at h
  refine bodyT Try.func67 R (nT Try.ntmps67 R) (LH.wk (Wk.eq (el := [(0, .I p0)]) (ml := []) R R R R) (LH.seqT [(0, .I p0)] [] R (sAb R zS) (LH.seqT [(2, .bool (p0 != p0))] [] R (sMi R (sMi R (sN (oNe R R (sAb R zS))))) (LH.ret ?_))))
  obtain rfl := oI h
  exact retE (aT Try.results67) (lrT R (lr0 ⟨memN mN, R, prK R, Sub.rfl⟩))

theorem cmp_Compare_int_ok {p0 : Int} {p1 : Int} {r : Int} (h : cmp_Compare_int p0 p1 = some r) : LCall Try.prog 48 [.I p0, .I p1] (Mem.of []) (.I r) (Mem.of []) := by
  unfold cmp_Compare_int at h
  refine bodyT Try.func48 R (nT Try.ntmps48 R) (LH.wk (Wk.eq (el := [(0, .I p0), (1, .I p1)]) (ml := []) R R R R) (LH.seqT [(0, .I p0), (1, .I p1)] [] R (sAi R zS) ?_))
  obtain ⟨r1, hr1, h⟩ := bindS h
  refine LH.seqT [(0, .I p0), (1, .I p1), (5, .bool r1)] [] R (sMi R (sN (oCP (args := [.I p0]) R isF67 R (sbR sbN) (cmp_isNaN_int_ok hr1) R (sAb R zS)))) ?_
  obtain ⟨r2, hr2, h⟩ := bindS h
  refine LH.seqT [(0, .I p0), (1, .I p1), (5, .bool r1), (6, .bool r2)] [] R (sMi R (sN (oCP (args := [.I p1]) R isF67 R (sbR sbN) (cmp_isNaN_int_ok hr2) R (sAb R zS)))) (LH.seq (LH.seqT [(0, .I p0), (1, .I p1), (6, .bool r2), (11, .bool r1)] [] R (sMb R zS) (LH.cond (t := r1) R (fun hc3 => ?_) (fun hc3 => ?_))))
  ·replace h := iteT h hc3
   refine LH.seq (LH.seqT [(12, .bool r2)] [] R (sMb R zS) (LH.cond (t := r2) R (fun hc4 => ?_) (fun hc4 => ?_)))
   ·replace h := iteT h hc4
    refine LH.seqT [(4, .I 0)] [] R (sAi R zS) (LH.ret (thenR (thenR ?_)))
    obtain rfl := oI h
    exact retE (aT Try.results48) (lrT R (lr0 ⟨memN mN, R, prK R, Sub.rfl⟩))
   replace h := iteF h hc4
   refine LH.skip (thenN (LH.seqT [(4, .I (-1))] [] R (sAi R zS) (LH.ret (thenR ?_))))
   obtain rfl := oI h
   exact retE (aT Try.results48) (lrT R (lr0 ⟨memN mN, R, prK R, Sub.rfl⟩))
  replace h := iteF h hc3
  refine LH.skip (thenN (LH.wk (Wk.eq (el := [(0, .I p0), (1, .I p1), (6, .bool r2)]) (ml := []) R R R R) (LH.seq (LH.seqT [(0, .I p0), (1, .I p1), (13, .bool r2)] [] R (sMb R zS) (LH.cond (t := r2) R (fun hc5 => ?_) (fun hc5 => ?_))))))
  ·replace h := iteT h hc5
   refine LH.seqT [(4, .I 1)] [] R (sAi R zS) (LH.ret (thenR ?_))
   obtain rfl := oI h
   exact retE (aT Try.results48) (lrT R (lr0 ⟨memN mN, R, prK R, Sub.rfl⟩))
  replace h := iteF h hc5
  refine LH.skip (thenN (LH.wk (Wk.eq (el := [(0, .I p0), (1, .I p1)]) (ml := []) R R R R) (LH.seq (LH.seqT [(0, .I p0), (1, .I p1), (16, .bool (decide (p0 < p1)))] [] R (sMi R (sMi R (sN (oLt R R zS)))) (LH.cond (t := (decide (p0 < p1))) R (fun hc6 => ?_) (fun hc6 => ?_))))))
  ·replace h := iteT h hc6
   refine LH.seqT [(4, .I (-1))] [] R (sAi R zS) (LH.ret (thenR ?_))
   obtain rfl := oI h
   exact retE (aT Try.results48) (lrT R (lr0 ⟨memN mN, R, prK R, Sub.rfl⟩))
  replace h := iteF h hc6
  refine LH.skip (thenN (LH.wk (Wk.eq (el := [(0, .I p0), (1, .I p1)]) (ml := []) R R R R) (LH.seq (LH.seqT [(19, .bool (decide (p0 > p1)))] [] R (sMi R (sMi R (sN (oGt R R zS)))) (LH.cond (t := (decide (p0 > p1))) R (fun hc7 => ?_) (fun hc7 => ?_))))))
  ·replace h := iteT h hc7
   refine LH.seqT [(4, .I 1)] [] R (sAi R zS) (LH.ret (thenR ?_))
   obtain rfl := oI h
   exact retE (aT Try.results48) (lrT R (lr0 ⟨memN mN, R, prK R, Sub.rfl⟩))
  replace h := iteF h hc7
  refine LH.skip (thenN (LH.seqT [(4, .I 0)] [] R (sAi R zS) (LH.ret ?_)))
  obtain rfl := oI h
  exact retE (aT Try.results48) (lrT R (lr0 ⟨memN mN, R, prK R, Sub.rfl⟩))

theorem cmp_Or_int_ok {F : Nat} {p0 : List Int} {r : Int} (h : cmp_Or_int F p0 = some r) : LCall Try.prog 47 [.L p0] (Mem.of []) (.I r) (Mem.of []) := by
  unfold cmp_Or_int at h
  refine bodyT Try.func47 R (nT Try.ntmps47 R) (LH.wk (Wk.eq (el := [(0, .L p0)]) (ml := []) R R R R) (LH.seqT [(0, .L p0)] [] R (sAi R zS) (LH.seqT [(0, .L p0), (3, .I 0)] [] R (sAi R zS) (LH.seq (LH.seqT [(3, .I 0), (6, .L p0), (7, .I (p0.length : Int)), (8, .I 0)] [] R (sMl R (sN (oLnL (f := LV.I) te22 R (sMi R zS)))) (LH.block (LH.loop (fun n e m => ∃ (n1 : Int), cmp_Or_int_L1 p0 n n1 = some r ∧ e = Env.of [(3, .I 0), (6, .L p0), (7, .I (p0.length : Int)), (8, .I n1)] ∧ m = Mem.of []) F ⟨0, h, R, R⟩ ?_)))))))
  clear h
  rintro n e m ⟨n1, h, rfl, rfl⟩
  rcases n with _ | n
  · cases (show Option.none = some _ from h)
  obtain ⟨rec1, hrec1⟩ : ∃ f, f = cmp_Or_int_L1 p0 n := ⟨_, rfl⟩
  replace h : cmp_Or_int_L1_B p0 rec1 n1 = some r := hrec1 ▸ h
  unfold cmp_Or_int_L1_B at h
  refine LH.seqT [(3, .I 0), (6, .L p0), (7, .I (p0.length : Int)), (8, .I n1), (9, .bool (decide (n1 < (p0.length : Int))))] [] R (sN (oLt R R zS)) (LH.seq (LH.cond (t := (decide (n1 < (p0.length : Int)))) R (fun hc2 => ?_) (fun hc2 => ?_)))
  ·replace h := iteT h hc2
   refine LH.skip (thenN (LH.wk (Wk.eq (el := [(3, .I 0), (6, .L p0), (7, .I (p0.length : Int)), (8, .I n1)]) (ml := []) R R R R) (LH.seq (LH.block ?_))))
   obtain ⟨x3, hx3, h⟩ := bindS h
   refine LH.seqT [(3, .I 0), (5, .I x3), (6, .L p0), (7, .I (p0.length : Int)), (8, .I n1)] [] R (sN (oIx (f := LV.I) te22 tk3 ts3 R R okI hx3 R (sN (oLd R tk3 ta3 (sAi R zS))))) (LH.seqT [(3, .I 0), (5, .I x3), (6, .L p0), (7, .I (p0.length : Int)), (8, .I n1), (14, .bool (x3 != 0))] [] R (sMi R (sMi R (sN (oNe R R zS)))) (LH.cond (t := (x3 != 0)) R (fun hc4 => ?_) (fun hc4 => ?_)))
   ·replace h := iteT h hc4
    refine LH.seqT [(2, .I x3)] [] R (sMi R (sAi R zS)) (LH.ret (blockR (thenR (roundR (blockR (thenR ?_))))))
    obtain rfl := oI h
    exact retE (aT Try.results47) (lrT R (lr0 ⟨memN mN, R, prK R, Sub.rfl⟩))
   replace h := iteF h hc4
   refine LH.skip (blockN (thenN (LH.loneT [(3, .I 0), (6, .L p0), (7, .I (p0.length : Int)), (8, .I (i64 (n1 + 1)))] [] R (sN (oAdd R R (sMi R zS))) ?_)))
   exact roundI ⟨(i64 (n1 + 1)), hrec1 ▸ h, R, R⟩ (Wk.eq R R R R)
  replace h := iteF h hc2
  refine LH.exit (thenX (roundX (blockH (thenN (LH.seqT [(2, .I 0)] [] R (sMi R (sAi R zS)) (LH.ret ?_))))))
  obtain rfl := oI h
  exact retE (aT Try.results47) (lrT R (lr0 ⟨memN mN, R, prK R, Sub.rfl⟩))

theorem q138q {F : Nat} {p0 : Gq56} {p1 : Gq56} {r : Int} (h : q82q F p0 p1 = some r) : LCall Try.prog 43 [.agg [.I p0.Time, .I p0.Source, .I p0.Seq], .agg [.I p1.Time, .I p1.Source, .I p1.Seq]] (Mem.of []) (.I r) (Mem.of []) := by
  unfold q82q at h
  refine bodyT Try.func43 R (nT Try.ntmps43 R) (LH.wk (Wk.eq (el := [(0, .agg [.I p0.Time, .I p0.Source, .I p0.Seq]), (1, .agg [.I p1.Time, .I p1.Source, .I p1.Seq])]) (ml := []) R R R R) (LH.seqT [(2, .sptr [.I p0.Time, .I p0.Source, .I p0.Seq]), (3, .sptr [.I p1.Time, .I p1.Source, .I p1.Seq])] [] R (sB (oBxR R R R R (sB (oBxR R R R R (sAi R zS))))) ?_))
  obtain ⟨r1, hr1, h⟩ := bindS h
  obtain ⟨r2, hr2, h⟩ := bindS h
  obtain ⟨r3, hr3, h⟩ := bindS h
  obtain ⟨r4, hr4, h⟩ := bindS h
  refine LH.seqJM mixed [] [0, 0, 0, 0, 0, 0, 0, 0, 0, 0, 0, 0, 0, 0, 0, 0, 0, 0] [(4, .I r4)] [] R R (by kernel_rfl) ?_ ?_
  ·exact mN0 (oFaS tf45_0 tk3 ts3 R R R ⟨R, mN0 (oLd R tk3 ta3 ⟨R, mN0 (oFaS tf45_0 tk3 ts3 R R R ⟨R, mN0 (oLd R tk3 ta3 ⟨R, mN0 (oCP (args := [.I p0.Time, .I p1.Time]) R isF48 R (sbR (sbR sbN)) (cmp_Compare_int_ok hr1) R ⟨R, mN0 (oFaS tf45_1 tk3 ts3 R R R ⟨R, mN0 (oLd R tk3 ta3 ⟨R, mN0 (oFaS tf45_1 tk3 ts3 R R R ⟨R, mN0 (oLd R tk3 ta3 ⟨R, mN0 (oCP (args := [.I p0.Source, .I p1.Source]) R isF48 R (sbR (sbR sbN)) (cmp_Compare_int_ok hr2) R ⟨R, mN0 (oFaS tf45_2 tk3 ts3 R R R ⟨R, mN0 (oLd R tk3 ta3 ⟨R, mN0 (oFaS tf45_2 tk3 ts3 R R R ⟨R, mN0 (oLd R tk3 ta3 ⟨R, mN0 (oCP (args := [.I p0.Seq, .I p1.Seq]) R isF48 R (sbR (sbR sbN)) (cmp_Compare_int_ok hr3) R ⟨R, mN0 (oBS (f := LV.I) (ys := [r1, r2, r3]) te22 tr3 ts3 R R R okI ⟨R, mN0 (oCP (args := [.L [r1, r2, r3]]) R isF47 R (sbR sbN) (cmp_Or_int_ok hr4) R ⟨R, mAi R zM⟩)⟩)⟩)⟩)⟩)⟩)⟩)⟩)⟩)⟩)⟩)⟩)⟩)⟩)⟩)⟩)⟩)
  refine LH.ret ?_
  obtain rfl := oI h
  exact retE (aT Try.results43) (lrT R (lr0 ⟨memN mN, R, prK R, Sub.rfl⟩))

theorem q141q {F : Nat} {p0 : Gq49} {p1 : Gq49} {r : Int} (h : q25q F p0 p1 = some r) : LCall Try.prog 42 [Gq49.lv p0, Gq49.lv p1] (Mem.of []) (.I r) (Mem.of []) := by
  unfold q25q at h
  refine bodyT Try.func42 R (nT Try.ntmps42 R) (LH.wk (Wk.eq (el := [(0, Gq49.lv p0), (1, Gq49.lv p1)]) (ml := []) R R R R) (LH.seqT [(2, .sptr (Gq49.lv p0).cells), (3, .sptr (Gq49.lv p1).cells)] [] R (sB (oBxR R R R R (sB (oBxR R R R R (sAi R zS))))) ?_))
  obtain ⟨r1, hr1, h⟩ := bindS h
  refine LH.seqT [(4, .I r1)] [] R (sN (oFaS tf47_0 tk45 ts45 R R R (sN (oLdA R tk45 ta45 ts45 R R (sN (oFaS tf47_0 tk45 ts45 R R R (sN (oLdA R tk45 ta45 ts45 R R (sN (oCP (args := [.agg [.I p0.Stamp.Time, .I p0.Stamp.Source, .I p0.Stamp.Seq], .agg [.I p1.Stamp.Time, .I p1.Stamp.Source, .I p1.Stamp.Seq]]) R isF43 R (sbR (sbR sbN)) (q138q hr1) R (sAi R zS))))))))))) (LH.ret ?_)
  obtain rfl := oI h
  exact retE (aT Try.results42) (lrT R (lr0 ⟨memN mN, R, prK R, Sub.rfl⟩))

theorem q137q {p0 : Gq49} {r : Gq49} (h : q81q p0 = some r) : LCall Try.prog 44 [Gq49.lv p0] (Mem.of []) (Gq49.lv r) (Mem.of []) := by
  unfold q81q at h
  refine bodyT Try.func44 R (nT Try.ntmps44 R) (LH.wk (Wk.eq (el := [(0, Gq49.lv p0)]) (ml := []) R R R R) (LH.seqT [(1, .ptr 101 0), (2, .ptr 102 0)] [(101, .box (Gq49.lv p0).cells), (102, .box [.I 0, .I 0, .I 0, .I 0, .I 0, .I 0, .I 0, .I 0, .nil])] R (sN (oBx (id := 101) R R R R R R (sN (oAl (id := 102) R tz47 R R zS)))) ?_))
  obtain ⟨v1, hv1, h⟩ := bindS h
  refine LH.seqT [(1, .sptr [.I p0.Stamp.Time, .I p0.Stamp.Source, .I p0.Stamp.Seq, .I p0.Kind, .I p0.Script, .I p0.Part, .I p0.Value, .I p0.Marker, .L v1]), (2, .ptr 102 0)] [(102, .box [.I 0, .I 0, .I 0, .I 0, .I 0, .I 0, .I 0, .I 0, .nil])] R (sN (oFa tf47_6 tk22 ts22 R R (sN (oLdP R R R R tk22 ta22 (sN (oCP (args := [.L p0.Pages]) R isF65 R (sbR sbN) (LCall.frz (clone_ok (g := LV.I) cloneW65 R 105 hv1) R) R (sN (oFa tf47_6 tk22 ts22 R R (s_ (oSt R R R tk22 ts22 R R R (s0 ((Wk.trans (Wk.eq (el := [(1, .ptr 101 0), (2, .ptr 102 0)]) (ml := [(101, .box [.I p0.Stamp.Time, .I p0.Stamp.Source, .I p0.Stamp.Seq, .I p0.Kind, .I p0.Script, .I p0.Part, .I p0.Value, .I p0.Marker, .L v1]), (102, .box [.I 0, .I 0, .I 0, .I 0, .I 0, .I 0, .I 0, .I 0, .nil])]) R R R R) (Wk.trans (Wk.frzB 101 [.I p0.Stamp.Time, .I p0.Stamp.Source, .I p0.Stamp.Seq, .I p0.Kind, .I p0.Script, .I p0.Part, .I p0.Value, .I p0.Marker, .L v1] R R R (prN R)) (Wk.eq R R R R))))))))))))))) (LH.seqT [(2, .sptr [.I p0.Stamp.Time, .I p0.Stamp.Source, .I p0.Stamp.Seq, .I p0.Kind, .I p0.Script, .I p0.Part, .I p0.Value, .I p0.Marker, .L v1])] [] R (sN (oLdA R tk47 ta47 ts47 R R (s_ (oSt R R R tk47 ts47 R R R (s0 ((Wk.trans (Wk.eq (el := [(2, .ptr 102 0)]) (ml := [(102, .box [.I p0.Stamp.Time, .I p0.Stamp.Source, .I p0.Stamp.Seq, .I p0.Kind, .I p0.Script, .I p0.Part, .I p0.Value, .I p0.Marker, .L v1])]) R R R R) (Wk.trans (Wk.frzB 102 [.I p0.Stamp.Time, .I p0.Stamp.Source, .I p0.Stamp.Seq, .I p0.Kind, .I p0.Script, .I p0.Part, .I p0.Value, .I p0.Marker, .L v1] R R R (prN R)) (Wk.eq R R R R))))))))) (LH.ret ?_))
  obtain rfl := oI h
  exact retE (aT Try.results44) (lrSA R tk47 ta47 ts47 R R (lr0 ⟨memN mN, R, prK R, Sub.rfl⟩))

theorem q67q {F : Nat} {p0 : List Gq49} {r : List Gq49 × Int} (h : q13q F p0 = some r) : LCall Try.prog 12 [.lst 9 (List.map Gq49.lv p0)] (Mem.of []) (.tup [.lst 9 (List.map Gq49.lv r.1), .I r.2]) (Mem.of []) := by
  unfold q13q at h
  refine bodyD Try.func12 R (nT Try.ntmps12 R) (LHD.wk (Wk.eq (el := [(0, .lst 9 (List.map Gq49.lv p0))]) (ml := []) R R R R) (LHD.seqT [(0, .lst 9 (List.map Gq49.lv p0))] [] R (sAn R (sAi R zS)) (LHD.seqT [(0, .lst 9 (List.map Gq49.lv p0)), (4, .nil)] [] R (sAn R zS) ?_)))
  obtain ⟨r1, hr1, h⟩ := bindS h
  refine LHD.rangeM (f := (fun (x : Int × Int) => LV.agg [.I x.1, .I x.2])) (g := q0q.lv) 11009 r1 (fun n left v => q17q F p0 n left v = some r) (fun rr v => [(0, .lst 9 (List.map Gq49.lv p0)), (4, .arr 125 (List.length v)), (10, .it rr)]) (fun v => [(125, .arr 47 9 (List.map Gq49.lv v))]) ([] : List Gq49) F (fun _ => R) (fun _ => R) tm79 h R R ?_ (fun _ _ => R) (fun _ _ => R) (fun _ _ => R) R ?_ ?_
  ·exact sMl R (sN (oCM (args := [.lst 9 (List.map Gq49.lv p0)]) (ml := []) (ml' := [(11009, .map 57 82 (mlv (fun (x : Int × Int) => LV.agg [.I x.1, .I x.2]) q0q.lv r1))]) R isF40 R (sbR sbN) (q133q hr1) mN (newF R newN) R (SOps.wk ((Wk.trans (Wk.eq (el := [(0, .lst 9 (List.map Gq49.lv p0)), (4, .nil), (9, .mp 11009)]) (ml := [(11009, .map 57 82 (mlv (fun (x : Int × Int) => LV.agg [.I x.1, .I x.2]) q0q.lv r1))]) R R R R) (Wk.trans (Wk.eq (el := [(0, .lst 9 (List.map Gq49.lv p0)), (4, .nil), (9, .mp 11009)]) (ml := [(11009, .map 57 82 (mlv (fun (x : Int × Int) => LV.agg [.I x.1, .I x.2]) q0q.lv r1))]) R R R R) (Wk.trans (Wk.ownL (el' := [(0, .lst 9 (List.map Gq49.lv p0)), (4, .arr 125 (List.length ([] : List Gq49))), (9, .mp 11009)]) 125 47 9 R R (wK (wO (wK wN)))) (Wk.eq (el := [(0, .lst 9 (List.map Gq49.lv p0)), (4, .arr 125 (List.length ([] : List Gq49))), (9, .mp 11009)]) (ml := [(125, .arr 47 9 (List.map Gq49.lv ([] : List Gq49))), (11009, .map 57 82 (mlv (fun (x : Int × Int) => LV.agg [.I x.1, .I x.2]) q0q.lv r1))]) R R R R))))) (s0 ⟨R, R, fun _ => R, R, fun _ => R, R, R⟩))))
  ·clear h
   rintro n left l2 h z3 left' hp rr
   rcases n with _ | n
   · cases (show Option.none = some _ from h)
   replace h := pickStep h hp
   obtain ⟨rec1, hrec1⟩ : ∃ f, f = q17q F p0 n left' := ⟨_, rfl⟩
   replace h : q48q F p0 rec1 z3 l2 = some r := hrec1 ▸ h
   unfold q48q at h
   refine LHX.entry (f := (fun (x : Int × Int) => LV.agg [.I x.1, .I x.2])) (g := q0q.lv) (z := z3) [(0, .lst 9 (List.map Gq49.lv p0)), (4, .arr 125 (List.length l2)), (6, .sptr [.I z3.2.first, .bool z3.2.disputed]), (10, .it rr)] [(125, .arr 47 9 (List.map Gq49.lv l2))] R R (sN (oEx R R (sN (oAl (id := 106) R tz82 R R (s_ (oSt R R R tk82 ts82 R R R (s0 ((Wk.trans (Wk.eq (el := [(0, .lst 9 (List.map Gq49.lv p0)), (4, .arr 125 (List.length l2)), (6, .ptr 106 0), (10, .it rr)]) (ml := [(106, .box [.I z3.2.first, .bool z3.2.disputed]), (125, .arr 47 9 (List.map Gq49.lv l2))]) R R R R) (Wk.trans (Wk.frzB 106 [.I z3.2.first, .bool z3.2.disputed] R R R (prN R)) (Wk.eq R R R R))))))))))) (LH.seqT [(0, .lst 9 (List.map Gq49.lv p0)), (4, .arr 125 (List.length l2)), (6, .sptr [.I z3.2.first, .bool z3.2.disputed]), (10, .it rr), (17, .bool (!z3.2.disputed))] [(125, .arr 47 9 (List.map Gq49.lv l2))] R (sN (oFaS tf82_1 tk4 ts4 R R R (sN (oLd R tk4 ta4 (sN (oNot R zS)))))) (LH.cond (t := (!z3.2.disputed)) R (fun hc4 => ?_) (fun hc4 => ?_)))
   ·replace h := iteT h hc4
    obtain ⟨x5, hx5, h⟩ := bindS h
    obtain ⟨v6, hv6, h⟩ := bindS h
    refine LH.loneT [(0, .lst 9 (List.map Gq49.lv p0)), (4, .arr 125 (List.length v6)), (10, .it rr)] [(125, .arr 47 9 (List.map Gq49.lv v6))] R (sMa R (sMl R (sN (oFaS tf82_0 tk3 ts3 R R R (sN (oLd R tk3 ta3 (sN (oIx (f := Gq49.lv) te27 tk47 ts47 R R Gq49.ok hx5 R (sN (oLdA R tk47 ta47 ts47 R R (sN (oBS (f := Gq49.lv) (ys := [x5]) te27 tr47 ts47 R R R Gq49.ok (sN (oAp (f := Gq49.lv) te27 tr47 ts47 R R (prN R) R hv6 (sAa R zS))))))))))))))) ?_
    exact blockN ⟨R, n, v6, Nat.lt_succ_self n, hrec1 ▸ h, Wk.eq R R R R⟩
   replace h := iteF h hc4
   refine LH.skip ?_
   exact blockN ⟨R, n, l2, Nat.lt_succ_self n, hrec1 ▸ h, Wk.eq R R R R⟩
  clear h
  rintro n l2 h rr
  rcases n with _ | n
  · cases (show Option.none = some _ from h)
  replace h : q27q F p0 l2 = some r := h
  unfold q27q at h
  refine LH.toD (LH.wk (Wk.eq (el := [(4, .arr 125 (List.length l2))]) (ml := [(125, .arr 47 9 (List.map Gq49.lv l2))]) R R R R) (LH.seq (LH.seqT [(4, .arr 125 (List.length l2)), (28, .bool (decide ((l2.length : Int) > 2000)))] [(125, .arr 47 9 (List.map Gq49.lv l2))] R (sMa R (sN (oLnA (f := Gq49.lv) te27 R R (sN (oGt R R zS))))) (LH.cond (t := (decide ((l2.length : Int) > 2000))) R (fun hc7 => ?_) (fun hc7 => ?_)))))
  ·replace h := iteT h hc7
   refine LH.seqT [(2, .nil), (3, .I 3)] [] R (sAn R (sAi R zS)) (LH.ret (thenR ?_))
   obtain rfl := oI h
   exact retE (aT Try.results12) (lrT R (lrT R (lr0 ⟨memN mN, R, prK R, (Sub.tup (sbL (sbR sbN)))⟩)))
  replace h := iteF h hc7
  refine LH.skip (thenN ?_)
  obtain ⟨l8, hl8, h⟩ := bindS h
  refine LH.seqT [(4, .arr 125 (List.length l8))] [(125, .arr 47 9 (List.map Gq49.lv l8))] R (sMa R (sN (oCM (args := [.arr 125 (List.length l2), .fn 42 []]) (ml := [(125, .arr 47 9 (List.map Gq49.lv l2))]) (ml' := [(125, .arr 47 9 (List.map Gq49.lv l8))]) R isF41 R (sbR (sbR sbN)) (sortR_ok Try.sortLMarkEvent R Try.isAgg47 Try.sizeOf47 Gq49.ok (fun _ => ⟨_, R⟩) isF42 R (fun _ _ _ h => q141q h) 125 47 hl8) (mC R mN) (newI R newN) R (s0 (Wk.to (eC (congrArg (LV.arr 125) (sortF_len hl8)) eN) ⟨R, trivial⟩ R (prK R)))))) (LH.seq (LH.seqT [(4, .arr 125 (List.length l8)), (32, .I (l8.length : Int)), (33, .I 0)] [(125, .arr 47 9 (List.map Gq49.lv l8))] R (sMa R (sN (oLnA (f := Gq49.lv) te27 R R (sMi R zS)))) (LH.block (LH.loop (fun n e m => ∃ (n9 : Int) (l10 : List Gq49), q10q l8 n n9 l10 = some r ∧ e = Env.of [(4, .arr 125 (List.length l10)), (32, .I (l8.length : Int)), (33, .I n9)] ∧ m = Mem.of [(125, .arr 47 9 (List.map Gq49.lv l10))]) F ⟨0, l8, h, R, R⟩ ?_))))
  clear h
  rintro n e m ⟨n9, l10, h, rfl, rfl⟩
  rcases n with _ | n
  · cases (show Option.none = some _ from h)
  obtain ⟨rec2, hrec2⟩ : ∃ f, f = q10q l8 n := ⟨_, rfl⟩
  replace h : q28q l8 rec2 n9 l10 = some r := hrec2 ▸ h
  unfold q28q at h
  refine LH.seqT [(4, .arr 125 (List.length l10)), (32, .I (l8.length : Int)), (33, .I n9), (34, .bool (decide (n9 < (l8.length : Int))))] [(125, .arr 47 9 (List.map Gq49.lv l10))] R (sN (oLt R R zS)) (LH.seq (LH.cond (t := (decide (n9 < (l8.length : Int)))) R (fun hc11 => ?_) (fun hc11 => ?_)))
  ·replace h := iteT h hc11
   refine LH.skip (thenN (LH.wk (Wk.eq (el := [(4, .arr 125 (List.length l10)), (32, .I (l8.length : Int)), (33, .I n9)]) (ml := [(125, .arr 47 9 (List.map Gq49.lv l10))]) R R R R) (LH.seq (LH.block (LH.seqT [(4, .arr 125 (List.length l10)), (7, .I n9), (32, .I (l8.length : Int)), (33, .I n9)] [(125, .arr 47 9 (List.map Gq49.lv l10))] R (sMi R (sAi R zS)) ?_)))))
   obtain ⟨x12, hx12, h⟩ := bindS h
   obtain ⟨r13, hr13, h⟩ := bindS h
   obtain ⟨x14, hx14, h⟩ := bindS h
   refine LH.loneT [(4, .arr 125 (List.length (l10.set n9.toNat r13))), (32, .I (l8.length : Int)), (33, .I n9)] [(125, .arr 47 9 (List.map Gq49.lv (l10.set n9.toNat r13)))] R (sMa R (sMi R (sMa R (sMi R (sN (oIxA (f := Gq49.lv) te27 tk47 ts47 R R R hx12 (sN (oLdEA (f := Gq49.lv) R R (idxOk hx12).2 R R tk47 ta47 ts47 R R (sN (oCP (args := [Gq49.lv x12]) R isF44 R (sbR sbN) (q137q hr13) R (sN (oIxA (f := Gq49.lv) te27 tk47 ts47 R R R hx14 (s_ (oStE (f := Gq49.lv) (z' := r13) R R R R tk47 ts47 R (idxOk hx14).2 R (s0 (Wk.to (eC (congrArg (LV.arr 125) (by simp)) (eC R (eC R eN))) ⟨R, trivial⟩ R (prK R))))))))))))))))) (blockN (thenN (LH.loneT [(4, .arr 125 (List.length (l10.set n9.toNat r13))), (32, .I (l8.length : Int)), (33, .I (i64 (n9 + 1)))] [(125, .arr 47 9 (List.map Gq49.lv (l10.set n9.toNat r13)))] R (sN (oAdd R R (sMi R zS))) ?_)))
   exact roundI ⟨(i64 (n9 + 1)), (l10.set n9.toNat r13), hrec2 ▸ h, R, R⟩ (Wk.eq R R R R)
  replace h := iteF h hc11
  refine LH.exit (thenX (roundX (blockH (thenN (LH.wk ((Wk.trans (Wk.eq (el := [(4, .arr 125 (List.length l10))]) (ml := [(125, .arr 47 9 (List.map Gq49.lv l10))]) R R R R) (Wk.trans (Wk.frzL (f := Gq49.lv) (el' := [(4, .lst 9 (List.map Gq49.lv l10))]) 125 47 9 l10 R R (prN R) (fZ fN)) (Wk.eq (el := [(4, .lst 9 (List.map Gq49.lv l10))]) (ml := []) R R R R)))) (LH.seqT [(2, .lst 9 (List.map Gq49.lv l10)), (3, .I 0)] [] R (sMl R (sAl R (sAi R zS))) (LH.ret ?_)))))))
  obtain rfl := oI h
  exact retE (aT Try.results12) (lrT R (lrT R (lr0 ⟨memN mN, R, prK R, (Sub.tup (sbR (sbR sbN)))⟩)))

theorem q144q {F : Nat} {p0 : Int × Int} {p1 : Int × Int} {r : Int} (h : q32q F p0 p1 = some r) : LCall Try.prog 46 [.agg [.I p0.1, .I p0.2], .agg [.I p1.1, .I p1.2]] (Mem.of []) (.I r) (Mem.of []) := by
  unfold q32q at h
  refine bodyT Try.func46 R (nT Try.ntmps46 R) (LH.wk (Wk.eq (el := [(0, .agg [.I p0.1, .I p0.2]), (1, .agg [.I p1.1, .I p1.2])]) (ml := []) R R R R) (LH.seqT [(2, .sptr [.I p0.1, .I p0.2]), (3, .sptr [.I p1.1, .I p1.2])] [] R (sB (oBxR R R R R (sB (oBxR R R R R (sAi R zS))))) ?_))
  obtain ⟨x1, hx1, h⟩ := bindS h
  obtain ⟨x2, hx2, h⟩ := bindS h
  obtain ⟨r3, hr3, h⟩ := bindS h
  obtain ⟨x4, hx4, h⟩ := bindS h
  obtain ⟨x5, hx5, h⟩ := bindS h
  obtain ⟨r6, hr6, h⟩ := bindS h
  obtain ⟨r7, hr7, h⟩ := bindS h
  refine LH.seqJM mixed [] [4, 0, 4, 0, 0, 4, 0, 4, 0, 0, 0, 0, 0] [(4, .I r7)] [] R R (by kernel_rfl) (mM (fun _ => ok_ixS (f := LV.I) (ys := [p0.1, p0.2]) ty57 R R R R hx1) (mN0 (oLd R tk3 ta3 ⟨R, mM (fun _ => ok_ixS (f := LV.I) (ys := [p1.1, p1.2]) ty57 R R R R hx2) (mN0 (oLd R tk3 ta3 ⟨R, mN0 (oCP (args := [.I x1, .I x2]) R isF48 R (sbR (sbR sbN)) (cmp_Compare_int_ok hr3) R ⟨R, mM (fun _ => ok_ixS (f := LV.I) (ys := [p0.1, p0.2]) ty57 R R R R hx4) (mN0 (oLd R tk3 ta3 ⟨R, mM (fun _ => ok_ixS (f := LV.I) (ys := [p1.1, p1.2]) ty57 R R R R hx5) (mN0 (oLd R tk3 ta3 ⟨R, mN0 (oCP (args := [.I x4, .I x5]) R isF48 R (sbR (sbR sbN)) (cmp_Compare_int_ok hr6) R ⟨R, mN0 (oBS (f := LV.I) (ys := [r3, r6]) te22 tr3 ts3 R R R okI ⟨R, mN0 (oCP (args := [.L [r3, r6]]) R isF47 R (sbR sbN) (cmp_Or_int_ok hr7) R ⟨R, mAi R zM⟩)⟩)⟩)⟩))⟩))⟩)⟩))⟩))) (LH.ret ?_)
  obtain rfl := oI h
  exact retE (aT Try.results46) (lrT R (lr0 ⟨memN mN, R, prK R, Sub.rfl⟩))

theorem q125q {F : Nat} {p0 : List Gq49} {r : (List (Int × Int))} (h : q45q F p0 = some r) : LCall Try.prog 16 [.lst 9 (List.map Gq49.lv p0)] (Mem.of []) (.lst 2 (List.map (fun (x : Int × Int) => LV.agg [.I x.1, .I x.2]) r)) (Mem.of []) := by
  unfold q45q at h
  refine bodyD Try.func16 R (nT Try.ntmps16 R) (LHD.wk (Wk.eq (el := [(0, .lst 9 (List.map Gq49.lv p0))]) (ml := []) R R R R) (LHD.seqT [(0, .lst 9 (List.map Gq49.lv p0))] [] R (sAn R zS) (LHD.seqT [(0, .lst 9 (List.map Gq49.lv p0)), (3, .nil)] [] R (sAn R zS) ?_)))
  obtain ⟨r1, hr1, h⟩ := bindS h
  refine LHD.rangeM (f := (fun (x : Int × Int) => LV.agg [.I x.1, .I x.2])) (g := q0q.lv) 11009 r1 (fun n left v => q26q F n left v = some r) (fun rr v => [(3, .arr 119 (List.length v)), (8, .it rr)]) (fun v => [(119, .arr 57 2 (List.map (fun (x : Int × Int) => LV.agg [.I x.1, .I x.2]) v))]) ([] : List (Int × Int)) F (fun _ => R) (fun _ => R) tm79 h R R ?_ (fun _ _ => R) (fun _ _ => R) (fun _ _ => R) R ?_ ?_
  ·exact sMl R (sN (oCM (args := [.lst 9 (List.map Gq49.lv p0)]) (ml := []) (ml' := [(11009, .map 57 82 (mlv (fun (x : Int × Int) => LV.agg [.I x.1, .I x.2]) q0q.lv r1))]) R isF40 R (sbR sbN) (q133q hr1) mN (newF R newN) R (SOps.wk ((Wk.trans (Wk.eq (el := [(3, .nil), (7, .mp 11009)]) (ml := [(11009, .map 57 82 (mlv (fun (x : Int × Int) => LV.agg [.I x.1, .I x.2]) q0q.lv r1))]) R R R R) (Wk.trans (Wk.eq (el := [(3, .nil), (7, .mp 11009)]) (ml := [(11009, .map 57 82 (mlv (fun (x : Int × Int) => LV.agg [.I x.1, .I x.2]) q0q.lv r1))]) R R R R) (Wk.trans (Wk.ownL (el' := [(3, .arr 119 (List.length ([] : List (Int × Int)))), (7, .mp 11009)]) 119 57 2 R R (wO (wK wN))) (Wk.eq (el := [(3, .arr 119 (List.length ([] : List (Int × Int)))), (7, .mp 11009)]) (ml := [(119, .arr 57 2 (List.map (fun (x : Int × Int) => LV.agg [.I x.1, .I x.2]) ([] : List (Int × Int)))), (11009, .map 57 82 (mlv (fun (x : Int × Int) => LV.agg [.I x.1, .I x.2]) q0q.lv r1))]) R R R R))))) (s0 ⟨R, R, fun _ => R, R, fun _ => R, R, R⟩))))
  ·clear h
   rintro n left l2 h z3 left' hp rr
   rcases n with _ | n
   · cases (show Option.none = some _ from h)
   replace h := pickStep h hp
   obtain ⟨rec1, hrec1⟩ : ∃ f, f = q26q F n left' := ⟨_, rfl⟩
   replace h : q58q F rec1 z3 l2 = some r := hrec1 ▸ h
   unfold q58q at h
   refine LHX.entry (f := (fun (x : Int × Int) => LV.agg [.I x.1, .I x.2])) (g := q0q.lv) (z := z3) [(3, .arr 119 (List.length l2)), (4, .sptr [.I z3.1.1, .I z3.1.2]), (5, .sptr [.I z3.2.first, .bool z3.2.disputed]), (8, .it rr)] [(119, .arr 57 2 (List.map (fun (x : Int × Int) => LV.agg [.I x.1, .I x.2]) l2))] R R (sN (oEx R R (sN (oEx R R (sN (oAl (id := 104) R tz57 R R (sN (oAl (id := 105) R tz82 R R (s_ (oSt R R R tk57 ts57 R R R (s_ (oSt R R R tk82 ts82 R R R (s0 ((Wk.trans (Wk.eq (el := [(3, .arr 119 (List.length l2)), (4, .ptr 104 0), (5, .ptr 105 0), (8, .it rr)]) (ml := [(104, .box [.I z3.1.1, .I z3.1.2]), (105, .box [.I z3.2.first, .bool z3.2.disputed]), (119, .arr 57 2 (List.map (fun (x : Int × Int) => LV.agg [.I x.1, .I x.2]) l2))]) R R R R) (Wk.trans (Wk.frzB 104 [.I z3.1.1, .I z3.1.2] R R R (prN R)) (Wk.trans (Wk.frzB 105 [.I z3.2.first, .bool z3.2.disputed] R R R (prN R)) (Wk.eq R R R R)))))))))))))))))) (LH.seqT [(3, .arr 119 (List.length l2)), (4, .sptr [.I z3.1.1, .I z3.1.2]), (8, .it rr), (15, .bool z3.2.disputed)] [(119, .arr 57 2 (List.map (fun (x : Int × Int) => LV.agg [.I x.1, .I x.2]) l2))] R (sN (oFaS tf82_1 tk4 ts4 R R R (sN (oLd R tk4 ta4 zS)))) (LH.cond (t := z3.2.disputed) R (fun hc4 => ?_) (fun hc4 => ?_)))
   ·replace h := iteT h hc4
    obtain ⟨v5, hv5, h⟩ := bindS h
    refine LH.loneT [(3, .arr 119 (List.length v5)), (8, .it rr)] [(119, .arr 57 2 (List.map (fun (x : Int × Int) => LV.agg [.I x.1, .I x.2]) v5))] R (sMa R (sN (oLdA R tk57 ta57 ts57 R R (sN (oBS (f := (fun (x : Int × Int) => LV.agg [.I x.1, .I x.2])) (ys := [z3.1]) te49 tr57 ts57 R R R (fun _ => ⟨R, R, R⟩) (sN (oAp (f := (fun (x : Int × Int) => LV.agg [.I x.1, .I x.2])) te49 tr57 ts57 R R (prN R) R hv5 (sAa R zS)))))))) ?_
    exact blockN ⟨R, n, v5, Nat.lt_succ_self n, hrec1 ▸ h, Wk.eq R R R R⟩
   replace h := iteF h hc4
   refine LH.skip ?_
   exact blockN ⟨R, n, l2, Nat.lt_succ_self n, hrec1 ▸ h, Wk.eq R R R R⟩
  clear h
  rintro n l2 h rr
  rcases n with _ | n
  · cases (show Option.none = some _ from h)
  replace h : q57q F l2 = some r := h
  unfold q57q at h
  refine LH.toD ?_
  obtain ⟨l6, hl6, h⟩ := bindS h
  refine LH.seqT [(3, .lst 2 (List.map (fun (x : Int × Int) => LV.agg [.I x.1, .I x.2]) l6))] [] R (sMa R (sN (oCM (args := [.arr 119 (List.length l2), .fn 46 []]) (ml := [(119, .arr 57 2 (List.map (fun (x : Int × Int) => LV.agg [.I x.1, .I x.2]) l2))]) (ml' := [(119, .arr 57 2 (List.map (fun (x : Int × Int) => LV.agg [.I x.1, .I x.2]) l6))]) R isF45 R (sbR (sbR sbN)) (sortR_ok Try.sortL2_int R Try.isAgg57 Try.sizeOf57 (fun _ => ⟨R, R, R⟩) (fun _ => ⟨_, R⟩) isF46 R (fun _ _ _ h => q144q h) 119 57 hl6) (mC R mN) (newI R newN) R (s0 ((Wk.trans (Wk.to (el := [(3, .arr 119 (List.length l6))]) (ml := [(119, .arr 57 2 (List.map (fun (x : Int × Int) => LV.agg [.I x.1, .I x.2]) l6))]) (eC (congrArg (LV.arr 119) (sortF_len hl6)) eN) ⟨R, trivial⟩ R (prK R)) (Wk.trans (Wk.frzL (f := (fun (x : Int × Int) => LV.agg [.I x.1, .I x.2])) (el' := [(3, .lst 2 (List.map (fun (x : Int × Int) => LV.agg [.I x.1, .I x.2]) l6))]) 119 57 2 l6 R R (prN R) (fZ fN)) (Wk.eq R R R R)))))))) (LH.seqT [(2, .lst 2 (List.map (fun (x : Int × Int) => LV.agg [.I x.1, .I x.2]) l6))] [] R (sMl R (sAl R zS)) (LH.ret ?_))
  obtain rfl := oI h
  exact retE (aT Try.results16) (lrT R (lr0 ⟨memN mN, R, prK R, Sub.rfl⟩))

theorem q132q {F : Nat} {p0 : Gq49} {p1 : Gq49} {r : Bool} (h : q70q F p0 p1 = some r) : LCall Try.prog 14 [Gq49.lv p0, Gq49.lv p1] (Mem.of []) (.bool r) (Mem.of []) := by
  unfold q70q at h
  refine bodyT Try.func14 R (nT Try.ntmps14 R) (LH.wk (Wk.eq (el := [(0, Gq49.lv p0), (1, Gq49.lv p1)]) (ml := []) R R R R) (LH.seqT [(2, .sptr (Gq49.lv p0).cells), (3, .sptr (Gq49.lv p1).cells)] [] R (sB (oBxR R R R R (sB (oBxR R R R R (sAb R zS))))) ?_))
  obtain ⟨r1, hr1, h⟩ := bindS h
  refine LH.seqT [(4, .bool (decide (r1 < 0)))] [] R (sN (oFaS tf47_0 tk45 ts45 R R R (sN (oLdA R tk45 ta45 ts45 R R (sN (oFaS tf47_0 tk45 ts45 R R R (sN (oLdA R tk45 ta45 ts45 R R (sN (oCP (args := [.agg [.I p0.Stamp.Time, .I p0.Stamp.Source, .I p0.Stamp.Seq], .agg [.I p1.Stamp.Time, .I p1.Stamp.Source, .I p1.Stamp.Seq]]) R isF43 R (sbR (sbR sbN)) (q138q hr1) R (sN (oLt R R (sAb R zS))))))))))))) (LH.ret ?_)
  obtain rfl := oI h
  exact retE (aT Try.results14) (lrT R (lr0 ⟨memN mN, R, prK R, Sub.rfl⟩))

theorem q147q {F : Nat} {r : Bool} (h : q95q F = some r) : LCall Try.prog 8 [] (Mem.of []) (.bool r) (Mem.of []) := by
  unfold q95q at h
  refine bodyT Try.func8 R (nT Try.ntmps8 R) (LH.wk (Wk.eq (el := []) (ml := []) R R R R) (LH.seqT [] [] R (sAb R zS) ?_))
  obtain ⟨r1, hr1, h⟩ := bindS h
  obtain ⟨r2, hr2, h⟩ := bindS h
  obtain ⟨r3, hr3, h⟩ := bindS h
  refine LH.seqT [(1, .lst 9 (List.map Gq49.lv r3.1)), (2, .I r3.2)] [] R (sN (oCP (args := [.I 3, .I 1]) R isF32 R (sbR (sbR sbN)) (q12q hr1) R (sN (oCP (args := [.I 3, .I 2]) R isF32 R (sbR (sbR sbN)) (q12q hr2) R (sN (oBS (f := Gq49.lv) (ys := [r1, r2]) te27 tr47 ts47 R R R Gq49.ok (sN (oCP (args := [.lst 9 (List.map Gq49.lv [r1, r2])]) R isF12 R (sbR sbN) (q67q hr3) R (sMt R (sN (oEx R R (sN (oEx R R (sAl R (sAi R zS))))))))))))))) ?_
  obtain ⟨r4, hr4, h⟩ := bindS h
  obtain ⟨r5, hr5, h⟩ := bindS h
  obtain ⟨r6, hr6, h⟩ := bindS h
  refine LH.seqT [(1, .lst 9 (List.map Gq49.lv r3.1)), (2, .I r3.2), (3, .lst 9 (List.map Gq49.lv r6.1)), (4, .I r6.2)] [] R (sN (oCP (args := [.I 3, .I 1]) R isF32 R (sbR (sbR sbN)) (q12q hr4) R (sN (oCP (args := [.I 3, .I 1]) R isF32 R (sbR (sbR sbN)) (q12q hr5) R (sN (oBS (f := Gq49.lv) (ys := [r4, r5]) te27 tr47 ts47 R R R Gq49.ok (sN (oCP (args := [.lst 9 (List.map Gq49.lv [r4, r5])]) R isF12 R (sbR sbN) (q67q hr6) R (sMt R (sN (oEx R R (sN (oEx R R (sAl R (sAi R zS))))))))))))))) ?_
  obtain ⟨r7, hr7, h⟩ := bindS h
  obtain ⟨r8, hr8, h⟩ := bindS h
  obtain ⟨r9, hr9, h⟩ := bindS h
  refine LH.seqT [(1, .lst 9 (List.map Gq49.lv r3.1)), (2, .I r3.2), (3, .lst 9 (List.map Gq49.lv r6.1)), (4, .I r6.2), (5, .lst 2 (List.map (fun (x : Int × Int) => LV.agg [.I x.1, .I x.2]) r9))] [] R (sN (oCP (args := [.I 3, .I 1]) R isF32 R (sbR (sbR sbN)) (q12q hr7) R (sN (oCP (args := [.I 3, .I 2]) R isF32 R (sbR (sbR sbN)) (q12q hr8) R (sN (oBS (f := Gq49.lv) (ys := [r7, r8]) te27 tr47 ts47 R R R Gq49.ok (sN (oCP (args := [.lst 9 (List.map Gq49.lv [r7, r8])]) R isF16 R (sbR sbN) (q125q hr9) R (sAl R zS))))))))) ?_
  obtain ⟨w11, hv, h⟩ := bindS h
  refine LH.seqJM mixed [] [0, 0, 0, 0, 0, 0, 0, 0, 0, 0, 0, 0, 0, 0, 0, 0, 0, 0, 0, 0, 0, 0, 0, 0, 0, 0, 0, 0, 0, 0, 0, 0, 4, 0, 0, 0, 0, 0, 0, 0, 0, 0, 0, 0, 0] [(0, .bool w11)] [] R R (by kernel_rfl) ?_ ?_
  ·refine mMi R (mN0 (oEq R R ⟨R, mMb R ?_⟩))
   by_cases hb12 : (r3.2 == 0) = true
   ·replace hv := iteT hv hb12
    refine mT R (cB hb12) (mMi R (mT R (cB hb12) (mN0 (oEq R R ⟨R, mN0 (oPkT (cB hb12) (v := (.bool _)) R ⟨R, mMb R ?_⟩)⟩))))
    by_cases hb13 : (r6.2 == 0) = true
    ·replace hv := iteT hv hb13
     refine mT R (cB hb13) (mMl R (mT R (cB hb13) (mN0 (oLnL (f := Gq49.lv) te27 R ⟨R, mT R (cB hb13) (mN0 (oEq R R ⟨R, mN0 (oPkT (cB hb13) (v := (.bool _)) R ⟨R, mMb R ?_⟩)⟩))⟩))))
     by_cases hb14 : ((r3.1.length : Int) == 0) = true
     ·replace hv := iteT hv hb14
      refine mT R (cB hb14) (mMl R (mT R (cB hb14) (mN0 (oLnL (f := Gq49.lv) te27 R ⟨R, mT R (cB hb14) (mN0 (oEq R R ⟨R, mN0 (oPkT (cB hb14) (v := (.bool _)) R ⟨R, mMb R ?_⟩)⟩))⟩))))
      by_cases hb15 : ((r6.1.length : Int) == 1) = true
      ·replace hv := iteT hv hb15
       refine mT R (cB hb15) (mMl R ?_)
       obtain ⟨x16, hx16, hv⟩ := bindS hv
       refine mT R (cB hb15) (mN0 (oIx (f := Gq49.lv) te27 tk47 ts47 R R Gq49.ok hx16 R ⟨R, mT R (cB hb15) (mN0 (oLdA R tk47 ta47 ts47 R R ⟨R, ?_⟩))⟩))
       obtain ⟨r17, hr17, hv⟩ := bindS hv
       refine mT R (cB hb15) (mN0 (oCP (args := [.I 3, .I 1]) R isF32 R (sbR (sbR sbN)) (q12q hr17) R ⟨R, ?_⟩))
       obtain ⟨r18, hr18, hv⟩ := bindS hv
       refine mT R (cB hb15) (mN0 (oCP (args := [Gq49.lv x16, Gq49.lv r17]) R isF29 R (sbR (sbR sbN)) (q123q hr18) R ⟨R, mN0 (oPkT (cB hb15) (v := (.bool _)) R ⟨R, mMb R ?_⟩)⟩))
       by_cases hb19 : r18 = true
       ·replace hv := iteT hv hb19
        refine mT R (cB hb19) (mMl R (mT R (cB hb19) (mN0 (oLnL (f := (fun (x : Int × Int) => LV.agg [.I x.1, .I x.2])) te49 R ⟨R, mT R (cB hb19) (mN0 (oEq R R ⟨R, mN0 (oPkT (cB hb19) (v := (.bool _)) R ⟨R, mMb R ?_⟩)⟩))⟩))))
        by_cases hb20 : ((r9.length : Int) == 1) = true
        ·replace hv := iteT hv hb20
         refine mT R (cB hb20) (mMl R ?_)
         obtain ⟨x21, hx21, hv⟩ := bindS hv
         refine mT R (cB hb20) (mN0 (oIx (f := (fun (x : Int × Int) => LV.agg [.I x.1, .I x.2])) te49 tk57 ts57 R R (fun _ => ⟨R, R, R⟩) hx21 R ⟨R, mT R (cB hb20) (mN0 (oLdA R tk57 ta57 ts57 R R ⟨R, mT R (cB hb20) (mM (fun _ => OpOk.toR [] (by simp [Op.operands, Call.operands]) (ok_buildA (xs := [.I 7, .I 3]) ty57 R R R)) (mT R (cB hb20) (mN0 (oEqA R R (ae57 x21 (7, 3)) ⟨R, mN0 (oPkT (cB hb20) (v := (.bool _)) R ⟨R, mMb R ?_⟩)⟩))))⟩))⟩))
         by_cases hb22 : (decide (x21 = (7, 3))) = true
         ·replace hv := iteT hv hb22
          obtain ⟨r23, hr23, hv⟩ := bindS hv
          refine mT R (cB hb22) (mN0 (oCP (args := [.I 3, .I 1]) R isF32 R (sbR (sbR sbN)) (q12q hr23) R ⟨R, ?_⟩))
          obtain ⟨r24, hr24, hv⟩ := bindS hv
          refine mT R (cB hb22) (mN0 (oCP (args := [Gq49.lv r23]) R isF27 R (sbR sbN) (q120q hr24) R ⟨R, mN0 (oPkT (cB hb22) (v := (.bool _)) R ⟨R, mMb R ?_⟩)⟩))
          by_cases hb25 : r24 = true
          ·replace hv := iteT hv hb25
           obtain ⟨r26, hr26, hv⟩ := bindS hv
           refine mT R (cB hb25) (mN0 (oCP (args := [.I 1, .I 0]) R isF32 R (sbR (sbR sbN)) (q12q hr26) R ⟨R, ?_⟩))
           obtain ⟨r27, hr27, hv⟩ := bindS hv
           refine mT R (cB hb25) (mN0 (oCP (args := [.I 2, .I 0]) R isF32 R (sbR (sbR sbN)) (q12q hr27) R ⟨R, ?_⟩))
           obtain ⟨r28, hr28, hv⟩ := bindS hv
           refine mT R (cB hb25) (mN0 (oCP (args := [Gq49.lv r26, Gq49.lv r27]) R isF14 R (sbR (sbR sbN)) (q132q hr28) R ⟨R, mN0 (oPkT (cB hb25) (v := (.bool _)) R ⟨R, mAb R ?_⟩)⟩))
           obtain rfl := oI hv
           exact zM
          ·replace hb25 := bF hb25
           replace hv := iteF hv hb25
           refine mF R R hb25 (mF R R hb25 (mF R R hb25 (mN0 (oPkF (cB hb25) (v := (.bool _)) R ⟨R, mAb R ?_⟩))))
           obtain rfl := oI hv
           exact zM
         ·replace hb22 := bF hb22
          replace hv := iteF hv hb22
          refine mF R R hb22 (mF R R hb22 (mN0 (oPkF (cB hb22) (v := (.bool _)) R ⟨R, mMb R (mF R R R (mF R R R (mF R R R (mN0 (oPkF R (v := (.bool _)) R ⟨R, mAb R ?_⟩)))))⟩)))
          obtain rfl := oI hv
          exact zM
        ·replace hb20 := bF hb20
         replace hv := iteF hv hb20
         refine mF R R hb20 (mF R R hb20 (mF R R hb20 (mF R R hb20 (mF R R hb20 (mN0 (oPkF (cB hb20) (v := (.bool _)) R ⟨R, mMb R (mF R R R (mF R R R (mN0 (oPkF R (v := (.bool _)) R ⟨R, mMb R (mF R R R (mF R R R (mF R R R (mN0 (oPkF R (v := (.bool _)) R ⟨R, mAb R ?_⟩)))))⟩))))⟩))))))
         obtain rfl := oI hv
         exact zM
       ·replace hb19 := bF hb19
        replace hv := iteF hv hb19
        refine mF R R hb19 (mF R R hb19 (mF R R hb19 (mN0 (oPkF (cB hb19) (v := (.bool _)) R ⟨R, mMb R (mF R R R (mF R R R (mF R R R (mF R R R (mF R R R (mN0 (oPkF R (v := (.bool _)) R ⟨R, mMb R (mF R R R (mF R R R (mN0 (oPkF R (v := (.bool _)) R ⟨R, mMb R (mF R R R (mF R R R (mF R R R (mN0 (oPkF R (v := (.bool _)) R ⟨R, mAb R ?_⟩)))))⟩))))⟩)))))))⟩))))
        obtain rfl := oI hv
        exact zM
      ·replace hb15 := bF hb15
       replace hv := iteF hv hb15
       refine mF R R hb15 (mF R R hb15 (mF R R hb15 (mF R R hb15 (mF R R hb15 (mN0 (oPkF (cB hb15) (v := (.bool _)) R ⟨R, mMb R (mF R R R (mF R R R (mF R R R (mN0 (oPkF R (v := (.bool _)) R ⟨R, mMb R (mF R R R (mF R R R (mF R R R (mF R R R (mF R R R (mN0 (oPkF R (v := (.bool _)) R ⟨R, mMb R (mF R R R (mF R R R (mN0 (oPkF R (v := (.bool _)) R ⟨R, mMb R (mF R R R (mF R R R (mF R R R (mN0 (oPkF R (v := (.bool _)) R ⟨R, mAb R ?_⟩)))))⟩))))⟩)))))))⟩)))))⟩))))))
       obtain rfl := oI hv
       exact zM
     ·replace hb14 := bF hb14
      replace hv := iteF hv hb14
      refine mF R R hb14 (mF R R hb14 (mF R R hb14 (mN0 (oPkF (cB hb14) (v := (.bool _)) R ⟨R, mMb R (mF R R R (mF R R R (mF R R R (mF R R R (mF R R R (mN0 (oPkF R (v := (.bool _)) R ⟨R, mMb R (mF R R R (mF R R R (mF R R R (mN0 (oPkF R (v := (.bool _)) R ⟨R, mMb R (mF R R R (mF R R R (mF R R R (mF R R R (mF R R R (mN0 (oPkF R (v := (.bool _)) R ⟨R, mMb R (mF R R R (mF R R R (mN0 (oPkF R (v := (.bool _)) R ⟨R, mMb R (mF R R R (mF R R R (mF R R R (mN0 (oPkF R (v := (.bool _)) R ⟨R, mAb R ?_⟩)))))⟩))))⟩)))))))⟩)))))⟩)))))))⟩))))
      obtain rfl := oI hv
      exact zM
    ·replace hb13 := bF hb13
     replace hv := iteF hv hb13
     refine mF R R hb13 (mF R R hb13 (mF R R hb13 (mN0 (oPkF (cB hb13) (v := (.bool _)) R ⟨R, mMb R (mF R R R (mF R R R (mF R R R (mN0 (oPkF R (v := (.bool _)) R ⟨R, mMb R (mF R R R (mF R R R (mF R R R (mF R R R (mF R R R (mN0 (oPkF R (v := (.bool _)) R ⟨R, mMb R (mF R R R (mF R R R (mF R R R (mN0 (oPkF R (v := (.bool _)) R ⟨R, mMb R (mF R R R (mF R R R (mF R R R (mF R R R (mF R R R (mN0 (oPkF R (v := (.bool _)) R ⟨R, mMb R (mF R R R (mF R R R (mN0 (oPkF R (v := (.bool _)) R ⟨R, mMb R (mF R R R (mF R R R (mF R R R (mN0 (oPkF R (v := (.bool _)) R ⟨R, mAb R ?_⟩)))))⟩))))⟩)))))))⟩)))))⟩)))))))⟩)))))⟩))))
     obtain rfl := oI hv
     exact zM
   ·replace hb12 := bF hb12
    replace hv := iteF hv hb12
    refine mF R R hb12 (mF R R hb12 (mN0 (oPkF (cB hb12) (v := (.bool _)) R ⟨R, mMb R (mF R R R (mF R R R (mF R R R (mN0 (oPkF R (v := (.bool _)) R ⟨R, mMb R (mF R R R (mF R R R (mF R R R (mN0 (oPkF R (v := (.bool _)) R ⟨R, mMb R (mF R R R (mF R R R (mF R R R (mF R R R (mF R R R (mN0 (oPkF R (v := (.bool _)) R ⟨R, mMb R (mF R R R (mF R R R (mF R R R (mN0 (oPkF R (v := (.bool _)) R ⟨R, mMb R (mF R R R (mF R R R (mF R R R (mF R R R (mF R R R (mN0 (oPkF R (v := (.bool _)) R ⟨R, mMb R (mF R R R (mF R R R (mN0 (oPkF R (v := (.bool _)) R ⟨R, mMb R (mF R R R (mF R R R (mF R R R (mN0 (oPkF R (v := (.bool _)) R ⟨R, mAb R ?_⟩)))))⟩))))⟩)))))))⟩)))))⟩)))))))⟩)))))⟩)))))⟩)))
    obtain rfl := oI hv
    exact zM
  clear hv
  refine LH.ret ?_
  obtain rfl := oI h
  exact retE (aT Try.results8) (lrT R (lr0 ⟨memN mN, R, prK R, Sub.rfl⟩))

theorem q170q {p0 : List Int} {r : GDice} (h : mark_Roll p0 = some r) : LCall Try.prog 9 [.L p0] (Mem.of []) (.ptr 105 0) (Mem.of [(105, .box [.L r.L, .I r.At])]) := by
  unfold mark_Roll at h
  refine bodyT Try.func9 R (nT Try.ntmps9 R) (LH.wk (Wk.eq (el := [(0, .L p0)]) (ml := []) R R R R) (LH.seqT [(0, .L p0)] [] R (sN (oA (v := .nilp) R zS)) (LH.seqT [(2, .ptr 105 0)] [(105, .box [.L p0, .I 0])] R (sMl R (sN (oBd (vs := [(0, .L p0)]) tu64 tz64 R (lf tf64_0 ts22 tk22 R R R lf0) (sN (oBx (id := 105) R R R R R R (sAp R zS)))))) (LH.ret ?_))))
  obtain rfl := oI h
  exact retE (aT Try.results9) (lrT R (lr0 ⟨memN (mC R mN), R, prK R, Sub.rfl⟩))
theorem q173q {p0 : List Int} {r : GDice} (h : mark_Roll p0 = some r) : LCall Try.prog 9 [.L p0] (Mem.of []) (.ptr 9 0) (Mem.of [(9, .box [.L r.L, .I r.At])]) := LCall.renamePtr 9 rfl (q170q h)

theorem Gq15 {p0 : GDice} {p1 : Int} {r : Int × GDice} (h : Gq14 p0 p1 = some r) : LCall Try.prog 18 [.ptr 9 0, .I p1] (Mem.of [(9, .box [.L p0.L, .I p0.At])]) (.I r.1) (Mem.of [(9, .box [.L r.2.L, .I r.2.At])]) := by
  unfold Gq14 at h
  refine bodyT Try.func18 R (nT Try.ntmps18 R) (LH.wk (Wk.eq (el := [(0, .ptr 9 0), (1, .I p1)]) (ml := [(9, .box [.L p0.L, .I p0.At])]) R R R R) (LH.seqT [(0, .ptr 9 0), (1, .I p1)] [(9, .box [.L p0.L, .I p0.At])] R (sAi R zS) (LH.seq (LH.seqJM mixed [] [0, 0, 0, 1009, 0, 0, 0, 1009, 0, 0, 0, 0, 0, 0] [(0, .ptr 9 0), (1, .I p1), (19, .bool ((decide (p0.At ≥ (p0.L.length : Int))) || (decide (p1 < 1))))] [(9, .box [.L p0.L, .I p0.At])] R R (by kernel_rfl) ?_ ?_))))
  ·refine mMp R (mN0 (oNC R ⟨R, mN0 (oFa tf64_1 tk3 ts3 R R ⟨R, mD R R R (fun _ b _ d => oLdP R b R R tk3 ta3 d) (mMp R (mN0 (oNC R ⟨R, mN0 (oFa tf64_0 tk22 ts22 R R ⟨R, mD R R R (fun _ b _ d => oLdP R b R R tk22 ta22 d) (mN0 (oLnL (f := LV.I) te22 R ⟨R, mN0 (oGe R R ⟨R, mMb R ?_⟩)⟩))⟩)⟩)))⟩)⟩))
   by_cases hb2 : (decide (p0.At ≥ (p0.L.length : Int))) = true
   ·exact mF R R hb2 (mF R R hb2 (mN0 (oPkT (cB hb2) (v := (.bool _)) R ⟨R, m0 (Wk.to (eC R (eC R (eC (cB (orT hb2)) eN))) ⟨R, trivial⟩ R (prK R))⟩)))
   ·replace hb2 := bF hb2
    exact mT R (cB hb2) (mMi R (mT R (cB hb2) (mN0 (oLt R R ⟨R, mN0 (oPkF (cB hb2) (v := (.bool _)) R ⟨R, m0 (Wk.to (eC R (eC R (eC (cB (orF hb2)) eN))) ⟨R, trivial⟩ R (prK R))⟩)⟩))))
  refine LH.cond (t := ((decide (p0.At ≥ (p0.L.length : Int))) || (decide (p1 < 1)))) R (fun hc3 => ?_) (fun hc3 => ?_)
  ·replace h := iteT h hc3
   refine LH.seqT [(4, .I 0)] [(9, .box [.L p0.L, .I p0.At])] R (sAi R zS) (LH.ret (thenR ?_))
   obtain rfl := oI h
   exact retE (aT Try.results18) (lrT R (lr0 ⟨memN (mC R mN), R, prK R, Sub.rfl⟩))
  replace h := iteF h hc3
  refine LH.skip (thenN ?_)
  obtain ⟨x4, hx4, h⟩ := bindS h
  obtain ⟨v5, hv5, h⟩ := bindS h
  refine LH.seqJM mixed [] [0, 0, 0, 1009, 0, 0, 0, 1009, 0, 0, 0, 0, 0] [(0, .ptr 9 0), (1, .I p1), (5, .I v5)] [(9, .box [.L p0.L, .I p0.At])] R R (by kernel_rfl) (mMp R (mN0 (oNC R ⟨R, mN0 (oFa tf64_0 tk22 ts22 R R ⟨R, mD R R R (fun _ b _ d => oLdP R b R R tk22 ta22 d) (mMp R (mN0 (oNC R ⟨R, mN0 (oFa tf64_1 tk3 ts3 R R ⟨R, mD R R R (fun _ b _ d => oLdP R b R R tk3 ta3 d) (mN0 (oIx (f := LV.I) te22 tk3 ts3 R R okI hx4 R ⟨R, mN0 (oLd R tk3 ta3 ⟨R, mMi R (mN0 (oRem R R hv5 ⟨R, mAi R zM⟩))⟩)⟩))⟩)⟩)))⟩)⟩))) (LH.seqT [(1, .I p1), (5, .I v5)] [(9, .box [.L p0.L, .I (i64 (p0.At + 1))])] R (sMp R (sN (oNC R (sN (oFa tf64_1 tk3 ts3 R R (sN (oLdP R R R R tk3 ta3 (sN (oAdd R R (sN (oNC R (sN (oFa tf64_1 tk3 ts3 R R (s_ (oSt R R R tk3 ts3 R R R zS))))))))))))))) (LH.seq (LH.seqT [(1, .I p1), (5, .I v5), (40, .bool (decide (v5 < 0)))] [(9, .box [.L p0.L, .I (i64 (p0.At + 1))])] R (sMi R (sN (oLt R R zS))) (LH.cond (t := (decide (v5 < 0))) R (fun hc6 => ?_) (fun hc6 => ?_)))))
  ·replace h := iteT h hc6
   refine LH.loneT [(5, .I (i64 (v5 + p1)))] [(9, .box [.L p0.L, .I (i64 (p0.At + 1))])] R (sMi R (sMi R (sN (oAdd R R (sAi R zS))))) (thenN (LH.seqT [(4, .I (i64 (v5 + p1)))] [(9, .box [.L p0.L, .I (i64 (p0.At + 1))])] R (sMi R (sAi R zS)) (LH.ret ?_)))
   obtain rfl := oI h
   exact retE (aT Try.results18) (lrT R (lr0 ⟨memN (mC R mN), R, prK R, Sub.rfl⟩))
  replace h := iteF h hc6
  refine LH.skip (thenN (LH.seqT [(4, .I v5)] [(9, .box [.L p0.L, .I (i64 (p0.At + 1))])] R (sMi R (sAi R zS)) (LH.ret ?_)))
  obtain rfl := oI h
  exact retE (aT Try.results18) (lrT R (lr0 ⟨memN (mC R mN), R, prK R, Sub.rfl⟩))

theorem Gq18 {p0 : GDice} {p1 : Int} {p2 : Int} {r : Gq52 × GDice} (h : Gq16 p0 p1 p2 = some r) : LCall Try.prog 59 [.ptr 9 0, .I p1, .I p2] (Mem.of [(9, .box [.L p0.L, .I p0.At])]) (.agg [.I r.1.Code, .I r.1.Variant, .lst 6 (List.map GPart.lv r.1.Parts)]) (Mem.of [(9, .box [.L r.2.L, .I r.2.At])]) := by
  unfold Gq16 at h
  refine bodyT Try.func59 R (nT Try.ntmps59 R) (LH.wk (Wk.eq (el := [(0, .ptr 9 0), (1, .I p1), (2, .I p2)]) (ml := [(9, .box [.L p0.L, .I p0.At])]) R R R R) (LH.seqT [(0, .ptr 9 0), (1, .I p1), (2, .I p2), (6, .ptr 106 0)] [(9, .box [.L p0.L, .I p0.At]), (106, .box [.I 0, .I 0, .nil])] R (sN (oAl (id := 106) R tz100 R R zS)) ?_))
  obtain ⟨r1, hr1, h⟩ := bindS h
  refine LH.seqT [(0, .ptr 9 0), (6, .ptr 106 0), (7, .ptr 107 0)] [(9, .box [.L r1.2.L, .I r1.2.At]), (106, .box [.I 0, .I 0, .nil]), (107, .box [.I p1, .I p2, .arr 114 (List.length [(GPart.mk 1 (i64 (3 + r1.1)) 0 0 0 0)])]), (114, .arr 103 6 (List.map GPart.lv [(GPart.mk 1 (i64 (3 + r1.1)) 0 0 0 0)]))] R (sMi R (sMi R (sMp R (sN (oCM (args := [.ptr 9 0, .I 4]) (ml := [(9, .box [.L p0.L, .I p0.At])]) (ml' := [(9, .box [.L r1.2.L, .I r1.2.At])]) R isF18 R (sbR (sbR sbN)) (Gq15 hr1) (mC R mN) (newI R newN) R (sN (oAdd R R (sN (oBd (vs := [(0, .I 1), (1, .I (i64 (3 + r1.1)))]) tu103 tz103 R (lf tf103_0 ts3 tk3 R R R (lf tf103_1 ts3 tk3 R R R lf0)) (sX (ok_bsA (g := GPart.lv) (ys := [(GPart.mk 1 (i64 (3 + r1.1)) 0 0 0 0)]) (id := 114) te98 tr103 ts103 R R R GPart.ok R) (sN (oBd (vs := [(0, .I p1), (1, .I p2), (2, .arr 114 (List.length [(GPart.mk 1 (i64 (3 + r1.1)) 0 0 0 0)]))]) tu100 tz100 R (lf tf100_0 ts3 tk3 R R R (lf tf100_1 ts3 tk3 R R R (lf tf100_2 ts98 tk98 R R R lf0))) (sN (oAl (id := 107) R tz100 R R (s_ (oSt R R R tk100 ts100 R R R zS)))))))))))))))) (LH.mid (fun e m => ∃ (l2 : List Int) (n3 : Int) (l4 : List GPart), Gq17 p1 p2 l2 n3 l4 = some r ∧ Wk (fun id => Mem.of [(9, .box [.L p0.L, .I p0.At])] id ≠ .none) e m (Env.of [(0, .ptr 9 0), (6, .ptr 106 0), (7, .ptr 107 0)]) (Mem.of [(9, .box [.L l2, .I n3]), (106, .box [.I 0, .I 0, .nil]), (107, .box [.I p1, .I p2, .arr 114 (List.length l4)]), (114, .arr 103 6 (List.map GPart.lv l4))])) ?_ ?_)
  ·obtain ⟨r9, hr9, h⟩ := bindS h
   refine LH.seqT [(0, .ptr 9 0), (6, .ptr 106 0), (7, .ptr 107 0), (18, .bool (decide (r9.1 > 0)))] [(9, .box [.L r9.2.L, .I r9.2.At]), (106, .box [.I 0, .I 0, .nil]), (107, .box [.I p1, .I p2, .arr 114 (List.length [(GPart.mk 1 (i64 (3 + r1.1)) 0 0 0 0)])]), (114, .arr 103 6 (List.map GPart.lv [(GPart.mk 1 (i64 (3 + r1.1)) 0 0 0 0)]))] R (sMp R (sN (oCM (args := [.ptr 9 0, .I 3]) (ml := [(9, .box [.L r1.2.L, .I r1.2.At])]) (ml' := [(9, .box [.L r9.2.L, .I r9.2.At])]) R isF18 R (sbR (sbR sbN)) (Gq15 hr9) (mC R mN) (newI R newN) R (sN (oGt R R zS))))) (LH.cond (t := (decide (r9.1 > 0))) R (fun hc10 => ?_) (fun hc10 => ?_))
   ·replace h := iteT h hc10
    obtain ⟨r11, hr11, h⟩ := bindS h
    obtain ⟨r12, hr12, h⟩ := bindS h
    obtain ⟨v13, hv13, h⟩ := bindS h
    exact LH.loneTM mixed [] [0, 1107, 0, 100009, 0, 0, 100009, 0, 0, 2, 0, 100107] [(0, .ptr 9 0), (6, .ptr 106 0), (7, .ptr 107 0)] [(9, .box [.L r12.2.L, .I r12.2.At]), (106, .box [.I 0, .I 0, .nil]), (107, .box [.I p1, .I p2, .arr 114 (List.length v13)]), (114, .arr 103 6 (List.map GPart.lv v13))] R R (by kernel_rfl) (mN0 (oFa tf100_2 tk98 ts98 R R ⟨R, mD R R R (fun _ b _ d => oLdP R b R R tk98 ta98 d) (mMp R (mW R R R (fun _ b _ d => oCM (args := [.ptr 9 0, .I 2]) (ml := [(9, .box [.L r9.2.L, .I r9.2.At])]) (ml' := [(9, .box [.L r11.2.L, .I r11.2.At])]) R isF18 R (sbR (sbR sbN)) (Gq15 hr11) (mC b mN) (newI R newN) R d) (mN0 (oAdd R R ⟨R, mMp R (mW R R R (fun _ b _ d => oCM (args := [.ptr 9 0, .I 4]) (ml := [(9, .box [.L r11.2.L, .I r11.2.At])]) (ml' := [(9, .box [.L r12.2.L, .I r12.2.At])]) R isF18 R (sbR (sbR sbN)) (Gq15 hr12) (mC b mN) (newI R newN) R d) (mN0 (oBd (vs := [(0, .I 2), (1, .I (i64 (1 + r11.1))), (4, .I 4), (5, .I r12.1)]) tu103 tz103 R (lf tf103_0 ts3 tk3 R R R (lf tf103_1 ts3 tk3 R R R (lf tf103_4 ts3 tk3 R R R (lf tf103_5 ts3 tk3 R R R lf0)))) ⟨R, mN0 (oBS (f := GPart.lv) (ys := [(GPart.mk 2 (i64 (1 + r11.1)) 0 0 4 r12.1)]) te98 tr103 ts103 R R R GPart.ok ⟨R, mN2 (oAp (f := GPart.lv) te98 tr103 ts103 R R (prN R) R hv13 (mN0 (oFa tf100_2 tk98 ts98 R R ⟨R, mS R R R (fun _ b _ d => oSt R R R tk98 ts98 b R R d) zM⟩)))⟩)⟩)))⟩))))⟩)) (thenN ⟨r12.2.L, r12.2.At, v13, h, Wk.eq R R R R⟩)
   replace h := iteF h hc10
   exact LH.skip (thenN ⟨r9.2.L, r9.2.At, [(GPart.mk 1 (i64 (3 + r1.1)) 0 0 0 0)], h, Wk.eq R R R R⟩)
  clear h
  rintro e m ⟨l2, n3, l4, h, hw⟩
  refine LH.wk hw ?_
  clear hw
  unfold Gq17 at h
  refine LH.seq ?_
  obtain ⟨r5, hr5, h⟩ := bindS h
  refine LH.seqT [(0, .ptr 9 0), (6, .ptr 106 0), (7, .ptr 107 0), (32, .bool (decide (r5.1 > 0)))] [(9, .box [.L r5.2.L, .I r5.2.At]), (106, .box [.I 0, .I 0, .nil]), (107, .box [.I p1, .I p2, .arr 114 (List.length l4)]), (114, .arr 103 6 (List.map GPart.lv l4))] R (sMp R (sN (oCM (args := [.ptr 9 0, .I 2]) (ml := [(9, .box [.L l2, .I n3])]) (ml' := [(9, .box [.L r5.2.L, .I r5.2.At])]) R isF18 R (sbR (sbR sbN)) (Gq15 hr5) (mC R mN) (newI R newN) R (sN (oGt R R zS))))) (LH.cond (t := (decide (r5.1 > 0))) R (fun hc6 => ?_) (fun hc6 => ?_))
  ·replace h := iteT h hc6
   obtain ⟨r7, hr7, h⟩ := bindS h
   obtain ⟨v8, hv8, h⟩ := bindS h
   refine LH.loneTM mixed [] [0, 1107, 0, 100009, 0, 0, 0, 2, 0, 100107] [(6, .ptr 106 0), (7, .sptr [.I p1, .I p2, .lst 6 (List.map GPart.lv v8)])] [(9, .box [.L r7.2.L, .I r7.2.At]), (106, .box [.I 0, .I 0, .nil])] R R (by kernel_rfl) (mN0 (oFa tf100_2 tk98 ts98 R R ⟨R, mD R R R (fun _ b _ d => oLdP R b R R tk98 ta98 d) (mMp R (mW R R R (fun _ b _ d => oCM (args := [.ptr 9 0, .I 4]) (ml := [(9, .box [.L r5.2.L, .I r5.2.At])]) (ml' := [(9, .box [.L r7.2.L, .I r7.2.At])]) R isF18 R (sbR (sbR sbN)) (Gq15 hr7) (mC b mN) (newI R newN) R d) (mN0 (oAdd R R ⟨R, mN0 (oBd (vs := [(0, .I 1), (1, .I (i64 (2 + r7.1)))]) tu103 tz103 R (lf tf103_0 ts3 tk3 R R R (lf tf103_1 ts3 tk3 R R R lf0)) ⟨R, mN0 (oBS (f := GPart.lv) (ys := [(GPart.mk 1 (i64 (2 + r7.1)) 0 0 0 0)]) te98 tr103 ts103 R R R GPart.ok ⟨R, mN2 (oAp (f := GPart.lv) te98 tr103 ts103 R R (prN R) R hv8 (mN0 (oFa tf100_2 tk98 ts98 R R ⟨R, mS R R R (fun _ b _ d => oSt R R R tk98 ts98 b R R d) (m0 ((Wk.trans (Wk.eq (el := [(6, .ptr 106 0), (7, .ptr 107 0)]) (ml := [(9, .box [.L r7.2.L, .I r7.2.At]), (106, .box [.I 0, .I 0, .nil]), (107, .box [.I p1, .I p2, .arr 114 (List.length v8)]), (114, .arr 103 6 (List.map GPart.lv v8))]) R R R R) (Wk.trans (Wk.eq (el := [(6, .ptr 106 0), (7, .ptr 107 0)]) (ml := [(9, .box [.L r7.2.L, .I r7.2.At]), (106, .box [.I 0, .I 0, .nil]), (107, .box [.I p1, .I p2, .arr 114 (List.length v8)]), (114, .arr 103 6 (List.map GPart.lv v8))]) R R R R) (Wk.trans (Wk.trans (Wk.frzBx (f := GPart.lv) 114 103 6 v8 107 R R R (frAK R (frAK R (frAZ frA0))) R R (prN R)) (Wk.eq (el := [(6, .ptr 106 0), (7, .ptr 107 0)]) (ml := [(9, .box [.L r7.2.L, .I r7.2.At]), (106, .box [.I 0, .I 0, .nil]), (107, .box [.I p1, .I p2, .lst 6 (List.map GPart.lv v8)])]) R R R R)) (Wk.trans (Wk.frzB 107 [.I p1, .I p2, .lst 6 (List.map GPart.lv v8)] R R R (prN R)) (Wk.eq R R R R)))))))⟩)))⟩)⟩)⟩))))⟩)) (thenN (LH.seqT [(6, .sptr [.I p1, .I p2, .lst 6 (List.map GPart.lv v8)])] [(9, .box [.L r7.2.L, .I r7.2.At])] R (sN (oLdA R tk100 ta100 ts100 R R (s_ (oSt R R R tk100 ts100 R R R (s0 ((Wk.trans (Wk.eq (el := [(6, .ptr 106 0)]) (ml := [(9, .box [.L r7.2.L, .I r7.2.At]), (106, .box [.I p1, .I p2, .lst 6 (List.map GPart.lv v8)])]) R R R R) (Wk.trans (Wk.frzB 106 [.I p1, .I p2, .lst 6 (List.map GPart.lv v8)] R R R (prN R)) (Wk.eq R R R R))))))))) (LH.ret ?_)))
   obtain rfl := oI h
   exact retE (aT Try.results59) (lrSA R tk100 ta100 ts100 R R (lr0 ⟨memN (mC R mN), R, prK R, Sub.rfl⟩))
  replace h := iteF h hc6
  refine LH.skip (thenN (LH.wk ((Wk.trans (Wk.eq (el := [(6, .ptr 106 0), (7, .ptr 107 0)]) (ml := [(9, .box [.L r5.2.L, .I r5.2.At]), (106, .box [.I 0, .I 0, .nil]), (107, .box [.I p1, .I p2, .arr 114 (List.length l4)]), (114, .arr 103 6 (List.map GPart.lv l4))]) R R R R) (Wk.trans (Wk.eq (el := [(6, .ptr 106 0), (7, .ptr 107 0)]) (ml := [(9, .box [.L r5.2.L, .I r5.2.At]), (106, .box [.I 0, .I 0, .nil]), (107, .box [.I p1, .I p2, .arr 114 (List.length l4)]), (114, .arr 103 6 (List.map GPart.lv l4))]) R R R R) (Wk.trans (Wk.trans (Wk.frzBx (f := GPart.lv) 114 103 6 l4 107 R R R (frAK R (frAK R (frAZ frA0))) R R (prN R)) (Wk.eq (el := [(6, .ptr 106 0), (7, .ptr 107 0)]) (ml := [(9, .box [.L r5.2.L, .I r5.2.At]), (106, .box [.I 0, .I 0, .nil]), (107, .box [.I p1, .I p2, .lst 6 (List.map GPart.lv l4)])]) R R R R)) (Wk.trans (Wk.frzB 107 [.I p1, .I p2, .lst 6 (List.map GPart.lv l4)] R R R (prN R)) (Wk.eq (el := [(6, .ptr 106 0), (7, .sptr [.I p1, .I p2, .lst 6 (List.map GPart.lv l4)])]) (ml := [(9, .box [.L r5.2.L, .I r5.2.At]), (106, .box [.I 0, .I 0, .nil])]) R R R R)))))) (LH.seqT [(6, .sptr [.I p1, .I p2, .lst 6 (List.map GPart.lv l4)])] [(9, .box [.L r5.2.L, .I r5.2.At])] R (sN (oLdA R tk100 ta100 ts100 R R (s_ (oSt R R R tk100 ts100 R R R (s0 ((Wk.trans (Wk.eq (el := [(6, .ptr 106 0)]) (ml := [(9, .box [.L r5.2.L, .I r5.2.At]), (106, .box [.I p1, .I p2, .lst 6 (List.map GPart.lv l4)])]) R R R R) (Wk.trans (Wk.frzB 106 [.I p1, .I p2, .lst 6 (List.map GPart.lv l4)] R R R (prN R)) (Wk.eq R R R R))))))))) (LH.ret ?_))))
  obtain rfl := oI h
  exact retE (aT Try.results59) (lrSA R tk100 ta100 ts100 R R (lr0 ⟨memN (mC R mN), R, prK R, Sub.rfl⟩))

theorem Gq1 {p0 : GDice} {p1 : Int} {r : Bool × GDice} (h : Gq0 p0 p1 = some r) : LCall Try.prog 38 [.ptr 9 0, .I p1] (Mem.of [(9, .box [.L p0.L, .I p0.At])]) (.bool r.1) (Mem.of [(9, .box [.L r.2.L, .I r.2.At])]) := by
  unfold Gq0 at h
  refine bodyT Try.func38 R (nT Try.ntmps38 R) (LH.wk (Wk.eq (el := [(0, .ptr 9 0), (1, .I p1)]) (ml := [(9, .box [.L p0.L, .I p0.At])]) R R R R) (LH.seqT [(0, .ptr 9 0), (1, .I p1)] [(9, .box [.L p0.L, .I p0.At])] R (sAb R zS) ?_))
  obtain ⟨r1, hr1, h⟩ := bindS h
  refine LH.seqT [(4, .bool (r1.1 == (i64 (p1 - 1))))] [(9, .box [.L r1.2.L, .I r1.2.At])] R (sMp R (sMi R (sN (oCM (args := [.ptr 9 0, .I p1]) (ml := [(9, .box [.L p0.L, .I p0.At])]) (ml' := [(9, .box [.L r1.2.L, .I r1.2.At])]) R isF18 R (sbR (sbR sbN)) (Gq15 hr1) (mC R mN) (newI R newN) R (sMi R (sN (oSub R R (sN (oEq R R (sAb R zS)))))))))) (LH.ret ?_)
  obtain rfl := oI h
  exact retE (aT Try.results38) (lrT R (lr0 ⟨memN (mC R mN), R, prK R, Sub.rfl⟩))

theorem Gq28 {p0 : GDice} {p1 : Gq52} {r : Gq53 × GDice} (h : Gq27 p0 p1 = some r) : LCall Try.prog 60 [.ptr 9 0, .agg [.I p1.Code, .I p1.Variant, .lst 6 (List.map GPart.lv p1.Parts)]] (Mem.of [(9, .box [.L p0.L, .I p0.At])]) (.agg [.lst 1 (List.map (lvl 1 LV.I) r.1.Keys), .L r.1.Withdrawn]) (Mem.of [(9, .box [.L r.2.L, .I r.2.At])]) := by
  unfold Gq27 at h
  refine bodyT Try.func60 R (nT Try.ntmps60 R) (LH.wk (Wk.eq (el := [(0, .ptr 9 0), (1, .agg [.I p1.Code, .I p1.Variant, .lst 6 (List.map GPart.lv p1.Parts)])]) (ml := [(9, .box [.L p0.L, .I p0.At])]) R R R R) (LH.seqT [(0, .ptr 9 0), (3, .sptr [.I p1.Code, .I p1.Variant, .lst 6 (List.map GPart.lv p1.Parts)]), (4, .ptr 104 0)] [(9, .box [.L p0.L, .I p0.At]), (104, .box [.nil, .nil])] R (sB (oBxR R R R R (sN (oAl (id := 104) R tz107 R R zS)))) ?_))
  obtain ⟨v1, hv1, h⟩ := bindS h
  obtain ⟨v2, hv2, h⟩ := bindS h
  refine LH.seqJM mixed [] [0, 0, 0, 4, 0, 0, 0, 2, 0, 2, 100105] [(0, .ptr 9 0), (3, .sptr [.I p1.Code, .I p1.Variant, .lst 6 (List.map GPart.lv p1.Parts)]), (4, .ptr 104 0), (5, .ptr 105 0)] [(9, .box [.L p0.L, .I p0.At]), (104, .box [.nil, .nil]), (105, .box [.lst 1 (List.map (lvl 1 LV.I) v1), .arr 113 (List.length v2)]), (113, .arr 3 1 (List.map LV.I v2))] R R (by kernel_rfl) (mN0 (oFaS tf100_2 tk98 ts98 R R R ⟨R, mN0 (oLd R tk98 ta98 ⟨R, mN0 (oLnL (f := GPart.lv) te98 R ⟨R, mM (fun _ => OpOkR.frz (id := 109) (xs := v1) (by simp [Op.operands, lev, Env.of, Env.put, LV.pure]) (OpOk.toR [8] (by simp [Op.operands]) (ok_mkS (f := (lvl 1 LV.I)) (z := []) (id := 109) R te105 tz22 tr22 ts22 R R R Sub.nil okL hv1 R)) R _) (mN0 (oFaS tf100_2 tk98 ts98 R R R ⟨R, mN0 (oLd R tk98 ta98 ⟨R, mN0 (oLnL (f := GPart.lv) te98 R ⟨R, mN2 (oMk (f := LV.I) (z := 0) (id := 113) R te22 tz3 tr3 ts3 R R R hv2 R (mN0 (oBd (vs := [(0, .lst 1 (List.map (lvl 1 LV.I) v1)), (1, .arr 113 (List.length v2))]) tu107 tz107 R (lf tf107_0 ts105 tk105 R R R (lf tf107_1 ts22 tk22 R R R lf0)) ⟨R, mN2 (oAl (id := 105) R tz107 R R (mS R R R (fun _ b _ d => oSt R R R tk107 ts107 b R R d) zM))⟩)))⟩)⟩)⟩))⟩)⟩)⟩)) (LH.seq ?_)
  obtain ⟨r3, hr3, h⟩ := bindS h
  refine LH.seqT [(0, .ptr 9 0), (3, .sptr [.I p1.Code, .I p1.Variant, .lst 6 (List.map GPart.lv p1.Parts)]), (4, .ptr 104 0), (5, .ptr 105 0), (16, .bool r3.1)] [(9, .box [.L r3.2.L, .I r3.2.At]), (104, .box [.nil, .nil]), (105, .box [.lst 1 (List.map (lvl 1 LV.I) v1), .arr 113 (List.length v2)]), (113, .arr 3 1 (List.map LV.I v2))] R (sMp R (sN (oCM (args := [.ptr 9 0, .I 6]) (ml := [(9, .box [.L p0.L, .I p0.At])]) (ml' := [(9, .box [.L r3.2.L, .I r3.2.At])]) R isF38 R (sbR (sbR sbN)) (Gq1 hr3) (mC R mN) (newI R newN) R zS))) (LH.cond (t := r3.1) R (fun hc4 => ?_) (fun hc4 => ?_))
  ·replace h := iteT h hc4
   obtain ⟨r5, hr5, h⟩ := bindS h
   obtain ⟨r6, hr6, h⟩ := bindS h
   obtain ⟨x7, hx7, h⟩ := bindS h
   refine LH.loneTM mixed [] [0, 1105, 0, 0, 0, 0, 100009, 0, 100009, 0, 1113, 100113] [(4, .ptr 104 0), (5, .sptr [.lst 1 (List.map (lvl 1 LV.I) v1), .L (v2.set r5.1.toNat (i64 (1 + r6.1)))])] [(9, .box [.L r6.2.L, .I r6.2.At]), (104, .box [.nil, .nil])] R R (by kernel_rfl) ?_ ?_
   ·refine mN0 (oFa tf107_1 tk22 ts22 R R ⟨R, mD R R R (fun _ b _ d => oLdP R b R R tk22 ta22 d) (mMp R (mN0 (oFaS tf100_2 tk98 ts98 R R R ⟨R, mN0 (oLd R tk98 ta98 ⟨R, mN0 (oLnL (f := GPart.lv) te98 R ⟨R, mW R R R (fun _ b _ d => oCM (args := [.ptr 9 0, .I (p1.Parts.length : Int)]) (ml := [(9, .box [.L r3.2.L, .I r3.2.At])]) (ml' := [(9, .box [.L r5.2.L, .I r5.2.At])]) R isF18 R (sbR (sbR sbN)) (Gq15 hr5) (mC b mN) (newI R newN) R d) (mMp R (mW R R R (fun _ b _ d => oCM (args := [.ptr 9 0, .I 2]) (ml := [(9, .box [.L r5.2.L, .I r5.2.At])]) (ml' := [(9, .box [.L r6.2.L, .I r6.2.At])]) R isF18 R (sbR (sbR sbN)) (Gq15 hr6) (mC b mN) (newI R newN) R d) (mN0 (oAdd R R ⟨R, mD R R R (fun _ b _ d => oIxA (f := LV.I) te22 tk3 ts3 R b R hx7 d) (mS R R R (fun _ b _ d => oStE (f := LV.I) (z' := (i64 (1 + r6.1))) R R R R tk3 ts3 b (idxOk hx7).2 R d) ?_)⟩))))⟩)⟩)⟩)))⟩)
    exact m0 ((Wk.trans (Wk.to (el := [(4, .ptr 104 0), (5, .ptr 105 0)]) (ml := [(9, .box [.L r6.2.L, .I r6.2.At]), (104, .box [.nil, .nil]), (105, .box [.lst 1 (List.map (lvl 1 LV.I) v1), .arr 113 (List.length (v2.set r5.1.toNat (i64 (1 + r6.1))))]), (113, .arr 3 1 (List.map LV.I (v2.set r5.1.toNat (i64 (1 + r6.1)))))]) (eQ ⟨R, R, trivial⟩) (mC R (mC R (mC ((show _ = some (LE.box [.lst 1 (List.map (lvl 1 LV.I) v1), .arr 113 (List.length v2)]) from R).trans (by simp)) (mC R mN)))) R (prK R)) (Wk.trans (Wk.eq (el := [(4, .ptr 104 0), (5, .ptr 105 0)]) (ml := [(9, .box [.L r6.2.L, .I r6.2.At]), (104, .box [.nil, .nil]), (105, .box [.lst 1 (List.map (lvl 1 LV.I) v1), .arr 113 (List.length (v2.set r5.1.toNat (i64 (1 + r6.1))))]), (113, .arr 3 1 (List.map LV.I (v2.set r5.1.toNat (i64 (1 + r6.1)))))]) R R R R) (Wk.trans (Wk.trans (Wk.frzBx (f := LV.I) 113 3 1 (v2.set r5.1.toNat (i64 (1 + r6.1))) 105 R R R (frAK R (frAZ frA0)) R R (prN R)) (Wk.eq (el := [(4, .ptr 104 0), (5, .ptr 105 0)]) (ml := [(9, .box [.L r6.2.L, .I r6.2.At]), (104, .box [.nil, .nil]), (105, .box [.lst 1 (List.map (lvl 1 LV.I) v1), .L (v2.set r5.1.toNat (i64 (1 + r6.1)))])]) R R R R)) (Wk.trans (Wk.frzB 105 [.lst 1 (List.map (lvl 1 LV.I) v1), .L (v2.set r5.1.toNat (i64 (1 + r6.1)))] R R R (prN R)) (Wk.eq R R R R))))))
   refine thenN (LH.seqT [(4, .sptr [.lst 1 (List.map (lvl 1 LV.I) v1), .L (v2.set r5.1.toNat (i64 (1 + r6.1)))])] [(9, .box [.L r6.2.L, .I r6.2.At])] R (sN (oLdA R tk107 ta107 ts107 R R (s_ (oSt R R R tk107 ts107 R R R (s0 ((Wk.trans (Wk.eq (el := [(4, .ptr 104 0)]) (ml := [(9, .box [.L r6.2.L, .I r6.2.At]), (104, .box [.lst 1 (List.map (lvl 1 LV.I) v1), .L (v2.set r5.1.toNat (i64 (1 + r6.1)))])]) R R R R) (Wk.trans (Wk.frzB 104 [.lst 1 (List.map (lvl 1 LV.I) v1), .L (v2.set r5.1.toNat (i64 (1 + r6.1)))] R R R (prN R)) (Wk.eq R R R R))))))))) (LH.ret ?_))
   obtain rfl := oI h
   exact retE (aT Try.results60) (lrSA R tk107 ta107 ts107 R R (lr0 ⟨memN (mC R mN), R, prK R, Sub.rfl⟩))
  replace h := iteF h hc4
  refine LH.skip (thenN (LH.wk ((Wk.trans (Wk.eq (el := [(4, .ptr 104 0), (5, .ptr 105 0)]) (ml := [(9, .box [.L r3.2.L, .I r3.2.At]), (104, .box [.nil, .nil]), (105, .box [.lst 1 (List.map (lvl 1 LV.I) v1), .arr 113 (List.length v2)]), (113, .arr 3 1 (List.map LV.I v2))]) R R R R) (Wk.trans (Wk.eq (el := [(4, .ptr 104 0), (5, .ptr 105 0)]) (ml := [(9, .box [.L r3.2.L, .I r3.2.At]), (104, .box [.nil, .nil]), (105, .box [.lst 1 (List.map (lvl 1 LV.I) v1), .arr 113 (List.length v2)]), (113, .arr 3 1 (List.map LV.I v2))]) R R R R) (Wk.trans (Wk.trans (Wk.frzBx (f := LV.I) 113 3 1 v2 105 R R R (frAK R (frAZ frA0)) R R (prN R)) (Wk.eq (el := [(4, .ptr 104 0), (5, .ptr 105 0)]) (ml := [(9, .box [.L r3.2.L, .I r3.2.At]), (104, .box [.nil, .nil]), (105, .box [.lst 1 (List.map (lvl 1 LV.I) v1), .L v2])]) R R R R)) (Wk.trans (Wk.frzB 105 [.lst 1 (List.map (lvl 1 LV.I) v1), .L v2] R R R (prN R)) (Wk.eq (el := [(4, .ptr 104 0), (5, .sptr [.lst 1 (List.map (lvl 1 LV.I) v1), .L v2])]) (ml := [(9, .box [.L r3.2.L, .I r3.2.At]), (104, .box [.nil, .nil])]) R R R R)))))) (LH.seqT [(4, .sptr [.lst 1 (List.map (lvl 1 LV.I) v1), .L v2])] [(9, .box [.L r3.2.L, .I r3.2.At])] R (sN (oLdA R tk107 ta107 ts107 R R (s_ (oSt R R R tk107 ts107 R R R (s0 ((Wk.trans (Wk.eq (el := [(4, .ptr 104 0)]) (ml := [(9, .box [.L r3.2.L, .I r3.2.At]), (104, .box [.lst 1 (List.map (lvl 1 LV.I) v1), .L v2])]) R R R R) (Wk.trans (Wk.frzB 104 [.lst 1 (List.map (lvl 1 LV.I) v1), .L v2] R R R (prN R)) (Wk.eq R R R R))))))))) (LH.ret ?_))))
  obtain rfl := oI h
  exact retE (aT Try.results60) (lrSA R tk107 ta107 ts107 R R (lr0 ⟨memN (mC R mN), R, prK R, Sub.rfl⟩))

theorem Gq24 {F : Nat} {p0 : GDice} {r : List Gq52 × List Gq53 × GDice} (h : Gq19 F p0 = some r) : LCall Try.prog 34 [.ptr 9 0] (Mem.of [(9, .box [.L p0.L, .I p0.At])]) (.tup [.lst 3 (List.map Gq52.lv r.1), .lst 2 (List.map Gq53.lv r.2.1)]) (Mem.of [(9, .box [.L r.2.2.L, .I r.2.2.At])]) := by
  unfold Gq19 at h
  refine bodyT Try.func34 R (nT Try.ntmps34 R) (LH.wk (Wk.eq (el := [(0, .ptr 9 0)]) (ml := [(9, .box [.L p0.L, .I p0.At])]) R R R R) (LH.seqT [(0, .ptr 9 0)] [(9, .box [.L p0.L, .I p0.At])] R (sAn R (sAn R zS)) ?_))
  obtain ⟨r1, hr1, h⟩ := bindS h
  refine LH.seqT [(0, .ptr 9 0), (4, .arr 109 (List.length [r1.1]))] [(9, .box [.L r1.2.L, .I r1.2.At]), (109, .arr 100 3 (List.map Gq52.lv [r1.1]))] R (sMp R (sN (oCM (args := [.ptr 9 0, .I 0, .I 0]) (ml := [(9, .box [.L p0.L, .I p0.At])]) (ml' := [(9, .box [.L r1.2.L, .I r1.2.At])]) R isF59 R (sbR (sbR (sbR sbN))) (Gq18 hr1) (mC R mN) (newI R newN) R (sX (ok_bsA (g := Gq52.lv) (ys := [r1.1]) (id := 109) te31 tr100 ts100 R R R Gq52.ok R) (sAa R zS))))) (LH.mid (fun e m => ∃ (l2 : List Int) (n3 : Int) (l4 : List Gq52), Gq20 F l2 n3 l4 = some r ∧ Wk (fun id => Mem.of [(9, .box [.L p0.L, .I p0.At])] id ≠ .none) e m (Env.of [(0, .ptr 9 0), (4, .arr 109 (List.length l4))]) (Mem.of [(9, .box [.L l2, .I n3]), (109, .arr 100 3 (List.map Gq52.lv l4))])) ?_ ?_)
  ·obtain ⟨r20, hr20, h⟩ := bindS h
   refine LH.seqT [(0, .ptr 9 0), (4, .arr 109 (List.length [r1.1])), (11, .bool r20.1)] [(9, .box [.L r20.2.L, .I r20.2.At]), (109, .arr 100 3 (List.map Gq52.lv [r1.1]))] R (sMp R (sN (oCM (args := [.ptr 9 0, .I 2]) (ml := [(9, .box [.L r1.2.L, .I r1.2.At])]) (ml' := [(9, .box [.L r20.2.L, .I r20.2.At])]) R isF38 R (sbR (sbR sbN)) (Gq1 hr20) (mC R mN) (newI R newN) R zS))) (LH.cond (t := r20.1) R (fun hc21 => ?_) (fun hc21 => ?_))
   ·replace h := iteT h hc21
    obtain ⟨r22, hr22, h⟩ := bindS h
    obtain ⟨v23, hv23, h⟩ := bindS h
    exact LH.loneT [(0, .ptr 9 0), (4, .arr 109 (List.length v23))] [(9, .box [.L r22.2.L, .I r22.2.At]), (109, .arr 100 3 (List.map Gq52.lv v23))] R (sMa R (sMp R (sN (oCM (args := [.ptr 9 0, .I 0, .I 1]) (ml := [(9, .box [.L r20.2.L, .I r20.2.At])]) (ml' := [(9, .box [.L r22.2.L, .I r22.2.At])]) R isF59 R (sbR (sbR (sbR sbN))) (Gq18 hr22) (mC R mN) (newI R newN) R (sN (oBS (f := Gq52.lv) (ys := [r22.1]) te31 tr100 ts100 R R R Gq52.ok (sN (oAp (f := Gq52.lv) te31 tr100 ts100 R R (prN R) R hv23 (sAa R zS))))))))) (thenN ⟨r22.2.L, r22.2.At, v23, h, Wk.eq R R R R⟩)
   replace h := iteF h hc21
   exact LH.skip (thenN ⟨r20.2.L, r20.2.At, [r1.1], h, Wk.eq R R R R⟩)
  clear h
  rintro e m ⟨l2, n3, l4, h, hw⟩
  refine LH.wk hw ?_
  clear hw
  unfold Gq20 at h
  refine LH.mid (fun e m => ∃ (l5 : List Gq52) (l6 : List Int) (n7 : Int), Gq21 F l5 l6 n7 = some r ∧ Wk (fun id => Mem.of [(9, .box [.L p0.L, .I p0.At])] id ≠ .none) e m (Env.of [(0, .ptr 9 0), (4, .lst 3 (List.map Gq52.lv l5))]) (Mem.of [(9, .box [.L l6, .I n7])])) ?_ ?_
  ·obtain ⟨r16, hr16, h⟩ := bindS h
   refine LH.seqT [(0, .ptr 9 0), (4, .arr 109 (List.length l4)), (18, .bool r16.1)] [(9, .box [.L r16.2.L, .I r16.2.At]), (109, .arr 100 3 (List.map Gq52.lv l4))] R (sMp R (sN (oCM (args := [.ptr 9 0, .I 2]) (ml := [(9, .box [.L l2, .I n3])]) (ml' := [(9, .box [.L r16.2.L, .I r16.2.At])]) R isF38 R (sbR (sbR sbN)) (Gq1 hr16) (mC R mN) (newI R newN) R zS))) (LH.cond (t := r16.1) R (fun hc17 => ?_) (fun hc17 => ?_))
   ·replace h := iteT h hc17
    obtain ⟨r18, hr18, h⟩ := bindS h
    obtain ⟨v19, hv19, h⟩ := bindS h
    exact LH.loneT [(0, .ptr 9 0), (4, .lst 3 (List.map Gq52.lv v19))] [(9, .box [.L r18.2.L, .I r18.2.At])] R (sMa R (sMp R (sN (oCM (args := [.ptr 9 0, .I 1, .I 0]) (ml := [(9, .box [.L r16.2.L, .I r16.2.At])]) (ml' := [(9, .box [.L r18.2.L, .I r18.2.At])]) R isF59 R (sbR (sbR (sbR sbN))) (Gq18 hr18) (mC R mN) (newI R newN) R (sN (oBS (f := Gq52.lv) (ys := [r18.1]) te31 tr100 ts100 R R R Gq52.ok (sN (oAp (f := Gq52.lv) te31 tr100 ts100 R R (prN R) R hv19 (sAa R (s0 ((Wk.trans (Wk.eq (el := [(0, .ptr 9 0), (4, .arr 109 (List.length v19))]) (ml := [(9, .box [.L r18.2.L, .I r18.2.At]), (109, .arr 100 3 (List.map Gq52.lv v19))]) R R R R) (Wk.trans (Wk.frzL (f := Gq52.lv) (el' := [(0, .ptr 9 0), (4, .lst 3 (List.map Gq52.lv v19))]) 109 100 3 v19 R R (prN R) (fK R (fZ fN))) (Wk.eq R R R R)))))))))))))) (thenN ⟨v19, r18.2.L, r18.2.At, h, Wk.eq R R R R⟩)
   replace h := iteF h hc17
   exact LH.skip (thenN ⟨l4, r16.2.L, r16.2.At, h, (Wk.trans (Wk.eq (el := [(0, .ptr 9 0), (4, .arr 109 (List.length l4))]) (ml := [(9, .box [.L r16.2.L, .I r16.2.At]), (109, .arr 100 3 (List.map Gq52.lv l4))]) R R R R) (Wk.trans (Wk.frzL (f := Gq52.lv) (el' := [(0, .ptr 9 0), (4, .lst 3 (List.map Gq52.lv l4))]) 109 100 3 l4 R R (prN R) (fK R (fZ fN))) (Wk.eq R R R R)))⟩)
  clear h
  rintro e m ⟨l5, l6, n7, h, hw⟩
  refine LH.wk hw ?_
  clear hw
  unfold Gq21 at h
  refine LH.seqT [(0, .ptr 9 0), (4, .lst 3 (List.map Gq52.lv l5)), (5, .nil)] [(9, .box [.L l6, .I n7])] R (sAn R zS) (LH.seq (LH.seqT [(0, .ptr 9 0), (4, .lst 3 (List.map Gq52.lv l5)), (5, .nil), (6, .I 0)] [(9, .box [.L l6, .I n7])] R (sAi R zS) (LH.block (LH.wk ((Wk.trans (Wk.eq (el := [(0, .ptr 9 0), (4, .lst 3 (List.map Gq52.lv l5)), (5, .nil), (6, .I 0)]) (ml := [(9, .box [.L l6, .I n7])]) R R R R) (Wk.trans (Wk.eq (el := [(0, .ptr 9 0), (4, .lst 3 (List.map Gq52.lv l5)), (5, .nil), (6, .I 0)]) (ml := [(9, .box [.L l6, .I n7])]) R R R R) (Wk.trans (Wk.ownL (el' := [(0, .ptr 9 0), (4, .lst 3 (List.map Gq52.lv l5)), (5, .arr 138 (List.length ([] : List Gq53))), (6, .I 0)]) 138 107 2 R R (wK (wK (wO (wK wN))))) (Wk.eq (el := [(0, .ptr 9 0), (4, .lst 3 (List.map Gq52.lv l5)), (5, .arr 138 (List.length ([] : List Gq53))), (6, .I 0)]) (ml := [(9, .box [.L l6, .I n7]), (138, .arr 107 2 (List.map Gq53.lv ([] : List Gq53)))]) R R R R))))) (LH.loop (fun n e m => ∃ (n8 : Int) (l9 : List Int) (n10 : Int) (l11 : List Gq53), Gq22 l5 n n8 l9 n10 l11 = some r ∧ e = Env.of [(0, .ptr 9 0), (4, .lst 3 (List.map Gq52.lv l5)), (5, .arr 138 (List.length l11)), (6, .I n8)] ∧ m = Mem.of [(9, .box [.L l9, .I n10]), (138, .arr 107 2 (List.map Gq53.lv l11))]) F ⟨0, l6, n7, ([] : List Gq53), h, R, R⟩ ?_)))))
  clear h
  rintro n e m ⟨n8, l9, n10, l11, h, rfl, rfl⟩
  rcases n with _ | n
  · cases (show Option.none = some _ from h)
  obtain ⟨rec3, hrec3⟩ : ∃ f, f = Gq22 l5 n := ⟨_, rfl⟩
  replace h : Gq23 l5 rec3 n8 l9 n10 l11 = some r := hrec3 ▸ h
  unfold Gq23 at h
  refine LH.seq (LH.seqT [(0, .ptr 9 0), (4, .lst 3 (List.map Gq52.lv l5)), (5, .arr 138 (List.length l11)), (6, .I n8), (27, .bool (decide (n8 < (l5.length : Int))))] [(9, .box [.L l9, .I n10]), (138, .arr 107 2 (List.map Gq53.lv l11))] R (sMi R (sMl R (sN (oLnL (f := Gq52.lv) te31 R (sN (oLt R R zS)))))) (LH.cond (t := (decide (n8 < (l5.length : Int)))) R (fun hc12 => ?_) (fun hc12 => ?_)))
  ·replace h := iteT h hc12
   refine LH.skip (thenN (LH.wk (Wk.eq (el := [(0, .ptr 9 0), (4, .lst 3 (List.map Gq52.lv l5)), (5, .arr 138 (List.length l11)), (6, .I n8)]) (ml := [(9, .box [.L l9, .I n10]), (138, .arr 107 2 (List.map Gq53.lv l11))]) R R R R) (LH.seq (LH.block ?_))))
   obtain ⟨x13, hx13, h⟩ := bindS h
   obtain ⟨r14, hr14, h⟩ := bindS h
   obtain ⟨v15, hv15, h⟩ := bindS h
   refine LH.loneT [(0, .ptr 9 0), (4, .lst 3 (List.map Gq52.lv l5)), (5, .arr 138 (List.length v15)), (6, .I n8)] [(9, .box [.L r14.2.L, .I r14.2.At]), (138, .arr 107 2 (List.map Gq53.lv v15))] R (sMa R (sMp R (sMl R (sMi R (sN (oIx (f := Gq52.lv) te31 tk100 ts100 R R Gq52.ok hx13 R (sN (oLdA R tk100 ta100 ts100 R R (sN (oCM (args := [.ptr 9 0, .agg [.I x13.Code, .I x13.Variant, .lst 6 (List.map GPart.lv x13.Parts)]]) (ml := [(9, .box [.L l9, .I n10])]) (ml' := [(9, .box [.L r14.2.L, .I r14.2.At])]) R isF60 R (sbR (sbR sbN)) (Gq28 hr14) (mC R mN) (newI R newN) R (sN (oBS (f := Gq53.lv) (ys := [r14.1]) te32 tr107 ts107 R R R Gq53.ok (sN (oAp (f := Gq53.lv) te32 tr107 ts107 R R (prN R) R hv15 (sAa R zS))))))))))))))) (blockN (thenN (LH.loneT [(0, .ptr 9 0), (4, .lst 3 (List.map Gq52.lv l5)), (5, .arr 138 (List.length v15)), (6, .I (i64 (n8 + 1)))] [(9, .box [.L r14.2.L, .I r14.2.At]), (138, .arr 107 2 (List.map Gq53.lv v15))] R (sMi R (sN (oAdd R R (sAi R zS)))) ?_)))
   exact roundI ⟨(i64 (n8 + 1)), r14.2.L, r14.2.At, v15, hrec3 ▸ h, R, R⟩ (Wk.eq R R R R)
  replace h := iteF h hc12
  refine LH.exit (thenX (roundX (blockH (thenN (LH.wk ((Wk.trans (Wk.eq (el := [(4, .lst 3 (List.map Gq52.lv l5)), (5, .arr 138 (List.length l11))]) (ml := [(9, .box [.L l9, .I n10]), (138, .arr 107 2 (List.map Gq53.lv l11))]) R R R R) (Wk.trans (Wk.frzL (f := Gq53.lv) (el' := [(4, .lst 3 (List.map Gq52.lv l5)), (5, .lst 2 (List.map Gq53.lv l11))]) 138 107 2 l11 R R (prN R) (fK R (fZ fN))) (Wk.eq (el := [(4, .lst 3 (List.map Gq52.lv l5)), (5, .lst 2 (List.map Gq53.lv l11))]) (ml := [(9, .box [.L l9, .I n10])]) R R R R)))) (LH.seqT [(2, .lst 3 (List.map Gq52.lv l5)), (3, .lst 2 (List.map Gq53.lv l11))] [(9, .box [.L l9, .I n10])] R (sMl R (sMl R (sAl R (sAl R zS)))) (LH.ret ?_)))))))
  obtain rfl := oI h
  exact retE (aT Try.results34) (lrT R (lrT R (lr0 ⟨memN (mC R mN), R, prK R, (Sub.tup (sbR (sbR sbN)))⟩)))

theorem Gq26 {p0 : GDice} {p1 : List Int} {r : Int × GDice} (h : Gq25 p0 p1 = some r) : LCall Try.prog 19 [.ptr 9 0, .L p1] (Mem.of [(9, .box [.L p0.L, .I p0.At])]) (.I r.1) (Mem.of [(9, .box [.L r.2.L, .I r.2.At])]) := by
  unfold Gq25 at h
  refine bodyT Try.func19 R (nT Try.ntmps19 R) (LH.wk (Wk.eq (el := [(0, .ptr 9 0), (1, .L p1)]) (ml := [(9, .box [.L p0.L, .I p0.At])]) R R R R) (LH.seqT [(0, .ptr 9 0), (1, .L p1)] [(9, .box [.L p0.L, .I p0.At])] R (sAi R zS) ?_))
  obtain ⟨r1, hr1, h⟩ := bindS h
  obtain ⟨x2, hx2, h⟩ := bindS h
  refine LH.seqT [(4, .I x2)] [(9, .box [.L r1.2.L, .I r1.2.At])] R (sMl R (sMp R (sMl R (sN (oLnL (f := LV.I) te22 R (sN (oCM (args := [.ptr 9 0, .I (p1.length : Int)]) (ml := [(9, .box [.L p0.L, .I p0.At])]) (ml' := [(9, .box [.L r1.2.L, .I r1.2.At])]) R isF18 R (sbR (sbR sbN)) (Gq15 hr1) (mC R mN) (newI R newN) R (sN (oIx (f := LV.I) te22 tk3 ts3 R R okI hx2 R (sN (oLd R tk3 ta3 (sAi R zS)))))))))))) (LH.ret ?_)
  obtain rfl := oI h
  exact retE (aT Try.results19) (lrT R (lr0 ⟨memN (mC R mN), R, prK R, Sub.rfl⟩))

theorem Gq11 {F : Nat} {p0 : GDice} {r : List Gq50 × GDice} (h : Gq8 F p0 = some r) : LCall Try.prog 35 [.ptr 9 0] (Mem.of [(9, .box [.L p0.L, .I p0.At])]) (.lst 5 (List.map Gq50.lv r.1)) (Mem.of [(9, .box [.L r.2.L, .I r.2.At])]) := by
  unfold Gq8 at h
  refine bodyT Try.func35 R (nT Try.ntmps35 R) (LH.wk (Wk.eq (el := [(0, .ptr 9 0)]) (ml := [(9, .box [.L p0.L, .I p0.At])]) R R R R) (LH.seqT [(0, .ptr 9 0)] [(9, .box [.L p0.L, .I p0.At])] R (sAn R zS) (LH.seqT [(0, .ptr 9 0), (3, .nil)] [(9, .box [.L p0.L, .I p0.At])] R (sAn R zS) (LH.seqT [(0, .ptr 9 0), (3, .nil), (4, .I 0)] [(9, .box [.L p0.L, .I p0.At])] R (sAi R zS) (LH.seq ?_)))))
  obtain ⟨r1, hr1, h⟩ := bindS h
  refine LH.seqT [(0, .ptr 9 0), (3, .nil), (4, .I 0), (5, .I (i64 (2 + r1.1)))] [(9, .box [.L r1.2.L, .I r1.2.At])] R (sMp R (sN (oCM (args := [.ptr 9 0, .I 4]) (ml := [(9, .box [.L p0.L, .I p0.At])]) (ml' := [(9, .box [.L r1.2.L, .I r1.2.At])]) R isF18 R (sbR (sbR sbN)) (Gq15 hr1) (mC R mN) (newI R newN) R (sN (oAdd R R (sAi R zS)))))) (LH.block (LH.wk ((Wk.trans (Wk.eq (el := [(0, .ptr 9 0), (3, .nil), (4, .I 0), (5, .I (i64 (2 + r1.1)))]) (ml := [(9, .box [.L r1.2.L, .I r1.2.At])]) R R R R) (Wk.trans (Wk.eq (el := [(0, .ptr 9 0), (3, .nil), (4, .I 0), (5, .I (i64 (2 + r1.1)))]) (ml := [(9, .box [.L r1.2.L, .I r1.2.At])]) R R R R) (Wk.trans (Wk.ownL (el' := [(0, .ptr 9 0), (3, .arr 140 (List.length ([] : List Gq50))), (4, .I 0), (5, .I (i64 (2 + r1.1)))]) 140 66 5 R R (wK (wO (wK (wK wN))))) (Wk.eq (el := [(0, .ptr 9 0), (3, .arr 140 (List.length ([] : List Gq50))), (4, .I 0), (5, .I (i64 (2 + r1.1)))]) (ml := [(9, .box [.L r1.2.L, .I r1.2.At]), (140, .arr 66 5 (List.map Gq50.lv ([] : List Gq50)))]) R R R R))))) (LH.loop (fun n e m => ∃ (n2 : Int) (n3 : Int) (l4 : List Int) (n5 : Int) (l6 : List Gq50), Gq9 n n2 n3 l4 n5 l6 = some r ∧ e = Env.of [(0, .ptr 9 0), (3, .arr 140 (List.length l6)), (4, .I n2), (5, .I n3)] ∧ m = Mem.of [(9, .box [.L l4, .I n5]), (140, .arr 66 5 (List.map Gq50.lv l6))]) F ⟨0, (i64 (2 + r1.1)), r1.2.L, r1.2.At, ([] : List Gq50), h, R, R⟩ ?_)))
  clear h
  rintro n e m ⟨n2, n3, l4, n5, l6, h, rfl, rfl⟩
  rcases n with _ | n
  · cases (show Option.none = some _ from h)
  obtain ⟨rec1, hrec1⟩ : ∃ f, f = Gq9 n := ⟨_, rfl⟩
  replace h : Gq10 rec1 n2 n3 l4 n5 l6 = some r := hrec1 ▸ h
  unfold Gq10 at h
  refine LH.seq (LH.seqT [(0, .ptr 9 0), (3, .arr 140 (List.length l6)), (4, .I n2), (5, .I n3), (10, .bool (decide (n3 > 0)))] [(9, .box [.L l4, .I n5]), (140, .arr 66 5 (List.map Gq50.lv l6))] R (sMi R (sN (oGt R R zS))) (LH.cond (t := (decide (n3 > 0))) R (fun hc7 => ?_) (fun hc7 => ?_)))
  ·replace h := iteT h hc7
   refine LH.skip (thenN (LH.wk (Wk.eq (el := [(0, .ptr 9 0), (3, .arr 140 (List.length l6)), (4, .I n2), (5, .I n3)]) (ml := [(9, .box [.L l4, .I n5]), (140, .arr 66 5 (List.map Gq50.lv l6))]) R R R R) (LH.seq (LH.block ?_))))
   obtain ⟨r8, hr8, h⟩ := bindS h
   refine LH.seqT [(0, .ptr 9 0), (3, .arr 140 (List.length l6)), (4, .I (i64 (n2 + (i64 (1 + r8.1))))), (5, .I n3)] [(9, .box [.L r8.2.L, .I r8.2.At]), (140, .arr 66 5 (List.map Gq50.lv l6))] R (sMi R (sMp R (sN (oCM (args := [.ptr 9 0, .I 3]) (ml := [(9, .box [.L l4, .I n5])]) (ml' := [(9, .box [.L r8.2.L, .I r8.2.At])]) R isF18 R (sbR (sbR sbN)) (Gq15 hr8) (mC R mN) (newI R newN) R (sN (oAdd R R (sN (oAdd R R (sAi R zS))))))))) ?_
   obtain ⟨r9, hr9, h⟩ := bindS h
   obtain ⟨r10, hr10, h⟩ := bindS h
   obtain ⟨r11, hr11, h⟩ := bindS h
   obtain ⟨r12, hr12, h⟩ := bindS h
   obtain ⟨x13, hx13, h⟩ := bindS h
   obtain ⟨v14, hv14, h⟩ := bindS h
   refine LH.loneT [(0, .ptr 9 0), (3, .arr 140 (List.length v14)), (4, .I (i64 (n2 + (i64 (1 + r8.1))))), (5, .I n3)] [(9, .box [.L r12.2.L, .I r12.2.At]), (140, .arr 66 5 (List.map Gq50.lv v14))] R ?_ ?_
   ·exact sMa R (sMi R (sMp R (sN (oBS (f := LV.I) (ys := [(-1), (-1), 1, 2, 3]) te22 tr3 ts3 R R R okI (sN (oCM (args := [.ptr 9 0, .L [(-1), (-1), 1, 2, 3]]) (ml := [(9, .box [.L r8.2.L, .I r8.2.At])]) (ml' := [(9, .box [.L r9.2.L, .I r9.2.At])]) R isF19 R (sbR (sbR sbN)) (Gq26 hr9) (mC R mN) (newI R newN) R (sMp R (sN (oBS (f := LV.I) (ys := [1, 1, 1, 2, 3]) te22 tr3 ts3 R R R okI (sN (oCM (args := [.ptr 9 0, .L [1, 1, 1, 2, 3]]) (ml := [(9, .box [.L r9.2.L, .I r9.2.At])]) (ml' := [(9, .box [.L r10.2.L, .I r10.2.At])]) R isF19 R (sbR (sbR sbN)) (Gq26 hr10) (mC R mN) (newI R newN) R (sMp R (sN (oBS (f := LV.I) (ys := [3, 2, 6, 0, 1]) te22 tr3 ts3 R R R okI (sN (oCM (args := [.ptr 9 0, .L [3, 2, 6, 0, 1]]) (ml := [(9, .box [.L r10.2.L, .I r10.2.At])]) (ml' := [(9, .box [.L r11.2.L, .I r11.2.At])]) R isF19 R (sbR (sbR sbN)) (Gq26 hr11) (mC R mN) (newI R newN) R (sN (oBS (f := LV.I) (ys := [0, 1]) te22 tr3 ts3 R R R okI (sN (oBS (f := LV.I) (ys := [0]) te22 tr3 ts3 R R R okI (sN (oBS (f := LV.I) (ys := [1]) te22 tr3 ts3 R R R okI (sN (oBS (f := LV.I) (ys := [0, 1]) te22 tr3 ts3 R R R okI (sN (oBS (f := (lvl 1 LV.I)) (ys := [[0, 1], [0], [1], [0, 1]]) te105 tr22 ts22 R R R okL (sMp R (sN (oCM (args := [.ptr 9 0, .I 4]) (ml := [(9, .box [.L r11.2.L, .I r11.2.At])]) (ml' := [(9, .box [.L r12.2.L, .I r12.2.At])]) R isF18 R (sbR (sbR sbN)) (Gq15 hr12) (mC R mN) (newI R newN) R (sN (oIx (f := (lvl 1 LV.I)) te105 tk22 ts22 R R okL hx13 R (sN (oLd R tk22 ta22 (sN (oBd (vs := [(0, .I (i64 (n2 + (i64 (1 + r8.1))))), (1, .I r9.1), (2, .I r10.1), (3, .I r11.1), (4, .L x13)]) tu66 tz66 R (lf tf66_0 ts3 tk3 R R R (lf tf66_1 ts3 tk3 R R R (lf tf66_2 ts3 tk3 R R R (lf tf66_3 ts3 tk3 R R R (lf tf66_4 ts22 tk22 R R R lf0))))) (sN (oBS (f := Gq50.lv) (ys := [(Gq50.mk (i64 (n2 + (i64 (1 + r8.1)))) r9.1 r10.1 r11.1 x13)]) te29 tr66 ts66 R R R Gq50.ok (sN (oAp (f := Gq50.lv) te29 tr66 ts66 R R (prN R) R hv14 (sAa R zS))))))))))))))))))))))))))))))))))))))))
   refine blockN (thenN (LH.loneT [(0, .ptr 9 0), (3, .arr 140 (List.length v14)), (4, .I (i64 (n2 + (i64 (1 + r8.1))))), (5, .I (i64 (n3 - 1)))] [(9, .box [.L r12.2.L, .I r12.2.At]), (140, .arr 66 5 (List.map Gq50.lv v14))] R (sMi R (sN (oSub R R (sAi R zS)))) ?_))
   exact roundI ⟨(i64 (n2 + (i64 (1 + r8.1)))), (i64 (n3 - 1)), r12.2.L, r12.2.At, v14, hrec1 ▸ h, R, R⟩ (Wk.eq R R R R)
  replace h := iteF h hc7
  refine LH.exit (thenX (roundX (blockH (thenN (LH.wk ((Wk.trans (Wk.eq (el := [(3, .arr 140 (List.length l6))]) (ml := [(9, .box [.L l4, .I n5]), (140, .arr 66 5 (List.map Gq50.lv l6))]) R R R R) (Wk.trans (Wk.frzL (f := Gq50.lv) (el' := [(3, .lst 5 (List.map Gq50.lv l6))]) 140 66 5 l6 R R (prN R) (fZ fN)) (Wk.eq (el := [(3, .lst 5 (List.map Gq50.lv l6))]) (ml := [(9, .box [.L l4, .I n5])]) R R R R)))) (LH.seqT [(2, .lst 5 (List.map Gq50.lv l6))] [(9, .box [.L l4, .I n5])] R (sMl R (sAl R zS)) (LH.ret ?_)))))))
  obtain rfl := oI h
  exact retE (aT Try.results35) (lrT R (lr0 ⟨memN (mC R mN), R, prK R, Sub.rfl⟩))

theorem Gq32 {F : Nat} {p0 : GDice} {p1 : Gq52} {p2 : Int} {r : Gq54 × GDice} (h : Gq29 F p0 p1 p2 = some r) : LCall Try.prog 61 [.ptr 9 0, .agg [.I p1.Code, .I p1.Variant, .lst 6 (List.map GPart.lv p1.Parts)], .I p2] (Mem.of [(9, .box [.L p0.L, .I p0.At])]) (Gq54.lv r.1) (Mem.of [(9, .box [.L r.2.L, .I r.2.At])]) := by
  unfold Gq29 at h
  refine bodyT Try.func61 R (nT Try.ntmps61 R) (LH.wk (Wk.eq (el := [(0, .ptr 9 0), (1, .agg [.I p1.Code, .I p1.Variant, .lst 6 (List.map GPart.lv p1.Parts)]), (2, .I p2)]) (ml := [(9, .box [.L p0.L, .I p0.At])]) R R R R) (LH.seqT [(0, .ptr 9 0), (2, .I p2), (4, .sptr [.I p1.Code, .I p1.Variant, .lst 6 (List.map GPart.lv p1.Parts)]), (6, .ptr 106 0)] [(9, .box [.L p0.L, .I p0.At]), (106, .box [.I 0, .I 0, .I 0, .I 0, .I 0, .nil, .nil])] R (sB (oBxR R R R R (sN (oAl (id := 106) R tz68 R R zS)))) ?_))
  obtain ⟨r1, hr1, h⟩ := bindS h
  obtain ⟨r2, hr2, h⟩ := bindS h
  refine LH.seqJM mixed [] [0, 0, 0, 0, 0, 0, 0, 0, 0, 100009, 0, 0, 0, 0, 0, 0, 0, 0, 0, 100009, 0, 0, 2, 100107] [(0, .ptr 9 0), (4, .sptr [.I p1.Code, .I p1.Variant, .lst 6 (List.map GPart.lv p1.Parts)]), (6, .ptr 106 0), (7, .ptr 107 0)] [(9, .box [.L r2.2.L, .I r2.2.At]), (106, .box [.I 0, .I 0, .I 0, .I 0, .I 0, .nil, .nil]), (107, .box [.I (i64 ((i64 (p1.Code * 10000)) + p2)), .I p1.Code, .I p2, .I (i64 (1 + r1.1)), .I p1.Variant, .L [(i64 ((i64 (100 * p2)) + p1.Code)), r2.1], .nil])] R R (by kernel_rfl) ?_ ?_
  ·exact mN0 (oFaS tf100_0 tk3 ts3 R R R ⟨R, mN0 (oLd R tk3 ta3 ⟨R, mN0 (oMul R R ⟨R, mMi R (mN0 (oAdd R R ⟨R, mN0 (oFaS tf100_0 tk3 ts3 R R R ⟨R, mN0 (oLd R tk3 ta3 ⟨R, mMi R (mMp R (mW R R R (fun _ b _ d => oCM (args := [.ptr 9 0, .I 3]) (ml := [(9, .box [.L p0.L, .I p0.At])]) (ml' := [(9, .box [.L r1.2.L, .I r1.2.At])]) R isF18 R (sbR (sbR sbN)) (Gq15 hr1) (mC b mN) (newI R newN) R d) (mN0 (oAdd R R ⟨R, mN0 (oFaS tf100_1 tk3 ts3 R R R ⟨R, mN0 (oLd R tk3 ta3 ⟨R, mMi R (mN0 (oMul R R ⟨R, mN0 (oFaS tf100_0 tk3 ts3 R R R ⟨R, mN0 (oLd R tk3 ta3 ⟨R, mN0 (oAdd R R ⟨R, mMp R (mW R R R (fun _ b _ d => oCM (args := [.ptr 9 0, .I 3]) (ml := [(9, .box [.L r1.2.L, .I r1.2.At])]) (ml' := [(9, .box [.L r2.2.L, .I r2.2.At])]) R isF18 R (sbR (sbR sbN)) (Gq15 hr2) (mC b mN) (newI R newN) R d) (mN0 (oBS (f := LV.I) (ys := [(i64 ((i64 (100 * p2)) + p1.Code)), r2.1]) te22 tr3 ts3 R R R okI ⟨R, mN0 (oBd (vs := [(0, .I (i64 ((i64 (p1.Code * 10000)) + p2))), (1, .I p1.Code), (2, .I p2), (3, .I (i64 (1 + r1.1))), (4, .I p1.Variant), (5, .L [(i64 ((i64 (100 * p2)) + p1.Code)), r2.1])]) tu68 tz68 R (lf tf68_0 ts3 tk3 R R R (lf tf68_1 ts3 tk3 R R R (lf tf68_2 ts3 tk3 R R R (lf tf68_3 ts3 tk3 R R R (lf tf68_4 ts3 tk3 R R R (lf tf68_5 ts22 tk22 R R R lf0)))))) ⟨R, mN2 (oAl (id := 107) R tz68 R R (mS R R R (fun _ b _ d => oSt R R R tk68 ts68 b R R d) zM))⟩)⟩)))⟩)⟩)⟩)⟩))⟩)⟩)⟩))))⟩)⟩)⟩))⟩)⟩)⟩)
  refine LH.seq (LH.seqT [(0, .ptr 9 0), (4, .sptr [.I p1.Code, .I p1.Variant, .lst 6 (List.map GPart.lv p1.Parts)]), (6, .ptr 106 0), (7, .ptr 107 0), (8, .I 0)] [(9, .box [.L r2.2.L, .I r2.2.At]), (106, .box [.I 0, .I 0, .I 0, .I 0, .I 0, .nil, .nil]), (107, .box [.I (i64 ((i64 (p1.Code * 10000)) + p2)), .I p1.Code, .I p2, .I (i64 (1 + r1.1)), .I p1.Variant, .L [(i64 ((i64 (100 * p2)) + p1.Code)), r2.1], .nil])] R (sAi R zS) (LH.block (LH.wk ((Wk.trans (Wk.eq (el := [(0, .ptr 9 0), (4, .sptr [.I p1.Code, .I p1.Variant, .lst 6 (List.map GPart.lv p1.Parts)]), (6, .ptr 106 0), (7, .ptr 107 0), (8, .I 0)]) (ml := [(9, .box [.L r2.2.L, .I r2.2.At]), (106, .box [.I 0, .I 0, .I 0, .I 0, .I 0, .nil, .nil]), (107, .box [.I (i64 ((i64 (p1.Code * 10000)) + p2)), .I p1.Code, .I p2, .I (i64 (1 + r1.1)), .I p1.Variant, .L [(i64 ((i64 (100 * p2)) + p1.Code)), r2.1], .nil])]) R R R R) (Wk.trans (Wk.eq (el := [(0, .ptr 9 0), (4, .sptr [.I p1.Code, .I p1.Variant, .lst 6 (List.map GPart.lv p1.Parts)]), (6, .ptr 106 0), (7, .ptr 107 0), (8, .I 0)]) (ml := [(9, .box [.L r2.2.L, .I r2.2.At]), (106, .box [.I 0, .I 0, .I 0, .I 0, .I 0, .nil, .nil]), (107, .box [.I (i64 ((i64 (p1.Code * 10000)) + p2)), .I p1.Code, .I p2, .I (i64 (1 + r1.1)), .I p1.Variant, .L [(i64 ((i64 (100 * p2)) + p1.Code)), r2.1], .nil])]) R R R R) (Wk.trans (Wk.ownBx 159 3 1 107 6 R R R R R (prN R)) (Wk.eq (el := [(0, .ptr 9 0), (4, .sptr [.I p1.Code, .I p1.Variant, .lst 6 (List.map GPart.lv p1.Parts)]), (6, .ptr 106 0), (7, .ptr 107 0), (8, .I 0)]) (ml := [(9, .box [.L r2.2.L, .I r2.2.At]), (106, .box [.I 0, .I 0, .I 0, .I 0, .I 0, .nil, .nil]), (107, .box [.I (i64 ((i64 (p1.Code * 10000)) + p2)), .I p1.Code, .I p2, .I (i64 (1 + r1.1)), .I p1.Variant, .L [(i64 ((i64 (100 * p2)) + p1.Code)), r2.1], .arr 159 (List.length ([] : List Int))]), (159, .arr 3 1 (List.map LV.I ([] : List Int)))]) R R R R))))) (LH.loop (fun n e m => ∃ (n3 : Int) (l4 : List Int) (n5 : Int) (l6 : List Int), Gq30 p1 p2 r1 r2 n n3 l4 n5 l6 = some r ∧ e = Env.of [(0, .ptr 9 0), (4, .sptr [.I p1.Code, .I p1.Variant, .lst 6 (List.map GPart.lv p1.Parts)]), (6, .ptr 106 0), (7, .ptr 107 0), (8, .I n3)] ∧ m = Mem.of [(9, .box [.L l4, .I n5]), (106, .box [.I 0, .I 0, .I 0, .I 0, .I 0, .nil, .nil]), (107, .box [.I (i64 ((i64 (p1.Code * 10000)) + p2)), .I p1.Code, .I p2, .I (i64 (1 + r1.1)), .I p1.Variant, .L [(i64 ((i64 (100 * p2)) + p1.Code)), r2.1], .arr 159 (List.length l6)]), (159, .arr 3 1 (List.map LV.I l6))]) F ⟨0, r2.2.L, r2.2.At, ([] : List Int), h, R, R⟩ ?_))))
  clear h
  rintro n e m ⟨n3, l4, n5, l6, h, rfl, rfl⟩
  rcases n with _ | n
  · cases (show Option.none = some _ from h)
  obtain ⟨rec1, hrec1⟩ : ∃ f, f = Gq30 p1 p2 r1 r2 n := ⟨_, rfl⟩
  replace h : Gq31 p1 p2 r1 r2 rec1 n3 l4 n5 l6 = some r := hrec1 ▸ h
  unfold Gq31 at h
  refine LH.seq (LH.seqT [(0, .ptr 9 0), (4, .sptr [.I p1.Code, .I p1.Variant, .lst 6 (List.map GPart.lv p1.Parts)]), (6, .ptr 106 0), (7, .ptr 107 0), (8, .I n3), (36, .bool (decide (n3 < (p1.Parts.length : Int))))] [(9, .box [.L l4, .I n5]), (106, .box [.I 0, .I 0, .I 0, .I 0, .I 0, .nil, .nil]), (107, .box [.I (i64 ((i64 (p1.Code * 10000)) + p2)), .I p1.Code, .I p2, .I (i64 (1 + r1.1)), .I p1.Variant, .L [(i64 ((i64 (100 * p2)) + p1.Code)), r2.1], .arr 159 (List.length l6)]), (159, .arr 3 1 (List.map LV.I l6))] R (sMi R (sN (oFaS tf100_2 tk98 ts98 R R R (sN (oLd R tk98 ta98 (sN (oLnL (f := GPart.lv) te98 R (sN (oLt R R zS))))))))) (LH.cond (t := (decide (n3 < (p1.Parts.length : Int)))) R (fun hc7 => ?_) (fun hc7 => ?_)))
  ·replace h := iteT h hc7
   refine LH.skip (thenN (LH.wk (Wk.eq (el := [(0, .ptr 9 0), (4, .sptr [.I p1.Code, .I p1.Variant, .lst 6 (List.map GPart.lv p1.Parts)]), (6, .ptr 106 0), (7, .ptr 107 0), (8, .I n3)]) (ml := [(9, .box [.L l4, .I n5]), (106, .box [.I 0, .I 0, .I 0, .I 0, .I 0, .nil, .nil]), (107, .box [.I (i64 ((i64 (p1.Code * 10000)) + p2)), .I p1.Code, .I p2, .I (i64 (1 + r1.1)), .I p1.Variant, .L [(i64 ((i64 (100 * p2)) + p1.Code)), r2.1], .arr 159 (List.length l6)]), (159, .arr 3 1 (List.map LV.I l6))]) R R R R) (LH.seq (LH.block (LH.seqT [(0, .ptr 9 0), (4, .sptr [.I p1.Code, .I p1.Variant, .lst 6 (List.map GPart.lv p1.Parts)]), (6, .ptr 106 0), (7, .ptr 107 0), (8, .I n3), (9, .I (-1))] [(9, .box [.L l4, .I n5]), (106, .box [.I 0, .I 0, .I 0, .I 0, .I 0, .nil, .nil]), (107, .box [.I (i64 ((i64 (p1.Code * 10000)) + p2)), .I p1.Code, .I p2, .I (i64 (1 + r1.1)), .I p1.Variant, .L [(i64 ((i64 (100 * p2)) + p1.Code)), r2.1], .arr 159 (List.length l6)]), (159, .arr 3 1 (List.map LV.I l6))] R (sAi R zS) (LH.seq ?_))))))
   obtain ⟨x8, hx8, h⟩ := bindS h
   refine LH.seqT [(0, .ptr 9 0), (4, .sptr [.I p1.Code, .I p1.Variant, .lst 6 (List.map GPart.lv p1.Parts)]), (6, .ptr 106 0), (7, .ptr 107 0), (8, .I n3), (9, .I (-1)), (45, .bool (x8.Kind == 2))] [(9, .box [.L l4, .I n5]), (106, .box [.I 0, .I 0, .I 0, .I 0, .I 0, .nil, .nil]), (107, .box [.I (i64 ((i64 (p1.Code * 10000)) + p2)), .I p1.Code, .I p2, .I (i64 (1 + r1.1)), .I p1.Variant, .L [(i64 ((i64 (100 * p2)) + p1.Code)), r2.1], .arr 159 (List.length l6)]), (159, .arr 3 1 (List.map LV.I l6))] R (sN (oFaS tf100_2 tk98 ts98 R R R (sN (oLd R tk98 ta98 (sMi R (sN (oIx (f := GPart.lv) te98 tk103 ts103 R R GPart.ok hx8 R (sN (oFaS tf103_0 tk3 ts3 R R R (sN (oLd R tk3 ta3 (sN (oEq R R zS))))))))))))) (LH.cond (t := (x8.Kind == 2)) R (fun hc9 => ?_) (fun hc9 => ?_))
   ·replace h := iteT h hc9
    obtain ⟨x10, hx10, h⟩ := bindS h
    obtain ⟨r11, hr11, h⟩ := bindS h
    refine LH.loneT [(0, .ptr 9 0), (4, .sptr [.I p1.Code, .I p1.Variant, .lst 6 (List.map GPart.lv p1.Parts)]), (6, .ptr 106 0), (7, .ptr 107 0), (8, .I n3), (9, .I r11.1)] [(9, .box [.L r11.2.L, .I r11.2.At]), (106, .box [.I 0, .I 0, .I 0, .I 0, .I 0, .nil, .nil]), (107, .box [.I (i64 ((i64 (p1.Code * 10000)) + p2)), .I p1.Code, .I p2, .I (i64 (1 + r1.1)), .I p1.Variant, .L [(i64 ((i64 (100 * p2)) + p1.Code)), r2.1], .arr 159 (List.length l6)]), (159, .arr 3 1 (List.map LV.I l6))] R (sMp R (sN (oFaS tf100_2 tk98 ts98 R R R (sN (oLd R tk98 ta98 (sMi R (sN (oIx (f := GPart.lv) te98 tk103 ts103 R R GPart.ok hx10 R (sN (oFaS tf103_5 tk3 ts3 R R R (sN (oLd R tk3 ta3 (sN (oBS (f := LV.I) (ys := [x10.Key, 0, 1, (-1), (-2)]) te22 tr3 ts3 R R R okI (sN (oCM (args := [.ptr 9 0, .L [x10.Key, 0, 1, (-1), (-2)]]) (ml := [(9, .box [.L l4, .I n5])]) (ml' := [(9, .box [.L r11.2.L, .I r11.2.At])]) R isF19 R (sbR (sbR sbN)) (Gq26 hr11) (mC R mN) (newI R newN) R (sAi R zS))))))))))))))))) (thenN ?_)
    obtain ⟨v12, hv12, h⟩ := bindS h
    refine LH.loneT [(0, .ptr 9 0), (4, .sptr [.I p1.Code, .I p1.Variant, .lst 6 (List.map GPart.lv p1.Parts)]), (6, .ptr 106 0), (7, .ptr 107 0), (8, .I n3)] [(9, .box [.L r11.2.L, .I r11.2.At]), (106, .box [.I 0, .I 0, .I 0, .I 0, .I 0, .nil, .nil]), (107, .box [.I (i64 ((i64 (p1.Code * 10000)) + p2)), .I p1.Code, .I p2, .I (i64 (1 + r1.1)), .I p1.Variant, .L [(i64 ((i64 (100 * p2)) + p1.Code)), r2.1], .arr 159 (List.length v12)]), (159, .arr 3 1 (List.map LV.I v12))] R (sN (oFa tf68_6 tk22 ts22 R R (sN (oLdP R R R R tk22 ta22 (sMi R (sN (oBS (f := LV.I) (ys := [r11.1]) te22 tr3 ts3 R R R okI (sN (oAp (f := LV.I) te22 tr3 ts3 R R (prN R) R hv12 (sN (oFa tf68_6 tk22 ts22 R R (s_ (oSt R R R tk22 ts22 R R R zS))))))))))))) (blockN (thenN (LH.loneT [(0, .ptr 9 0), (4, .sptr [.I p1.Code, .I p1.Variant, .lst 6 (List.map GPart.lv p1.Parts)]), (6, .ptr 106 0), (7, .ptr 107 0), (8, .I (i64 (n3 + 1)))] [(9, .box [.L r11.2.L, .I r11.2.At]), (106, .box [.I 0, .I 0, .I 0, .I 0, .I 0, .nil, .nil]), (107, .box [.I (i64 ((i64 (p1.Code * 10000)) + p2)), .I p1.Code, .I p2, .I (i64 (1 + r1.1)), .I p1.Variant, .L [(i64 ((i64 (100 * p2)) + p1.Code)), r2.1], .arr 159 (List.length v12)]), (159, .arr 3 1 (List.map LV.I v12))] R (sMi R (sN (oAdd R R (sAi R zS)))) ?_)))
    exact roundI ⟨(i64 (n3 + 1)), r11.2.L, r11.2.At, v12, hrec1 ▸ h, R, R⟩ (Wk.eq R R R R)
   replace h := iteF h hc9
   refine LH.skip (thenN ?_)
   obtain ⟨v13, hv13, h⟩ := bindS h
   refine LH.loneT [(0, .ptr 9 0), (4, .sptr [.I p1.Code, .I p1.Variant, .lst 6 (List.map GPart.lv p1.Parts)]), (6, .ptr 106 0), (7, .ptr 107 0), (8, .I n3)] [(9, .box [.L l4, .I n5]), (106, .box [.I 0, .I 0, .I 0, .I 0, .I 0, .nil, .nil]), (107, .box [.I (i64 ((i64 (p1.Code * 10000)) + p2)), .I p1.Code, .I p2, .I (i64 (1 + r1.1)), .I p1.Variant, .L [(i64 ((i64 (100 * p2)) + p1.Code)), r2.1], .arr 159 (List.length v13)]), (159, .arr 3 1 (List.map LV.I v13))] R (sN (oFa tf68_6 tk22 ts22 R R (sN (oLdP R R R R tk22 ta22 (sMi R (sN (oBS (f := LV.I) (ys := [(-1)]) te22 tr3 ts3 R R R okI (sN (oAp (f := LV.I) te22 tr3 ts3 R R (prN R) R hv13 (sN (oFa tf68_6 tk22 ts22 R R (s_ (oSt R R R tk22 ts22 R R R zS))))))))))))) (blockN (thenN (LH.loneT [(0, .ptr 9 0), (4, .sptr [.I p1.Code, .I p1.Variant, .lst 6 (List.map GPart.lv p1.Parts)]), (6, .ptr 106 0), (7, .ptr 107 0), (8, .I (i64 (n3 + 1)))] [(9, .box [.L l4, .I n5]), (106, .box [.I 0, .I 0, .I 0, .I 0, .I 0, .nil, .nil]), (107, .box [.I (i64 ((i64 (p1.Code * 10000)) + p2)), .I p1.Code, .I p2, .I (i64 (1 + r1.1)), .I p1.Variant, .L [(i64 ((i64 (100 * p2)) + p1.Code)), r2.1], .arr 159 (List.length v13)]), (159, .arr 3 1 (List.map LV.I v13))] R (sMi R (sN (oAdd R R (sAi R zS)))) ?_)))
   exact roundI ⟨(i64 (n3 + 1)), l4, n5, v13, hrec1 ▸ h, R, R⟩ (Wk.eq R R R R)
  replace h := iteF h hc7
  refine LH.exit (thenX (roundX (blockH (thenN (LH.wk ((Wk.trans (Wk.eq (el := [(6, .ptr 106 0), (7, .ptr 107 0)]) (ml := [(9, .box [.L l4, .I n5]), (106, .box [.I 0, .I 0, .I 0, .I 0, .I 0, .nil, .nil]), (107, .box [.I (i64 ((i64 (p1.Code * 10000)) + p2)), .I p1.Code, .I p2, .I (i64 (1 + r1.1)), .I p1.Variant, .L [(i64 ((i64 (100 * p2)) + p1.Code)), r2.1], .arr 159 (List.length l6)]), (159, .arr 3 1 (List.map LV.I l6))]) R R R R) (Wk.trans (Wk.eq (el := [(6, .ptr 106 0), (7, .ptr 107 0)]) (ml := [(9, .box [.L l4, .I n5]), (106, .box [.I 0, .I 0, .I 0, .I 0, .I 0, .nil, .nil]), (107, .box [.I (i64 ((i64 (p1.Code * 10000)) + p2)), .I p1.Code, .I p2, .I (i64 (1 + r1.1)), .I p1.Variant, .L [(i64 ((i64 (100 * p2)) + p1.Code)), r2.1], .arr 159 (List.length l6)]), (159, .arr 3 1 (List.map LV.I l6))]) R R R R) (Wk.trans (Wk.trans (Wk.frzBx (f := LV.I) 159 3 1 l6 107 R R R (frAK R (frAK R (frAK R (frAK R (frAK R (frAK R (frAZ frA0))))))) R R (prN R)) (Wk.eq (el := [(6, .ptr 106 0), (7, .ptr 107 0)]) (ml := [(9, .box [.L l4, .I n5]), (106, .box [.I 0, .I 0, .I 0, .I 0, .I 0, .nil, .nil]), (107, .box [.I (i64 ((i64 (p1.Code * 10000)) + p2)), .I p1.Code, .I p2, .I (i64 (1 + r1.1)), .I p1.Variant, .L [(i64 ((i64 (100 * p2)) + p1.Code)), r2.1], .L l6])]) R R R R)) (Wk.trans (Wk.frzB 107 [.I (i64 ((i64 (p1.Code * 10000)) + p2)), .I p1.Code, .I p2, .I (i64 (1 + r1.1)), .I p1.Variant, .L [(i64 ((i64 (100 * p2)) + p1.Code)), r2.1], .L l6] R R R (prN R)) (Wk.eq (el := [(6, .ptr 106 0), (7, .sptr [.I (i64 ((i64 (p1.Code * 10000)) + p2)), .I p1.Code, .I p2, .I (i64 (1 + r1.1)), .I p1.Variant, .L [(i64 ((i64 (100 * p2)) + p1.Code)), r2.1], .L l6])]) (ml := [(9, .box [.L l4, .I n5]), (106, .box [.I 0, .I 0, .I 0, .I 0, .I 0, .nil, .nil])]) R R R R)))))) (LH.seqT [(6, .sptr [.I (i64 ((i64 (p1.Code * 10000)) + p2)), .I p1.Code, .I p2, .I (i64 (1 + r1.1)), .I p1.Variant, .L [(i64 ((i64 (100 * p2)) + p1.Code)), r2.1], .L l6])] [(9, .box [.L l4, .I n5])] R (sN (oLdA R tk68 ta68 ts68 R R (s_ (oSt R R R tk68 ts68 R R R (s0 ((Wk.trans (Wk.eq (el := [(6, .ptr 106 0)]) (ml := [(9, .box [.L l4, .I n5]), (106, .box [.I (i64 ((i64 (p1.Code * 10000)) + p2)), .I p1.Code, .I p2, .I (i64 (1 + r1.1)), .I p1.Variant, .L [(i64 ((i64 (100 * p2)) + p1.Code)), r2.1], .L l6])]) R R R R) (Wk.trans (Wk.frzB 106 [.I (i64 ((i64 (p1.Code * 10000)) + p2)), .I p1.Code, .I p2, .I (i64 (1 + r1.1)), .I p1.Variant, .L [(i64 ((i64 (100 * p2)) + p1.Code)), r2.1], .L l6] R R R (prN R)) (Wk.eq R R R R))))))))) (LH.ret ?_)))))))
  obtain rfl := oI h
  exact retE (aT Try.results61) (lrSA R tk68 ta68 ts68 R R (lr0 ⟨memN (mC R mN), R, prK R, Sub.rfl⟩))

theorem Gq40 {F : Nat} {p0 : GDice} {p1 : List Gq52} {p2 : Int} {r : List Gq54 × GDice} (h : Gq33 F p0 p1 p2 = some r) : LCall Try.prog 36 [.ptr 9 0, .lst 3 (List.map Gq52.lv p1), .I p2] (Mem.of [(9, .box [.L p0.L, .I p0.At])]) (.lst 7 (List.map Gq54.lv r.1)) (Mem.of [(9, .box [.L r.2.L, .I r.2.At])]) := by
  unfold Gq33 at h
  refine bodyT Try.func36 R (nT Try.ntmps36 R) (LH.wk (Wk.eq (el := [(0, .ptr 9 0), (1, .lst 3 (List.map Gq52.lv p1)), (2, .I p2)]) (ml := [(9, .box [.L p0.L, .I p0.At])]) R R R R) (LH.seqT [(0, .ptr 9 0), (1, .lst 3 (List.map Gq52.lv p1)), (2, .I p2)] [(9, .box [.L p0.L, .I p0.At])] R (sAn R zS) (LH.seqT [(0, .ptr 9 0), (1, .lst 3 (List.map Gq52.lv p1)), (2, .I p2), (7, .nil)] [(9, .box [.L p0.L, .I p0.At])] R (sAn R zS) (LH.seq (LH.seqT [(0, .ptr 9 0), (1, .lst 3 (List.map Gq52.lv p1)), (2, .I p2), (7, .nil), (8, .I 0)] [(9, .box [.L p0.L, .I p0.At])] R (sAi R zS) (LH.block (LH.wk ((Wk.trans (Wk.eq (el := [(0, .ptr 9 0), (1, .lst 3 (List.map Gq52.lv p1)), (2, .I p2), (7, .nil), (8, .I 0)]) (ml := [(9, .box [.L p0.L, .I p0.At])]) R R R R) (Wk.trans (Wk.eq (el := [(0, .ptr 9 0), (1, .lst 3 (List.map Gq52.lv p1)), (2, .I p2), (7, .nil), (8, .I 0)]) (ml := [(9, .box [.L p0.L, .I p0.At])]) R R R R) (Wk.trans (Wk.ownL (el' := [(0, .ptr 9 0), (1, .lst 3 (List.map Gq52.lv p1)), (2, .I p2), (7, .arr 161 (List.length ([] : List Gq54))), (8, .I 0)]) 161 68 7 R R (wK (wK (wK (wO (wK wN)))))) (Wk.eq (el := [(0, .ptr 9 0), (1, .lst 3 (List.map Gq52.lv p1)), (2, .I p2), (7, .arr 161 (List.length ([] : List Gq54))), (8, .I 0)]) (ml := [(9, .box [.L p0.L, .I p0.At]), (161, .arr 68 7 (List.map Gq54.lv ([] : List Gq54)))]) R R R R))))) (LH.loop (fun n e m => ∃ (n1 : Int) (l2 : List Int) (n3 : Int) (l4 : List Gq54), Gq34 F p1 p2 n n1 l2 n3 l4 = some r ∧ e = Env.of [(0, .ptr 9 0), (1, .lst 3 (List.map Gq52.lv p1)), (2, .I p2), (7, .arr 161 (List.length l4)), (8, .I n1)] ∧ m = Mem.of [(9, .box [.L l2, .I n3]), (161, .arr 68 7 (List.map Gq54.lv l4))]) F ⟨0, p0.L, p0.At, ([] : List Gq54), h, R, R⟩ ?_))))))))
  clear h
  rintro n e m ⟨n1, l2, n3, l4, h, rfl, rfl⟩
  rcases n with _ | n
  · cases (show Option.none = some _ from h)
  obtain ⟨rec1, hrec1⟩ : ∃ f, f = Gq34 F p1 p2 n := ⟨_, rfl⟩
  replace h : Gq35 F p1 p2 rec1 n1 l2 n3 l4 = some r := hrec1 ▸ h
  unfold Gq35 at h
  refine LH.seq (LH.seqT [(0, .ptr 9 0), (1, .lst 3 (List.map Gq52.lv p1)), (2, .I p2), (7, .arr 161 (List.length l4)), (8, .I n1), (13, .bool (decide (n1 < 2)))] [(9, .box [.L l2, .I n3]), (161, .arr 68 7 (List.map Gq54.lv l4))] R (sMi R (sN (oLt R R zS))) (LH.cond (t := (decide (n1 < 2))) R (fun hc5 => ?_) (fun hc5 => ?_)))
  ·replace h := iteT h hc5
   refine LH.skip (thenN (LH.wk (Wk.eq (el := [(0, .ptr 9 0), (1, .lst 3 (List.map Gq52.lv p1)), (2, .I p2), (7, .arr 161 (List.length l4)), (8, .I n1)]) (ml := [(9, .box [.L l2, .I n3]), (161, .arr 68 7 (List.map Gq54.lv l4))]) R R R R) (LH.seq (LH.block (LH.seqT [(0, .ptr 9 0), (1, .lst 3 (List.map Gq52.lv p1)), (2, .I p2), (7, .arr 161 (List.length l4)), (8, .I n1), (9, .nil)] [(9, .box [.L l2, .I n3]), (161, .arr 68 7 (List.map Gq54.lv l4))] R (sAn R zS) (LH.seq (LH.seqT [(0, .ptr 9 0), (1, .lst 3 (List.map Gq52.lv p1)), (2, .I p2), (7, .arr 161 (List.length l4)), (8, .I n1), (9, .nil), (10, .I 0)] [(9, .box [.L l2, .I n3]), (161, .arr 68 7 (List.map Gq54.lv l4))] R (sAi R zS) (LH.block (LH.wk ((Wk.trans (Wk.eq (el := [(0, .ptr 9 0), (1, .lst 3 (List.map Gq52.lv p1)), (2, .I p2), (7, .arr 161 (List.length l4)), (8, .I n1), (9, .nil), (10, .I 0)]) (ml := [(9, .box [.L l2, .I n3]), (161, .arr 68 7 (List.map Gq54.lv l4))]) R R R R) (Wk.trans (Wk.eq (el := [(0, .ptr 9 0), (1, .lst 3 (List.map Gq52.lv p1)), (2, .I p2), (7, .arr 161 (List.length l4)), (8, .I n1), (9, .nil), (10, .I 0)]) (ml := [(9, .box [.L l2, .I n3]), (161, .arr 68 7 (List.map Gq54.lv l4))]) R R R R) (Wk.trans (Wk.ownL (el' := [(0, .ptr 9 0), (1, .lst 3 (List.map Gq52.lv p1)), (2, .I p2), (7, .arr 161 (List.length l4)), (8, .I n1), (9, .arr 135 (List.length ([] : List Gq52))), (10, .I 0)]) 135 100 3 R R (wK (wK (wK (wK (wK (wO (wK wN)))))))) (Wk.eq (el := [(0, .ptr 9 0), (1, .lst 3 (List.map Gq52.lv p1)), (2, .I p2), (7, .arr 161 (List.length l4)), (8, .I n1), (9, .arr 135 (List.length ([] : List Gq52))), (10, .I 0)]) (ml := [(9, .box [.L l2, .I n3]), (135, .arr 100 3 (List.map Gq52.lv ([] : List Gq52))), (161, .arr 68 7 (List.map Gq54.lv l4))]) R R R R))))) (LH.loop (fun n e m => ∃ (n6 : Int) (l7 : List Gq52), Gq36 rec1 F p1 p2 n1 l2 n3 l4 n n6 l7 = some r ∧ e = Env.of [(0, .ptr 9 0), (1, .lst 3 (List.map Gq52.lv p1)), (2, .I p2), (7, .arr 161 (List.length l4)), (8, .I n1), (9, .arr 135 (List.length l7)), (10, .I n6)] ∧ m = Mem.of [(9, .box [.L l2, .I n3]), (135, .arr 100 3 (List.map Gq52.lv l7)), (161, .arr 68 7 (List.map Gq54.lv l4))]) F ⟨0, ([] : List Gq52), h, R, R⟩ ?_))))))))))
   clear h
   rintro n e m ⟨n6, l7, h, rfl, rfl⟩
   rcases n with _ | n
   · cases (show Option.none = some _ from h)
   obtain ⟨rec2, hrec2⟩ : ∃ f, f = Gq36 rec1 F p1 p2 n1 l2 n3 l4 n := ⟨_, rfl⟩
   replace h : Gq37 rec1 F p1 p2 n1 l2 n3 l4 rec2 n6 l7 = some r := hrec2 ▸ h
   unfold Gq37 at h
   refine LH.seq (LH.seqT [(0, .ptr 9 0), (1, .lst 3 (List.map Gq52.lv p1)), (2, .I p2), (7, .arr 161 (List.length l4)), (8, .I n1), (9, .arr 135 (List.length l7)), (10, .I n6), (19, .bool (decide (n6 < (p1.length : Int))))] [(9, .box [.L l2, .I n3]), (135, .arr 100 3 (List.map Gq52.lv l7)), (161, .arr 68 7 (List.map Gq54.lv l4))] R (sMi R (sMl R (sN (oLnL (f := Gq52.lv) te31 R (sN (oLt R R zS)))))) (LH.cond (t := (decide (n6 < (p1.length : Int)))) R (fun hc8 => ?_) (fun hc8 => ?_)))
   ·replace h := iteT h hc8
    refine LH.skip (thenN (LH.wk (Wk.eq (el := [(0, .ptr 9 0), (1, .lst 3 (List.map Gq52.lv p1)), (2, .I p2), (7, .arr 161 (List.length l4)), (8, .I n1), (9, .arr 135 (List.length l7)), (10, .I n6)]) (ml := [(9, .box [.L l2, .I n3]), (135, .arr 100 3 (List.map Gq52.lv l7)), (161, .arr 68 7 (List.map Gq54.lv l4))]) R R R R) (LH.seq (LH.block ?_))))
    obtain ⟨x9, hx9, h⟩ := bindS h
    refine LH.seqT [(0, .ptr 9 0), (1, .lst 3 (List.map Gq52.lv p1)), (2, .I p2), (7, .arr 161 (List.length l4)), (8, .I n1), (9, .arr 135 (List.length l7)), (10, .I n6), (28, .bool (x9.Code == n1))] [(9, .box [.L l2, .I n3]), (135, .arr 100 3 (List.map Gq52.lv l7)), (161, .arr 68 7 (List.map Gq54.lv l4))] R (sMl R (sMi R (sN (oIx (f := Gq52.lv) te31 tk100 ts100 R R Gq52.ok hx9 R (sN (oFaS tf100_0 tk3 ts3 R R R (sN (oLd R tk3 ta3 (sMi R (sN (oEq R R zS))))))))))) (LH.cond (t := (x9.Code == n1)) R (fun hc10 => ?_) (fun hc10 => ?_))
    ·replace h := iteT h hc10
     obtain ⟨x11, hx11, h⟩ := bindS h
     obtain ⟨v12, hv12, h⟩ := bindS h
     refine LH.loneT [(0, .ptr 9 0), (1, .lst 3 (List.map Gq52.lv p1)), (2, .I p2), (7, .arr 161 (List.length l4)), (8, .I n1), (9, .arr 135 (List.length v12)), (10, .I n6)] [(9, .box [.L l2, .I n3]), (135, .arr 100 3 (List.map Gq52.lv v12)), (161, .arr 68 7 (List.map Gq54.lv l4))] R (sMa R (sMl R (sMi R (sN (oIx (f := Gq52.lv) te31 tk100 ts100 R R Gq52.ok hx11 R (sN (oLdA R tk100 ta100 ts100 R R (sN (oBS (f := Gq52.lv) (ys := [x11]) te31 tr100 ts100 R R R Gq52.ok (sN (oAp (f := Gq52.lv) te31 tr100 ts100 R R (prN R) R hv12 (sAa R zS)))))))))))) (blockN (thenN (LH.loneT [(0, .ptr 9 0), (1, .lst 3 (List.map Gq52.lv p1)), (2, .I p2), (7, .arr 161 (List.length l4)), (8, .I n1), (9, .arr 135 (List.length v12)), (10, .I (i64 (n6 + 1)))] [(9, .box [.L l2, .I n3]), (135, .arr 100 3 (List.map Gq52.lv v12)), (161, .arr 68 7 (List.map Gq54.lv l4))] R (sMi R (sN (oAdd R R (sAi R zS)))) ?_)))
     exact roundI ⟨(i64 (n6 + 1)), v12, hrec2 ▸ h, R, R⟩ (Wk.eq R R R R)
    replace h := iteF h hc10
    refine LH.skip (blockN (thenN (LH.loneT [(0, .ptr 9 0), (1, .lst 3 (List.map Gq52.lv p1)), (2, .I p2), (7, .arr 161 (List.length l4)), (8, .I n1), (9, .arr 135 (List.length l7)), (10, .I (i64 (n6 + 1)))] [(9, .box [.L l2, .I n3]), (135, .arr 100 3 (List.map Gq52.lv l7)), (161, .arr 68 7 (List.map Gq54.lv l4))] R (sMi R (sN (oAdd R R (sAi R zS)))) ?_)))
    exact roundI ⟨(i64 (n6 + 1)), l7, hrec2 ▸ h, R, R⟩ (Wk.eq R R R R)
   replace h := iteF h hc8
   refine LH.exit (thenX (roundX (blockH (thenN (LH.wk ((Wk.trans (Wk.eq (el := [(0, .ptr 9 0), (1, .lst 3 (List.map Gq52.lv p1)), (2, .I p2), (7, .arr 161 (List.length l4)), (8, .I n1), (9, .arr 135 (List.length l7))]) (ml := [(9, .box [.L l2, .I n3]), (135, .arr 100 3 (List.map Gq52.lv l7)), (161, .arr 68 7 (List.map Gq54.lv l4))]) R R R R) (Wk.trans (Wk.frzL (f := Gq52.lv) (el' := [(0, .ptr 9 0), (1, .lst 3 (List.map Gq52.lv p1)), (2, .I p2), (7, .arr 161 (List.length l4)), (8, .I n1), (9, .lst 3 (List.map Gq52.lv l7))]) 135 100 3 l7 R R (prN R) (fK R (fK R (fK R (fK R (fK R (fZ fN))))))) (Wk.eq (el := [(0, .ptr 9 0), (1, .lst 3 (List.map Gq52.lv p1)), (2, .I p2), (7, .arr 161 (List.length l4)), (8, .I n1), (9, .lst 3 (List.map Gq52.lv l7))]) (ml := [(9, .box [.L l2, .I n3]), (161, .arr 68 7 (List.map Gq54.lv l4))]) R R R R)))) (LH.seqT [(0, .ptr 9 0), (1, .lst 3 (List.map Gq52.lv p1)), (2, .I p2), (7, .arr 161 (List.length l4)), (8, .I n1), (9, .lst 3 (List.map Gq52.lv l7)), (11, .I 1)] [(9, .box [.L l2, .I n3]), (161, .arr 68 7 (List.map Gq54.lv l4))] R (sAi R zS) (LH.block (LH.loop (fun n e m => ∃ (n13 : Int) (l14 : List Int) (n15 : Int) (l16 : List Gq54), Gq38 rec1 F p2 n1 l7 n n13 l14 n15 l16 = some r ∧ e = Env.of [(0, .ptr 9 0), (1, .lst 3 (List.map Gq52.lv p1)), (2, .I p2), (7, .arr 161 (List.length l16)), (8, .I n1), (9, .lst 3 (List.map Gq52.lv l7)), (11, .I n13)] ∧ m = Mem.of [(9, .box [.L l14, .I n15]), (161, .arr 68 7 (List.map Gq54.lv l16))]) F ⟨1, l2, n3, l4, h, R, R⟩ ?_))))))))
   clear h
   rintro n e m ⟨n13, l14, n15, l16, h, rfl, rfl⟩
   rcases n with _ | n
   · cases (show Option.none = some _ from h)
   obtain ⟨rec3, hrec3⟩ : ∃ f, f = Gq38 rec1 F p2 n1 l7 n := ⟨_, rfl⟩
   replace h : Gq39 rec1 F p2 n1 l7 rec3 n13 l14 n15 l16 = some r := hrec3 ▸ h
   unfold Gq39 at h
   refine LH.seq (LH.seqT [(0, .ptr 9 0), (1, .lst 3 (List.map Gq52.lv p1)), (2, .I p2), (7, .arr 161 (List.length l16)), (8, .I n1), (9, .lst 3 (List.map Gq52.lv l7)), (11, .I n13), (43, .bool ((decide (n13 ≤ p2)) && (decide ((l7.length : Int) > 0))))] [(9, .box [.L l14, .I n15]), (161, .arr 68 7 (List.map Gq54.lv l16))] R ?_ ?_)
   ·refine sMi R (sMi R (sN (oLe R R (sMb R ?_))))
    by_cases hb18 : (decide (n13 ≤ p2)) = true
    ·exact sT R (cB hb18) (oM (v := (.lst _ _)) R (sT R (cB hb18) (oLnL (f := Gq52.lv) te31 R (sT R (cB hb18) (oGt R R (sN (oPkT (cB hb18) (v := (.bool _)) R (s0 (Wk.to (eC R (eC R (eC R (eC R (eC R (eC R (eC R (eC (cB (andT hb18)) eN)))))))) ⟨R, R, trivial⟩ R (prK R))))))))))
    ·replace hb18 := bF hb18
     exact sF R R hb18 (sF R R hb18 (sF R R hb18 (sN (oPkF (cB hb18) (v := (.bool _)) R (s0 (Wk.to (eC R (eC R (eC R (eC R (eC R (eC R (eC R (eC (cB (andF hb18)) eN)))))))) ⟨R, R, trivial⟩ R (prK R)))))))
   refine LH.cond (t := ((decide (n13 ≤ p2)) && (decide ((l7.length : Int) > 0)))) R (fun hc19 => ?_) (fun hc19 => ?_)
   ·replace h := iteT h hc19
    refine LH.skip (thenN (LH.wk (Wk.eq (el := [(0, .ptr 9 0), (1, .lst 3 (List.map Gq52.lv p1)), (2, .I p2), (7, .arr 161 (List.length l16)), (8, .I n1), (9, .lst 3 (List.map Gq52.lv l7)), (11, .I n13)]) (ml := [(9, .box [.L l14, .I n15]), (161, .arr 68 7 (List.map Gq54.lv l16))]) R R R R) (LH.seq (LH.block ?_))))
    obtain ⟨r20, hr20, h⟩ := bindS h
    refine LH.seqT [(0, .ptr 9 0), (1, .lst 3 (List.map Gq52.lv p1)), (2, .I p2), (7, .arr 161 (List.length l16)), (8, .I n1), (9, .lst 3 (List.map Gq52.lv l7)), (11, .I n13), (48, .bool (decide (r20.1 > 0)))] [(9, .box [.L r20.2.L, .I r20.2.At]), (161, .arr 68 7 (List.map Gq54.lv l16))] R (sMp R (sN (oCM (args := [.ptr 9 0, .I 5]) (ml := [(9, .box [.L l14, .I n15])]) (ml' := [(9, .box [.L r20.2.L, .I r20.2.At])]) R isF18 R (sbR (sbR sbN)) (Gq15 hr20) (mC R mN) (newI R newN) R (sN (oGt R R zS))))) (LH.cond (t := (decide (r20.1 > 0))) R (fun hc21 => ?_) (fun hc21 => ?_))
    ·replace h := iteT h hc21
     obtain ⟨r22, hr22, h⟩ := bindS h
     obtain ⟨x23, hx23, h⟩ := bindS h
     obtain ⟨r24, hr24, h⟩ := bindS h
     obtain ⟨v25, hv25, h⟩ := bindS h
     refine LH.loneT [(0, .ptr 9 0), (1, .lst 3 (List.map Gq52.lv p1)), (2, .I p2), (7, .arr 161 (List.length v25)), (8, .I n1), (9, .lst 3 (List.map Gq52.lv l7)), (11, .I n13)] [(9, .box [.L r24.2.L, .I r24.2.At]), (161, .arr 68 7 (List.map Gq54.lv v25))] R ?_ ?_
     ·exact sMa R (sMp R (sMl R (sMp R (sMl R (sN (oLnL (f := Gq52.lv) te31 R (sN (oCM (args := [.ptr 9 0, .I (l7.length : Int)]) (ml := [(9, .box [.L r20.2.L, .I r20.2.At])]) (ml' := [(9, .box [.L r22.2.L, .I r22.2.At])]) R isF18 R (sbR (sbR sbN)) (Gq15 hr22) (mC R mN) (newI R newN) R (sN (oIx (f := Gq52.lv) te31 tk100 ts100 R R Gq52.ok hx23 R (sN (oLdA R tk100 ta100 ts100 R R (sMi R (sN (oCM (args := [.ptr 9 0, .agg [.I x23.Code, .I x23.Variant, .lst 6 (List.map GPart.lv x23.Parts)], .I n13]) (ml := [(9, .box [.L r22.2.L, .I r22.2.At])]) (ml' := [(9, .box [.L r24.2.L, .I r24.2.At])]) R isF61 R (sbR (sbR (sbR sbN))) (Gq32 hr24) (mC R mN) (newI R newN) R (sN (oBS (f := Gq54.lv) (ys := [r24.1]) te30 tr68 ts68 R R R Gq54.ok (sN (oAp (f := Gq54.lv) te30 tr68 ts68 R R (prN R) R hv25 (sAa R zS))))))))))))))))))))
     refine blockN (thenN (LH.loneT [(0, .ptr 9 0), (1, .lst 3 (List.map Gq52.lv p1)), (2, .I p2), (7, .arr 161 (List.length v25)), (8, .I n1), (9, .lst 3 (List.map Gq52.lv l7)), (11, .I (i64 (n13 + 1)))] [(9, .box [.L r24.2.L, .I r24.2.At]), (161, .arr 68 7 (List.map Gq54.lv v25))] R (sMi R (sN (oAdd R R (sAi R zS)))) ?_))
     exact roundI ⟨(i64 (n13 + 1)), r24.2.L, r24.2.At, v25, hrec3 ▸ h, R, R⟩ (Wk.eq R R R R)
    replace h := iteF h hc21
    refine LH.skip (blockN (thenN (LH.loneT [(0, .ptr 9 0), (1, .lst 3 (List.map Gq52.lv p1)), (2, .I p2), (7, .arr 161 (List.length l16)), (8, .I n1), (9, .lst 3 (List.map Gq52.lv l7)), (11, .I (i64 (n13 + 1)))] [(9, .box [.L r20.2.L, .I r20.2.At]), (161, .arr 68 7 (List.map Gq54.lv l16))] R (sMi R (sN (oAdd R R (sAi R zS)))) ?_)))
    exact roundI ⟨(i64 (n13 + 1)), r20.2.L, r20.2.At, l16, hrec3 ▸ h, R, R⟩ (Wk.eq R R R R)
   replace h := iteF h hc19
   refine LH.exit (thenX (roundX (blockH (blockN (thenN (LH.loneT [(0, .ptr 9 0), (1, .lst 3 (List.map Gq52.lv p1)), (2, .I p2), (7, .arr 161 (List.length l16)), (8, .I (i64 (n1 + 1)))] [(9, .box [.L l14, .I n15]), (161, .arr 68 7 (List.map Gq54.lv l16))] R (sMi R (sN (oAdd R R (sAi R zS)))) ?_))))))
   exact roundI ⟨(i64 (n1 + 1)), l14, n15, l16, hrec1 ▸ h, R, R⟩ (Wk.eq R R R R)
  replace h := iteF h hc5
  refine LH.exit (thenX (roundX (blockH (thenN (LH.wk ((Wk.trans (Wk.eq (el := [(7, .arr 161 (List.length l4))]) (ml := [(9, .box [.L l2, .I n3]), (161, .arr 68 7 (List.map Gq54.lv l4))]) R R R R) (Wk.trans (Wk.frzL (f := Gq54.lv) (el' := [(7, .lst 7 (List.map Gq54.lv l4))]) 161 68 7 l4 R R (prN R) (fZ fN)) (Wk.eq (el := [(7, .lst 7 (List.map Gq54.lv l4))]) (ml := [(9, .box [.L l2, .I n3])]) R R R R)))) (LH.seqT [(6, .lst 7 (List.map Gq54.lv l4))] [(9, .box [.L l2, .I n3])] R (sMl R (sAl R zS)) (LH.ret ?_)))))))
  obtain rfl := oI h
  exact retE (aT Try.results36) (lrT R (lr0 ⟨memN (mC R mN), R, prK R, Sub.rfl⟩))

theorem Gq13 {p0 : GDice} {r : Gq51 × GDice} (h : Gq12 p0 = some r) : LCall Try.prog 37 [.ptr 9 0] (Mem.of [(9, .box [.L p0.L, .I p0.At])]) (.agg [.I r.1.Part, .I r.1.Total, .I r.1.Window, .I r.1.Fails]) (Mem.of [(9, .box [.L r.2.L, .I r.2.At])]) := by
  unfold Gq12 at h
  refine bodyT Try.func37 R (nT Try.ntmps37 R) (LH.wk (Wk.eq (el := [(0, .ptr 9 0)]) (ml := [(9, .box [.L p0.L, .I p0.At])]) R R R R) (LH.seqT [(0, .ptr 9 0), (2, .ptr 102 0)] [(9, .box [.L p0.L, .I p0.At]), (102, .box [.I 0, .I 0, .I 0, .I 0])] R (sN (oAl (id := 102) R tz35 R R zS)) ?_))
  obtain ⟨r1, hr1, h⟩ := bindS h
  refine LH.seqT [(0, .ptr 9 0), (2, .ptr 102 0), (3, .I (i64 (1 + r1.1)))] [(9, .box [.L r1.2.L, .I r1.2.At]), (102, .box [.I 0, .I 0, .I 0, .I 0])] R (sMp R (sN (oCM (args := [.ptr 9 0, .I 3]) (ml := [(9, .box [.L p0.L, .I p0.At])]) (ml' := [(9, .box [.L r1.2.L, .I r1.2.At])]) R isF18 R (sbR (sbR sbN)) (Gq15 hr1) (mC R mN) (newI R newN) R (sN (oAdd R R (sAi R zS)))))) ?_
  obtain ⟨r2, hr2, h⟩ := bindS h
  obtain ⟨r3, hr3, h⟩ := bindS h
  obtain ⟨r4, hr4, h⟩ := bindS h
  refine LH.seqT [(2, .sptr [.I r2.1, .I r3.1, .I (i64 (1 + r1.1)), .I (i64 (1 + r4.1))])] [(9, .box [.L r4.2.L, .I r4.2.At])] R (sMp R (sN (oCM (args := [.ptr 9 0, .I 2]) (ml := [(9, .box [.L r1.2.L, .I r1.2.At])]) (ml' := [(9, .box [.L r2.2.L, .I r2.2.At])]) R isF18 R (sbR (sbR sbN)) (Gq15 hr2) (mC R mN) (newI R newN) R (sMp R (sN (oCM (args := [.ptr 9 0, .I 3]) (ml := [(9, .box [.L r2.2.L, .I r2.2.At])]) (ml' := [(9, .box [.L r3.2.L, .I r3.2.At])]) R isF18 R (sbR (sbR sbN)) (Gq15 hr3) (mC R mN) (newI R newN) R (sMi R (sMp R (sMi R (sN (oCM (args := [.ptr 9 0, .I (i64 (1 + r1.1))]) (ml := [(9, .box [.L r3.2.L, .I r3.2.At])]) (ml' := [(9, .box [.L r4.2.L, .I r4.2.At])]) R isF18 R (sbR (sbR sbN)) (Gq15 hr4) (mC R mN) (newI R newN) R (sN (oAdd R R (sN (oBd (vs := [(0, .I r2.1), (1, .I r3.1), (2, .I (i64 (1 + r1.1))), (3, .I (i64 (1 + r4.1)))]) tu35 tz35 R (lf tf35_0 ts3 tk3 R R R (lf tf35_1 ts3 tk3 R R R (lf tf35_2 ts3 tk3 R R R (lf tf35_3 ts3 tk3 R R R lf0)))) (s_ (oSt R R R tk35 ts35 R R R (s0 ((Wk.trans (Wk.eq (el := [(2, .ptr 102 0)]) (ml := [(9, .box [.L r4.2.L, .I r4.2.At]), (102, .box [.I r2.1, .I r3.1, .I (i64 (1 + r1.1)), .I (i64 (1 + r4.1))])]) R R R R) (Wk.trans (Wk.frzB 102 [.I r2.1, .I r3.1, .I (i64 (1 + r1.1)), .I (i64 (1 + r4.1))] R R R (prN R)) (Wk.eq R R R R)))))))))))))))))))))) (LH.ret ?_)
  obtain rfl := oI h
  exact retE (aT Try.results37) (lrSA R tk35 ta35 ts35 R R (lr0 ⟨memN (mC R mN), R, prK R, Sub.rfl⟩))

theorem q148q {F : Nat} {p0 : List Gq52} {p1 : Gq54} {r : Gq52} (h : q115q F p0 p1 = some r) : LCall Try.prog 58 [.lst 3 (List.map Gq52.lv p0), Gq54.lv p1] (Mem.of []) (.agg [.I r.Code, .I r.Variant, .lst 6 (List.map GPart.lv r.Parts)]) (Mem.of []) := by
  unfold q115q at h
  refine bodyT Try.func58 R (nT Try.ntmps58 R) (LH.wk (Wk.eq (el := [(0, .lst 3 (List.map Gq52.lv p0)), (1, Gq54.lv p1)]) (ml := []) R R R R) (LH.seqT [(0, .lst 3 (List.map Gq52.lv p0)), (3, .sptr (Gq54.lv p1).cells), (4, .ptr 104 0)] [(104, .box [.I 0, .I 0, .nil])] R (sB (oBxR R R R R (sN (oAl (id := 104) R tz100 R R zS)))) (LH.seq (LH.seqT [(0, .lst 3 (List.map Gq52.lv p0)), (3, .sptr (Gq54.lv p1).cells), (4, .ptr 104 0), (5, .I 0)] [(104, .box [.I 0, .I 0, .nil])] R (sAi R zS) (LH.block (LH.loop (fun n e m => ∃ (n1 : Int), q104q p0 p1 n n1 = some r ∧ e = Env.of [(0, .lst 3 (List.map Gq52.lv p0)), (3, .sptr (Gq54.lv p1).cells), (4, .ptr 104 0), (5, .I n1)] ∧ m = Mem.of [(104, .box [.I 0, .I 0, .nil])]) F ⟨0, h, R, R⟩ ?_))))))
  clear h
  rintro n e m ⟨n1, h, rfl, rfl⟩
  rcases n with _ | n
  · cases (show Option.none = some _ from h)
  obtain ⟨rec1, hrec1⟩ : ∃ f, f = q104q p0 p1 n := ⟨_, rfl⟩
  replace h : q88q p0 p1 rec1 n1 = some r := hrec1 ▸ h
  unfold q88q at h
  refine LH.seq (LH.seqT [(0, .lst 3 (List.map Gq52.lv p0)), (3, .sptr (Gq54.lv p1).cells), (4, .ptr 104 0), (5, .I n1), (9, .bool (decide (n1 < (p0.length : Int))))] [(104, .box [.I 0, .I 0, .nil])] R (sMi R (sMl R (sN (oLnL (f := Gq52.lv) te31 R (sN (oLt R R zS)))))) (LH.cond (t := (decide (n1 < (p0.length : Int)))) R (fun hc2 => ?_) (fun hc2 => ?_)))
  ·replace h := iteT h hc2
   refine LH.skip (thenN (LH.wk (Wk.eq (el := [(0, .lst 3 (List.map Gq52.lv p0)), (3, .sptr (Gq54.lv p1).cells), (4, .ptr 104 0), (5, .I n1)]) (ml := [(104, .box [.I 0, .I 0, .nil])]) R R R R) (LH.seq (LH.block ?_))))
   obtain ⟨w4, hv, h⟩ := bindS h
   refine LH.seqJM mixed [] [0, 0, 0, 0, 0, 0, 0, 0, 0, 0, 0, 0, 0, 0, 0, 0, 0, 0] [(0, .lst 3 (List.map Gq52.lv p0)), (3, .sptr (Gq54.lv p1).cells), (4, .ptr 104 0), (5, .I n1), (29, .bool w4)] [(104, .box [.I 0, .I 0, .nil])] R R (by kernel_rfl) ?_ ?_
   ·refine mMl R (mMi R ?_)
    obtain ⟨x5, hx5, hv⟩ := bindS hv
    refine mN0 (oIx (f := Gq52.lv) te31 tk100 ts100 R R Gq52.ok hx5 R ⟨R, mN0 (oFaS tf100_0 tk3 ts3 R R R ⟨R, mN0 (oLd R tk3 ta3 ⟨R, mN0 (oFaS tf68_1 tk3 ts3 R R R ⟨R, mN0 (oLd R tk3 ta3 ⟨R, mN0 (oEq R R ⟨R, mMb R ?_⟩)⟩)⟩)⟩)⟩)⟩)
    by_cases hb6 : (x5.Code == p1.Paper) = true
    ·replace hv := iteT hv hb6
     refine mT R (cB hb6) (mMl R (mT R (cB hb6) (mMi R ?_)))
     obtain ⟨x7, hx7, hv⟩ := bindS hv
     refine mT R (cB hb6) (mN0 (oIx (f := Gq52.lv) te31 tk100 ts100 R R Gq52.ok hx7 R ⟨R, mT R (cB hb6) (mN0 (oFaS tf100_1 tk3 ts3 R R R ⟨R, mT R (cB hb6) (mN0 (oLd R tk3 ta3 ⟨R, mT R (cB hb6) (mN0 (oFaS tf68_4 tk3 ts3 R R R ⟨R, mT R (cB hb6) (mN0 (oLd R tk3 ta3 ⟨R, mT R (cB hb6) (mN0 (oEq R R ⟨R, mN0 (oPkT (cB hb6) (v := (.bool _)) R ⟨R, ?_⟩)⟩))⟩))⟩))⟩))⟩))⟩))
     obtain rfl := oI hv
     exact zM
    ·replace hb6 := bF hb6
     replace hv := iteF hv hb6
     refine mF R R hb6 (mF R R hb6 (mF R R hb6 (mF R R hb6 (mF R R hb6 (mF R R hb6 (mF R R hb6 (mF R R hb6 (mN0 (oPkF (cB hb6) (v := (.bool _)) R ⟨R, ?_⟩)))))))))
     obtain rfl := oI hv
     exact zM
   clear hv
   refine LH.cond (t := w4) R (fun hc8 => ?_) (fun hc8 => ?_)
   ·replace h := iteT h hc8
    obtain ⟨x9, hx9, h⟩ := bindS h
    refine LH.seqT [(4, .sptr [.I x9.Code, .I x9.Variant, .lst 6 (List.map GPart.lv x9.Parts)])] [] R (sMl R (sMi R (sN (oIx (f := Gq52.lv) te31 tk100 ts100 R R Gq52.ok hx9 R (sN (oLdA R tk100 ta100 ts100 R R (s_ (oSt R R R tk100 ts100 R R R (s0 ((Wk.trans (Wk.eq (el := [(4, .ptr 104 0)]) (ml := [(104, .box [.I x9.Code, .I x9.Variant, .lst 6 (List.map GPart.lv x9.Parts)])]) R R R R) (Wk.trans (Wk.frzB 104 [.I x9.Code, .I x9.Variant, .lst 6 (List.map GPart.lv x9.Parts)] R R R (prN R)) (Wk.eq R R R R))))))))))))) (LH.ret (blockR (thenR (roundR (blockR (thenR ?_))))))
    obtain rfl := oI h
    exact retE (aT Try.results58) (lrSA R tk100 ta100 ts100 R R (lr0 ⟨memN mN, R, prK R, Sub.rfl⟩))
   replace h := iteF h hc8
   refine LH.skip (blockN (thenN (LH.loneT [(0, .lst 3 (List.map Gq52.lv p0)), (3, .sptr (Gq54.lv p1).cells), (4, .ptr 104 0), (5, .I (i64 (n1 + 1)))] [(104, .box [.I 0, .I 0, .nil])] R (sMi R (sN (oAdd R R (sAi R zS)))) ?_)))
   exact roundI ⟨(i64 (n1 + 1)), hrec1 ▸ h, R, R⟩ (Wk.eq R R R R)
  replace h := iteF h hc2
  refine LH.exit (thenX (roundX (blockH (thenN (LH.seqT [(4, .sptr [.I 0, .I 0, .nil])] [] R (sN (oBd (vs := []) tu100 tz100 R lf0 (s_ (oSt R R R tk100 ts100 R R R (s0 ((Wk.trans (Wk.eq (el := [(4, .ptr 104 0)]) (ml := [(104, .box [.I 0, .I 0, .nil])]) R R R R) (Wk.trans (Wk.frzB 104 [.I 0, .I 0, .nil] R R R (prN R)) (Wk.eq R R R R))))))))) (LH.ret ?_))))))
  obtain rfl := oI h
  exact retE (aT Try.results58) (lrSA R tk100 ta100 ts100 R R (lr0 ⟨memN mN, R, prK R, (SubL.head (sbS (Sub.agg (sbR (sbR (sbL sbN)))) sbN))⟩))

end Go.Proofs.Ytbicmjeldappjaa
