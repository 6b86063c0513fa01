import Derived.Test.YtbicmjeldappjaaZW2
set_option linter.unusedVariables false
set_option linter.unusedSimpArgs false
set_option maxRecDepth 100000
set_option maxHeartbeats 1000000
namespace Go.Proofs.Ytbicmjeldappjaa
open Go.L Go.Sh
theorem q155q {F : Nat} {p0 : List Gq49} {p1 : Int} {r : List Gq49 × Int} (h : q105q F p0 p1 = some r) : LCall Try.prog 17 [.lst 9 (List.map Gq49.lv p0), .I p1] (Mem.of []) (.tup [.lst 9 (List.map Gq49.lv r.1), .I r.2]) (Mem.of []) := by
  unfold q105q at h
  refine bodyT Try.func17 R (nT Try.ntmps17 R) (LH.wk (Wk.eq (el := [(0, .lst 9 (List.map Gq49.lv p0)), (1, .I p1)]) (ml := []) R R R R) (LH.seqT [(0, .lst 9 (List.map Gq49.lv p0)), (1, .I p1)] [] R (sAn R (sAi R zS)) ?_))
  obtain ⟨v1, hv1, h⟩ := bindS h
  obtain ⟨r2, hr2, h⟩ := bindS h
  refine LH.seqT [(4, .lst 9 (List.map Gq49.lv r2.1)), (5, .I r2.2)] [] R (sMl R (sMi R (sX ((ok_max R R).ok) (sMl R (sN (oLnL (f := Gq49.lv) te27 R (sX ((ok_min R R).ok) (sN (oSl (f := Gq49.lv) te27 tk47 ts47 R R R hv1 (sN (oCP (args := [.lst 9 (List.map Gq49.lv v1)]) R isF12 R (sbR sbN) (q67q hr2) R (sN (oEx R R (sN (oEx R R (sAl R (sAi R zS))))))))))))))))) (LH.ret ?_)
  obtain rfl := oI h
  exact retE (aT Try.results17) (lrT R (lrT R (lr0 ⟨memN mN, R, prK R, (Sub.tup (sbR (sbR sbN)))⟩)))

theorem q163q {p0 : Gq56} {r : Bool} (h : q127q p0 = some r) : LCall Try.prog 53 [.agg [.I p0.Time, .I p0.Source, .I p0.Seq]] (Mem.of []) (.bool r) (Mem.of []) := by
  unfold q127q at h
  refine bodyT Try.func53 R (nT Try.ntmps53 R) (LH.wk (Wk.eq (el := [(0, .agg [.I p0.Time, .I p0.Source, .I p0.Seq])]) (ml := []) R R R R) (LH.seqT [(1, .sptr [.I p0.Time, .I p0.Source, .I p0.Seq])] [] R (sB (oBxR R R R R (sAb R zS))) (LH.seqT [(2, .bool ((decide (p0.Time ≥ 0)) && ((decide (p0.Time ≤ 1000000)) && ((decide (p0.Source ≥ 0)) && ((decide (p0.Source ≤ 99)) && ((decide (p0.Seq ≥ 0)) && (decide (p0.Seq ≤ 9999))))))))] [] R ?_ ?_)))
  ·refine sN (oFaS tf45_0 tk3 ts3 R R R (sN (oLd R tk3 ta3 (sN (oGe R R (sMb R ?_))))))
   by_cases hb2 : (decide (p0.Time ≥ 0)) = true
   ·refine sT R (cB hb2) (oFaS tf45_0 tk3 ts3 R R R (sT R (cB hb2) (oLd R tk3 ta3 (sT R (cB hb2) (oLe R R (sN (oPkT (cB hb2) (v := (.bool _)) R (sMb R ?_))))))))
    by_cases hb3 : (decide (p0.Time ≤ 1000000)) = true
    ·refine sT R (cB hb3) (oFaS tf45_1 tk3 ts3 R R R (sT R (cB hb3) (oLd R tk3 ta3 (sT R (cB hb3) (oGe R R (sN (oPkT (cB hb3) (v := (.bool _)) R (sMb R ?_))))))))
     by_cases hb4 : (decide (p0.Source ≥ 0)) = true
     ·refine sT R (cB hb4) (oFaS tf45_1 tk3 ts3 R R R (sT R (cB hb4) (oLd R tk3 ta3 (sT R (cB hb4) (oLe R R (sN (oPkT (cB hb4) (v := (.bool _)) R (sMb R ?_))))))))
      by_cases hb5 : (decide (p0.Source ≤ 99)) = true
      ·refine sT R (cB hb5) (oFaS tf45_2 tk3 ts3 R R R (sT R (cB hb5) (oLd R tk3 ta3 (sT R (cB hb5) (oGe R R (sN (oPkT (cB hb5) (v := (.bool _)) R (sMb R ?_))))))))
       by_cases hb6 : (decide (p0.Seq ≥ 0)) = true
       ·exact sT R (cB hb6) (oFaS tf45_2 tk3 ts3 R R R (sT R (cB hb6) (oLd R tk3 ta3 (sT R (cB hb6) (oLe R R (sN (oPkT (cB hb6) (v := (.bool _)) R (sAb R (s0 (Wk.to (eC (cB (Eq.trans (Eq.trans (Eq.trans (Eq.trans (andT hb6) (andT hb5)) (andT hb4)) (andT hb3)) (andT hb2))) eN) mN R (prK R)))))))))))
       ·replace hb6 := bF hb6
        exact sF R R hb6 (sF R R hb6 (sF R R hb6 (sN (oPkF (cB hb6) (v := (.bool _)) R (sAb R (s0 (Wk.to (eC (cB (Eq.trans (Eq.trans (Eq.trans (Eq.trans (andF hb6) (andT hb5)) (andT hb4)) (andT hb3)) (andT hb2))) eN) mN R (prK R))))))))
      ·replace hb5 := bF hb5
       exact sF R R hb5 (sF R R hb5 (sF R R hb5 (sN (oPkF (cB hb5) (v := (.bool _)) R (sMb R (sF R R R (sF R R R (sF R R R (sN (oPkF R (v := (.bool _)) R (sAb R (s0 (Wk.to (eC (cB (Eq.trans (Eq.trans (Eq.trans (andF hb5) (andT hb4)) (andT hb3)) (andT hb2))) eN) mN R (prK R))))))))))))))
     ·replace hb4 := bF hb4
      exact sF R R hb4 (sF R R hb4 (sF R R hb4 (sN (oPkF (cB hb4) (v := (.bool _)) R (sMb R (sF R R R (sF R R R (sF R R R (sN (oPkF R (v := (.bool _)) R (sMb R (sF R R R (sF R R R (sF R R R (sN (oPkF R (v := (.bool _)) R (sAb R (s0 (Wk.to (eC (cB (Eq.trans (Eq.trans (andF hb4) (andT hb3)) (andT hb2))) eN) mN R (prK R))))))))))))))))))))
    ·replace hb3 := bF hb3
     exact sF R R hb3 (sF R R hb3 (sF R R hb3 (sN (oPkF (cB hb3) (v := (.bool _)) R (sMb R (sF R R R (sF R R R (sF R R R (sN (oPkF R (v := (.bool _)) R (sMb R (sF R R R (sF R R R (sF R R R (sN (oPkF R (v := (.bool _)) R (sMb R (sF R R R (sF R R R (sF R R R (sN (oPkF R (v := (.bool _)) R (sAb R (s0 (Wk.to (eC (cB (Eq.trans (andF hb3) (andT hb2))) eN) mN R (prK R))))))))))))))))))))))))))
   ·replace hb2 := bF hb2
    exact sF R R hb2 (sF R R hb2 (sF R R hb2 (sN (oPkF (cB hb2) (v := (.bool _)) R (sMb R (sF R R R (sF R R R (sF R R R (sN (oPkF R (v := (.bool _)) R (sMb R (sF R R R (sF R R R (sF R R R (sN (oPkF R (v := (.bool _)) R (sMb R (sF R R R (sF R R R (sF R R R (sN (oPkF R (v := (.bool _)) R (sMb R (sF R R R (sF R R R (sF R R R (sN (oPkF R (v := (.bool _)) R (sAb R (s0 (Wk.to (eC (cB (andF hb2)) eN) mN R (prK R))))))))))))))))))))))))))))))))
  refine LH.ret ?_
  obtain rfl := oI h
  exact retE (aT Try.results53) (lrT R (lr0 ⟨memN mN, R, prK R, Sub.rfl⟩))

theorem q109q {p0 : Int} {p1 : Int} {p2 : Int} {r : Bool} (h : ref28_in p0 p1 p2 = some r) : LCall Try.prog 54 [.I p0, .I p1, .I p2] (Mem.of []) (.bool r) (Mem.of []) := by
  unfold ref28_in at h
  refine bodyT Try.func54 R (nT Try.ntmps54 R) (LH.wk (Wk.eq (el := [(0, .I p0), (1, .I p1), (2, .I p2)]) (ml := []) R R R R) (LH.seqT [(0, .I p0), (1, .I p1), (2, .I p2)] [] R (sAb R zS) (LH.seqT [(6, .bool ((decide (p0 ≥ p1)) && (decide (p0 ≤ p2))))] [] R ?_ ?_)))
  ·refine sMi R (sMi R (sN (oGe R R (sMb R ?_))))
   by_cases hb2 : (decide (p0 ≥ p1)) = true
   ·exact sT R (cB hb2) (oM (v := (.int _ _)) R (sT R (cB hb2) (oM (v := (.int _ _)) R (sT R (cB hb2) (oLe R R (sN (oPkT (cB hb2) (v := (.bool _)) R (sAb R (s0 (Wk.to (eC (cB (andT hb2)) eN) mN R (prK R)))))))))))
   ·replace hb2 := bF hb2
    exact sF R R hb2 (sF R R hb2 (sF R R hb2 (sN (oPkF (cB hb2) (v := (.bool _)) R (sAb R (s0 (Wk.to (eC (cB (andF hb2)) eN) mN R (prK R))))))))
  refine LH.ret ?_
  obtain rfl := oI h
  exact retE (aT Try.results54) (lrT R (lr0 ⟨memN mN, R, prK R, Sub.rfl⟩))

theorem q145q {F : Nat} {p0 : Gq49} {r : Bool} (h : q108q F p0 = some r) : LCall Try.prog 28 [Gq49.lv p0] (Mem.of []) (.bool r) (Mem.of []) := by
  unfold q108q at h
  refine bodyT Try.func28 R (nT Try.ntmps28 R) (LH.wk (Wk.eq (el := [(0, Gq49.lv p0)]) (ml := []) R R R R) (LH.seqT [(1, .sptr (Gq49.lv p0).cells)] [] R (sB (oBxR R R R R (sAb R zS))) (LH.seq ?_)))
  obtain ⟨w2, hv, h⟩ := bindS h
  refine LH.seqT [(1, .sptr (Gq49.lv p0).cells), (19, .bool w2)] [] R ?_ ?_
  ·refine sN (oFaS tf47_0 tk45 ts45 R R R (sN (oLdA R tk45 ta45 ts45 R R ?_)))
   obtain ⟨r3, hr3, hv⟩ := bindS hv
   refine sN (oCP (args := [.agg [.I p0.Stamp.Time, .I p0.Stamp.Source, .I p0.Stamp.Seq]]) R isF53 R (sbR sbN) (q163q hr3) R (sN (oNot R (sMb R ?_))))
   by_cases hb4 : (!r3) = true
   ·replace hv := iteT hv hb4
    refine sF R R hb4 (sF R R hb4 (sF R R hb4 (sF R R hb4 (sN (oPkT (cB hb4) (v := (.bool _)) R (sMb R (sF R R R (sF R R R (sF R R R (sF R R R (sN (oPkT R (v := (.bool _)) R ?_))))))))))))
    obtain rfl := oI hv
    exact zS
   ·replace hb4 := bF hb4
    replace hv := iteF hv hb4
    refine sT R (cB hb4) (oFaS tf47_2 tk3 ts3 R R R (sT R (cB hb4) (oLd R tk3 ta3 ?_)))
    obtain ⟨r5, hr5, hv⟩ := bindS hv
    refine sT R (cB hb4) (oCP (args := [.I p0.Script, .I 0, .I 319999]) R isF54 R (sbR (sbR (sbR sbN))) (q109q hr5) R (sT R (cB hb4) (oNot R (sN (oPkF (cB hb4) (v := (.bool _)) R (sMb R ?_))))))
    by_cases hb6 : (!r5) = true
    ·replace hv := iteT hv hb6
     refine sF R R hb6 (sF R R hb6 (sF R R hb6 (sF R R hb6 (sN (oPkT (cB hb6) (v := (.bool _)) R ?_)))))
     obtain rfl := oI hv
     exact zS
    ·replace hb6 := bF hb6
     replace hv := iteF hv hb6
     refine sT R (cB hb6) (oFaS tf47_6 tk22 ts22 R R R (sT R (cB hb6) (oLd R tk22 ta22 (sT R (cB hb6) (oLnL (f := LV.I) te22 R (sT R (cB hb6) (oGt R R (sN (oPkF (cB hb6) (v := (.bool _)) R ?_)))))))))
     obtain rfl := oI hv
     exact zS
  clear hv
  refine LH.cond (t := w2) R (fun hc7 => ?_) (fun hc7 => ?_)
  ·replace h := iteT h hc7
   refine LH.seqT [(2, .bool false)] [] R (sAb R zS) (LH.ret (thenR ?_))
   obtain rfl := oI h
   exact retE (aT Try.results28) (lrT R (lr0 ⟨memN mN, R, prK R, Sub.rfl⟩))
  replace h := iteF h hc7
  refine LH.skip (thenN (LH.wk (Wk.eq (el := [(1, .sptr (Gq49.lv p0).cells)]) (ml := []) R R R R) (LH.seq (LH.seqT [(1, .sptr (Gq49.lv p0).cells), (3, .I 0)] [] R (sAi R zS) (LH.block (LH.loop (fun n e m => ∃ (n8 : Int), q47q p0 n n8 = some r ∧ e = Env.of [(1, .sptr (Gq49.lv p0).cells), (3, .I n8)] ∧ m = Mem.of []) F ⟨0, h, R, R⟩ ?_))))))
  clear h
  rintro n e m ⟨n8, h, rfl, rfl⟩
  rcases n with _ | n
  · cases (show Option.none = some _ from h)
  obtain ⟨rec1, hrec1⟩ : ∃ f, f = q47q p0 n := ⟨_, rfl⟩
  replace h : q79q p0 rec1 n8 = some r := hrec1 ▸ h
  unfold q79q at h
  refine LH.seq (LH.seqT [(1, .sptr (Gq49.lv p0).cells), (3, .I n8), (24, .bool (decide (n8 < (p0.Pages.length : Int))))] [] R (sMi R (sN (oFaS tf47_6 tk22 ts22 R R R (sN (oLd R tk22 ta22 (sN (oLnL (f := LV.I) te22 R (sN (oLt R R zS))))))))) (LH.cond (t := (decide (n8 < (p0.Pages.length : Int)))) R (fun hc9 => ?_) (fun hc9 => ?_)))
  ·replace h := iteT h hc9
   refine LH.skip (thenN (LH.wk (Wk.eq (el := [(1, .sptr (Gq49.lv p0).cells), (3, .I n8)]) (ml := []) R R R R) (LH.seq (LH.block ?_))))
   obtain ⟨x10, hx10, h⟩ := bindS h
   obtain ⟨r11, hr11, h⟩ := bindS h
   refine LH.seqT [(1, .sptr (Gq49.lv p0).cells), (3, .I n8), (33, .bool (!r11))] [] R (sN (oFaS tf47_6 tk22 ts22 R R R (sN (oLd R tk22 ta22 (sMi R (sN (oIx (f := LV.I) te22 tk3 ts3 R R okI hx10 R (sN (oLd R tk3 ta3 (sN (oCP (args := [.I x10, .I 0, .I 1152921504606846976]) R isF54 R (sbR (sbR (sbR sbN))) (q109q hr11) R (sN (oNot R zS))))))))))))) (LH.cond (t := (!r11)) R (fun hc12 => ?_) (fun hc12 => ?_))
   ·replace h := iteT h hc12
    refine LH.seqT [(2, .bool false)] [] R (sAb R zS) (LH.ret (blockR (thenR (roundR (blockR (thenR ?_))))))
    obtain rfl := oI h
    exact retE (aT Try.results28) (lrT R (lr0 ⟨memN mN, R, prK R, Sub.rfl⟩))
   replace h := iteF h hc12
   refine LH.skip (blockN (thenN (LH.loneT [(1, .sptr (Gq49.lv p0).cells), (3, .I (i64 (n8 + 1)))] [] R (sMi R (sN (oAdd R R (sAi R zS)))) ?_)))
   exact roundI ⟨(i64 (n8 + 1)), hrec1 ▸ h, R, R⟩ (Wk.eq R R R R)
  replace h := iteF h hc9
  refine LH.exit (thenX (roundX (blockH (thenN (LH.wk (Wk.eq (el := [(1, .sptr (Gq49.lv p0).cells)]) (ml := []) R R R R) (LH.seq (LH.seqT [(1, .sptr (Gq49.lv p0).cells), (35, .I p0.Kind)] [] R (sN (oFaS tf47_1 tk3 ts3 R R R (sN (oLd R tk3 ta3 zS)))) (LH.block (LH.seqT [(1, .sptr (Gq49.lv p0).cells), (35, .I p0.Kind), (36, .bool (p0.Kind == 0))] [] R (sN (oEq R R (sAb R zS))) (LH.cond (t := (p0.Kind == 0)) R (fun hc13 => ?_) (fun hc13 => ?_)))))))))))
  ·replace h := iteT h hc13
   obtain ⟨w15, hv, h⟩ := bindS h
   refine LH.seqT [(2, .bool w15)] [] R ?_ ?_
   ·refine sN (oFaS tf47_0 tk45 ts45 R R R (sN (oFaS tf45_1 tk3 ts3 R R R (sN (oLd R tk3 ta3 (sN (oGe R R (sMb R ?_))))))))
    by_cases hb16 : (decide (p0.Stamp.Source ≥ 1)) = true
    ·replace hv := iteT hv hb16
     refine sT R (cB hb16) (oFaS tf47_3 tk3 ts3 R R R (sT R (cB hb16) (oLd R tk3 ta3 ?_)))
     obtain ⟨r17, hr17, hv⟩ := bindS hv
     refine sT R (cB hb16) (oCP (args := [.I p0.Part, .I 0, .I 23]) R isF54 R (sbR (sbR (sbR sbN))) (q109q hr17) R (sN (oPkT (cB hb16) (v := (.bool _)) R (sMb R ?_))))
     by_cases hb18 : r17 = true
     ·replace hv := iteT hv hb18
      refine sT R (cB hb18) (oFaS tf47_4 tk3 ts3 R R R (sT R (cB hb18) (oLd R tk3 ta3 ?_)))
      obtain ⟨r19, hr19, hv⟩ := bindS hv
      refine sT R (cB hb18) (oCP (args := [.I p0.Value, .I (-1), .I 40]) R isF54 R (sbR (sbR (sbR sbN))) (q109q hr19) R (sN (oPkT (cB hb18) (v := (.bool _)) R (sMb R ?_))))
      by_cases hb20 : r19 = true
      ·replace hv := iteT hv hb20
       refine sT R (cB hb20) (oFaS tf47_5 tk3 ts3 R R R (sT R (cB hb20) (oLd R tk3 ta3 (sT R (cB hb20) (oEq R R (sN (oPkT (cB hb20) (v := (.bool _)) R (sAb R ?_))))))))
       obtain rfl := oI hv
       exact zS
      ·replace hb20 := bF hb20
       replace hv := iteF hv hb20
       refine sF R R hb20 (sF R R hb20 (sF R R hb20 (sN (oPkF (cB hb20) (v := (.bool _)) R (sAb R ?_)))))
       obtain rfl := oI hv
       exact zS
     ·replace hb18 := bF hb18
      replace hv := iteF hv hb18
      refine sF R R hb18 (sF R R hb18 (sF R R hb18 (sN (oPkF (cB hb18) (v := (.bool _)) R (sMb R (sF R R R (sF R R R (sF R R R (sN (oPkF R (v := (.bool _)) R (sAb R ?_)))))))))))
      obtain rfl := oI hv
      exact zS
    ·replace hb16 := bF hb16
     replace hv := iteF hv hb16
     refine sF R R hb16 (sF R R hb16 (sF R R hb16 (sN (oPkF (cB hb16) (v := (.bool _)) R (sMb R (sF R R R (sF R R R (sF R R R (sN (oPkF R (v := (.bool _)) R (sMb R (sF R R R (sF R R R (sF R R R (sN (oPkF R (v := (.bool _)) R (sAb R ?_)))))))))))))))))
     obtain rfl := oI hv
     exact zS
   clear hv
   refine LH.ret (blockR (thenR ?_))
   obtain rfl := oI h
   exact retE (aT Try.results28) (lrT R (lr0 ⟨memN mN, R, prK R, Sub.rfl⟩))
  replace h := iteF h hc13
  refine LH.seqT [(1, .sptr (Gq49.lv p0).cells), (35, .I p0.Kind), (57, .bool (p0.Kind == 1))] [] R (sN (oEq R R (sAb R zS))) (LH.cond (t := (p0.Kind == 1)) R (fun hc21 => ?_) (fun hc21 => ?_))
  ·replace h := iteT h hc21
   obtain ⟨w23, hv, h⟩ := bindS h
   refine LH.seqT [(2, .bool w23)] [] R ?_ ?_
   ·refine sN (oFaS tf47_0 tk45 ts45 R R R (sN (oFaS tf45_1 tk3 ts3 R R R (sN (oLd R tk3 ta3 (sN (oEq R R (sMb R ?_))))))))
    by_cases hb24 : (p0.Stamp.Source == 0) = true
    ·replace hv := iteT hv hb24
     refine sT R (cB hb24) (oFaS tf47_2 tk3 ts3 R R R (sT R (cB hb24) (oLd R tk3 ta3 (sT R (cB hb24) (oEq R R (sN (oPkT (cB hb24) (v := (.bool _)) R (sMb R ?_))))))))
     by_cases hb25 : (p0.Script == 0) = true
     ·replace hv := iteT hv hb25
      refine sT R (cB hb25) (oFaS tf47_3 tk3 ts3 R R R (sT R (cB hb25) (oLd R tk3 ta3 (sT R (cB hb25) (oEq R R (sN (oPkT (cB hb25) (v := (.bool _)) R (sMb R ?_))))))))
      by_cases hb26 : (p0.Part == 0) = true
      ·replace hv := iteT hv hb26
       refine sT R (cB hb26) (oFaS tf47_4 tk3 ts3 R R R (sT R (cB hb26) (oLd R tk3 ta3 (sT R (cB hb26) (oEq R R (sN (oPkT (cB hb26) (v := (.bool _)) R (sMb R ?_))))))))
       by_cases hb27 : (p0.Value == 0) = true
       ·replace hv := iteT hv hb27
        refine sT R (cB hb27) (oFaS tf47_5 tk3 ts3 R R R (sT R (cB hb27) (oLd R tk3 ta3 ?_)))
        obtain ⟨r28, hr28, hv⟩ := bindS hv
        refine sT R (cB hb27) (oCP (args := [.I p0.Marker, .I 1, .I 99]) R isF54 R (sbR (sbR (sbR sbN))) (q109q hr28) R (sN (oPkT (cB hb27) (v := (.bool _)) R (sMb R ?_))))
        by_cases hb29 : r28 = true
        ·replace hv := iteT hv hb29
         refine sT R (cB hb29) (oFaS tf47_6 tk22 ts22 R R R (sT R (cB hb29) (oLd R tk22 ta22 (sT R (cB hb29) (oLnL (f := LV.I) te22 R (sT R (cB hb29) (oEq R R (sN (oPkT (cB hb29) (v := (.bool _)) R (sAb R ?_))))))))))
         obtain rfl := oI hv
         exact zS
        ·replace hb29 := bF hb29
         replace hv := iteF hv hb29
         refine sF R R hb29 (sF R R hb29 (sF R R hb29 (sF R R hb29 (sN (oPkF (cB hb29) (v := (.bool _)) R (sAb R ?_))))))
         obtain rfl := oI hv
         exact zS
       ·replace hb27 := bF hb27
        replace hv := iteF hv hb27
        refine sF R R hb27 (sF R R hb27 (sF R R hb27 (sN (oPkF (cB hb27) (v := (.bool _)) R (sMb R (sF R R R (sF R R R (sF R R R (sF R R R (sN (oPkF R (v := (.bool _)) R (sAb R ?_))))))))))))
        obtain rfl := oI hv
        exact zS
      ·replace hb26 := bF hb26
       replace hv := iteF hv hb26
       refine sF R R hb26 (sF R R hb26 (sF R R hb26 (sN (oPkF (cB hb26) (v := (.bool _)) R (sMb R (sF R R R (sF R R R (sF R R R (sN (oPkF R (v := (.bool _)) R (sMb R (sF R R R (sF R R R (sF R R R (sF R R R (sN (oPkF R (v := (.bool _)) R (sAb R ?_))))))))))))))))))
       obtain rfl := oI hv
       exact zS
     ·replace hb25 := bF hb25
      replace hv := iteF hv hb25
      refine sF R R hb25 (sF R R hb25 (sF R R hb25 (sN (oPkF (cB hb25) (v := (.bool _)) R (sMb R (sF R R R (sF R R R (sF R R R (sN (oPkF R (v := (.bool _)) R (sMb R (sF R R R (sF R R R (sF R R R (sN (oPkF R (v := (.bool _)) R (sMb R (sF R R R (sF R R R (sF R R R (sF R R R (sN (oPkF R (v := (.bool _)) R (sAb R ?_))))))))))))))))))))))))
      obtain rfl := oI hv
      exact zS
    ·replace hb24 := bF hb24
     replace hv := iteF hv hb24
     refine sF R R hb24 (sF R R hb24 (sF R R hb24 (sN (oPkF (cB hb24) (v := (.bool _)) R (sMb R (sF R R R (sF R R R (sF R R R (sN (oPkF R (v := (.bool _)) R (sMb R (sF R R R (sF R R R (sF R R R (sN (oPkF R (v := (.bool _)) R (sMb R (sF R R R (sF R R R (sF R R R (sN (oPkF R (v := (.bool _)) R (sMb R (sF R R R (sF R R R (sF R R R (sF R R R (sN (oPkF R (v := (.bool _)) R (sAb R ?_))))))))))))))))))))))))))))))
     obtain rfl := oI hv
     exact zS
   clear hv
   refine LH.ret (blockR (thenR ?_))
   obtain rfl := oI h
   exact retE (aT Try.results28) (lrT R (lr0 ⟨memN mN, R, prK R, Sub.rfl⟩))
  replace h := iteF h hc21
  refine LH.seqT [(1, .sptr (Gq49.lv p0).cells), (89, .bool (p0.Kind == 2))] [] R (sN (oEq R R (sAb R zS))) (LH.cond (t := (p0.Kind == 2)) R (fun hc30 => ?_) (fun hc30 => ?_))
  ·replace h := iteT h hc30
   obtain ⟨w32, hv, h⟩ := bindS h
   refine LH.seqT [(2, .bool w32)] [] R ?_ ?_
   ·refine sN (oFaS tf47_0 tk45 ts45 R R R (sN (oFaS tf45_1 tk3 ts3 R R R (sN (oLd R tk3 ta3 (sN (oEq R R (sMb R ?_))))))))
    by_cases hb33 : (p0.Stamp.Source == 0) = true
    ·replace hv := iteT hv hb33
     refine sT R (cB hb33) (oFaS tf47_4 tk3 ts3 R R R (sT R (cB hb33) (oLd R tk3 ta3 (sT R (cB hb33) (oEq R R (sN (oPkT (cB hb33) (v := (.bool _)) R (sMb R ?_))))))))
     by_cases hb34 : (p0.Value == 0) = true
     ·replace hv := iteT hv hb34
      refine sT R (cB hb34) (oFaS tf47_5 tk3 ts3 R R R (sT R (cB hb34) (oLd R tk3 ta3 (sT R (cB hb34) (oEq R R (sN (oPkT (cB hb34) (v := (.bool _)) R (sMb R ?_))))))))
      by_cases hb35 : (p0.Marker == 0) = true
      ·replace hv := iteT hv hb35
       refine sT R (cB hb35) (oFaS tf47_3 tk3 ts3 R R R (sT R (cB hb35) (oLd R tk3 ta3 ?_)))
       obtain ⟨r36, hr36, hv⟩ := bindS hv
       refine sT R (cB hb35) (oCP (args := [.I p0.Part, .I (-1), .I 23]) R isF54 R (sbR (sbR (sbR sbN))) (q109q hr36) R (sN (oPkT (cB hb35) (v := (.bool _)) R (sMb R ?_))))
       by_cases hb37 : r36 = true
       ·replace hv := iteT hv hb37
        refine sT R (cB hb37) (oFaS tf47_6 tk22 ts22 R R R (sT R (cB hb37) (oLd R tk22 ta22 (sT R (cB hb37) (oLnL (f := LV.I) te22 R (sT R (cB hb37) (oEq R R (sN (oPkT (cB hb37) (v := (.bool _)) R (sAb R ?_))))))))))
        obtain rfl := oI hv
        exact zS
       ·replace hb37 := bF hb37
        replace hv := iteF hv hb37
        refine sF R R hb37 (sF R R hb37 (sF R R hb37 (sF R R hb37 (sN (oPkF (cB hb37) (v := (.bool _)) R (sAb R ?_))))))
        obtain rfl := oI hv
        exact zS
      ·replace hb35 := bF hb35
       replace hv := iteF hv hb35
       refine sF R R hb35 (sF R R hb35 (sF R R hb35 (sN (oPkF (cB hb35) (v := (.bool _)) R (sMb R (sF R R R (sF R R R (sF R R R (sF R R R (sN (oPkF R (v := (.bool _)) R (sAb R ?_))))))))))))
       obtain rfl := oI hv
       exact zS
     ·replace hb34 := bF hb34
      replace hv := iteF hv hb34
      refine sF R R hb34 (sF R R hb34 (sF R R hb34 (sN (oPkF (cB hb34) (v := (.bool _)) R (sMb R (sF R R R (sF R R R (sF R R R (sN (oPkF R (v := (.bool _)) R (sMb R (sF R R R (sF R R R (sF R R R (sF R R R (sN (oPkF R (v := (.bool _)) R (sAb R ?_))))))))))))))))))
      obtain rfl := oI hv
      exact zS
    ·replace hb33 := bF hb33
     replace hv := iteF hv hb33
     refine sF R R hb33 (sF R R hb33 (sF R R hb33 (sN (oPkF (cB hb33) (v := (.bool _)) R (sMb R (sF R R R (sF R R R (sF R R R (sN (oPkF R (v := (.bool _)) R (sMb R (sF R R R (sF R R R (sF R R R (sN (oPkF R (v := (.bool _)) R (sMb R (sF R R R (sF R R R (sF R R R (sF R R R (sN (oPkF R (v := (.bool _)) R (sAb R ?_))))))))))))))))))))))))
     obtain rfl := oI hv
     exact zS
   clear hv
   refine LH.ret (blockR (thenR ?_))
   obtain rfl := oI h
   exact retE (aT Try.results28) (lrT R (lr0 ⟨memN mN, R, prK R, Sub.rfl⟩))
  replace h := iteF h hc30
  refine LH.skip (blockN (thenN (LH.seqT [(2, .bool false)] [] R (sAb R zS) (LH.ret ?_))))
  obtain rfl := oI h
  exact retE (aT Try.results28) (lrT R (lr0 ⟨memN mN, R, prK R, Sub.rfl⟩))

theorem q134q {F : Nat} {p0 : List Gq49} {r : (List ((Int × Int) × Int)) × (List ((Int × Int) × Bool))} (h : q94q F p0 = some r) : LCall Try.prog 49 [.lst 9 (List.map Gq49.lv p0)] (Mem.of []) (.tup [.mp 11910, .mp 11911]) (Mem.of [(11910, .map 57 3 (mlv (fun (x : Int × Int) => LV.agg [.I x.1, .I x.2]) LV.I r.1)), (11911, .map 57 4 (mlv (fun (x : Int × Int) => LV.agg [.I x.1, .I x.2]) LV.bool r.2))]) := by
  unfold q94q at h
  refine bodyT Try.func49 R (nT Try.ntmps49 R) (LH.wk (Wk.eq (el := [(0, .lst 9 (List.map Gq49.lv p0))]) (ml := []) R R R R) (LH.seqT [(0, .lst 9 (List.map Gq49.lv p0))] [] R (sN (oA (v := .und) R (sN (oA (v := .und) R zS)))) (LH.seqT [(0, .lst 9 (List.map Gq49.lv p0)), (4, .mp 11910), (5, .mp 11911)] [(11910, .map 57 3 (mlv (fun (x : Int × Int) => LV.agg [.I x.1, .I x.2]) LV.I ([] : List ((Int × Int) × Int)))), (11911, .map 57 4 (mlv (fun (x : Int × Int) => LV.agg [.I x.1, .I x.2]) LV.bool ([] : List ((Int × Int) × Bool))))] R (sX ((ok_makeMap (kt := 57) (vt := 3) (id := 11910) R).ok) (sX ((ok_makeMap (kt := 57) (vt := 4) (id := 11911) R).ok) (sN (oA (v := (.mp _)) R (sN (oA (v := (.mp _)) R zS)))))) (LH.seq (LH.seqT [(0, .lst 9 (List.map Gq49.lv p0)), (4, .mp 11910), (5, .mp 11911), (6, .I 0)] [(11910, .map 57 3 (mlv (fun (x : Int × Int) => LV.agg [.I x.1, .I x.2]) LV.I ([] : List ((Int × Int) × Int)))), (11911, .map 57 4 (mlv (fun (x : Int × Int) => LV.agg [.I x.1, .I x.2]) LV.bool ([] : List ((Int × Int) × Bool))))] R (sAi R zS) (LH.block (LH.loop (fun n e m => ∃ (n1 : Int) (m2 : List ((Int × Int) × Int)) (m3 : List ((Int × Int) × Bool)), q24q F p0 n n1 m2 m3 = some r ∧ e = Env.of [(0, .lst 9 (List.map Gq49.lv p0)), (4, .mp 11910), (5, .mp 11911), (6, .I n1)] ∧ m = Mem.of [(11910, .map 57 3 (mlv (fun (x : Int × Int) => LV.agg [.I x.1, .I x.2]) LV.I m2)), (11911, .map 57 4 (mlv (fun (x : Int × Int) => LV.agg [.I x.1, .I x.2]) LV.bool m3))]) F ⟨0, ([] : List ((Int × Int) × Int)), ([] : List ((Int × Int) × Bool)), h, R, R⟩ ?_)))))))
  clear h
  rintro n e m ⟨n1, m2, m3, h, rfl, rfl⟩
  rcases n with _ | n
  · cases (show Option.none = some _ from h)
  obtain ⟨rec1, hrec1⟩ : ∃ f, f = q24q F p0 n := ⟨_, rfl⟩
  replace h : q43q F p0 rec1 n1 m2 m3 = some r := hrec1 ▸ h
  unfold q43q at h
  refine LH.seq (LH.seqT [(0, .lst 9 (List.map Gq49.lv p0)), (4, .mp 11910), (5, .mp 11911), (6, .I n1), (15, .bool (decide (n1 < (p0.length : Int))))] [(11910, .map 57 3 (mlv (fun (x : Int × Int) => LV.agg [.I x.1, .I x.2]) LV.I m2)), (11911, .map 57 4 (mlv (fun (x : Int × Int) => LV.agg [.I x.1, .I x.2]) LV.bool m3))] R (sMi R (sMl R (sN (oLnL (f := Gq49.lv) te27 R (sN (oLt R R zS)))))) (LH.cond (t := (decide (n1 < (p0.length : Int)))) R (fun hc4 => ?_) (fun hc4 => ?_)))
  ·replace h := iteT h hc4
   refine LH.skip (thenN (LH.wk (Wk.eq (el := [(0, .lst 9 (List.map Gq49.lv p0)), (4, .mp 11910), (5, .mp 11911), (6, .I n1)]) (ml := [(11910, .map 57 3 (mlv (fun (x : Int × Int) => LV.agg [.I x.1, .I x.2]) LV.I m2)), (11911, .map 57 4 (mlv (fun (x : Int × Int) => LV.agg [.I x.1, .I x.2]) LV.bool m3))]) R R R R) (LH.seq (LH.block (LH.seq ?_)))))
   obtain ⟨x5, hx5, h⟩ := bindS h
   obtain ⟨r6, hr6, h⟩ := bindS h
   refine LH.seqT [(0, .lst 9 (List.map Gq49.lv p0)), (4, .mp 11910), (5, .mp 11911), (6, .I n1), (23, .bool (!r6))] [(11910, .map 57 3 (mlv (fun (x : Int × Int) => LV.agg [.I x.1, .I x.2]) LV.I m2)), (11911, .map 57 4 (mlv (fun (x : Int × Int) => LV.agg [.I x.1, .I x.2]) LV.bool m3))] R (sMl R (sMi R (sN (oIx (f := Gq49.lv) te27 tk47 ts47 R R Gq49.ok hx5 R (sN (oLdA R tk47 ta47 ts47 R R (sN (oCP (args := [Gq49.lv x5]) R isF28 R (sbR sbN) (q145q hr6) R (sN (oNot R zS)))))))))) (LH.cond (t := (!r6)) R (fun hc7 => ?_) (fun hc7 => ?_))
   ·replace h := iteT h hc7
    refine LH.exit (thenX (blockH (thenN (LH.loneT [(0, .lst 9 (List.map Gq49.lv p0)), (4, .mp 11910), (5, .mp 11911), (6, .I (i64 (n1 + 1)))] [(11910, .map 57 3 (mlv (fun (x : Int × Int) => LV.agg [.I x.1, .I x.2]) LV.I m2)), (11911, .map 57 4 (mlv (fun (x : Int × Int) => LV.agg [.I x.1, .I x.2]) LV.bool m3))] R (sMi R (sN (oAdd R R (sAi R zS)))) ?_))))
    exact roundI ⟨(i64 (n1 + 1)), m2, m3, hrec1 ▸ h, R, R⟩ (Wk.eq R R R R)
   replace h := iteF h hc7
   refine LH.skip (thenN ?_)
   obtain ⟨x8, hx8, h⟩ := bindS h
   obtain ⟨x9, hx9, h⟩ := bindS h
   refine LH.seqJM mixed [] [0, 0, 0, 0, 0, 0, 0, 0, 0, 0, 0, 0, 4, 2, 100107] [(0, .lst 9 (List.map Gq49.lv p0)), (4, .mp 11910), (5, .mp 11911), (6, .I n1), (7, .sptr [.I x8.Stamp.Source, .I x9.Stamp.Seq])] [(11910, .map 57 3 (mlv (fun (x : Int × Int) => LV.agg [.I x.1, .I x.2]) LV.I m2)), (11911, .map 57 4 (mlv (fun (x : Int × Int) => LV.agg [.I x.1, .I x.2]) LV.bool m3))] R R (by kernel_rfl) ?_ ?_
   ·exact mMl R (mMi R (mN0 (oIx (f := Gq49.lv) te27 tk47 ts47 R R Gq49.ok hx8 R ⟨R, mN0 (oFaS tf47_0 tk45 ts45 R R R ⟨R, mN0 (oFaS tf45_1 tk3 ts3 R R R ⟨R, mN0 (oLd R tk3 ta3 ⟨R, mMl R (mMi R (mN0 (oIx (f := Gq49.lv) te27 tk47 ts47 R R Gq49.ok hx9 R ⟨R, mN0 (oFaS tf47_0 tk45 ts45 R R R ⟨R, mN0 (oFaS tf45_2 tk3 ts3 R R R ⟨R, mN0 (oLd R tk3 ta3 ⟨R, mM (fun _ => OpOk.toR [29, 35] (by simp [Op.operands, Call.operands]) (ok_buildA (xs := [.I x8.Stamp.Source, .I x9.Stamp.Seq]) ty57 R R R)) (mN2 (oAl (id := 107) R tz57 R R (mS R R R (fun _ b _ d => oSt R R R tk57 ts57 b R R d) (m0 ((Wk.trans (Wk.eq (el := [(0, .lst 9 (List.map Gq49.lv p0)), (4, .mp 11910), (5, .mp 11911), (6, .I n1), (7, .ptr 107 0)]) (ml := [(107, .box [.I x8.Stamp.Source, .I x9.Stamp.Seq]), (11910, .map 57 3 (mlv (fun (x : Int × Int) => LV.agg [.I x.1, .I x.2]) LV.I m2)), (11911, .map 57 4 (mlv (fun (x : Int × Int) => LV.agg [.I x.1, .I x.2]) LV.bool m3))]) R R R R) (Wk.trans (Wk.frzB 107 [.I x8.Stamp.Source, .I x9.Stamp.Seq] R R R (prN R)) (Wk.eq R R R R))))))))⟩)⟩)⟩)⟩)))⟩)⟩)⟩)⟩)))
   refine LH.seqT [(0, .lst 9 (List.map Gq49.lv p0)), (4, .mp 11910), (5, .mp 11911), (6, .I n1), (7, .sptr [.I x8.Stamp.Source, .I x9.Stamp.Seq]), (8, .I ((mget m2 (x8.Stamp.Source, x9.Stamp.Seq)).getD 0)), (9, .bool ((mget m2 (x8.Stamp.Source, x9.Stamp.Seq)).isSome))] [(11910, .map 57 3 (mlv (fun (x : Int × Int) => LV.agg [.I x.1, .I x.2]) LV.I m2)), (11911, .map 57 4 (mlv (fun (x : Int × Int) => LV.agg [.I x.1, .I x.2]) LV.bool m3))] R (sN (oM (v := (.mp _)) R (sN (oLdA R tk57 ta57 ts57 R R (sX ((ok_lookup2 (f := (fun (x : Int × Int) => LV.agg [.I x.1, .I x.2])) (g := LV.I) (xs := m2) (key := (x8.Stamp.Source, x9.Stamp.Seq)) (z := 0) tm89 kok57 kf57 R R R tz3).ok) (sMt R (sN (oEx R R (sN (oEx R R (sAi R (sAb R zS)))))))))))) (LH.seqT [(0, .lst 9 (List.map Gq49.lv p0)), (4, .mp 11910), (5, .mp 11911), (6, .I n1), (7, .sptr [.I x8.Stamp.Source, .I x9.Stamp.Seq]), (8, .I ((mget m2 (x8.Stamp.Source, x9.Stamp.Seq)).getD 0)), (44, .bool (!((mget m2 (x8.Stamp.Source, x9.Stamp.Seq)).isSome)))] [(11910, .map 57 3 (mlv (fun (x : Int × Int) => LV.agg [.I x.1, .I x.2]) LV.I m2)), (11911, .map 57 4 (mlv (fun (x : Int × Int) => LV.agg [.I x.1, .I x.2]) LV.bool m3))] R (sMb R (sN (oNot R zS))) (LH.cond (t := (!((mget m2 (x8.Stamp.Source, x9.Stamp.Seq)).isSome))) R (fun hc10 => ?_) (fun hc10 => ?_)))
   ·replace h := iteT h hc10
    refine LH.loneT [(0, .lst 9 (List.map Gq49.lv p0)), (4, .mp 11910), (5, .mp 11911), (6, .I n1)] [(11910, .map 57 3 (mlv (fun (x : Int × Int) => LV.agg [.I x.1, .I x.2]) LV.I (mput m2 (x8.Stamp.Source, x9.Stamp.Seq) n1))), (11911, .map 57 4 (mlv (fun (x : Int × Int) => LV.agg [.I x.1, .I x.2]) LV.bool m3))] R (sN (oM (v := (.mp _)) R (sN (oLdA R tk57 ta57 ts57 R R (sMi R (sX_ ((ok_update (f := (fun (x : Int × Int) => LV.agg [.I x.1, .I x.2])) (g := LV.I) (xs := m2) (key := (x8.Stamp.Source, x9.Stamp.Seq)) (val := n1) (.inl R) tm89 kok57 kf57 (fun _ => R) R R R R).ok) zS)))))) (blockN (thenN (LH.loneT [(0, .lst 9 (List.map Gq49.lv p0)), (4, .mp 11910), (5, .mp 11911), (6, .I (i64 (n1 + 1)))] [(11910, .map 57 3 (mlv (fun (x : Int × Int) => LV.agg [.I x.1, .I x.2]) LV.I (mput m2 (x8.Stamp.Source, x9.Stamp.Seq) n1))), (11911, .map 57 4 (mlv (fun (x : Int × Int) => LV.agg [.I x.1, .I x.2]) LV.bool m3))] R (sMi R (sN (oAdd R R (sAi R zS)))) ?_)))
    exact roundI ⟨(i64 (n1 + 1)), (mput m2 (x8.Stamp.Source, x9.Stamp.Seq) n1), m3, hrec1 ▸ h, R, R⟩ (Wk.eq R R R R)
   replace h := iteF h hc10
   obtain ⟨x11, hx11, h⟩ := bindS h
   obtain ⟨x12, hx12, h⟩ := bindS h
   obtain ⟨r13, hr13, h⟩ := bindS h
   refine LH.seqJM mixed [] [0, 0, 0, 0, 0, 0, 0, 0, 0, 0] [(0, .lst 9 (List.map Gq49.lv p0)), (4, .mp 11910), (5, .mp 11911), (6, .I n1), (7, .sptr [.I x8.Stamp.Source, .I x9.Stamp.Seq]), (57, .bool (!r13))] [(11910, .map 57 3 (mlv (fun (x : Int × Int) => LV.agg [.I x.1, .I x.2]) LV.I m2)), (11911, .map 57 4 (mlv (fun (x : Int × Int) => LV.agg [.I x.1, .I x.2]) LV.bool m3))] R R (by kernel_rfl) (mMl R (mMi R (mN0 (oIx (f := Gq49.lv) te27 tk47 ts47 R R Gq49.ok hx11 R ⟨R, mN0 (oLdA R tk47 ta47 ts47 R R ⟨R, mMl R (mMi R (mN0 (oIx (f := Gq49.lv) te27 tk47 ts47 R R Gq49.ok hx12 R ⟨R, mN0 (oLdA R tk47 ta47 ts47 R R ⟨R, mN0 (oCP (args := [Gq49.lv x11, Gq49.lv x12]) R isF30 R (sbR (sbR sbN)) (q131q hr13) R ⟨R, mN0 (oNot R ⟨R, zM⟩)⟩)⟩)⟩)))⟩)⟩)))) (LH.cond (t := (!r13)) R (fun hc14 => ?_) (fun hc14 => ?_))
   ·replace h := iteT h hc14
    refine LH.loneT [(0, .lst 9 (List.map Gq49.lv p0)), (4, .mp 11910), (5, .mp 11911), (6, .I n1)] [(11910, .map 57 3 (mlv (fun (x : Int × Int) => LV.agg [.I x.1, .I x.2]) LV.I m2)), (11911, .map 57 4 (mlv (fun (x : Int × Int) => LV.agg [.I x.1, .I x.2]) LV.bool (mput m3 (x8.Stamp.Source, x9.Stamp.Seq) true)))] R (sN (oM (v := (.mp _)) R (sN (oLdA R tk57 ta57 ts57 R R (sX_ ((ok_update (f := (fun (x : Int × Int) => LV.agg [.I x.1, .I x.2])) (g := LV.bool) (xs := m3) (key := (x8.Stamp.Source, x9.Stamp.Seq)) (val := true) (.inl R) tm90 kok57 kf57 (fun _ => R) R R R R).ok) zS))))) (blockN (thenN (LH.loneT [(0, .lst 9 (List.map Gq49.lv p0)), (4, .mp 11910), (5, .mp 11911), (6, .I (i64 (n1 + 1)))] [(11910, .map 57 3 (mlv (fun (x : Int × Int) => LV.agg [.I x.1, .I x.2]) LV.I m2)), (11911, .map 57 4 (mlv (fun (x : Int × Int) => LV.agg [.I x.1, .I x.2]) LV.bool (mput m3 (x8.Stamp.Source, x9.Stamp.Seq) true)))] R (sMi R (sN (oAdd R R (sAi R zS)))) ?_)))
    exact roundI ⟨(i64 (n1 + 1)), m2, (mput m3 (x8.Stamp.Source, x9.Stamp.Seq) true), hrec1 ▸ h, R, R⟩ (Wk.eq R R R R)
   replace h := iteF h hc14
   refine LH.skip (blockN (thenN (LH.loneT [(0, .lst 9 (List.map Gq49.lv p0)), (4, .mp 11910), (5, .mp 11911), (6, .I (i64 (n1 + 1)))] [(11910, .map 57 3 (mlv (fun (x : Int × Int) => LV.agg [.I x.1, .I x.2]) LV.I m2)), (11911, .map 57 4 (mlv (fun (x : Int × Int) => LV.agg [.I x.1, .I x.2]) LV.bool m3))] R (sMi R (sN (oAdd R R (sAi R zS)))) ?_)))
   exact roundI ⟨(i64 (n1 + 1)), m2, m3, hrec1 ▸ h, R, R⟩ (Wk.eq R R R R)
  replace h := iteF h hc4
  refine LH.exit (thenX (roundX (blockH (thenN (LH.seqT [(2, .mp 11910), (3, .mp 11911)] [(11910, .map 57 3 (mlv (fun (x : Int × Int) => LV.agg [.I x.1, .I x.2]) LV.I m2)), (11911, .map 57 4 (mlv (fun (x : Int × Int) => LV.agg [.I x.1, .I x.2]) LV.bool m3))] R (sN (oM (v := (.mp _)) R (sN (oM (v := (.mp _)) R (sN (oA (v := (.mp _)) R (sN (oA (v := (.mp _)) R zS)))))))) (LH.ret ?_))))))
  obtain rfl := oI h
  exact retE (aT Try.results49) (lrT R (lrT R (lr0 ⟨memN (mC R (mC R mN)), R, prK R, (Sub.tup (sbR (sbR sbN)))⟩)))

theorem q171q {p0 : Gq56} {p1 : Gq56} {r : Bool} (h : q136q p0 p1 = some r) : LCall Try.prog 57 [.agg [.I p0.Time, .I p0.Source, .I p0.Seq], .agg [.I p1.Time, .I p1.Source, .I p1.Seq]] (Mem.of []) (.bool r) (Mem.of []) := by
  unfold q136q at h
  refine bodyT Try.func57 R (nT Try.ntmps57 R) (LH.wk (Wk.eq (el := [(0, .agg [.I p0.Time, .I p0.Source, .I p0.Seq]), (1, .agg [.I p1.Time, .I p1.Source, .I p1.Seq])]) (ml := []) R R R R) (LH.seqT [(2, .sptr [.I p0.Time, .I p0.Source, .I p0.Seq]), (3, .sptr [.I p1.Time, .I p1.Source, .I p1.Seq])] [] R (sB (oBxR R R R R (sB (oBxR R R R R (sAb R zS))))) (LH.seq (LH.block (LH.seqT [(2, .sptr [.I p0.Time, .I p0.Source, .I p0.Seq]), (3, .sptr [.I p1.Time, .I p1.Source, .I p1.Seq]), (5, .bool (p0.Time != p1.Time))] [] R (sN (oFaS tf45_0 tk3 ts3 R R R (sN (oLd R tk3 ta3 (sN (oFaS tf45_0 tk3 ts3 R R R (sN (oLd R tk3 ta3 (sN (oNe R R (sAb R zS))))))))))) (LH.cond (t := (p0.Time != p1.Time)) R (fun hc1 => ?_) (fun hc1 => ?_)))))))
  ·replace h := iteT h hc1
   refine LH.seqT [(4, .bool (decide (p0.Time < p1.Time)))] [] R (sN (oFaS tf45_0 tk3 ts3 R R R (sN (oLd R tk3 ta3 (sN (oFaS tf45_0 tk3 ts3 R R R (sN (oLd R tk3 ta3 (sN (oLt R R (sAb R zS))))))))))) (LH.ret (blockR (thenR ?_)))
   obtain rfl := oI h
   exact retE (aT Try.results57) (lrT R (lr0 ⟨memN mN, R, prK R, Sub.rfl⟩))
  replace h := iteF h hc1
  refine LH.seqT [(2, .sptr [.I p0.Time, .I p0.Source, .I p0.Seq]), (3, .sptr [.I p1.Time, .I p1.Source, .I p1.Seq]), (16, .bool (p0.Source != p1.Source))] [] R (sN (oFaS tf45_1 tk3 ts3 R R R (sN (oLd R tk3 ta3 (sN (oFaS tf45_1 tk3 ts3 R R R (sN (oLd R tk3 ta3 (sN (oNe R R (sAb R zS))))))))))) (LH.cond (t := (p0.Source != p1.Source)) R (fun hc2 => ?_) (fun hc2 => ?_))
  ·replace h := iteT h hc2
   refine LH.seqT [(4, .bool (decide (p0.Source < p1.Source)))] [] R (sN (oFaS tf45_1 tk3 ts3 R R R (sN (oLd R tk3 ta3 (sN (oFaS tf45_1 tk3 ts3 R R R (sN (oLd R tk3 ta3 (sN (oLt R R (sAb R zS))))))))))) (LH.ret (blockR (thenR ?_)))
   obtain rfl := oI h
   exact retE (aT Try.results57) (lrT R (lr0 ⟨memN mN, R, prK R, Sub.rfl⟩))
  replace h := iteF h hc2
  refine LH.skip (blockN (thenN (LH.seqT [(4, .bool (decide (p0.Seq < p1.Seq)))] [] R (sN (oFaS tf45_2 tk3 ts3 R R R (sN (oLd R tk3 ta3 (sN (oFaS tf45_2 tk3 ts3 R R R (sN (oLd R tk3 ta3 (sN (oLt R R (sAb R zS))))))))))) (LH.ret ?_))))
  obtain rfl := oI h
  exact retE (aT Try.results57) (lrT R (lr0 ⟨memN mN, R, prK R, Sub.rfl⟩))

theorem q140q {p0 : Gq49} {p1 : Gq49} {r : Bool} (h : q77q p0 p1 = some r) : LCall Try.prog 31 [Gq49.lv p0, Gq49.lv p1] (Mem.of []) (.bool r) (Mem.of []) := by
  unfold q77q at h
  refine bodyT Try.func31 R (nT Try.ntmps31 R) (LH.wk (Wk.eq (el := [(0, Gq49.lv p0), (1, Gq49.lv p1)]) (ml := []) R R R R) (LH.seqT [(2, .sptr (Gq49.lv p0).cells), (3, .sptr (Gq49.lv p1).cells)] [] R (sB (oBxR R R R R (sB (oBxR R R R R (sAb R zS))))) ?_))
  obtain ⟨r1, hr1, h⟩ := bindS h
  refine LH.seqT [(4, .bool r1)] [] R (sN (oFaS tf47_0 tk45 ts45 R R R (sN (oLdA R tk45 ta45 ts45 R R (sN (oFaS tf47_0 tk45 ts45 R R R (sN (oLdA R tk45 ta45 ts45 R R (sN (oCP (args := [.agg [.I p0.Stamp.Time, .I p0.Stamp.Source, .I p0.Stamp.Seq], .agg [.I p1.Stamp.Time, .I p1.Stamp.Source, .I p1.Stamp.Seq]]) R isF57 R (sbR (sbR sbN)) (q171q hr1) R (sAb R zS))))))))))) (LH.ret ?_)
  obtain rfl := oI h
  exact retE (aT Try.results31) (lrT R (lr0 ⟨memN mN, R, prK R, Sub.rfl⟩))

theorem q172q {F : Nat} {p0 : List Gq49} {r : List Gq49} (h : q98q F p0 = some r) : LCall Try.prog 50 [.lst 9 (List.map Gq49.lv p0)] (Mem.of []) (.lst 9 (List.map Gq49.lv r)) (Mem.of []) := by
  induction F generalizing p0 r with
  | zero => cases (show Option.none = some _ from h)
  | succ F ih =>
    unfold q98q at h
    refine bodyT Try.func50 R (nT Try.ntmps50 R) (LH.wk (Wk.eq (el := [(0, .lst 9 (List.map Gq49.lv p0))]) (ml := []) R R R R) (LH.seqT [(0, .lst 9 (List.map Gq49.lv p0))] [] R (sAn R zS) (LH.seq (LH.seqT [(0, .lst 9 (List.map Gq49.lv p0)), (10, .bool (decide ((p0.length : Int) < 2)))] [] R (sMl R (sN (oLnL (f := Gq49.lv) te27 R (sN (oLt R R zS))))) (LH.cond (t := (decide ((p0.length : Int) < 2))) R (fun hc1 => ?_) (fun hc1 => ?_))))))
    ·replace h := iteT h hc1
     obtain ⟨v2, hv2, h⟩ := bindS h
     refine LH.seqT [(2, .lst 9 (List.map Gq49.lv v2))] [] R (sMl R (sN (oApN (f := Gq49.lv) (id := 112) R te27 tr47 ts47 R R hv2 R (sAa R (s0 ((Wk.trans (Wk.eq (el := [(2, .arr 112 (List.length v2))]) (ml := [(112, .arr 47 9 (List.map Gq49.lv v2))]) R R R R) (Wk.trans (Wk.frzL (f := Gq49.lv) (el' := [(2, .lst 9 (List.map Gq49.lv v2))]) 112 47 9 v2 R R (prN R) (fZ fN)) (Wk.eq R R R R))))))))) (LH.ret (thenR ?_))
     obtain rfl := oI h
     exact retE (aT Try.results50) (lrT R (lr0 ⟨memN mN, R, prK R, Sub.rfl⟩))
    replace h := iteF h hc1
    refine LH.skip (thenN ?_)
    obtain ⟨v3, hv3, h⟩ := bindS h
    obtain ⟨v4, hv4, h⟩ := bindS h
    obtain ⟨r5, hr5, h⟩ := bindS h
    obtain ⟨v6, hv6, h⟩ := bindS h
    obtain ⟨v7, hv7, h⟩ := bindS h
    obtain ⟨r8, hr8, h⟩ := bindS h
    refine LH.seqJM mixed [] [0, 0, 0, 0, 0, 0, 0, 0, 0, 0, 0, 0, 0, 0] [(3, .lst 9 (List.map Gq49.lv r5)), (4, .lst 9 (List.map Gq49.lv r8))] [] R R (by kernel_rfl) ?_ ?_
    ·exact mMl R (mMl R (mN0 (oLnL (f := Gq49.lv) te27 R ⟨R, mN0 (oQuo R R hv3 ⟨R, mN0 (oSl (f := Gq49.lv) te27 tk47 ts47 R R R hv4 ⟨R, mN0 (oCP (args := [.lst 9 (List.map Gq49.lv v4)]) R isF50 R (sbR sbN) (ih hr5) R ⟨R, mMl R (mMl R (mN0 (oLnL (f := Gq49.lv) te27 R ⟨R, mN0 (oQuo R R hv6 ⟨R, mN0 (oSl (f := Gq49.lv) te27 tk47 ts47 R R R hv7 ⟨R, mN0 (oCP (args := [.lst 9 (List.map Gq49.lv v7)]) R isF50 R (sbR sbN) (ih hr8) R ⟨R, mAl R (mAl R zM)⟩)⟩)⟩)⟩)))⟩)⟩)⟩)⟩)))
    refine LH.seqT [(3, .lst 9 (List.map Gq49.lv r5)), (4, .lst 9 (List.map Gq49.lv r8)), (5, .nil)] [] R (sAn R zS) (LH.seqT [(3, .lst 9 (List.map Gq49.lv r5)), (4, .lst 9 (List.map Gq49.lv r8)), (5, .nil), (6, .I 0), (7, .I 0)] [] R (sAi R (sAi R zS)) (LH.seq (LH.block (LH.wk ((Wk.trans (Wk.eq (el := [(3, .lst 9 (List.map Gq49.lv r5)), (4, .lst 9 (List.map Gq49.lv r8)), (5, .nil), (6, .I 0), (7, .I 0)]) (ml := []) R R R R) (Wk.trans (Wk.eq (el := [(3, .lst 9 (List.map Gq49.lv r5)), (4, .lst 9 (List.map Gq49.lv r8)), (5, .nil), (6, .I 0), (7, .I 0)]) (ml := []) R R R R) (Wk.trans (Wk.ownL (el' := [(3, .lst 9 (List.map Gq49.lv r5)), (4, .lst 9 (List.map Gq49.lv r8)), (5, .arr 163 (List.length ([] : List Gq49))), (6, .I 0), (7, .I 0)]) 163 47 9 R R (wK (wK (wO (wK (wK wN)))))) (Wk.eq (el := [(3, .lst 9 (List.map Gq49.lv r5)), (4, .lst 9 (List.map Gq49.lv r8)), (5, .arr 163 (List.length ([] : List Gq49))), (6, .I 0), (7, .I 0)]) (ml := [(163, .arr 47 9 (List.map Gq49.lv ([] : List Gq49)))]) R R R R))))) (LH.loop (fun n e m => ∃ (n9 : Int) (n10 : Int) (l11 : List Gq49), q38q r5 r8 n n9 n10 l11 = some r ∧ e = Env.of [(3, .lst 9 (List.map Gq49.lv r5)), (4, .lst 9 (List.map Gq49.lv r8)), (5, .arr 163 (List.length l11)), (6, .I n9), (7, .I n10)] ∧ m = Mem.of [(163, .arr 47 9 (List.map Gq49.lv l11))]) F ⟨0, 0, ([] : List Gq49), h, R, R⟩ ?_)))))
    clear h
    rintro n e m ⟨n9, n10, l11, h, rfl, rfl⟩
    rcases n with _ | n
    · cases (show Option.none = some _ from h)
    obtain ⟨rec1, hrec1⟩ : ∃ f, f = q38q r5 r8 n := ⟨_, rfl⟩
    replace h : q111q r5 r8 rec1 n9 n10 l11 = some r := hrec1 ▸ h
    unfold q111q at h
    refine LH.seq (LH.seqT [(3, .lst 9 (List.map Gq49.lv r5)), (4, .lst 9 (List.map Gq49.lv r8)), (5, .arr 163 (List.length l11)), (6, .I n9), (7, .I n10), (34, .bool ((decide (n9 < (r5.length : Int))) || (decide (n10 < (r8.length : Int)))))] [(163, .arr 47 9 (List.map Gq49.lv l11))] R ?_ ?_)
    ·refine sMi R (sMl R (sN (oLnL (f := Gq49.lv) te27 R (sN (oLt R R (sMb R ?_))))))
     by_cases hb13 : (decide (n9 < (r5.length : Int))) = true
     ·exact sF R R hb13 (sF R R hb13 (sF R R hb13 (sF R R hb13 (sN (oPkT (cB hb13) (v := (.bool _)) R (s0 (Wk.to (eC R (eC R (eC R (eC R (eC R (eC (cB (orT hb13)) eN)))))) ⟨R, trivial⟩ R (prK R))))))))
     ·replace hb13 := bF hb13
      exact sT R (cB hb13) (oM (v := (.int _ _)) R (sT R (cB hb13) (oM (v := (.lst _ _)) R (sT R (cB hb13) (oLnL (f := Gq49.lv) te27 R (sT R (cB hb13) (oLt R R (sN (oPkF (cB hb13) (v := (.bool _)) R (s0 (Wk.to (eC R (eC R (eC R (eC R (eC R (eC (cB (orF hb13)) eN)))))) ⟨R, trivial⟩ R (prK R))))))))))))
    refine LH.cond (t := ((decide (n9 < (r5.length : Int))) || (decide (n10 < (r8.length : Int))))) R (fun hc14 => ?_) (fun hc14 => ?_)
    ·replace h := iteT h hc14
     refine LH.skip (thenN (LH.wk (Wk.eq (el := [(3, .lst 9 (List.map Gq49.lv r5)), (4, .lst 9 (List.map Gq49.lv r8)), (5, .arr 163 (List.length l11)), (6, .I n9), (7, .I n10)]) (ml := [(163, .arr 47 9 (List.map Gq49.lv l11))]) R R R R) (LH.block ?_)))
     obtain ⟨w16, hv, h⟩ := bindS h
     refine LH.seqJM mixed [] [0, 0, 0, 0, 0, 0, 0, 0, 0, 0, 0, 0, 0, 0, 0, 0, 0, 0, 0, 0, 0, 0] [(3, .lst 9 (List.map Gq49.lv r5)), (4, .lst 9 (List.map Gq49.lv r8)), (5, .arr 163 (List.length l11)), (6, .I n9), (7, .I n10), (56, .bool w16)] [(163, .arr 47 9 (List.map Gq49.lv l11))] R R (by kernel_rfl) ?_ ?_
     ·refine mMi R (mMl R (mN0 (oLnL (f := Gq49.lv) te27 R ⟨R, mN0 (oEq R R ⟨R, mMb R ?_⟩)⟩)))
      by_cases hb17 : (n10 == (r8.length : Int)) = true
      ·replace hv := iteT hv hb17
       refine mF R R hb17 (mF R R hb17 (mF R R hb17 (mF R R hb17 (mF R R hb17 (mU R R (mU R R (mU R R (mU R R (mU R R (mU R R (mU R R (mU R R (mU R R (mU R R (mF R R hb17 (mN0 (oPkT (cB hb17) (v := (.bool _)) R ⟨R, ?_⟩)))))))))))))))))
       obtain rfl := oI hv
       exact zM
      ·replace hb17 := bF hb17
       replace hv := iteF hv hb17
       refine mT R (cB hb17) (mMi R (mT R (cB hb17) (mMl R (mT R (cB hb17) (mN0 (oLnL (f := Gq49.lv) te27 R ⟨R, mT R (cB hb17) (mN0 (oLt R R ⟨R, mT R (cB hb17) (mMb R ?_)⟩))⟩))))))
       by_cases hb18 : (decide (n9 < (r5.length : Int))) = true
       ·replace hv := iteT hv hb18
        refine mT R (cB hb18) (mMl R (mT R (cB hb18) (mMi R ?_)))
        obtain ⟨x19, hx19, hv⟩ := bindS hv
        refine mT R (cB hb18) (mN0 (oIx (f := Gq49.lv) te27 tk47 ts47 R R Gq49.ok hx19 R ⟨R, mT R (cB hb18) (mN0 (oLdA R tk47 ta47 ts47 R R ⟨R, mT R (cB hb18) (mMl R (mT R (cB hb18) (mMi R ?_)))⟩))⟩))
        obtain ⟨x20, hx20, hv⟩ := bindS hv
        refine mT R (cB hb18) (mN0 (oIx (f := Gq49.lv) te27 tk47 ts47 R R Gq49.ok hx20 R ⟨R, mT R (cB hb18) (mN0 (oLdA R tk47 ta47 ts47 R R ⟨R, ?_⟩))⟩))
        obtain ⟨r21, hr21, hv⟩ := bindS hv
        refine mT R (cB hb18) (mN0 (oCP (args := [Gq49.lv x19, Gq49.lv x20]) R isF31 R (sbR (sbR sbN)) (q140q hr21) R ⟨R, mT R (cB hb18) (mN0 (oNot R ⟨R, mT R (cB hb17) (mN0 (oPkT (cB hb18) (v := (.bool _)) R ⟨R, mN0 (oPkF (cB hb17) (v := (.bool _)) R ⟨R, ?_⟩)⟩))⟩))⟩))
        obtain rfl := oI hv
        exact zM
       ·replace hb18 := bF hb18
        replace hv := iteF hv hb18
        refine mF R R hb18 (mF R R hb18 (mF R R hb18 (mF R R hb18 (mF R R hb18 (mF R R hb18 (mF R R hb18 (mF R R hb18 (mF R R hb18 (mF R R hb18 (mT R (cB hb17) (mN0 (oPkF (cB hb18) (v := (.bool _)) R ⟨R, mN0 (oPkF (cB hb17) (v := (.bool _)) R ⟨R, ?_⟩)⟩))))))))))))
        obtain rfl := oI hv
        exact zM
     clear hv
     refine LH.cond (t := w16) R (fun hc22 => ?_) (fun hc22 => ?_)
     ·replace h := iteT h hc22
      obtain ⟨x23, hx23, h⟩ := bindS h
      obtain ⟨v24, hv24, h⟩ := bindS h
      refine LH.seqT [(3, .lst 9 (List.map Gq49.lv r5)), (4, .lst 9 (List.map Gq49.lv r8)), (5, .arr 163 (List.length v24)), (6, .I n9), (7, .I n10)] [(163, .arr 47 9 (List.map Gq49.lv v24))] R (sMa R (sMl R (sMi R (sN (oIx (f := Gq49.lv) te27 tk47 ts47 R R Gq49.ok hx23 R (sN (oLdA R tk47 ta47 ts47 R R (sN (oBS (f := Gq49.lv) (ys := [x23]) te27 tr47 ts47 R R R Gq49.ok (sN (oAp (f := Gq49.lv) te27 tr47 ts47 R R (prN R) R hv24 (sAa R zS)))))))))))) (LH.loneT [(3, .lst 9 (List.map Gq49.lv r5)), (4, .lst 9 (List.map Gq49.lv r8)), (5, .arr 163 (List.length v24)), (6, .I (i64 (n9 + 1))), (7, .I n10)] [(163, .arr 47 9 (List.map Gq49.lv v24))] R (sMi R (sN (oAdd R R (sAi R zS)))) (blockN ?_))
      exact roundI ⟨(i64 (n9 + 1)), n10, v24, hrec1 ▸ h, R, R⟩ (Wk.eq R R R R)
     replace h := iteF h hc22
     obtain ⟨x25, hx25, h⟩ := bindS h
     obtain ⟨v26, hv26, h⟩ := bindS h
     refine LH.seqT [(3, .lst 9 (List.map Gq49.lv r5)), (4, .lst 9 (List.map Gq49.lv r8)), (5, .arr 163 (List.length v26)), (6, .I n9), (7, .I n10)] [(163, .arr 47 9 (List.map Gq49.lv v26))] R (sMa R (sMl R (sMi R (sN (oIx (f := Gq49.lv) te27 tk47 ts47 R R Gq49.ok hx25 R (sN (oLdA R tk47 ta47 ts47 R R (sN (oBS (f := Gq49.lv) (ys := [x25]) te27 tr47 ts47 R R R Gq49.ok (sN (oAp (f := Gq49.lv) te27 tr47 ts47 R R (prN R) R hv26 (sAa R zS)))))))))))) (LH.loneT [(3, .lst 9 (List.map Gq49.lv r5)), (4, .lst 9 (List.map Gq49.lv r8)), (5, .arr 163 (List.length v26)), (6, .I n9), (7, .I (i64 (n10 + 1)))] [(163, .arr 47 9 (List.map Gq49.lv v26))] R (sMi R (sN (oAdd R R (sAi R zS)))) (blockN ?_))
     exact roundI ⟨n9, (i64 (n10 + 1)), v26, hrec1 ▸ h, R, R⟩ (Wk.eq R R R R)
    replace h := iteF h hc14
    refine LH.exit (thenX (roundX (blockH (thenN (LH.wk ((Wk.trans (Wk.eq (el := [(5, .arr 163 (List.length l11))]) (ml := [(163, .arr 47 9 (List.map Gq49.lv l11))]) R R R R) (Wk.trans (Wk.frzL (f := Gq49.lv) (el' := [(5, .lst 9 (List.map Gq49.lv l11))]) 163 47 9 l11 R R (prN R) (fZ fN)) (Wk.eq (el := [(5, .lst 9 (List.map Gq49.lv l11))]) (ml := []) R R R R)))) (LH.seqT [(2, .lst 9 (List.map Gq49.lv l11))] [] R (sMl R (sAl R zS)) (LH.ret ?_)))))))
    obtain rfl := oI h
    exact retE (aT Try.results50) (lrT R (lr0 ⟨memN mN, R, prK R, Sub.rfl⟩))

theorem q129q {F : Nat} {p0 : List Gq49} {r : List Gq49 × Int} (h : q59q F p0 = some r) : LCall Try.prog 20 [.lst 9 (List.map Gq49.lv p0)] (Mem.of []) (.tup [.lst 9 (List.map Gq49.lv r.1), .I r.2]) (Mem.of []) := by
  unfold q59q at h
  refine bodyT Try.func20 R (nT Try.ntmps20 R) (LH.wk (Wk.eq (el := [(0, .lst 9 (List.map Gq49.lv p0))]) (ml := []) R R R R) (LH.seqT [(0, .lst 9 (List.map Gq49.lv p0))] [] R (sAn R (sAi R zS)) ?_))
  obtain ⟨r1, hr1, h⟩ := bindS h
  refine LH.seqT [(0, .lst 9 (List.map Gq49.lv p0)), (4, .mp 11910), (5, .mp 11911)] [(11910, .map 57 3 (mlv (fun (x : Int × Int) => LV.agg [.I x.1, .I x.2]) LV.I r1.1)), (11911, .map 57 4 (mlv (fun (x : Int × Int) => LV.agg [.I x.1, .I x.2]) LV.bool r1.2))] R (sMl R (sN (oCM (args := [.lst 9 (List.map Gq49.lv p0)]) (ml := []) (ml' := [(11910, .map 57 3 (mlv (fun (x : Int × Int) => LV.agg [.I x.1, .I x.2]) LV.I r1.1)), (11911, .map 57 4 (mlv (fun (x : Int × Int) => LV.agg [.I x.1, .I x.2]) LV.bool r1.2))]) R isF49 R (sbR sbN) (q134q hr1) mN (newF R (newF R newN)) R (sMt R (sN (oEx R R (sN (oEx R R (sN (oA (v := (.mp _)) R (sN (oA (v := (.mp _)) R zS)))))))))))) (LH.seqT [(0, .lst 9 (List.map Gq49.lv p0)), (4, .mp 11910), (5, .mp 11911), (6, .nil)] [(11910, .map 57 3 (mlv (fun (x : Int × Int) => LV.agg [.I x.1, .I x.2]) LV.I r1.1)), (11911, .map 57 4 (mlv (fun (x : Int × Int) => LV.agg [.I x.1, .I x.2]) LV.bool r1.2))] R (sAn R zS) (LH.seq (LH.seqT [(0, .lst 9 (List.map Gq49.lv p0)), (4, .mp 11910), (5, .mp 11911), (6, .nil), (7, .I 0)] [(11910, .map 57 3 (mlv (fun (x : Int × Int) => LV.agg [.I x.1, .I x.2]) LV.I r1.1)), (11911, .map 57 4 (mlv (fun (x : Int × Int) => LV.agg [.I x.1, .I x.2]) LV.bool r1.2))] R (sAi R zS) (LH.block (LH.wk ((Wk.trans (Wk.eq (el := [(0, .lst 9 (List.map Gq49.lv p0)), (4, .mp 11910), (5, .mp 11911), (6, .nil), (7, .I 0)]) (ml := [(11910, .map 57 3 (mlv (fun (x : Int × Int) => LV.agg [.I x.1, .I x.2]) LV.I r1.1)), (11911, .map 57 4 (mlv (fun (x : Int × Int) => LV.agg [.I x.1, .I x.2]) LV.bool r1.2))]) R R R R) (Wk.trans (Wk.eq (el := [(0, .lst 9 (List.map Gq49.lv p0)), (4, .mp 11910), (5, .mp 11911), (6, .nil), (7, .I 0)]) (ml := [(11910, .map 57 3 (mlv (fun (x : Int × Int) => LV.agg [.I x.1, .I x.2]) LV.I r1.1)), (11911, .map 57 4 (mlv (fun (x : Int × Int) => LV.agg [.I x.1, .I x.2]) LV.bool r1.2))]) R R R R) (Wk.trans (Wk.ownL (el' := [(0, .lst 9 (List.map Gq49.lv p0)), (4, .mp 11910), (5, .mp 11911), (6, .arr 165 (List.length ([] : List Gq49))), (7, .I 0)]) 165 47 9 R R (wK (wK (wK (wO (wK wN)))))) (Wk.eq (el := [(0, .lst 9 (List.map Gq49.lv p0)), (4, .mp 11910), (5, .mp 11911), (6, .arr 165 (List.length ([] : List Gq49))), (7, .I 0)]) (ml := [(165, .arr 47 9 (List.map Gq49.lv ([] : List Gq49))), (11910, .map 57 3 (mlv (fun (x : Int × Int) => LV.agg [.I x.1, .I x.2]) LV.I r1.1)), (11911, .map 57 4 (mlv (fun (x : Int × Int) => LV.agg [.I x.1, .I x.2]) LV.bool r1.2))]) R R R R))))) (LH.loop (fun n e m => ∃ (n2 : Int) (l3 : List Gq49), q8q F p0 r1 n n2 l3 = some r ∧ e = Env.of [(0, .lst 9 (List.map Gq49.lv p0)), (4, .mp 11910), (5, .mp 11911), (6, .arr 165 (List.length l3)), (7, .I n2)] ∧ m = Mem.of [(165, .arr 47 9 (List.map Gq49.lv l3)), (11910, .map 57 3 (mlv (fun (x : Int × Int) => LV.agg [.I x.1, .I x.2]) LV.I r1.1)), (11911, .map 57 4 (mlv (fun (x : Int × Int) => LV.agg [.I x.1, .I x.2]) LV.bool r1.2))]) F ⟨0, ([] : List Gq49), h, R, R⟩ ?_))))))
  clear h
  rintro n e m ⟨n2, l3, h, rfl, rfl⟩
  rcases n with _ | n
  · cases (show Option.none = some _ from h)
  obtain ⟨rec1, hrec1⟩ : ∃ f, f = q8q F p0 r1 n := ⟨_, rfl⟩
  replace h : q35q F p0 r1 rec1 n2 l3 = some r := hrec1 ▸ h
  unfold q35q at h
  refine LH.seq (LH.seqT [(0, .lst 9 (List.map Gq49.lv p0)), (4, .mp 11910), (5, .mp 11911), (6, .arr 165 (List.length l3)), (7, .I n2), (20, .bool (decide (n2 < (p0.length : Int))))] [(165, .arr 47 9 (List.map Gq49.lv l3)), (11910, .map 57 3 (mlv (fun (x : Int × Int) => LV.agg [.I x.1, .I x.2]) LV.I r1.1)), (11911, .map 57 4 (mlv (fun (x : Int × Int) => LV.agg [.I x.1, .I x.2]) LV.bool r1.2))] R (sMi R (sMl R (sN (oLnL (f := Gq49.lv) te27 R (sN (oLt R R zS)))))) (LH.cond (t := (decide (n2 < (p0.length : Int)))) R (fun hc4 => ?_) (fun hc4 => ?_)))
  ·replace h := iteT h hc4
   refine LH.skip (thenN (LH.wk (Wk.eq (el := [(0, .lst 9 (List.map Gq49.lv p0)), (4, .mp 11910), (5, .mp 11911), (6, .arr 165 (List.length l3)), (7, .I n2)]) (ml := [(165, .arr 47 9 (List.map Gq49.lv l3)), (11910, .map 57 3 (mlv (fun (x : Int × Int) => LV.agg [.I x.1, .I x.2]) LV.I r1.1)), (11911, .map 57 4 (mlv (fun (x : Int × Int) => LV.agg [.I x.1, .I x.2]) LV.bool r1.2))]) R R R R) (LH.seq (LH.block ?_))))
   obtain ⟨x5, hx5, h⟩ := bindS h
   obtain ⟨x6, hx6, h⟩ := bindS h
   refine LH.seqJM mixed [] [0, 0, 0, 0, 0, 0, 0, 0, 0, 0, 0, 0, 4, 2, 100108] [(0, .lst 9 (List.map Gq49.lv p0)), (4, .mp 11910), (5, .mp 11911), (6, .arr 165 (List.length l3)), (7, .I n2), (8, .sptr [.I x5.Stamp.Source, .I x6.Stamp.Seq])] [(165, .arr 47 9 (List.map Gq49.lv l3)), (11910, .map 57 3 (mlv (fun (x : Int × Int) => LV.agg [.I x.1, .I x.2]) LV.I r1.1)), (11911, .map 57 4 (mlv (fun (x : Int × Int) => LV.agg [.I x.1, .I x.2]) LV.bool r1.2))] R R (by kernel_rfl) ?_ ?_
   ·exact mMl R (mMi R (mN0 (oIx (f := Gq49.lv) te27 tk47 ts47 R R Gq49.ok hx5 R ⟨R, mN0 (oFaS tf47_0 tk45 ts45 R R R ⟨R, mN0 (oFaS tf45_1 tk3 ts3 R R R ⟨R, mN0 (oLd R tk3 ta3 ⟨R, mMl R (mMi R (mN0 (oIx (f := Gq49.lv) te27 tk47 ts47 R R Gq49.ok hx6 R ⟨R, mN0 (oFaS tf47_0 tk45 ts45 R R R ⟨R, mN0 (oFaS tf45_2 tk3 ts3 R R R ⟨R, mN0 (oLd R tk3 ta3 ⟨R, mM (fun _ => OpOk.toR [28, 34] (by simp [Op.operands, Call.operands]) (ok_buildA (xs := [.I x5.Stamp.Source, .I x6.Stamp.Seq]) ty57 R R R)) (mN2 (oAl (id := 108) R tz57 R R (mS R R R (fun _ b _ d => oSt R R R tk57 ts57 b R R d) (m0 ((Wk.trans (Wk.eq (el := [(0, .lst 9 (List.map Gq49.lv p0)), (4, .mp 11910), (5, .mp 11911), (6, .arr 165 (List.length l3)), (7, .I n2), (8, .ptr 108 0)]) (ml := [(108, .box [.I x5.Stamp.Source, .I x6.Stamp.Seq]), (165, .arr 47 9 (List.map Gq49.lv l3)), (11910, .map 57 3 (mlv (fun (x : Int × Int) => LV.agg [.I x.1, .I x.2]) LV.I r1.1)), (11911, .map 57 4 (mlv (fun (x : Int × Int) => LV.agg [.I x.1, .I x.2]) LV.bool r1.2))]) R R R R) (Wk.trans (Wk.frzB 108 [.I x5.Stamp.Source, .I x6.Stamp.Seq] R R R (prN R)) (Wk.eq R R R R))))))))⟩)⟩)⟩)⟩)))⟩)⟩)⟩)⟩)))
   refine LH.seqT [(0, .lst 9 (List.map Gq49.lv p0)), (4, .mp 11910), (5, .mp 11911), (6, .arr 165 (List.length l3)), (7, .I n2), (8, .sptr [.I x5.Stamp.Source, .I x6.Stamp.Seq]), (9, .I ((mget r1.1 (x5.Stamp.Source, x6.Stamp.Seq)).getD 0)), (10, .bool ((mget r1.1 (x5.Stamp.Source, x6.Stamp.Seq)).isSome))] [(165, .arr 47 9 (List.map Gq49.lv l3)), (11910, .map 57 3 (mlv (fun (x : Int × Int) => LV.agg [.I x.1, .I x.2]) LV.I r1.1)), (11911, .map 57 4 (mlv (fun (x : Int × Int) => LV.agg [.I x.1, .I x.2]) LV.bool r1.2))] R (sN (oM (v := (.mp _)) R (sN (oLdA R tk57 ta57 ts57 R R (sX ((ok_lookup2 (f := (fun (x : Int × Int) => LV.agg [.I x.1, .I x.2])) (g := LV.I) (xs := r1.1) (key := (x5.Stamp.Source, x6.Stamp.Seq)) (z := 0) tm89 kok57 kf57 R R R tz3).ok) (sMt R (sN (oEx R R (sN (oEx R R (sAi R (sAb R zS)))))))))))) (LH.seqT [(0, .lst 9 (List.map Gq49.lv p0)), (4, .mp 11910), (5, .mp 11911), (6, .arr 165 (List.length l3)), (7, .I n2), (53, .bool ((mget r1.1 (x5.Stamp.Source, x6.Stamp.Seq)).isSome && ((((mget r1.1 (x5.Stamp.Source, x6.Stamp.Seq)).getD 0) == n2) && (!((mget r1.2 (x5.Stamp.Source, x6.Stamp.Seq)).getD false)))))] [(165, .arr 47 9 (List.map Gq49.lv l3)), (11910, .map 57 3 (mlv (fun (x : Int × Int) => LV.agg [.I x.1, .I x.2]) LV.I r1.1)), (11911, .map 57 4 (mlv (fun (x : Int × Int) => LV.agg [.I x.1, .I x.2]) LV.bool r1.2))] R ?_ ?_)
   ·refine sMb R (sMb R ?_)
    by_cases hb8 : (mget r1.1 (x5.Stamp.Source, x6.Stamp.Seq)).isSome = true
    ·refine sT R (cB hb8) (oM (v := (.int _ _)) R (sT R (cB hb8) (oM (v := (.int _ _)) R (sT R (cB hb8) (oEq R R (sN (oPkT (cB hb8) (v := (.bool _)) R (sMb R ?_))))))))
     by_cases hb9 : (((mget r1.1 (x5.Stamp.Source, x6.Stamp.Seq)).getD 0) == n2) = true
     ·exact sT R (cB hb9) (oM (v := (.mp _)) R (sT R (cB hb9) (oLdA R tk57 ta57 ts57 R R (sXT R (cB hb9) ((ok_lookup (f := (fun (x : Int × Int) => LV.agg [.I x.1, .I x.2])) (g := LV.bool) (xs := r1.2) (key := (x5.Stamp.Source, x6.Stamp.Seq)) (z := false) tm90 kok57 kf57 R R R tz4).ok) (sT R (cB hb9) (oNot R (sN (oPkT (cB hb9) (v := (.bool _)) R (s0 (Wk.to (eC R (eC R (eC R (eC R (eC R (eC (cB (Eq.trans (andT hb9) (andT hb8))) eN)))))) ⟨R, R, R, trivial⟩ R (prK R)))))))))))
     ·replace hb9 := bF hb9
      exact sF R R hb9 (sF R R hb9 (sF R R hb9 (sF R R hb9 (sN (oPkF (cB hb9) (v := (.bool _)) R (s0 (Wk.to (eC R (eC R (eC R (eC R (eC R (eC (cB (Eq.trans (andF hb9) (andT hb8))) eN)))))) ⟨R, R, R, trivial⟩ R (prK R))))))))
    ·replace hb8 := bF hb8
     exact sF R R hb8 (sF R R hb8 (sF R R hb8 (sN (oPkF (cB hb8) (v := (.bool _)) R (sMb R (sF R R R (sF R R R (sF R R R (sF R R R (sN (oPkF R (v := (.bool _)) R (s0 (Wk.to (eC R (eC R (eC R (eC R (eC R (eC (cB (andF hb8)) eN)))))) ⟨R, R, R, trivial⟩ R (prK R))))))))))))))
   refine LH.cond (t := ((mget r1.1 (x5.Stamp.Source, x6.Stamp.Seq)).isSome && ((((mget r1.1 (x5.Stamp.Source, x6.Stamp.Seq)).getD 0) == n2) && (!((mget r1.2 (x5.Stamp.Source, x6.Stamp.Seq)).getD false))))) R (fun hc10 => ?_) (fun hc10 => ?_)
   ·replace h := iteT h hc10
    obtain ⟨x11, hx11, h⟩ := bindS h
    refine LH.seqT [(0, .lst 9 (List.map Gq49.lv p0)), (4, .mp 11910), (5, .mp 11911), (6, .arr 165 (List.length l3)), (7, .I n2), (11, .ptr 111 0)] [(111, .box (Gq49.lv x11).cells), (165, .arr 47 9 (List.map Gq49.lv l3)), (11910, .map 57 3 (mlv (fun (x : Int × Int) => LV.agg [.I x.1, .I x.2]) LV.I r1.1)), (11911, .map 57 4 (mlv (fun (x : Int × Int) => LV.agg [.I x.1, .I x.2]) LV.bool r1.2))] R (sMl R (sMi R (sN (oIx (f := Gq49.lv) te27 tk47 ts47 R R Gq49.ok hx11 R (sN (oLdA R tk47 ta47 ts47 R R (sN (oAl (id := 111) R tz47 R R (s_ (oSt R R R tk47 ts47 R R R zS)))))))))) ?_
    obtain ⟨v12, hv12, h⟩ := bindS h
    refine LH.seqT [(0, .lst 9 (List.map Gq49.lv p0)), (4, .mp 11910), (5, .mp 11911), (6, .arr 165 (List.length l3)), (7, .I n2), (11, .sptr [.I x11.Stamp.Time, .I x11.Stamp.Source, .I x11.Stamp.Seq, .I x11.Kind, .I x11.Script, .I x11.Part, .I x11.Value, .I x11.Marker, .L v12])] [(165, .arr 47 9 (List.map Gq49.lv l3)), (11910, .map 57 3 (mlv (fun (x : Int × Int) => LV.agg [.I x.1, .I x.2]) LV.I r1.1)), (11911, .map 57 4 (mlv (fun (x : Int × Int) => LV.agg [.I x.1, .I x.2]) LV.bool r1.2))] R (sN (oFa tf47_6 tk22 ts22 R R (sN (oLdP R R R R tk22 ta22 (sN (oApN (f := LV.I) (id := 160) R te22 tr3 ts3 R R hv12 R (sN (oFa tf47_6 tk22 ts22 R R (s_ (oSt R R R tk22 ts22 R R R (s0 ((Wk.trans (Wk.eq (el := [(0, .lst 9 (List.map Gq49.lv p0)), (4, .mp 11910), (5, .mp 11911), (6, .arr 165 (List.length l3)), (7, .I n2), (11, .ptr 111 0)]) (ml := [(111, .box [.I x11.Stamp.Time, .I x11.Stamp.Source, .I x11.Stamp.Seq, .I x11.Kind, .I x11.Script, .I x11.Part, .I x11.Value, .I x11.Marker, .arr 160 (List.length v12)]), (160, .arr 3 1 (List.map LV.I v12)), (165, .arr 47 9 (List.map Gq49.lv l3)), (11910, .map 57 3 (mlv (fun (x : Int × Int) => LV.agg [.I x.1, .I x.2]) LV.I r1.1)), (11911, .map 57 4 (mlv (fun (x : Int × Int) => LV.agg [.I x.1, .I x.2]) LV.bool r1.2))]) R R R R) (Wk.trans (Wk.eq (el := [(0, .lst 9 (List.map Gq49.lv p0)), (4, .mp 11910), (5, .mp 11911), (6, .arr 165 (List.length l3)), (7, .I n2), (11, .ptr 111 0)]) (ml := [(111, .box [.I x11.Stamp.Time, .I x11.Stamp.Source, .I x11.Stamp.Seq, .I x11.Kind, .I x11.Script, .I x11.Part, .I x11.Value, .I x11.Marker, .arr 160 (List.length v12)]), (160, .arr 3 1 (List.map LV.I v12)), (165, .arr 47 9 (List.map Gq49.lv l3)), (11910, .map 57 3 (mlv (fun (x : Int × Int) => LV.agg [.I x.1, .I x.2]) LV.I r1.1)), (11911, .map 57 4 (mlv (fun (x : Int × Int) => LV.agg [.I x.1, .I x.2]) LV.bool r1.2))]) R R R R) (Wk.trans (Wk.trans (Wk.frzBx (f := LV.I) 160 3 1 v12 111 R R R (frAK R (frAK R (frAK R (frAK R (frAK R (frAK R (frAK R (frAK R (frAZ frA0))))))))) R R (prN R)) (Wk.eq (el := [(0, .lst 9 (List.map Gq49.lv p0)), (4, .mp 11910), (5, .mp 11911), (6, .arr 165 (List.length l3)), (7, .I n2), (11, .ptr 111 0)]) (ml := [(111, .box [.I x11.Stamp.Time, .I x11.Stamp.Source, .I x11.Stamp.Seq, .I x11.Kind, .I x11.Script, .I x11.Part, .I x11.Value, .I x11.Marker, .L v12]), (165, .arr 47 9 (List.map Gq49.lv l3)), (11910, .map 57 3 (mlv (fun (x : Int × Int) => LV.agg [.I x.1, .I x.2]) LV.I r1.1)), (11911, .map 57 4 (mlv (fun (x : Int × Int) => LV.agg [.I x.1, .I x.2]) LV.bool r1.2))]) R R R R)) (Wk.trans (Wk.frzB 111 [.I x11.Stamp.Time, .I x11.Stamp.Source, .I x11.Stamp.Seq, .I x11.Kind, .I x11.Script, .I x11.Part, .I x11.Value, .I x11.Marker, .L v12] R R R (prN R)) (Wk.eq R R R R))))))))))))))))) ?_
    obtain ⟨v13, hv13, h⟩ := bindS h
    refine LH.loneT [(0, .lst 9 (List.map Gq49.lv p0)), (4, .mp 11910), (5, .mp 11911), (6, .arr 165 (List.length v13)), (7, .I n2)] [(165, .arr 47 9 (List.map Gq49.lv v13)), (11910, .map 57 3 (mlv (fun (x : Int × Int) => LV.agg [.I x.1, .I x.2]) LV.I r1.1)), (11911, .map 57 4 (mlv (fun (x : Int × Int) => LV.agg [.I x.1, .I x.2]) LV.bool r1.2))] R (sMa R (sN (oLdA R tk47 ta47 ts47 R R (sN (oBS (f := Gq49.lv) (ys := [(Gq49.mk x11.Stamp x11.Kind x11.Script x11.Part x11.Value x11.Marker v12)]) te27 tr47 ts47 R R R Gq49.ok (sN (oAp (f := Gq49.lv) te27 tr47 ts47 R R (prN R) R hv13 (sAa R zS)))))))) (blockN (thenN (LH.loneT [(0, .lst 9 (List.map Gq49.lv p0)), (4, .mp 11910), (5, .mp 11911), (6, .arr 165 (List.length v13)), (7, .I (i64 (n2 + 1)))] [(165, .arr 47 9 (List.map Gq49.lv v13)), (11910, .map 57 3 (mlv (fun (x : Int × Int) => LV.agg [.I x.1, .I x.2]) LV.I r1.1)), (11911, .map 57 4 (mlv (fun (x : Int × Int) => LV.agg [.I x.1, .I x.2]) LV.bool r1.2))] R (sMi R (sN (oAdd R R (sAi R zS)))) ?_)))
    exact roundI ⟨(i64 (n2 + 1)), v13, hrec1 ▸ h, R, R⟩ (Wk.eq R R R R)
   replace h := iteF h hc10
   refine LH.skip (blockN (thenN (LH.loneT [(0, .lst 9 (List.map Gq49.lv p0)), (4, .mp 11910), (5, .mp 11911), (6, .arr 165 (List.length l3)), (7, .I (i64 (n2 + 1)))] [(165, .arr 47 9 (List.map Gq49.lv l3)), (11910, .map 57 3 (mlv (fun (x : Int × Int) => LV.agg [.I x.1, .I x.2]) LV.I r1.1)), (11911, .map 57 4 (mlv (fun (x : Int × Int) => LV.agg [.I x.1, .I x.2]) LV.bool r1.2))] R (sMi R (sN (oAdd R R (sAi R zS)))) ?_)))
   exact roundI ⟨(i64 (n2 + 1)), l3, hrec1 ▸ h, R, R⟩ (Wk.eq R R R R)
  replace h := iteF h hc4
  refine LH.exit (thenX (roundX (blockH (thenN (LH.wk ((Wk.trans (Wk.eq (el := [(6, .arr 165 (List.length l3))]) (ml := [(165, .arr 47 9 (List.map Gq49.lv l3))]) R R R R) (Wk.trans (Wk.frzL (f := Gq49.lv) (el' := [(6, .lst 9 (List.map Gq49.lv l3))]) 165 47 9 l3 R R (prN R) (fZ fN)) (Wk.eq (el := [(6, .lst 9 (List.map Gq49.lv l3))]) (ml := []) R R R R)))) (LH.seq (LH.seqT [(6, .lst 9 (List.map Gq49.lv l3)), (68, .bool (decide ((l3.length : Int) > 2000)))] [] R (sMl R (sN (oLnL (f := Gq49.lv) te27 R (sN (oGt R R zS))))) (LH.cond (t := (decide ((l3.length : Int) > 2000))) R (fun hc14 => ?_) (fun hc14 => ?_)))))))))
  ·replace h := iteT h hc14
   refine LH.seqT [(2, .nil), (3, .I 3)] [] R (sAn R (sAi R zS)) (LH.ret (thenR ?_))
   obtain rfl := oI h
   exact retE (aT Try.results20) (lrT R (lrT R (lr0 ⟨memN mN, R, prK R, (Sub.tup (sbL (sbR sbN)))⟩)))
  replace h := iteF h hc14
  refine LH.skip (thenN ?_)
  obtain ⟨r15, hr15, h⟩ := bindS h
  refine LH.seqT [(2, .lst 9 (List.map Gq49.lv r15)), (3, .I 0)] [] R (sMl R (sN (oCP (args := [.lst 9 (List.map Gq49.lv l3)]) R isF50 R (sbR sbN) (q172q hr15) R (sAl R (sAi R zS))))) (LH.ret ?_)
  obtain rfl := oI h
  exact retE (aT Try.results20) (lrT R (lrT R (lr0 ⟨memN mN, R, prK R, (Sub.tup (sbR (sbR sbN)))⟩)))

theorem q151q {F : Nat} {p0 : List Gq49} {r : (List (Int × Int))} (h : q93q F p0 = some r) : LCall Try.prog 22 [.lst 9 (List.map Gq49.lv p0)] (Mem.of []) (.lst 2 (List.map (fun (x : Int × Int) => LV.agg [.I x.1, .I x.2]) r)) (Mem.of []) := by
  unfold q93q at h
  refine bodyT Try.func22 R (nT Try.ntmps22 R) (LH.wk (Wk.eq (el := [(0, .lst 9 (List.map Gq49.lv p0))]) (ml := []) R R R R) (LH.seqT [(0, .lst 9 (List.map Gq49.lv p0))] [] R (sAn R zS) ?_))
  obtain ⟨r1, hr1, h⟩ := bindS h
  refine LH.seqT [(4, .mp 11911)] [(11911, .map 57 4 (mlv (fun (x : Int × Int) => LV.agg [.I x.1, .I x.2]) LV.bool r1.2))] R (sMl R (sN (oCM (args := [.lst 9 (List.map Gq49.lv p0)]) (ml := []) (ml' := [(11910, .map 57 3 (mlv (fun (x : Int × Int) => LV.agg [.I x.1, .I x.2]) LV.I r1.1)), (11911, .map 57 4 (mlv (fun (x : Int × Int) => LV.agg [.I x.1, .I x.2]) LV.bool r1.2))]) R isF49 R (sbR sbN) (q134q hr1) mN (newF R (newF R newN)) R (sMt R (sN (oEx R R (sN (oEx R R (sN (oA (v := (.mp _)) R (sN (oA (v := (.mp _)) R zS)))))))))))) (LH.seqT [(4, .mp 11911), (5, .nil)] [(11911, .map 57 4 (mlv (fun (x : Int × Int) => LV.agg [.I x.1, .I x.2]) LV.bool r1.2))] R (sAn R zS) (LH.seq (LH.seqT [(4, .mp 11911), (5, .nil), (6, .I 0)] [(11911, .map 57 4 (mlv (fun (x : Int × Int) => LV.agg [.I x.1, .I x.2]) LV.bool r1.2))] R (sAi R zS) (LH.block (LH.wk ((Wk.trans (Wk.eq (el := [(4, .mp 11911), (5, .nil), (6, .I 0)]) (ml := [(11911, .map 57 4 (mlv (fun (x : Int × Int) => LV.agg [.I x.1, .I x.2]) LV.bool r1.2))]) R R R R) (Wk.trans (Wk.eq (el := [(4, .mp 11911), (5, .nil), (6, .I 0)]) (ml := [(11911, .map 57 4 (mlv (fun (x : Int × Int) => LV.agg [.I x.1, .I x.2]) LV.bool r1.2))]) R R R R) (Wk.trans (Wk.ownL (el' := [(4, .mp 11911), (5, .arr 136 (List.length ([] : List (Int × Int)))), (6, .I 0)]) 136 57 2 R R (wK (wO (wK wN)))) (Wk.eq (el := [(4, .mp 11911), (5, .arr 136 (List.length ([] : List (Int × Int)))), (6, .I 0)]) (ml := [(136, .arr 57 2 (List.map (fun (x : Int × Int) => LV.agg [.I x.1, .I x.2]) ([] : List (Int × Int)))), (11911, .map 57 4 (mlv (fun (x : Int × Int) => LV.agg [.I x.1, .I x.2]) LV.bool r1.2))]) R R R R))))) (LH.loop (fun n e m => ∃ (n2 : Int) (l3 : List (Int × Int)), q37q F r1 n n2 l3 = some r ∧ e = Env.of [(4, .mp 11911), (5, .arr 136 (List.length l3)), (6, .I n2)] ∧ m = Mem.of [(136, .arr 57 2 (List.map (fun (x : Int × Int) => LV.agg [.I x.1, .I x.2]) l3)), (11911, .map 57 4 (mlv (fun (x : Int × Int) => LV.agg [.I x.1, .I x.2]) LV.bool r1.2))]) F ⟨0, ([] : List (Int × Int)), h, R, R⟩ ?_))))))
  clear h
  rintro n e m ⟨n2, l3, h, rfl, rfl⟩
  rcases n with _ | n
  · cases (show Option.none = some _ from h)
  obtain ⟨rec1, hrec1⟩ : ∃ f, f = q37q F r1 n := ⟨_, rfl⟩
  replace h : q40q F r1 rec1 n2 l3 = some r := hrec1 ▸ h
  unfold q40q at h
  refine LH.seq (LH.seqT [(4, .mp 11911), (5, .arr 136 (List.length l3)), (6, .I n2), (19, .bool ((decide (n2 ≤ 99)) && (decide ((r1.2.length : Int) > 0))))] [(136, .arr 57 2 (List.map (fun (x : Int × Int) => LV.agg [.I x.1, .I x.2]) l3)), (11911, .map 57 4 (mlv (fun (x : Int × Int) => LV.agg [.I x.1, .I x.2]) LV.bool r1.2))] R ?_ ?_)
  ·refine sMi R (sN (oLe R R (sMb R ?_)))
   by_cases hb5 : (decide (n2 ≤ 99)) = true
   ·exact sT R (cB hb5) (oM (v := (.mp _)) R (sXT R (cB hb5) ((ok_lenM (f := (fun (x : Int × Int) => LV.agg [.I x.1, .I x.2])) (g := LV.bool) (xs := r1.2) tm90 R R).ok) (sT R (cB hb5) (oGt R R (sN (oPkT (cB hb5) (v := (.bool _)) R (s0 (Wk.to (eC R (eC R (eC R (eC (cB (andT hb5)) eN)))) ⟨R, R, trivial⟩ R (prK R)))))))))
   ·replace hb5 := bF hb5
    exact sF R R hb5 (sF R R hb5 (sF R R hb5 (sN (oPkF (cB hb5) (v := (.bool _)) R (s0 (Wk.to (eC R (eC R (eC R (eC (cB (andF hb5)) eN)))) ⟨R, R, trivial⟩ R (prK R)))))))
  refine LH.cond (t := ((decide (n2 ≤ 99)) && (decide ((r1.2.length : Int) > 0)))) R (fun hc6 => ?_) (fun hc6 => ?_)
  ·replace h := iteT h hc6
   refine LH.skip (thenN (LH.wk (Wk.eq (el := [(4, .mp 11911), (5, .arr 136 (List.length l3)), (6, .I n2)]) (ml := [(136, .arr 57 2 (List.map (fun (x : Int × Int) => LV.agg [.I x.1, .I x.2]) l3)), (11911, .map 57 4 (mlv (fun (x : Int × Int) => LV.agg [.I x.1, .I x.2]) LV.bool r1.2))]) R R R R) (LH.seq (LH.block (LH.seqT [(4, .mp 11911), (5, .arr 136 (List.length l3)), (6, .I n2), (7, .I 0)] [(136, .arr 57 2 (List.map (fun (x : Int × Int) => LV.agg [.I x.1, .I x.2]) l3)), (11911, .map 57 4 (mlv (fun (x : Int × Int) => LV.agg [.I x.1, .I x.2]) LV.bool r1.2))] R (sAi R zS) (LH.block (LH.loop (fun n e m => ∃ (n7 : Int) (l8 : List (Int × Int)), q65q rec1 r1 n2 n n7 l8 = some r ∧ e = Env.of [(4, .mp 11911), (5, .arr 136 (List.length l8)), (6, .I n2), (7, .I n7)] ∧ m = Mem.of [(136, .arr 57 2 (List.map (fun (x : Int × Int) => LV.agg [.I x.1, .I x.2]) l8)), (11911, .map 57 4 (mlv (fun (x : Int × Int) => LV.agg [.I x.1, .I x.2]) LV.bool r1.2))]) F ⟨0, l3, h, R, R⟩ ?_)))))))
   clear h
   rintro n e m ⟨n7, l8, h, rfl, rfl⟩
   rcases n with _ | n
   · cases (show Option.none = some _ from h)
   obtain ⟨rec2, hrec2⟩ : ∃ f, f = q65q rec1 r1 n2 n := ⟨_, rfl⟩
   replace h : q41q rec1 r1 n2 rec2 n7 l8 = some r := hrec2 ▸ h
   unfold q41q at h
   refine LH.seq (LH.seqT [(4, .mp 11911), (5, .arr 136 (List.length l8)), (6, .I n2), (7, .I n7), (23, .bool (decide (n7 ≤ 9999)))] [(136, .arr 57 2 (List.map (fun (x : Int × Int) => LV.agg [.I x.1, .I x.2]) l8)), (11911, .map 57 4 (mlv (fun (x : Int × Int) => LV.agg [.I x.1, .I x.2]) LV.bool r1.2))] R (sMi R (sN (oLe R R zS))) (LH.cond (t := (decide (n7 ≤ 9999))) R (fun hc9 => ?_) (fun hc9 => ?_)))
   ·replace h := iteT h hc9
    refine LH.skip (thenN (LH.wk (Wk.eq (el := [(4, .mp 11911), (5, .arr 136 (List.length l8)), (6, .I n2), (7, .I n7)]) (ml := [(136, .arr 57 2 (List.map (fun (x : Int × Int) => LV.agg [.I x.1, .I x.2]) l8)), (11911, .map 57 4 (mlv (fun (x : Int × Int) => LV.agg [.I x.1, .I x.2]) LV.bool r1.2))]) R R R R) (LH.seq (LH.block (LH.seqT [(4, .mp 11911), (5, .arr 136 (List.length l8)), (6, .I n2), (7, .I n7), (30, .bool ((mget r1.2 (n2, n7)).getD false))] [(136, .arr 57 2 (List.map (fun (x : Int × Int) => LV.agg [.I x.1, .I x.2]) l8)), (11911, .map 57 4 (mlv (fun (x : Int × Int) => LV.agg [.I x.1, .I x.2]) LV.bool r1.2))] R (sN (oM (v := (.mp _)) R (sMi R (sMi R (sX (ok_buildA (xs := [.I n2, .I n7]) ty57 R R R) (sX ((ok_lookup (f := (fun (x : Int × Int) => LV.agg [.I x.1, .I x.2])) (g := LV.bool) (xs := r1.2) (key := (n2, n7)) (z := false) tm90 kok57 kf57 R R R tz4).ok) zS)))))) (LH.cond (t := ((mget r1.2 (n2, n7)).getD false)) R (fun hc10 => ?_) (fun hc10 => ?_)))))))
    ·replace h := iteT h hc10
     obtain ⟨v11, hv11, h⟩ := bindS h
     refine LH.loneT [(4, .mp 11911), (5, .arr 136 (List.length v11)), (6, .I n2), (7, .I n7)] [(136, .arr 57 2 (List.map (fun (x : Int × Int) => LV.agg [.I x.1, .I x.2]) v11)), (11911, .map 57 4 (mlv (fun (x : Int × Int) => LV.agg [.I x.1, .I x.2]) LV.bool r1.2))] R (sMa R (sMi R (sMi R (sX (ok_buildA (xs := [.I n2, .I n7]) ty57 R R R) (sN (oBS (f := (fun (x : Int × Int) => LV.agg [.I x.1, .I x.2])) (ys := [(n2, n7)]) te49 tr57 ts57 R R R (fun _ => ⟨R, R, R⟩) (sN (oAp (f := (fun (x : Int × Int) => LV.agg [.I x.1, .I x.2])) te49 tr57 ts57 R R (prN R) R hv11 (sAa R zS))))))))) (blockN (thenN (LH.loneT [(4, .mp 11911), (5, .arr 136 (List.length v11)), (6, .I n2), (7, .I (i64 (n7 + 1)))] [(136, .arr 57 2 (List.map (fun (x : Int × Int) => LV.agg [.I x.1, .I x.2]) v11)), (11911, .map 57 4 (mlv (fun (x : Int × Int) => LV.agg [.I x.1, .I x.2]) LV.bool r1.2))] R (sMi R (sN (oAdd R R (sAi R zS)))) ?_)))
     exact roundI ⟨(i64 (n7 + 1)), v11, hrec2 ▸ h, R, R⟩ (Wk.eq R R R R)
    replace h := iteF h hc10
    refine LH.skip (blockN (thenN (LH.loneT [(4, .mp 11911), (5, .arr 136 (List.length l8)), (6, .I n2), (7, .I (i64 (n7 + 1)))] [(136, .arr 57 2 (List.map (fun (x : Int × Int) => LV.agg [.I x.1, .I x.2]) l8)), (11911, .map 57 4 (mlv (fun (x : Int × Int) => LV.agg [.I x.1, .I x.2]) LV.bool r1.2))] R (sMi R (sN (oAdd R R (sAi R zS)))) ?_)))
    exact roundI ⟨(i64 (n7 + 1)), l8, hrec2 ▸ h, R, R⟩ (Wk.eq R R R R)
   replace h := iteF h hc9
   refine LH.exit (thenX (roundX (blockH (blockN (thenN (LH.loneT [(4, .mp 11911), (5, .arr 136 (List.length l8)), (6, .I (i64 (n2 + 1)))] [(136, .arr 57 2 (List.map (fun (x : Int × Int) => LV.agg [.I x.1, .I x.2]) l8)), (11911, .map 57 4 (mlv (fun (x : Int × Int) => LV.agg [.I x.1, .I x.2]) LV.bool r1.2))] R (sMi R (sN (oAdd R R (sAi R zS)))) ?_))))))
   exact roundI ⟨(i64 (n2 + 1)), l8, hrec1 ▸ h, R, R⟩ (Wk.eq R R R R)
  replace h := iteF h hc6
  refine LH.exit (thenX (roundX (blockH (thenN (LH.wk ((Wk.trans (Wk.eq (el := [(5, .arr 136 (List.length l3))]) (ml := [(136, .arr 57 2 (List.map (fun (x : Int × Int) => LV.agg [.I x.1, .I x.2]) l3))]) R R R R) (Wk.trans (Wk.frzL (f := (fun (x : Int × Int) => LV.agg [.I x.1, .I x.2])) (el' := [(5, .lst 2 (List.map (fun (x : Int × Int) => LV.agg [.I x.1, .I x.2]) l3))]) 136 57 2 l3 R R (prN R) (fZ fN)) (Wk.eq (el := [(5, .lst 2 (List.map (fun (x : Int × Int) => LV.agg [.I x.1, .I x.2]) l3))]) (ml := []) R R R R)))) (LH.seqT [(2, .lst 2 (List.map (fun (x : Int × Int) => LV.agg [.I x.1, .I x.2]) l3))] [] R (sMl R (sAl R zS)) (LH.ret ?_)))))))
  obtain rfl := oI h
  exact retE (aT Try.results22) (lrT R (lr0 ⟨memN mN, R, prK R, Sub.rfl⟩))

theorem q162q {F : Nat} {p0 : List (Int × Int)} {p1 : List (Int × Int)} {r : Bool} (h : q117q F p0 p1 = some r) : LCall Try.prog 21 [.lst 2 (List.map (fun (x : Int × Int) => LV.agg [.I x.1, .I x.2]) p0), .lst 2 (List.map (fun (x : Int × Int) => LV.agg [.I x.1, .I x.2]) p1)] (Mem.of []) (.bool r) (Mem.of []) := by
  unfold q117q at h
  refine bodyT Try.func21 R (nT Try.ntmps21 R) (LH.wk (Wk.eq (el := [(0, .lst 2 (List.map (fun (x : Int × Int) => LV.agg [.I x.1, .I x.2]) p0)), (1, .lst 2 (List.map (fun (x : Int × Int) => LV.agg [.I x.1, .I x.2]) p1))]) (ml := []) R R R R) (LH.seqT [(0, .lst 2 (List.map (fun (x : Int × Int) => LV.agg [.I x.1, .I x.2]) p0)), (1, .lst 2 (List.map (fun (x : Int × Int) => LV.agg [.I x.1, .I x.2]) p1))] [] R (sAb R zS) (LH.seq (LH.seqT [(0, .lst 2 (List.map (fun (x : Int × Int) => LV.agg [.I x.1, .I x.2]) p0)), (1, .lst 2 (List.map (fun (x : Int × Int) => LV.agg [.I x.1, .I x.2]) p1)), (10, .bool ((p0.length : Int) != (p1.length : Int)))] [] R (sMl R (sN (oLnL (f := (fun (x : Int × Int) => LV.agg [.I x.1, .I x.2])) te49 R (sMl R (sN (oLnL (f := (fun (x : Int × Int) => LV.agg [.I x.1, .I x.2])) te49 R (sN (oNe R R zS)))))))) (LH.cond (t := ((p0.length : Int) != (p1.length : Int))) R (fun hc1 => ?_) (fun hc1 => ?_))))))
  ·replace h := iteT h hc1
   refine LH.seqT [(4, .bool false)] [] R (sAb R zS) (LH.ret (thenR ?_))
   obtain rfl := oI h
   exact retE (aT Try.results21) (lrT R (lr0 ⟨memN mN, R, prK R, Sub.rfl⟩))
  replace h := iteF h hc1
  refine LH.skip (thenN (LH.wk (Wk.eq (el := [(0, .lst 2 (List.map (fun (x : Int × Int) => LV.agg [.I x.1, .I x.2]) p0)), (1, .lst 2 (List.map (fun (x : Int × Int) => LV.agg [.I x.1, .I x.2]) p1))]) (ml := []) R R R R) (LH.seq (LH.seqT [(0, .lst 2 (List.map (fun (x : Int × Int) => LV.agg [.I x.1, .I x.2]) p0)), (1, .lst 2 (List.map (fun (x : Int × Int) => LV.agg [.I x.1, .I x.2]) p1)), (12, .I (p0.length : Int)), (13, .I 0)] [] R (sMl R (sN (oLnL (f := (fun (x : Int × Int) => LV.agg [.I x.1, .I x.2])) te49 R (sMi R zS)))) (LH.block (LH.loop (fun n e m => ∃ (n2 : Int), q44q p0 p1 n n2 = some r ∧ e = Env.of [(0, .lst 2 (List.map (fun (x : Int × Int) => LV.agg [.I x.1, .I x.2]) p0)), (1, .lst 2 (List.map (fun (x : Int × Int) => LV.agg [.I x.1, .I x.2]) p1)), (12, .I (p0.length : Int)), (13, .I n2)] ∧ m = Mem.of []) F ⟨0, h, R, R⟩ ?_))))))
  clear h
  rintro n e m ⟨n2, h, rfl, rfl⟩
  rcases n with _ | n
  · cases (show Option.none = some _ from h)
  obtain ⟨rec1, hrec1⟩ : ∃ f, f = q44q p0 p1 n := ⟨_, rfl⟩
  replace h : q76q p0 p1 rec1 n2 = some r := hrec1 ▸ h
  unfold q76q at h
  refine LH.seqT [(0, .lst 2 (List.map (fun (x : Int × Int) => LV.agg [.I x.1, .I x.2]) p0)), (1, .lst 2 (List.map (fun (x : Int × Int) => LV.agg [.I x.1, .I x.2]) p1)), (12, .I (p0.length : Int)), (13, .I n2), (14, .bool (decide (n2 < (p0.length : Int))))] [] R (sN (oLt R R zS)) (LH.seq (LH.cond (t := (decide (n2 < (p0.length : Int)))) R (fun hc3 => ?_) (fun hc3 => ?_)))
  ·replace h := iteT h hc3
   refine LH.skip (thenN (LH.wk (Wk.eq (el := [(0, .lst 2 (List.map (fun (x : Int × Int) => LV.agg [.I x.1, .I x.2]) p0)), (1, .lst 2 (List.map (fun (x : Int × Int) => LV.agg [.I x.1, .I x.2]) p1)), (12, .I (p0.length : Int)), (13, .I n2)]) (ml := []) R R R R) (LH.seq (LH.block (LH.seqT [(0, .lst 2 (List.map (fun (x : Int × Int) => LV.agg [.I x.1, .I x.2]) p0)), (1, .lst 2 (List.map (fun (x : Int × Int) => LV.agg [.I x.1, .I x.2]) p1)), (5, .I n2), (12, .I (p0.length : Int)), (13, .I n2)] [] R (sMi R (sAi R zS)) ?_)))))
   obtain ⟨x4, hx4, h⟩ := bindS h
   obtain ⟨x5, hx5, h⟩ := bindS h
   refine LH.seqJM mixed [] [0, 0, 0, 0, 0, 0, 0, 0, 0] [(0, .lst 2 (List.map (fun (x : Int × Int) => LV.agg [.I x.1, .I x.2]) p0)), (1, .lst 2 (List.map (fun (x : Int × Int) => LV.agg [.I x.1, .I x.2]) p1)), (12, .I (p0.length : Int)), (13, .I n2), (24, .bool (!(decide (x4 = x5))))] [] R R (by kernel_rfl) (mMl R (mMi R (mN0 (oIx (f := (fun (x : Int × Int) => LV.agg [.I x.1, .I x.2])) te49 tk57 ts57 R R (fun _ => ⟨R, R, R⟩) hx4 R ⟨R, mN0 (oLdA R tk57 ta57 ts57 R R ⟨R, mMl R (mMi R (mN0 (oIx (f := (fun (x : Int × Int) => LV.agg [.I x.1, .I x.2])) te49 tk57 ts57 R R (fun _ => ⟨R, R, R⟩) hx5 R ⟨R, mN0 (oLdA R tk57 ta57 ts57 R R ⟨R, mN0 (oNeA R R (ae57 x4 x5) ⟨R, zM⟩)⟩)⟩)))⟩)⟩)))) (LH.cond (t := (!(decide (x4 = x5)))) R (fun hc6 => ?_) (fun hc6 => ?_))
   ·replace h := iteT h hc6
    refine LH.seqT [(4, .bool false)] [] R (sAb R zS) (LH.ret (blockR (thenR (roundR (blockR (thenR ?_))))))
    obtain rfl := oI h
    exact retE (aT Try.results21) (lrT R (lr0 ⟨memN mN, R, prK R, Sub.rfl⟩))
   replace h := iteF h hc6
   refine LH.skip (blockN (thenN (LH.loneT [(0, .lst 2 (List.map (fun (x : Int × Int) => LV.agg [.I x.1, .I x.2]) p0)), (1, .lst 2 (List.map (fun (x : Int × Int) => LV.agg [.I x.1, .I x.2]) p1)), (12, .I (p0.length : Int)), (13, .I (i64 (n2 + 1)))] [] R (sN (oAdd R R (sMi R zS))) ?_)))
   exact roundI ⟨(i64 (n2 + 1)), hrec1 ▸ h, R, R⟩ (Wk.eq R R R R)
  replace h := iteF h hc3
  refine LH.exit (thenX (roundX (blockH (thenN (LH.seqT [(4, .bool true)] [] R (sAb R zS) (LH.ret ?_))))))
  obtain rfl := oI h
  exact retE (aT Try.results21) (lrT R (lr0 ⟨memN mN, R, prK R, Sub.rfl⟩))

theorem q164q {F : Nat} {p0 : List Gq49} {p1 : Int} {r : List Gq49 × Int} (h : q118q F p0 p1 = some r) : LCall Try.prog 23 [.lst 9 (List.map Gq49.lv p0), .I p1] (Mem.of []) (.tup [.lst 9 (List.map Gq49.lv r.1), .I r.2]) (Mem.of []) := by
  unfold q118q at h
  refine bodyT Try.func23 R (nT Try.ntmps23 R) (LH.wk (Wk.eq (el := [(0, .lst 9 (List.map Gq49.lv p0)), (1, .I p1)]) (ml := []) R R R R) (LH.seqT [(0, .lst 9 (List.map Gq49.lv p0)), (1, .I p1)] [] R (sAn R (sAi R zS)) ?_))
  obtain ⟨v1, hv1, h⟩ := bindS h
  obtain ⟨r2, hr2, h⟩ := bindS h
  refine LH.seqT [(4, .lst 9 (List.map Gq49.lv r2.1)), (5, .I r2.2)] [] R (sMl R (sMi R (sMl R (sN (oLnL (f := Gq49.lv) te27 R (sX ((ok_min R R).ok) (sX ((ok_max R R).ok) (sN (oSl (f := Gq49.lv) te27 tk47 ts47 R R R hv1 (sN (oCP (args := [.lst 9 (List.map Gq49.lv v1)]) R isF20 R (sbR sbN) (q129q hr2) R (sN (oEx R R (sN (oEx R R (sAl R (sAi R zS))))))))))))))))) (LH.ret ?_)
  obtain rfl := oI h
  exact retE (aT Try.results23) (lrT R (lrT R (lr0 ⟨memN mN, R, prK R, (Sub.tup (sbR (sbR sbN)))⟩)))

theorem q156q {F : Nat} {p0 : List Gq49} {p1 : Int} {r : List Gq49} (h : q106q F p0 p1 = some r) : LCall Try.prog 24 [.lst 9 (List.map Gq49.lv p0), .I p1] (Mem.of []) (.lst 9 (List.map Gq49.lv r)) (Mem.of []) := by
  unfold q106q at h
  refine bodyT Try.func24 R (nT Try.ntmps24 R) (LH.wk (Wk.eq (el := [(0, .lst 9 (List.map Gq49.lv p0)), (1, .I p1)]) (ml := []) R R R R) (LH.seqT [(0, .lst 9 (List.map Gq49.lv p0)), (1, .I p1)] [] R (sAn R zS) (LH.seqT [(0, .lst 9 (List.map Gq49.lv p0)), (1, .I p1), (5, .nil)] [] R (sAn R zS) (LH.seq (LH.seqT [(1, .I p1), (5, .nil), (8, .lst 9 (List.map Gq49.lv p0)), (9, .I (p0.length : Int)), (10, .I 0)] [] R (sMl R (sN (oLnL (f := Gq49.lv) te27 R (sMi R zS)))) (LH.block (LH.wk ((Wk.trans (Wk.eq (el := [(1, .I p1), (5, .nil), (8, .lst 9 (List.map Gq49.lv p0)), (9, .I (p0.length : Int)), (10, .I 0)]) (ml := []) R R R R) (Wk.trans (Wk.eq (el := [(1, .I p1), (5, .nil), (8, .lst 9 (List.map Gq49.lv p0)), (9, .I (p0.length : Int)), (10, .I 0)]) (ml := []) R R R R) (Wk.trans (Wk.ownL (el' := [(1, .I p1), (5, .arr 123 (List.length ([] : List Gq49))), (8, .lst 9 (List.map Gq49.lv p0)), (9, .I (p0.length : Int)), (10, .I 0)]) 123 47 9 R R (wK (wO (wK (wK (wK wN)))))) (Wk.eq (el := [(1, .I p1), (5, .arr 123 (List.length ([] : List Gq49))), (8, .lst 9 (List.map Gq49.lv p0)), (9, .I (p0.length : Int)), (10, .I 0)]) (ml := [(123, .arr 47 9 (List.map Gq49.lv ([] : List Gq49)))]) R R R R))))) (LH.loop (fun n e m => ∃ (n1 : Int) (l2 : List Gq49), q29q p0 p1 n n1 l2 = some r ∧ e = Env.of [(1, .I p1), (5, .arr 123 (List.length l2)), (8, .lst 9 (List.map Gq49.lv p0)), (9, .I (p0.length : Int)), (10, .I n1)] ∧ m = Mem.of [(123, .arr 47 9 (List.map Gq49.lv l2))]) F ⟨0, ([] : List Gq49), h, R, R⟩ ?_))))))))
  clear h
  rintro n e m ⟨n1, l2, h, rfl, rfl⟩
  rcases n with _ | n
  · cases (show Option.none = some _ from h)
  obtain ⟨rec1, hrec1⟩ : ∃ f, f = q29q p0 p1 n := ⟨_, rfl⟩
  replace h : q54q p0 p1 rec1 n1 l2 = some r := hrec1 ▸ h
  unfold q54q at h
  refine LH.seqT [(1, .I p1), (5, .arr 123 (List.length l2)), (8, .lst 9 (List.map Gq49.lv p0)), (9, .I (p0.length : Int)), (10, .I n1), (11, .bool (decide (n1 < (p0.length : Int))))] [(123, .arr 47 9 (List.map Gq49.lv l2))] R (sN (oLt R R zS)) (LH.seq (LH.cond (t := (decide (n1 < (p0.length : Int)))) R (fun hc3 => ?_) (fun hc3 => ?_)))
  ·replace h := iteT h hc3
   refine LH.skip (thenN (LH.wk (Wk.eq (el := [(1, .I p1), (5, .arr 123 (List.length l2)), (8, .lst 9 (List.map Gq49.lv p0)), (9, .I (p0.length : Int)), (10, .I n1)]) (ml := [(123, .arr 47 9 (List.map Gq49.lv l2))]) R R R R) (LH.seq (LH.block ?_))))
   obtain ⟨x4, hx4, h⟩ := bindS h
   refine LH.seqT [(1, .I p1), (5, .arr 123 (List.length l2)), (7, .sptr (Gq49.lv x4).cells), (8, .lst 9 (List.map Gq49.lv p0)), (9, .I (p0.length : Int)), (10, .I n1)] [(123, .arr 47 9 (List.map Gq49.lv l2))] R (sN (oIx (f := Gq49.lv) te27 tk47 ts47 R R Gq49.ok hx4 R (sN (oLdA R tk47 ta47 ts47 R R (sN (oAl (id := 107) R tz47 R R (s_ (oSt R R R tk47 ts47 R R R (s0 ((Wk.trans (Wk.eq (el := [(1, .I p1), (5, .arr 123 (List.length l2)), (7, .ptr 107 0), (8, .lst 9 (List.map Gq49.lv p0)), (9, .I (p0.length : Int)), (10, .I n1)]) (ml := [(107, .box (Gq49.lv x4).cells), (123, .arr 47 9 (List.map Gq49.lv l2))]) R R R R) (Wk.trans (Wk.frzB 107 (Gq49.lv x4).cells R R R (prN R)) (Wk.eq R R R R))))))))))))) (LH.seqT [(1, .I p1), (5, .arr 123 (List.length l2)), (7, .sptr (Gq49.lv x4).cells), (8, .lst 9 (List.map Gq49.lv p0)), (9, .I (p0.length : Int)), (10, .I n1), (18, .bool (decide (x4.Stamp.Time ≤ p1)))] [(123, .arr 47 9 (List.map Gq49.lv l2))] R (sN (oFaS tf47_0 tk45 ts45 R R R (sN (oFaS tf45_0 tk3 ts3 R R R (sN (oLd R tk3 ta3 (sMi R (sN (oLe R R zS))))))))) (LH.cond (t := (decide (x4.Stamp.Time ≤ p1))) R (fun hc5 => ?_) (fun hc5 => ?_)))
   ·replace h := iteT h hc5
    obtain ⟨r6, hr6, h⟩ := bindS h
    obtain ⟨v7, hv7, h⟩ := bindS h
    refine LH.loneT [(1, .I p1), (5, .arr 123 (List.length v7)), (8, .lst 9 (List.map Gq49.lv p0)), (9, .I (p0.length : Int)), (10, .I n1)] [(123, .arr 47 9 (List.map Gq49.lv v7))] R (sMa R (sN (oLdA R tk47 ta47 ts47 R R (sN (oCP (args := [Gq49.lv x4]) R isF44 R (sbR sbN) (q137q hr6) R (sN (oBS (f := Gq49.lv) (ys := [r6]) te27 tr47 ts47 R R R Gq49.ok (sN (oAp (f := Gq49.lv) te27 tr47 ts47 R R (prN R) R hv7 (sAa R zS)))))))))) (blockN (thenN (LH.loneT [(1, .I p1), (5, .arr 123 (List.length v7)), (8, .lst 9 (List.map Gq49.lv p0)), (9, .I (p0.length : Int)), (10, .I (i64 (n1 + 1)))] [(123, .arr 47 9 (List.map Gq49.lv v7))] R (sN (oAdd R R (sMi R zS))) ?_)))
    exact roundI ⟨(i64 (n1 + 1)), v7, hrec1 ▸ h, R, R⟩ (Wk.eq R R R R)
   replace h := iteF h hc5
   refine LH.skip (blockN (thenN (LH.loneT [(1, .I p1), (5, .arr 123 (List.length l2)), (8, .lst 9 (List.map Gq49.lv p0)), (9, .I (p0.length : Int)), (10, .I (i64 (n1 + 1)))] [(123, .arr 47 9 (List.map Gq49.lv l2))] R (sN (oAdd R R (sMi R zS))) ?_)))
   exact roundI ⟨(i64 (n1 + 1)), l2, hrec1 ▸ h, R, R⟩ (Wk.eq R R R R)
  replace h := iteF h hc3
  refine LH.exit (thenX (roundX (blockH (thenN (LH.wk ((Wk.trans (Wk.eq (el := [(5, .arr 123 (List.length l2))]) (ml := [(123, .arr 47 9 (List.map Gq49.lv l2))]) R R R R) (Wk.trans (Wk.frzL (f := Gq49.lv) (el' := [(5, .lst 9 (List.map Gq49.lv l2))]) 123 47 9 l2 R R (prN R) (fZ fN)) (Wk.eq (el := [(5, .lst 9 (List.map Gq49.lv l2))]) (ml := []) R R R R)))) (LH.seqT [(4, .lst 9 (List.map Gq49.lv l2))] [] R (sMl R (sAl R zS)) (LH.ret ?_)))))))
  obtain rfl := oI h
  exact retE (aT Try.results24) (lrT R (lr0 ⟨memN mN, R, prK R, Sub.rfl⟩))

theorem q165q {F : Nat} {p0 : List Gq49} {p1 : Int} {r : List Gq49} (h : q119q F p0 p1 = some r) : LCall Try.prog 25 [.lst 9 (List.map Gq49.lv p0), .I p1] (Mem.of []) (.lst 9 (List.map Gq49.lv r)) (Mem.of []) := by
  unfold q119q at h
  refine bodyT Try.func25 R (nT Try.ntmps25 R) (LH.wk (Wk.eq (el := [(0, .lst 9 (List.map Gq49.lv p0)), (1, .I p1)]) (ml := []) R R R R) (LH.seqT [(0, .lst 9 (List.map Gq49.lv p0)), (1, .I p1)] [] R (sAn R zS) (LH.seqT [(0, .lst 9 (List.map Gq49.lv p0)), (1, .I p1), (5, .nil)] [] R (sAn R zS) (LH.seq (LH.seqT [(0, .lst 9 (List.map Gq49.lv p0)), (1, .I p1), (5, .nil), (6, .I 0)] [] R (sAi R zS) (LH.block (LH.wk ((Wk.trans (Wk.eq (el := [(0, .lst 9 (List.map Gq49.lv p0)), (1, .I p1), (5, .nil), (6, .I 0)]) (ml := []) R R R R) (Wk.trans (Wk.eq (el := [(0, .lst 9 (List.map Gq49.lv p0)), (1, .I p1), (5, .nil), (6, .I 0)]) (ml := []) R R R R) (Wk.trans (Wk.ownL (el' := [(0, .lst 9 (List.map Gq49.lv p0)), (1, .I p1), (5, .arr 127 (List.length ([] : List Gq49))), (6, .I 0)]) 127 47 9 R R (wK (wK (wO (wK wN))))) (Wk.eq (el := [(0, .lst 9 (List.map Gq49.lv p0)), (1, .I p1), (5, .arr 127 (List.length ([] : List Gq49))), (6, .I 0)]) (ml := [(127, .arr 47 9 (List.map Gq49.lv ([] : List Gq49)))]) R R R R))))) (LH.loop (fun n e m => ∃ (n1 : Int) (l2 : List Gq49), q46q p0 p1 n n1 l2 = some r ∧ e = Env.of [(0, .lst 9 (List.map Gq49.lv p0)), (1, .I p1), (5, .arr 127 (List.length l2)), (6, .I n1)] ∧ m = Mem.of [(127, .arr 47 9 (List.map Gq49.lv l2))]) F ⟨0, ([] : List Gq49), h, R, R⟩ ?_))))))))
  clear h
  rintro n e m ⟨n1, l2, h, rfl, rfl⟩
  rcases n with _ | n
  · cases (show Option.none = some _ from h)
  obtain ⟨rec1, hrec1⟩ : ∃ f, f = q46q p0 p1 n := ⟨_, rfl⟩
  replace h : q78q p0 p1 rec1 n1 l2 = some r := hrec1 ▸ h
  unfold q78q at h
  refine LH.seq (LH.seqT [(0, .lst 9 (List.map Gq49.lv p0)), (1, .I p1), (5, .arr 127 (List.length l2)), (6, .I n1), (10, .bool (decide (n1 < (p0.length : Int))))] [(127, .arr 47 9 (List.map Gq49.lv l2))] R (sMi R (sMl R (sN (oLnL (f := Gq49.lv) te27 R (sN (oLt R R zS)))))) (LH.cond (t := (decide (n1 < (p0.length : Int)))) R (fun hc3 => ?_) (fun hc3 => ?_)))
  ·replace h := iteT h hc3
   refine LH.skip (thenN (LH.wk (Wk.eq (el := [(0, .lst 9 (List.map Gq49.lv p0)), (1, .I p1), (5, .arr 127 (List.length l2)), (6, .I n1)]) (ml := [(127, .arr 47 9 (List.map Gq49.lv l2))]) R R R R) (LH.seq (LH.block ?_))))
   obtain ⟨x4, hx4, h⟩ := bindS h
   refine LH.seqT [(0, .lst 9 (List.map Gq49.lv p0)), (1, .I p1), (5, .arr 127 (List.length l2)), (6, .I n1), (20, .bool (decide (x4.Stamp.Time ≤ p1)))] [(127, .arr 47 9 (List.map Gq49.lv l2))] R (sMl R (sMi R (sN (oIx (f := Gq49.lv) te27 tk47 ts47 R R Gq49.ok hx4 R (sN (oFaS tf47_0 tk45 ts45 R R R (sN (oFaS tf45_0 tk3 ts3 R R R (sN (oLd R tk3 ta3 (sMi R (sN (oLe R R zS))))))))))))) (LH.cond (t := (decide (x4.Stamp.Time ≤ p1))) R (fun hc5 => ?_) (fun hc5 => ?_))
   ·replace h := iteT h hc5
    obtain ⟨x6, hx6, h⟩ := bindS h
    obtain ⟨v7, hv7, h⟩ := bindS h
    refine LH.loneT [(0, .lst 9 (List.map Gq49.lv p0)), (1, .I p1), (5, .arr 127 (List.length v7)), (6, .I n1)] [(127, .arr 47 9 (List.map Gq49.lv v7))] R (sMa R (sMl R (sMi R (sN (oIx (f := Gq49.lv) te27 tk47 ts47 R R Gq49.ok hx6 R (sN (oLdA R tk47 ta47 ts47 R R (sN (oBS (f := Gq49.lv) (ys := [x6]) te27 tr47 ts47 R R R Gq49.ok (sN (oAp (f := Gq49.lv) te27 tr47 ts47 R R (prN R) R hv7 (sAa R zS)))))))))))) (blockN (thenN (LH.loneT [(0, .lst 9 (List.map Gq49.lv p0)), (1, .I p1), (5, .arr 127 (List.length v7)), (6, .I (i64 (n1 + 1)))] [(127, .arr 47 9 (List.map Gq49.lv v7))] R (sMi R (sN (oAdd R R (sAi R zS)))) ?_)))
    exact roundI ⟨(i64 (n1 + 1)), v7, hrec1 ▸ h, R, R⟩ (Wk.eq R R R R)
   replace h := iteF h hc5
   refine LH.skip (blockN (thenN (LH.loneT [(0, .lst 9 (List.map Gq49.lv p0)), (1, .I p1), (5, .arr 127 (List.length l2)), (6, .I (i64 (n1 + 1)))] [(127, .arr 47 9 (List.map Gq49.lv l2))] R (sMi R (sN (oAdd R R (sAi R zS)))) ?_)))
   exact roundI ⟨(i64 (n1 + 1)), l2, hrec1 ▸ h, R, R⟩ (Wk.eq R R R R)
  replace h := iteF h hc3
  refine LH.exit (thenX (roundX (blockH (thenN (LH.wk ((Wk.trans (Wk.eq (el := [(5, .arr 127 (List.length l2))]) (ml := [(127, .arr 47 9 (List.map Gq49.lv l2))]) R R R R) (Wk.trans (Wk.frzL (f := Gq49.lv) (el' := [(5, .lst 9 (List.map Gq49.lv l2))]) 127 47 9 l2 R R (prN R) (fZ fN)) (Wk.eq (el := [(5, .lst 9 (List.map Gq49.lv l2))]) (ml := []) R R R R)))) (LH.seqT [(4, .lst 9 (List.map Gq49.lv l2))] [] R (sMl R (sAl R zS)) (LH.ret ?_)))))))
  obtain rfl := oI h
  exact retE (aT Try.results25) (lrT R (lr0 ⟨memN mN, R, prK R, Sub.rfl⟩))

theorem q174q {p0 : Int} {p1 : Int} {r : Int} (h : mark_Mod p0 p1 = some r) : LCall Try.prog 26 [.I p0, .I p1] (Mem.of []) (.I r) (Mem.of []) := by
  unfold mark_Mod at h
  refine bodyT Try.func26 R (nT Try.ntmps26 R) (LH.wk (Wk.eq (el := [(0, .I p0), (1, .I p1)]) (ml := []) R R R R) (LH.seqT [(0, .I p0), (1, .I p1)] [] R (sAi R zS) ?_))
  obtain ⟨v1, hv1, h⟩ := bindS h
  obtain ⟨v2, hv2, h⟩ := bindS h
  refine LH.seqT [(4, .I v2)] [] R (sMi R (sMi R (sN (oRem R R hv1 (sMi R (sN (oAdd R R (sMi R (sN (oRem R R hv2 (sAi R zS))))))))))) (LH.ret ?_)
  obtain rfl := oI h
  exact retE (aT Try.results26) (lrT R (lr0 ⟨memN mN, R, prK R, Sub.rfl⟩))

set_option maxHeartbeats 4000000 in
theorem q143q {F : Nat} {p0 : List Int} {p1 : List Gq49} {p2 : Int} {p3 : Int} {r : Bool} (h : q87q F p0 p1 p2 p3 = some r) : LCall Try.prog 5 [.L p0, .lst 9 (List.map Gq49.lv p1), .I p2, .I p3] (Mem.of []) (.bool r) (Mem.of []) := by
  unfold q87q at h
  refine bodyT Try.func5 R (nT Try.ntmps5 R) (LH.wk (Wk.eq (el := [(0, .L p0), (1, .lst 9 (List.map Gq49.lv p1)), (2, .I p2), (3, .I p3)]) (ml := []) R R R R) (LH.seqT [(0, .L p0), (1, .lst 9 (List.map Gq49.lv p1)), (2, .I p2), (3, .I p3)] [] R (sAb R zS) (LH.seq ?_)))
  obtain ⟨w2, hv, h⟩ := bindS h
  refine LH.seqT [(0, .L p0), (1, .lst 9 (List.map Gq49.lv p1)), (2, .I p2), (3, .I p3), (30, .bool w2)] [] R ?_ ?_
  ·refine sMl R ?_
   obtain ⟨r3, hr3, hv⟩ := bindS hv
   refine sN (oCP (args := [.L p0]) R isF7 R (sbR sbN) (q169q hr3) R (sN (oNot R (sMb R ?_))))
   by_cases hb4 : (!r3) = true
   ·replace hv := iteT hv hb4
    refine sF R R hb4 (sF R R hb4 (sF R R hb4 (sN (oPkT (cB hb4) (v := (.bool _)) R ?_))))
    obtain rfl := oI hv
    exact zS
   ·replace hb4 := bF hb4
    replace hv := iteF hv hb4
    refine sT R (cB hb4) (oM (v := (.lst _ _)) R (sT R (cB hb4) (oLnL (f := Gq49.lv) te27 R (sT R (cB hb4) (oGt R R (sN (oPkF (cB hb4) (v := (.bool _)) R ?_)))))))
    obtain rfl := oI hv
    exact zS
  clear hv
  refine LH.cond (t := w2) R (fun hc5 => ?_) (fun hc5 => ?_)
  ·replace h := iteT h hc5
   obtain ⟨r6, hr6, h⟩ := bindS h
   refine LH.seqT [(8, .bool r6)] [] R (sN (oCP (args := []) R isF8 R sbN (q147q hr6) R (sAb R zS))) (LH.ret (thenR ?_))
   obtain rfl := oI h
   exact retE (aT Try.results5) (lrT R (lr0 ⟨memN mN, R, prK R, Sub.rfl⟩))
  replace h := iteF h hc5
  refine LH.skip (thenN ?_)
  obtain ⟨r7, hr7, h⟩ := bindS h
  refine LH.seqT [(1, .lst 9 (List.map Gq49.lv p1)), (2, .I p2), (3, .I p3), (9, .ptr 9 0)] [(9, .box [.L r7.L, .I r7.At])] R (sMl R (sN (oCM (args := [.L p0]) (ml := []) (ml' := [(9, .box [.L r7.L, .I r7.At])]) R isF9 R (sbR sbN) (q173q hr7) mN (newF R newN) R (sAp R zS)))) ?_
  obtain ⟨r8, hr8, h⟩ := bindS h
  obtain ⟨r9, hr9, h⟩ := bindS h
  refine LH.seqT [(1, .lst 9 (List.map Gq49.lv p1)), (2, .I p2), (3, .I p3), (9, .ptr 9 0), (10, .arr 900 (List.length r9.1))] [(9, .box [.L r9.2.L, .I r9.2.At]), (900, .arr 47 9 (List.map Gq49.lv r9.1))] R (sMp R (sMp R (sN (oCM (args := [.ptr 9 0]) (ml := [(9, .box [.L r7.L, .I r7.At])]) (ml' := [(9, .box [.L r8.2.L, .I r8.2.At])]) R isF11 R (sbR sbN) (Gq48 hr8) (mC R mN) (newI R newN) R (sN (oCM (args := [.ptr 9 0, .agg [.lst 5 (List.map Gq50.lv r8.1.Markers), .lst 7 (List.map Gq54.lv r8.1.Scripts), .lst 3 (List.map Gq52.lv r8.1.Papers), .lst 2 (List.map Gq53.lv r8.1.Schemes), .lst 2 (List.map GSeed.lv r8.1.Seeds), .I r8.1.Monitor.Part, .I r8.1.Monitor.Total, .I r8.1.Monitor.Window, .I r8.1.Monitor.Fails], .I 30]) (ml := [(9, .box [.L r8.2.L, .I r8.2.At])]) (ml' := [(9, .box [.L r9.2.L, .I r9.2.At]), (900, .arr 47 9 (List.map Gq49.lv r9.1))]) R isF10 R (sbR (sbR (sbR sbN))) (Gq5 hr9) ⟨R, trivial⟩ (newI R (newF R newN)) R (sAa R zS))))))) (LH.mid (fun e m => ∃ (l10 : List Gq49) (l11 : List Int) (n12 : Int), q3q F p1 p2 p3 l10 l11 n12 = some r ∧ Wk (fun id => Mem.of [] id ≠ .none) e m (Env.of [(1, .lst 9 (List.map Gq49.lv p1)), (2, .I p2), (3, .I p3), (9, .ptr 9 0), (10, .lst 9 (List.map Gq49.lv l10))]) (Mem.of [(9, .box [.L l11, .I n12])])) ?_ ?_)
  ·refine LH.seqT [(1, .lst 9 (List.map Gq49.lv p1)), (2, .I p2), (3, .I p3), (9, .ptr 9 0), (10, .arr 900 (List.length r9.1)), (40, .bool (decide ((r9.1.length : Int) > 0)))] [(9, .box [.L r9.2.L, .I r9.2.At]), (900, .arr 47 9 (List.map Gq49.lv r9.1))] R (sMa R (sN (oLnA (f := Gq49.lv) te27 R R (sN (oGt R R zS))))) (LH.cond (t := (decide ((r9.1.length : Int) > 0))) R (fun hc68 => ?_) (fun hc68 => ?_))
   ·replace h := iteT h hc68
    obtain ⟨r69, hr69, h⟩ := bindS h
    obtain ⟨x70, hx70, h⟩ := bindS h
    refine LH.seqT [(1, .lst 9 (List.map Gq49.lv p1)), (2, .I p2), (3, .I p3), (9, .ptr 9 0), (10, .arr 900 (List.length r9.1)), (11, .ptr 111 0)] [(9, .box [.L r69.2.L, .I r69.2.At]), (111, .box (Gq49.lv x70).cells), (900, .arr 47 9 (List.map Gq49.lv r9.1))] R (sMa R (sMp R (sMa R (sN (oLnA (f := Gq49.lv) te27 R R (sN (oCM (args := [.ptr 9 0, .I (r9.1.length : Int)]) (ml := [(9, .box [.L r9.2.L, .I r9.2.At])]) (ml' := [(9, .box [.L r69.2.L, .I r69.2.At])]) R isF18 R (sbR (sbR sbN)) (Gq15 hr69) (mC R mN) (newI R newN) R (sN (oIxA (f := Gq49.lv) te27 tk47 ts47 R R R hx70 (sN (oLdEA (f := Gq49.lv) R R (idxOk hx70).2 R R tk47 ta47 ts47 R R (sN (oAl (id := 111) R tz47 R R (s_ (oSt R R R tk47 ts47 R R R zS))))))))))))))) (LH.seq ?_)
    obtain ⟨r71, hr71, h⟩ := bindS h
    refine LH.seqT [(1, .lst 9 (List.map Gq49.lv p1)), (2, .I p2), (3, .I p3), (9, .ptr 9 0), (10, .arr 900 (List.length r9.1)), (11, .ptr 111 0), (49, .I r71.1)] [(9, .box [.L r71.2.L, .I r71.2.At]), (111, .box (Gq49.lv x70).cells), (900, .arr 47 9 (List.map Gq49.lv r9.1))] R (sMp R (sN (oCM (args := [.ptr 9 0, .I 6]) (ml := [(9, .box [.L r69.2.L, .I r69.2.At])]) (ml' := [(9, .box [.L r71.2.L, .I r71.2.At])]) R isF18 R (sbR (sbR sbN)) (Gq15 hr71) (mC R mN) (newI R newN) R zS))) (LH.block (LH.seqT [(1, .lst 9 (List.map Gq49.lv p1)), (2, .I p2), (3, .I p3), (9, .ptr 9 0), (10, .arr 900 (List.length r9.1)), (11, .ptr 111 0), (49, .I r71.1), (54, .bool (r71.1 == 0))] [(9, .box [.L r71.2.L, .I r71.2.At]), (111, .box (Gq49.lv x70).cells), (900, .arr 47 9 (List.map Gq49.lv r9.1))] R (sN (oEq R R (sAb R zS))) (LH.cond (t := (r71.1 == 0)) R (fun hc72 => ?_) (fun hc72 => ?_))))
    ·replace h := iteT h hc72
     obtain ⟨r73, hr73, h⟩ := bindS h
     refine LH.loneT [(1, .lst 9 (List.map Gq49.lv p1)), (2, .I p2), (3, .I p3), (9, .ptr 9 0), (10, .arr 900 (List.length r9.1)), (11, .sptr [.I x70.Stamp.Time, .I r73.1, .I x70.Stamp.Seq, .I x70.Kind, .I x70.Script, .I x70.Part, .I x70.Value, .I x70.Marker, .L x70.Pages])] [(9, .box [.L r73.2.L, .I r73.2.At]), (900, .arr 47 9 (List.map Gq49.lv r9.1))] R (sMp R (sN (oBS (f := LV.I) (ys := [0, 99, 100, (-1)]) te22 tr3 ts3 R R R okI (sN (oCM (args := [.ptr 9 0, .L [0, 99, 100, (-1)]]) (ml := [(9, .box [.L r71.2.L, .I r71.2.At])]) (ml' := [(9, .box [.L r73.2.L, .I r73.2.At])]) R isF19 R (sbR (sbR sbN)) (Gq26 hr73) (mC R mN) (newI R newN) R (sN (oFa tf47_0 tk45 ts45 R R (sN (oFa tf45_1 tk3 ts3 R R (s_ (oSt R R R tk3 ts3 R R R (s0 ((Wk.trans (Wk.eq (el := [(1, .lst 9 (List.map Gq49.lv p1)), (2, .I p2), (3, .I p3), (9, .ptr 9 0), (10, .arr 900 (List.length r9.1)), (11, .ptr 111 0)]) (ml := [(9, .box [.L r73.2.L, .I r73.2.At]), (111, .box [.I x70.Stamp.Time, .I r73.1, .I x70.Stamp.Seq, .I x70.Kind, .I x70.Script, .I x70.Part, .I x70.Value, .I x70.Marker, .L x70.Pages]), (900, .arr 47 9 (List.map Gq49.lv r9.1))]) R R R R) (Wk.trans (Wk.frzB 111 [.I x70.Stamp.Time, .I r73.1, .I x70.Stamp.Seq, .I x70.Kind, .I x70.Script, .I x70.Part, .I x70.Value, .I x70.Marker, .L x70.Pages] R R R (prN R)) (Wk.eq R R R R)))))))))))))))) (blockN (thenN ?_))
     obtain ⟨v74, hv74, h⟩ := bindS h
     exact LH.loneT [(1, .lst 9 (List.map Gq49.lv p1)), (2, .I p2), (3, .I p3), (9, .ptr 9 0), (10, .lst 9 (List.map Gq49.lv v74))] [(9, .box [.L r73.2.L, .I r73.2.At])] R (sMa R (sN (oLdA R tk47 ta47 ts47 R R (sN (oBS (f := Gq49.lv) (ys := [(Gq49.mk (Gq56.mk x70.Stamp.Time r73.1 x70.Stamp.Seq) x70.Kind x70.Script x70.Part x70.Value x70.Marker x70.Pages)]) te27 tr47 ts47 R R R Gq49.ok (sN (oAp (f := Gq49.lv) te27 tr47 ts47 R R (prN R) R hv74 (sAa R (s0 ((Wk.trans (Wk.eq (el := [(1, .lst 9 (List.map Gq49.lv p1)), (2, .I p2), (3, .I p3), (9, .ptr 9 0), (10, .arr 900 (List.length v74))]) (ml := [(9, .box [.L r73.2.L, .I r73.2.At]), (900, .arr 47 9 (List.map Gq49.lv v74))]) R R R R) (Wk.trans (Wk.frzL (f := Gq49.lv) (el' := [(1, .lst 9 (List.map Gq49.lv p1)), (2, .I p2), (3, .I p3), (9, .ptr 9 0), (10, .lst 9 (List.map Gq49.lv v74))]) 900 47 9 v74 R R (prN R) (fK R (fK R (fK R (fK R (fZ fN)))))) (Wk.eq R R R R))))))))))))) (thenN ⟨v74, r73.2.L, r73.2.At, h, Wk.eq R R R R⟩)
    replace h := iteF h hc72
    refine LH.seqT [(1, .lst 9 (List.map Gq49.lv p1)), (2, .I p2), (3, .I p3), (9, .ptr 9 0), (10, .arr 900 (List.length r9.1)), (11, .ptr 111 0), (49, .I r71.1), (61, .bool (r71.1 == 1))] [(9, .box [.L r71.2.L, .I r71.2.At]), (111, .box (Gq49.lv x70).cells), (900, .arr 47 9 (List.map Gq49.lv r9.1))] R (sN (oEq R R (sAb R zS))) (LH.cond (t := (r71.1 == 1)) R (fun hc75 => ?_) (fun hc75 => ?_))
    ·replace h := iteT h hc75
     obtain ⟨r76, hr76, h⟩ := bindS h
     refine LH.loneT [(1, .lst 9 (List.map Gq49.lv p1)), (2, .I p2), (3, .I p3), (9, .ptr 9 0), (10, .arr 900 (List.length r9.1)), (11, .sptr [.I x70.Stamp.Time, .I x70.Stamp.Source, .I x70.Stamp.Seq, .I r76.1, .I x70.Script, .I x70.Part, .I x70.Value, .I x70.Marker, .L x70.Pages])] [(9, .box [.L r76.2.L, .I r76.2.At]), (900, .arr 47 9 (List.map Gq49.lv r9.1))] R (sMp R (sN (oBS (f := LV.I) (ys := [(-1), 1, 2, 3]) te22 tr3 ts3 R R R okI (sN (oCM (args := [.ptr 9 0, .L [(-1), 1, 2, 3]]) (ml := [(9, .box [.L r71.2.L, .I r71.2.At])]) (ml' := [(9, .box [.L r76.2.L, .I r76.2.At])]) R isF19 R (sbR (sbR sbN)) (Gq26 hr76) (mC R mN) (newI R newN) R (sN (oFa tf47_1 tk3 ts3 R R (s_ (oSt R R R tk3 ts3 R R R (s0 ((Wk.trans (Wk.eq (el := [(1, .lst 9 (List.map Gq49.lv p1)), (2, .I p2), (3, .I p3), (9, .ptr 9 0), (10, .arr 900 (List.length r9.1)), (11, .ptr 111 0)]) (ml := [(9, .box [.L r76.2.L, .I r76.2.At]), (111, .box [.I x70.Stamp.Time, .I x70.Stamp.Source, .I x70.Stamp.Seq, .I r76.1, .I x70.Script, .I x70.Part, .I x70.Value, .I x70.Marker, .L x70.Pages]), (900, .arr 47 9 (List.map Gq49.lv r9.1))]) R R R R) (Wk.trans (Wk.frzB 111 [.I x70.Stamp.Time, .I x70.Stamp.Source, .I x70.Stamp.Seq, .I r76.1, .I x70.Script, .I x70.Part, .I x70.Value, .I x70.Marker, .L x70.Pages] R R R (prN R)) (Wk.eq R R R R)))))))))))))) (blockN (thenN ?_))
     obtain ⟨v77, hv77, h⟩ := bindS h
     exact LH.loneT [(1, .lst 9 (List.map Gq49.lv p1)), (2, .I p2), (3, .I p3), (9, .ptr 9 0), (10, .lst 9 (List.map Gq49.lv v77))] [(9, .box [.L r76.2.L, .I r76.2.At])] R (sMa R (sN (oLdA R tk47 ta47 ts47 R R (sN (oBS (f := Gq49.lv) (ys := [(Gq49.mk x70.Stamp r76.1 x70.Script x70.Part x70.Value x70.Marker x70.Pages)]) te27 tr47 ts47 R R R Gq49.ok (sN (oAp (f := Gq49.lv) te27 tr47 ts47 R R (prN R) R hv77 (sAa R (s0 ((Wk.trans (Wk.eq (el := [(1, .lst 9 (List.map Gq49.lv p1)), (2, .I p2), (3, .I p3), (9, .ptr 9 0), (10, .arr 900 (List.length v77))]) (ml := [(9, .box [.L r76.2.L, .I r76.2.At]), (900, .arr 47 9 (List.map Gq49.lv v77))]) R R R R) (Wk.trans (Wk.frzL (f := Gq49.lv) (el' := [(1, .lst 9 (List.map Gq49.lv p1)), (2, .I p2), (3, .I p3), (9, .ptr 9 0), (10, .lst 9 (List.map Gq49.lv v77))]) 900 47 9 v77 R R (prN R) (fK R (fK R (fK R (fK R (fZ fN)))))) (Wk.eq R R R R))))))))))))) (thenN ⟨v77, r76.2.L, r76.2.At, h, Wk.eq R R R R⟩)
    replace h := iteF h hc75
    refine LH.seqT [(1, .lst 9 (List.map Gq49.lv p1)), (2, .I p2), (3, .I p3), (9, .ptr 9 0), (10, .arr 900 (List.length r9.1)), (11, .ptr 111 0), (49, .I r71.1), (67, .bool (r71.1 == 2))] [(9, .box [.L r71.2.L, .I r71.2.At]), (111, .box (Gq49.lv x70).cells), (900, .arr 47 9 (List.map Gq49.lv r9.1))] R (sN (oEq R R (sAb R zS))) (LH.cond (t := (r71.1 == 2)) R (fun hc78 => ?_) (fun hc78 => ?_))
    ·replace h := iteT h hc78
     obtain ⟨r79, hr79, h⟩ := bindS h
     refine LH.loneT [(1, .lst 9 (List.map Gq49.lv p1)), (2, .I p2), (3, .I p3), (9, .ptr 9 0), (10, .arr 900 (List.length r9.1)), (11, .sptr [.I x70.Stamp.Time, .I x70.Stamp.Source, .I x70.Stamp.Seq, .I x70.Kind, .I x70.Script, .I r79.1, .I x70.Value, .I x70.Marker, .L x70.Pages])] [(9, .box [.L r79.2.L, .I r79.2.At]), (900, .arr 47 9 (List.map Gq49.lv r9.1))] R (sMp R (sN (oBS (f := LV.I) (ys := [(-1), (-2), 23, 24]) te22 tr3 ts3 R R R okI (sN (oCM (args := [.ptr 9 0, .L [(-1), (-2), 23, 24]]) (ml := [(9, .box [.L r71.2.L, .I r71.2.At])]) (ml' := [(9, .box [.L r79.2.L, .I r79.2.At])]) R isF19 R (sbR (sbR sbN)) (Gq26 hr79) (mC R mN) (newI R newN) R (sN (oFa tf47_3 tk3 ts3 R R (s_ (oSt R R R tk3 ts3 R R R (s0 ((Wk.trans (Wk.eq (el := [(1, .lst 9 (List.map Gq49.lv p1)), (2, .I p2), (3, .I p3), (9, .ptr 9 0), (10, .arr 900 (List.length r9.1)), (11, .ptr 111 0)]) (ml := [(9, .box [.L r79.2.L, .I r79.2.At]), (111, .box [.I x70.Stamp.Time, .I x70.Stamp.Source, .I x70.Stamp.Seq, .I x70.Kind, .I x70.Script, .I r79.1, .I x70.Value, .I x70.Marker, .L x70.Pages]), (900, .arr 47 9 (List.map Gq49.lv r9.1))]) R R R R) (Wk.trans (Wk.frzB 111 [.I x70.Stamp.Time, .I x70.Stamp.Source, .I x70.Stamp.Seq, .I x70.Kind, .I x70.Script, .I r79.1, .I x70.Value, .I x70.Marker, .L x70.Pages] R R R (prN R)) (Wk.eq R R R R)))))))))))))) (blockN (thenN ?_))
     obtain ⟨v80, hv80, h⟩ := bindS h
     exact LH.loneT [(1, .lst 9 (List.map Gq49.lv p1)), (2, .I p2), (3, .I p3), (9, .ptr 9 0), (10, .lst 9 (List.map Gq49.lv v80))] [(9, .box [.L r79.2.L, .I r79.2.At])] R (sMa R (sN (oLdA R tk47 ta47 ts47 R R (sN (oBS (f := Gq49.lv) (ys := [(Gq49.mk x70.Stamp x70.Kind x70.Script r79.1 x70.Value x70.Marker x70.Pages)]) te27 tr47 ts47 R R R Gq49.ok (sN (oAp (f := Gq49.lv) te27 tr47 ts47 R R (prN R) R hv80 (sAa R (s0 ((Wk.trans (Wk.eq (el := [(1, .lst 9 (List.map Gq49.lv p1)), (2, .I p2), (3, .I p3), (9, .ptr 9 0), (10, .arr 900 (List.length v80))]) (ml := [(9, .box [.L r79.2.L, .I r79.2.At]), (900, .arr 47 9 (List.map Gq49.lv v80))]) R R R R) (Wk.trans (Wk.frzL (f := Gq49.lv) (el' := [(1, .lst 9 (List.map Gq49.lv p1)), (2, .I p2), (3, .I p3), (9, .ptr 9 0), (10, .lst 9 (List.map Gq49.lv v80))]) 900 47 9 v80 R R (prN R) (fK R (fK R (fK R (fK R (fZ fN)))))) (Wk.eq R R R R))))))))))))) (thenN ⟨v80, r79.2.L, r79.2.At, h, Wk.eq R R R R⟩)
    replace h := iteF h hc78
    refine LH.seqT [(1, .lst 9 (List.map Gq49.lv p1)), (2, .I p2), (3, .I p3), (9, .ptr 9 0), (10, .arr 900 (List.length r9.1)), (11, .ptr 111 0), (49, .I r71.1), (73, .bool (r71.1 == 3))] [(9, .box [.L r71.2.L, .I r71.2.At]), (111, .box (Gq49.lv x70).cells), (900, .arr 47 9 (List.map Gq49.lv r9.1))] R (sN (oEq R R (sAb R zS))) (LH.cond (t := (r71.1 == 3)) R (fun hc81 => ?_) (fun hc81 => ?_))
    ·replace h := iteT h hc81
     obtain ⟨r82, hr82, h⟩ := bindS h
     refine LH.loneT [(1, .lst 9 (List.map Gq49.lv p1)), (2, .I p2), (3, .I p3), (9, .ptr 9 0), (10, .arr 900 (List.length r9.1)), (11, .sptr [.I x70.Stamp.Time, .I x70.Stamp.Source, .I x70.Stamp.Seq, .I x70.Kind, .I x70.Script, .I x70.Part, .I r82.1, .I x70.Marker, .L x70.Pages])] [(9, .box [.L r82.2.L, .I r82.2.At]), (900, .arr 47 9 (List.map Gq49.lv r9.1))] R (sMp R (sN (oBS (f := LV.I) (ys := [(-2), (-1), 40, 41]) te22 tr3 ts3 R R R okI (sN (oCM (args := [.ptr 9 0, .L [(-2), (-1), 40, 41]]) (ml := [(9, .box [.L r71.2.L, .I r71.2.At])]) (ml' := [(9, .box [.L r82.2.L, .I r82.2.At])]) R isF19 R (sbR (sbR sbN)) (Gq26 hr82) (mC R mN) (newI R newN) R (sN (oFa tf47_4 tk3 ts3 R R (s_ (oSt R R R tk3 ts3 R R R (s0 ((Wk.trans (Wk.eq (el := [(1, .lst 9 (List.map Gq49.lv p1)), (2, .I p2), (3, .I p3), (9, .ptr 9 0), (10, .arr 900 (List.length r9.1)), (11, .ptr 111 0)]) (ml := [(9, .box [.L r82.2.L, .I r82.2.At]), (111, .box [.I x70.Stamp.Time, .I x70.Stamp.Source, .I x70.Stamp.Seq, .I x70.Kind, .I x70.Script, .I x70.Part, .I r82.1, .I x70.Marker, .L x70.Pages]), (900, .arr 47 9 (List.map Gq49.lv r9.1))]) R R R R) (Wk.trans (Wk.frzB 111 [.I x70.Stamp.Time, .I x70.Stamp.Source, .I x70.Stamp.Seq, .I x70.Kind, .I x70.Script, .I x70.Part, .I r82.1, .I x70.Marker, .L x70.Pages] R R R (prN R)) (Wk.eq R R R R)))))))))))))) (blockN (thenN ?_))
     obtain ⟨v83, hv83, h⟩ := bindS h
     exact LH.loneT [(1, .lst 9 (List.map Gq49.lv p1)), (2, .I p2), (3, .I p3), (9, .ptr 9 0), (10, .lst 9 (List.map Gq49.lv v83))] [(9, .box [.L r82.2.L, .I r82.2.At])] R (sMa R (sN (oLdA R tk47 ta47 ts47 R R (sN (oBS (f := Gq49.lv) (ys := [(Gq49.mk x70.Stamp x70.Kind x70.Script x70.Part r82.1 x70.Marker x70.Pages)]) te27 tr47 ts47 R R R Gq49.ok (sN (oAp (f := Gq49.lv) te27 tr47 ts47 R R (prN R) R hv83 (sAa R (s0 ((Wk.trans (Wk.eq (el := [(1, .lst 9 (List.map Gq49.lv p1)), (2, .I p2), (3, .I p3), (9, .ptr 9 0), (10, .arr 900 (List.length v83))]) (ml := [(9, .box [.L r82.2.L, .I r82.2.At]), (900, .arr 47 9 (List.map Gq49.lv v83))]) R R R R) (Wk.trans (Wk.frzL (f := Gq49.lv) (el' := [(1, .lst 9 (List.map Gq49.lv p1)), (2, .I p2), (3, .I p3), (9, .ptr 9 0), (10, .lst 9 (List.map Gq49.lv v83))]) 900 47 9 v83 R R (prN R) (fK R (fK R (fK R (fK R (fZ fN)))))) (Wk.eq R R R R))))))))))))) (thenN ⟨v83, r82.2.L, r82.2.At, h, Wk.eq R R R R⟩)
    replace h := iteF h hc81
    refine LH.seqT [(1, .lst 9 (List.map Gq49.lv p1)), (2, .I p2), (3, .I p3), (9, .ptr 9 0), (10, .arr 900 (List.length r9.1)), (11, .ptr 111 0), (79, .bool (r71.1 == 4))] [(9, .box [.L r71.2.L, .I r71.2.At]), (111, .box (Gq49.lv x70).cells), (900, .arr 47 9 (List.map Gq49.lv r9.1))] R (sN (oEq R R (sAb R zS))) (LH.cond (t := (r71.1 == 4)) R (fun hc84 => ?_) (fun hc84 => ?_))
    ·replace h := iteT h hc84
     obtain ⟨r85, hr85, h⟩ := bindS h
     refine LH.loneT [(1, .lst 9 (List.map Gq49.lv p1)), (2, .I p2), (3, .I p3), (9, .ptr 9 0), (10, .arr 900 (List.length r9.1)), (11, .sptr [.I x70.Stamp.Time, .I x70.Stamp.Source, .I x70.Stamp.Seq, .I x70.Kind, .I x70.Script, .I x70.Part, .I x70.Value, .I x70.Marker, .L [r85.1]])] [(9, .box [.L r85.2.L, .I r85.2.At]), (900, .arr 47 9 (List.map Gq49.lv r9.1))] R (sMp R (sN (oBS (f := LV.I) (ys := [(-1), 0, 1152921504606846976]) te22 tr3 ts3 R R R okI (sN (oCM (args := [.ptr 9 0, .L [(-1), 0, 1152921504606846976]]) (ml := [(9, .box [.L r71.2.L, .I r71.2.At])]) (ml' := [(9, .box [.L r85.2.L, .I r85.2.At])]) R isF19 R (sbR (sbR sbN)) (Gq26 hr85) (mC R mN) (newI R newN) R (sN (oBS (f := LV.I) (ys := [r85.1]) te22 tr3 ts3 R R R okI (sN (oFa tf47_6 tk22 ts22 R R (s_ (oSt R R R tk22 ts22 R R R (s0 ((Wk.trans (Wk.eq (el := [(1, .lst 9 (List.map Gq49.lv p1)), (2, .I p2), (3, .I p3), (9, .ptr 9 0), (10, .arr 900 (List.length r9.1)), (11, .ptr 111 0)]) (ml := [(9, .box [.L r85.2.L, .I r85.2.At]), (111, .box [.I x70.Stamp.Time, .I x70.Stamp.Source, .I x70.Stamp.Seq, .I x70.Kind, .I x70.Script, .I x70.Part, .I x70.Value, .I x70.Marker, .L [r85.1]]), (900, .arr 47 9 (List.map Gq49.lv r9.1))]) R R R R) (Wk.trans (Wk.frzB 111 [.I x70.Stamp.Time, .I x70.Stamp.Source, .I x70.Stamp.Seq, .I x70.Kind, .I x70.Script, .I x70.Part, .I x70.Value, .I x70.Marker, .L [r85.1]] R R R (prN R)) (Wk.eq R R R R)))))))))))))))) (blockN (thenN ?_))
     obtain ⟨v86, hv86, h⟩ := bindS h
     exact LH.loneT [(1, .lst 9 (List.map Gq49.lv p1)), (2, .I p2), (3, .I p3), (9, .ptr 9 0), (10, .lst 9 (List.map Gq49.lv v86))] [(9, .box [.L r85.2.L, .I r85.2.At])] R (sMa R (sN (oLdA R tk47 ta47 ts47 R R (sN (oBS (f := Gq49.lv) (ys := [(Gq49.mk x70.Stamp x70.Kind x70.Script x70.Part x70.Value x70.Marker [r85.1])]) te27 tr47 ts47 R R R Gq49.ok (sN (oAp (f := Gq49.lv) te27 tr47 ts47 R R (prN R) R hv86 (sAa R (s0 ((Wk.trans (Wk.eq (el := [(1, .lst 9 (List.map Gq49.lv p1)), (2, .I p2), (3, .I p3), (9, .ptr 9 0), (10, .arr 900 (List.length v86))]) (ml := [(9, .box [.L r85.2.L, .I r85.2.At]), (900, .arr 47 9 (List.map Gq49.lv v86))]) R R R R) (Wk.trans (Wk.frzL (f := Gq49.lv) (el' := [(1, .lst 9 (List.map Gq49.lv p1)), (2, .I p2), (3, .I p3), (9, .ptr 9 0), (10, .lst 9 (List.map Gq49.lv v86))]) 900 47 9 v86 R R (prN R) (fK R (fK R (fK R (fK R (fZ fN)))))) (Wk.eq R R R R))))))))))))) (thenN ⟨v86, r85.2.L, r85.2.At, h, Wk.eq R R R R⟩)
    replace h := iteF h hc84
    obtain ⟨r87, hr87, h⟩ := bindS h
    refine LH.loneT [(1, .lst 9 (List.map Gq49.lv p1)), (2, .I p2), (3, .I p3), (9, .ptr 9 0), (10, .arr 900 (List.length r9.1)), (11, .sptr [.I x70.Stamp.Time, .I x70.Stamp.Source, .I x70.Stamp.Seq, .I x70.Kind, .I x70.Script, .I x70.Part, .I x70.Value, .I r87.1, .L x70.Pages])] [(9, .box [.L r87.2.L, .I r87.2.At]), (900, .arr 47 9 (List.map Gq49.lv r9.1))] R (sMp R (sN (oBS (f := LV.I) (ys := [0, 1, 100]) te22 tr3 ts3 R R R okI (sN (oCM (args := [.ptr 9 0, .L [0, 1, 100]]) (ml := [(9, .box [.L r71.2.L, .I r71.2.At])]) (ml' := [(9, .box [.L r87.2.L, .I r87.2.At])]) R isF19 R (sbR (sbR sbN)) (Gq26 hr87) (mC R mN) (newI R newN) R (sN (oFa tf47_5 tk3 ts3 R R (s_ (oSt R R R tk3 ts3 R R R (s0 ((Wk.trans (Wk.eq (el := [(1, .lst 9 (List.map Gq49.lv p1)), (2, .I p2), (3, .I p3), (9, .ptr 9 0), (10, .arr 900 (List.length r9.1)), (11, .ptr 111 0)]) (ml := [(9, .box [.L r87.2.L, .I r87.2.At]), (111, .box [.I x70.Stamp.Time, .I x70.Stamp.Source, .I x70.Stamp.Seq, .I x70.Kind, .I x70.Script, .I x70.Part, .I x70.Value, .I r87.1, .L x70.Pages]), (900, .arr 47 9 (List.map Gq49.lv r9.1))]) R R R R) (Wk.trans (Wk.frzB 111 [.I x70.Stamp.Time, .I x70.Stamp.Source, .I x70.Stamp.Seq, .I x70.Kind, .I x70.Script, .I x70.Part, .I x70.Value, .I r87.1, .L x70.Pages] R R R (prN R)) (Wk.eq R R R R)))))))))))))) (blockN (thenN ?_))
    obtain ⟨v88, hv88, h⟩ := bindS h
    exact LH.loneT [(1, .lst 9 (List.map Gq49.lv p1)), (2, .I p2), (3, .I p3), (9, .ptr 9 0), (10, .lst 9 (List.map Gq49.lv v88))] [(9, .box [.L r87.2.L, .I r87.2.At])] R (sMa R (sN (oLdA R tk47 ta47 ts47 R R (sN (oBS (f := Gq49.lv) (ys := [(Gq49.mk x70.Stamp x70.Kind x70.Script x70.Part x70.Value r87.1 x70.Pages)]) te27 tr47 ts47 R R R Gq49.ok (sN (oAp (f := Gq49.lv) te27 tr47 ts47 R R (prN R) R hv88 (sAa R (s0 ((Wk.trans (Wk.eq (el := [(1, .lst 9 (List.map Gq49.lv p1)), (2, .I p2), (3, .I p3), (9, .ptr 9 0), (10, .arr 900 (List.length v88))]) (ml := [(9, .box [.L r87.2.L, .I r87.2.At]), (900, .arr 47 9 (List.map Gq49.lv v88))]) R R R R) (Wk.trans (Wk.frzL (f := Gq49.lv) (el' := [(1, .lst 9 (List.map Gq49.lv p1)), (2, .I p2), (3, .I p3), (9, .ptr 9 0), (10, .lst 9 (List.map Gq49.lv v88))]) 900 47 9 v88 R R (prN R) (fK R (fK R (fK R (fK R (fZ fN)))))) (Wk.eq R R R R))))))))))))) (thenN ⟨v88, r87.2.L, r87.2.At, h, Wk.eq R R R R⟩)
   replace h := iteF h hc68
   exact LH.skip (thenN ⟨r9.1, r9.2.L, r9.2.At, h, (Wk.trans (Wk.eq (el := [(1, .lst 9 (List.map Gq49.lv p1)), (2, .I p2), (3, .I p3), (9, .ptr 9 0), (10, .arr 900 (List.length r9.1))]) (ml := [(9, .box [.L r9.2.L, .I r9.2.At]), (900, .arr 47 9 (List.map Gq49.lv r9.1))]) R R R R) (Wk.trans (Wk.frzL (f := Gq49.lv) (el' := [(1, .lst 9 (List.map Gq49.lv p1)), (2, .I p2), (3, .I p3), (9, .ptr 9 0), (10, .lst 9 (List.map Gq49.lv r9.1))]) 900 47 9 r9.1 R R (prN R) (fK R (fK R (fK R (fK R (fZ fN)))))) (Wk.eq R R R R)))⟩)
  clear h
  rintro e m ⟨l10, l11, n12, h, hw⟩
  refine LH.wk hw ?_
  clear hw
  unfold q3q at h
  obtain ⟨v13, hv13, h⟩ := bindS h
  obtain ⟨v14, hv14, h⟩ := bindS h
  refine LH.seqT [(1, .lst 9 (List.map Gq49.lv p1)), (2, .I p2), (3, .I p3), (9, .ptr 9 0), (10, .lst 9 (List.map Gq49.lv l10)), (12, .lst 9 (List.map Gq49.lv v14))] [(9, .box [.L l11, .I n12])] R (sMl R (sN (oApN (f := Gq49.lv) (id := 191) R te27 tr47 ts47 R R hv13 R (sMl R (sN (oAp (f := Gq49.lv) te27 tr47 ts47 R R (prN R) R hv14 (sAa R (s0 ((Wk.trans (Wk.eq (el := [(1, .lst 9 (List.map Gq49.lv p1)), (2, .I p2), (3, .I p3), (9, .ptr 9 0), (10, .lst 9 (List.map Gq49.lv l10)), (12, .arr 191 (List.length v14))]) (ml := [(9, .box [.L l11, .I n12]), (191, .arr 47 9 (List.map Gq49.lv v14))]) R R R R) (Wk.trans (Wk.frzL (f := Gq49.lv) (el' := [(1, .lst 9 (List.map Gq49.lv p1)), (2, .I p2), (3, .I p3), (9, .ptr 9 0), (10, .lst 9 (List.map Gq49.lv l10)), (12, .lst 9 (List.map Gq49.lv v14))]) 191 47 9 v14 R R (prN R) (fK R (fK R (fK R (fK R (fK R (fZ fN))))))) (Wk.eq R R R R)))))))))))) (LH.seq (LH.seqT [(2, .I p2), (3, .I p3), (9, .ptr 9 0), (97, .agg [.lst 9 (List.map Gq49.lv l10), .lst 9 (List.map Gq49.lv p1), .lst 9 (List.map Gq49.lv v14)]), (98, .I 0)] [(9, .box [.L l11, .I n12])] R (sMl R (sMl R (sMl R (sX (ok_buildA (xs := [.lst 9 (List.map Gq49.lv l10), .lst 9 (List.map Gq49.lv p1), .lst 9 (List.map Gq49.lv v14)]) ty55 R R R) (sMi R zS))))) (LH.block (LH.loop (fun n e m => ∃ (n15 : Int) (l16 : List Int) (n17 : Int), q15q F p1 p2 p3 l10 v14 n n15 l16 n17 = some r ∧ e = Env.of [(2, .I p2), (3, .I p3), (9, .ptr 9 0), (97, .agg [.lst 9 (List.map Gq49.lv l10), .lst 9 (List.map Gq49.lv p1), .lst 9 (List.map Gq49.lv v14)]), (98, .I n15)] ∧ m = Mem.of [(9, .box [.L l16, .I n17])]) F ⟨0, l11, n12, h, R, R⟩ ?_))))
  clear h
  rintro n e m ⟨n15, l16, n17, h, rfl, rfl⟩
  rcases n with _ | n
  · cases (show Option.none = some _ from h)
  obtain ⟨rec2, hrec2⟩ : ∃ f, f = q15q F p1 p2 p3 l10 v14 n := ⟨_, rfl⟩
  replace h : q19q F p1 p2 p3 l10 v14 rec2 n15 l16 n17 = some r := hrec2 ▸ h
  unfold q19q at h
  refine LH.seqT [(2, .I p2), (3, .I p3), (9, .ptr 9 0), (97, .agg [.lst 9 (List.map Gq49.lv l10), .lst 9 (List.map Gq49.lv p1), .lst 9 (List.map Gq49.lv v14)]), (98, .I n15), (99, .bool (decide (n15 < 3)))] [(9, .box [.L l16, .I n17])] R (sN (oLt R R zS)) (LH.seq (LH.cond (t := (decide (n15 < 3))) R (fun hc18 => ?_) (fun hc18 => ?_)))
  ·replace h := iteT h hc18
   refine LH.skip (thenN (LH.wk (Wk.eq (el := [(2, .I p2), (3, .I p3), (9, .ptr 9 0), (97, .agg [.lst 9 (List.map Gq49.lv l10), .lst 9 (List.map Gq49.lv p1), .lst 9 (List.map Gq49.lv v14)]), (98, .I n15)]) (ml := [(9, .box [.L l16, .I n17])]) R R R R) (LH.seq (LH.block ?_))))
   obtain ⟨x19, hx19, h⟩ := bindS h
   refine LH.seqT [(2, .I p2), (3, .I p3), (9, .ptr 9 0), (14, .lst 9 (List.map Gq49.lv x19)), (97, .agg [.lst 9 (List.map Gq49.lv l10), .lst 9 (List.map Gq49.lv p1), .lst 9 (List.map Gq49.lv v14)]), (98, .I n15)] [(9, .box [.L l16, .I n17])] R (sX ((ok_ixV (f := (lvl 9 Gq49.lv)) (ys := [l10, p1, v14]) ty55 tk27 ta27 R R R hx19).ok) (sAl R zS)) ?_
   obtain ⟨r20, hr20, h⟩ := bindS h
   refine LH.seqT [(2, .I p2), (3, .I p3), (9, .ptr 9 0), (14, .lst 9 (List.map Gq49.lv x19)), (15, .lst 9 (List.map Gq49.lv r20.1)), (16, .I r20.2), (97, .agg [.lst 9 (List.map Gq49.lv l10), .lst 9 (List.map Gq49.lv p1), .lst 9 (List.map Gq49.lv v14)]), (98, .I n15)] [(9, .box [.L l16, .I n17])] R (sMl R (sN (oCP (args := [.lst 9 (List.map Gq49.lv x19)]) R isF12 R (sbR sbN) (q67q hr20) R (sMt R (sN (oEx R R (sN (oEx R R (sAl R (sAi R zS)))))))))) ?_
   obtain ⟨r21, hr21, h⟩ := bindS h
   refine LH.seqT [(2, .I p2), (3, .I p3), (9, .ptr 9 0), (14, .lst 9 (List.map Gq49.lv x19)), (15, .lst 9 (List.map Gq49.lv r20.1)), (16, .I r20.2), (17, .lst 9 (List.map Gq49.lv r21.1)), (18, .I r21.2), (97, .agg [.lst 9 (List.map Gq49.lv l10), .lst 9 (List.map Gq49.lv p1), .lst 9 (List.map Gq49.lv v14)]), (98, .I n15)] [(9, .box [.L l16, .I n17])] R (sMl R (sN (oCP (args := [.lst 9 (List.map Gq49.lv x19)]) R isF20 R (sbR sbN) (q129q hr21) R (sMt R (sN (oEx R R (sN (oEx R R (sAl R (sAi R zS)))))))))) (LH.seq ?_)
   obtain ⟨w23, hv, h⟩ := bindS h
   refine LH.seqT [(2, .I p2), (3, .I p3), (9, .ptr 9 0), (14, .lst 9 (List.map Gq49.lv x19)), (97, .agg [.lst 9 (List.map Gq49.lv l10), .lst 9 (List.map Gq49.lv p1), .lst 9 (List.map Gq49.lv v14)]), (98, .I n15), (127, .bool w23)] [(9, .box [.L l16, .I n17])] R ?_ ?_
   ·refine sMl R (sMl R ?_)
    obtain ⟨r24, hr24, hv⟩ := bindS hv
    refine sN (oCP (args := [.lst 9 (List.map Gq49.lv r20.1), .lst 9 (List.map Gq49.lv r21.1)]) R isF15 R (sbR (sbR sbN)) (q116q hr24) R (sN (oNot R (sMb R ?_))))
    by_cases hb25 : (!r24) = true
    ·replace hv := iteT hv hb25
     refine sF R R hb25 (sF R R hb25 (sF R R hb25 (sN (oPkT (cB hb25) (v := (.bool _)) R (sMb R (sF R R R (sF R R R (sF R R R (sF R R R (sF R R R (sF R R R (sN (oPkT R (v := (.bool _)) R ?_)))))))))))))
     obtain rfl := oI hv
     exact zS
    ·replace hb25 := bF hb25
     replace hv := iteF hv hb25
     refine sT R (cB hb25) (oM (v := (.int _ _)) R (sT R (cB hb25) (oM (v := (.int _ _)) R (sT R (cB hb25) (oNe R R (sN (oPkF (cB hb25) (v := (.bool _)) R (sMb R ?_))))))))
     by_cases hb26 : (r20.2 != r21.2) = true
     ·replace hv := iteT hv hb26
      refine sF R R hb26 (sF R R hb26 (sF R R hb26 (sF R R hb26 (sF R R hb26 (sF R R hb26 (sN (oPkT (cB hb26) (v := (.bool _)) R ?_)))))))
      obtain rfl := oI hv
      exact zS
     ·replace hb26 := bF hb26
      replace hv := iteF hv hb26
      refine sT R (cB hb26) (oM (v := (.lst _ _)) R ?_)
      obtain ⟨r27, hr27, hv⟩ := bindS hv
      refine sT R (cB hb26) (oCP (args := [.lst 9 (List.map Gq49.lv x19)]) R isF16 R (sbR sbN) (q125q hr27) R (sT R (cB hb26) (oM (v := (.lst _ _)) R ?_)))
      obtain ⟨r28, hr28, hv⟩ := bindS hv
      refine sT R (cB hb26) (oCP (args := [.lst 9 (List.map Gq49.lv x19)]) R isF22 R (sbR sbN) (q151q hr28) R ?_)
      obtain ⟨r29, hr29, hv⟩ := bindS hv
      refine sT R (cB hb26) (oCP (args := [.lst 2 (List.map (fun (x : Int × Int) => LV.agg [.I x.1, .I x.2]) r27), .lst 2 (List.map (fun (x : Int × Int) => LV.agg [.I x.1, .I x.2]) r28)]) R isF21 R (sbR (sbR sbN)) (q162q hr29) R (sT R (cB hb26) (oNot R (sN (oPkF (cB hb26) (v := (.bool _)) R ?_)))))
      obtain rfl := oI hv
      exact zS
   clear hv
   refine LH.cond (t := w23) R (fun hc30 => ?_) (fun hc30 => ?_)
   ·replace h := iteT h hc30
    refine LH.seqT [(8, .bool false)] [] R (sAb R zS) (LH.ret (thenR (blockR (thenR (roundR (blockR (thenR ?_)))))))
    obtain rfl := oI h
    exact retE (aT Try.results5) (lrT R (lr0 ⟨memN mN, R, prK R, Sub.rfl⟩))
   replace h := iteF h hc30
   refine LH.skip (thenN (LH.wk (Wk.eq (el := [(2, .I p2), (3, .I p3), (9, .ptr 9 0), (14, .lst 9 (List.map Gq49.lv x19)), (97, .agg [.lst 9 (List.map Gq49.lv l10), .lst 9 (List.map Gq49.lv p1), .lst 9 (List.map Gq49.lv v14)]), (98, .I n15)]) (ml := [(9, .box [.L l16, .I n17])]) R R R R) (LH.seq ?_)))
   obtain ⟨r31, hr31, h⟩ := bindS h
   refine LH.seqT [(2, .I p2), (3, .I p3), (9, .ptr 9 0), (14, .lst 9 (List.map Gq49.lv x19)), (97, .agg [.lst 9 (List.map Gq49.lv l10), .lst 9 (List.map Gq49.lv p1), .lst 9 (List.map Gq49.lv v14)]), (98, .I n15), (132, .agg [.I p2, .I (i64 (r31.1 - 2))]), (133, .I 0)] [(9, .box [.L r31.2.L, .I r31.2.At])] R (sMi R (sMp R (sN (oCM (args := [.ptr 9 0, .I 40]) (ml := [(9, .box [.L l16, .I n17])]) (ml' := [(9, .box [.L r31.2.L, .I r31.2.At])]) R isF18 R (sbR (sbR sbN)) (Gq15 hr31) (mC R mN) (newI R newN) R (sN (oSub R R (sX (ok_buildA (xs := [.I p2, .I (i64 (r31.1 - 2))]) ty57 R R R) (sMi R zS)))))))) (LH.block (LH.loop (fun n e m => ∃ (n32 : Int), q30q rec2 F p2 p3 n15 x19 r31 n n32 = some r ∧ e = Env.of [(2, .I p2), (3, .I p3), (9, .ptr 9 0), (14, .lst 9 (List.map Gq49.lv x19)), (97, .agg [.lst 9 (List.map Gq49.lv l10), .lst 9 (List.map Gq49.lv p1), .lst 9 (List.map Gq49.lv v14)]), (98, .I n15), (132, .agg [.I p2, .I (i64 (r31.1 - 2))]), (133, .I n32)] ∧ m = Mem.of [(9, .box [.L r31.2.L, .I r31.2.At])]) F ⟨0, h, R, R⟩ ?_))
   clear h
   rintro n e m ⟨n32, h, rfl, rfl⟩
   rcases n with _ | n
   · cases (show Option.none = some _ from h)
   obtain ⟨rec3, hrec3⟩ : ∃ f, f = q30q rec2 F p2 p3 n15 x19 r31 n := ⟨_, rfl⟩
   replace h : q20q rec2 F p2 p3 n15 x19 r31 rec3 n32 = some r := hrec3 ▸ h
   unfold q20q at h
   refine LH.seqT [(2, .I p2), (3, .I p3), (9, .ptr 9 0), (14, .lst 9 (List.map Gq49.lv x19)), (97, .agg [.lst 9 (List.map Gq49.lv l10), .lst 9 (List.map Gq49.lv p1), .lst 9 (List.map Gq49.lv v14)]), (98, .I n15), (132, .agg [.I p2, .I (i64 (r31.1 - 2))]), (133, .I n32), (134, .bool (decide (n32 < 2)))] [(9, .box [.L r31.2.L, .I r31.2.At])] R (sN (oLt R R zS)) (LH.seq (LH.cond (t := (decide (n32 < 2))) R (fun hc33 => ?_) (fun hc33 => ?_)))
   ·replace h := iteT h hc33
    refine LH.skip (thenN (LH.wk (Wk.eq (el := [(2, .I p2), (3, .I p3), (9, .ptr 9 0), (14, .lst 9 (List.map Gq49.lv x19)), (97, .agg [.lst 9 (List.map Gq49.lv l10), .lst 9 (List.map Gq49.lv p1), .lst 9 (List.map Gq49.lv v14)]), (98, .I n15), (132, .agg [.I p2, .I (i64 (r31.1 - 2))]), (133, .I n32)]) (ml := [(9, .box [.L r31.2.L, .I r31.2.At])]) R R R R) (LH.seq (LH.block ?_))))
    obtain ⟨x34, hx34, h⟩ := bindS h
    refine LH.seqT [(2, .I p2), (3, .I p3), (9, .ptr 9 0), (14, .lst 9 (List.map Gq49.lv x19)), (20, .I x34), (97, .agg [.lst 9 (List.map Gq49.lv l10), .lst 9 (List.map Gq49.lv p1), .lst 9 (List.map Gq49.lv v14)]), (98, .I n15), (132, .agg [.I p2, .I (i64 (r31.1 - 2))]), (133, .I n32)] [(9, .box [.L r31.2.L, .I r31.2.At])] R (sX ((ok_ixV (f := LV.I) (ys := [p2, (i64 (r31.1 - 2))]) ty57 tk3 ta3 R R R hx34).ok) (sAi R zS)) ?_
    obtain ⟨r35, hr35, h⟩ := bindS h
    refine LH.seqT [(2, .I p2), (3, .I p3), (9, .ptr 9 0), (14, .lst 9 (List.map Gq49.lv x19)), (15, .lst 9 (List.map Gq49.lv r35.1)), (16, .I r35.2), (20, .I x34), (97, .agg [.lst 9 (List.map Gq49.lv l10), .lst 9 (List.map Gq49.lv p1), .lst 9 (List.map Gq49.lv v14)]), (98, .I n15), (132, .agg [.I p2, .I (i64 (r31.1 - 2))]), (133, .I n32)] [(9, .box [.L r31.2.L, .I r31.2.At])] R (sMl R (sMi R (sN (oCP (args := [.lst 9 (List.map Gq49.lv x19), .I x34]) R isF17 R (sbR (sbR sbN)) (q155q hr35) R (sMt R (sN (oEx R R (sN (oEx R R (sAl R (sAi R zS))))))))))) ?_
    obtain ⟨r36, hr36, h⟩ := bindS h
    refine LH.seqT [(2, .I p2), (3, .I p3), (9, .ptr 9 0), (14, .lst 9 (List.map Gq49.lv x19)), (15, .lst 9 (List.map Gq49.lv r35.1)), (16, .I r35.2), (17, .lst 9 (List.map Gq49.lv r36.1)), (18, .I r36.2), (97, .agg [.lst 9 (List.map Gq49.lv l10), .lst 9 (List.map Gq49.lv p1), .lst 9 (List.map Gq49.lv v14)]), (98, .I n15), (132, .agg [.I p2, .I (i64 (r31.1 - 2))]), (133, .I n32)] [(9, .box [.L r31.2.L, .I r31.2.At])] R (sMl R (sMi R (sN (oCP (args := [.lst 9 (List.map Gq49.lv x19), .I x34]) R isF23 R (sbR (sbR sbN)) (q164q hr36) R (sMt R (sN (oEx R R (sN (oEx R R (sAl R (sAi R zS))))))))))) ?_
    obtain ⟨w38, hv, h⟩ := bindS h
    refine LH.seqT [(2, .I p2), (3, .I p3), (9, .ptr 9 0), (14, .lst 9 (List.map Gq49.lv x19)), (97, .agg [.lst 9 (List.map Gq49.lv l10), .lst 9 (List.map Gq49.lv p1), .lst 9 (List.map Gq49.lv v14)]), (98, .I n15), (132, .agg [.I p2, .I (i64 (r31.1 - 2))]), (133, .I n32), (156, .bool w38)] [(9, .box [.L r31.2.L, .I r31.2.At])] R ?_ ?_
    ·refine sMl R (sMl R ?_)
     obtain ⟨r39, hr39, hv⟩ := bindS hv
     refine sN (oCP (args := [.lst 9 (List.map Gq49.lv r35.1), .lst 9 (List.map Gq49.lv r36.1)]) R isF15 R (sbR (sbR sbN)) (q116q hr39) R (sN (oNot R (sMb R ?_))))
     by_cases hb40 : (!r39) = true
     ·replace hv := iteT hv hb40
      refine sF R R hb40 (sF R R hb40 (sF R R hb40 (sN (oPkT (cB hb40) (v := (.bool _)) R ?_))))
      obtain rfl := oI hv
      exact zS
     ·replace hb40 := bF hb40
      replace hv := iteF hv hb40
      refine sT R (cB hb40) (oM (v := (.int _ _)) R (sT R (cB hb40) (oM (v := (.int _ _)) R (sT R (cB hb40) (oNe R R (sN (oPkF (cB hb40) (v := (.bool _)) R ?_)))))))
      obtain rfl := oI hv
      exact zS
    clear hv
    refine LH.cond (t := w38) R (fun hc41 => ?_) (fun hc41 => ?_)
    ·replace h := iteT h hc41
     refine LH.seqT [(8, .bool false)] [] R (sAb R zS) (LH.ret (blockR (thenR (roundR (blockR (thenR (blockR (thenR (roundR (blockR (thenR ?_)))))))))))
     obtain rfl := oI h
     exact retE (aT Try.results5) (lrT R (lr0 ⟨memN mN, R, prK R, Sub.rfl⟩))
    replace h := iteF h hc41
    refine LH.skip (blockN (thenN (LH.loneT [(2, .I p2), (3, .I p3), (9, .ptr 9 0), (14, .lst 9 (List.map Gq49.lv x19)), (97, .agg [.lst 9 (List.map Gq49.lv l10), .lst 9 (List.map Gq49.lv p1), .lst 9 (List.map Gq49.lv v14)]), (98, .I n15), (132, .agg [.I p2, .I (i64 (r31.1 - 2))]), (133, .I (i64 (n32 + 1)))] [(9, .box [.L r31.2.L, .I r31.2.At])] R (sN (oAdd R R (sMi R zS))) ?_)))
    exact roundI ⟨(i64 (n32 + 1)), hrec3 ▸ h, R, R⟩ (Wk.eq R R R R)
   replace h := iteF h hc33
   refine LH.exit (thenX (roundX (blockH (thenN (LH.wk (Wk.eq (el := [(2, .I p2), (3, .I p3), (9, .ptr 9 0), (14, .lst 9 (List.map Gq49.lv x19)), (97, .agg [.lst 9 (List.map Gq49.lv l10), .lst 9 (List.map Gq49.lv p1), .lst 9 (List.map Gq49.lv v14)]), (98, .I n15)]) (ml := [(9, .box [.L r31.2.L, .I r31.2.At])]) R R R R) (LH.seq ?_))))))
   obtain ⟨r42, hr42, h⟩ := bindS h
   obtain ⟨r43, hr43, h⟩ := bindS h
   obtain ⟨r44, hr44, h⟩ := bindS h
   refine LH.seqT [(2, .I p2), (3, .I p3), (9, .ptr 9 0), (14, .lst 9 (List.map Gq49.lv x19)), (97, .agg [.lst 9 (List.map Gq49.lv l10), .lst 9 (List.map Gq49.lv p1), .lst 9 (List.map Gq49.lv v14)]), (98, .I n15), (165, .bool (!r44))] [(9, .box [.L r31.2.L, .I r31.2.At])] R (sMl R (sMi R (sN (oCP (args := [.lst 9 (List.map Gq49.lv x19), .I p3]) R isF24 R (sbR (sbR sbN)) (q156q hr42) R (sMl R (sMi R (sN (oCP (args := [.lst 9 (List.map Gq49.lv x19), .I p3]) R isF25 R (sbR (sbR sbN)) (q165q hr43) R (sN (oCP (args := [.lst 9 (List.map Gq49.lv r42), .lst 9 (List.map Gq49.lv r43)]) R isF15 R (sbR (sbR sbN)) (q116q hr44) R (sN (oNot R zS)))))))))))) (LH.cond (t := (!r44)) R (fun hc45 => ?_) (fun hc45 => ?_))
   ·replace h := iteT h hc45
    refine LH.seqT [(8, .bool false)] [] R (sAb R zS) (LH.ret (thenR (blockR (thenR (roundR (blockR (thenR ?_)))))))
    obtain rfl := oI h
    exact retE (aT Try.results5) (lrT R (lr0 ⟨memN mN, R, prK R, Sub.rfl⟩))
   replace h := iteF h hc45
   refine LH.skip (thenN (LH.seqT [(2, .I p2), (3, .I p3), (9, .ptr 9 0), (14, .lst 9 (List.map Gq49.lv x19)), (97, .agg [.lst 9 (List.map Gq49.lv l10), .lst 9 (List.map Gq49.lv p1), .lst 9 (List.map Gq49.lv v14)]), (98, .I n15), (167, .I (x19.length : Int)), (168, .I 0)] [(9, .box [.L r31.2.L, .I r31.2.At])] R (sMl R (sN (oLnL (f := Gq49.lv) te27 R (sMi R zS)))) (LH.block (LH.loop (fun n e m => ∃ (n46 : Int), q31q rec2 F p2 n15 x19 r31 n n46 = some r ∧ e = Env.of [(2, .I p2), (3, .I p3), (9, .ptr 9 0), (14, .lst 9 (List.map Gq49.lv x19)), (97, .agg [.lst 9 (List.map Gq49.lv l10), .lst 9 (List.map Gq49.lv p1), .lst 9 (List.map Gq49.lv v14)]), (98, .I n15), (167, .I (x19.length : Int)), (168, .I n46)] ∧ m = Mem.of [(9, .box [.L r31.2.L, .I r31.2.At])]) F ⟨0, h, R, R⟩ ?_))))
   clear h
   rintro n e m ⟨n46, h, rfl, rfl⟩
   rcases n with _ | n
   · cases (show Option.none = some _ from h)
   obtain ⟨rec4, hrec4⟩ : ∃ f, f = q31q rec2 F p2 n15 x19 r31 n := ⟨_, rfl⟩
   replace h : q21q rec2 F p2 n15 x19 r31 rec4 n46 = some r := hrec4 ▸ h
   unfold q21q at h
   refine LH.seqT [(2, .I p2), (3, .I p3), (9, .ptr 9 0), (14, .lst 9 (List.map Gq49.lv x19)), (97, .agg [.lst 9 (List.map Gq49.lv l10), .lst 9 (List.map Gq49.lv p1), .lst 9 (List.map Gq49.lv v14)]), (98, .I n15), (167, .I (x19.length : Int)), (168, .I n46), (169, .bool (decide (n46 < (x19.length : Int))))] [(9, .box [.L r31.2.L, .I r31.2.At])] R (sN (oLt R R zS)) (LH.seq (LH.cond (t := (decide (n46 < (x19.length : Int)))) R (fun hc47 => ?_) (fun hc47 => ?_)))
   ·replace h := iteT h hc47
    refine LH.skip (thenN (LH.wk (Wk.eq (el := [(2, .I p2), (3, .I p3), (9, .ptr 9 0), (14, .lst 9 (List.map Gq49.lv x19)), (97, .agg [.lst 9 (List.map Gq49.lv l10), .lst 9 (List.map Gq49.lv p1), .lst 9 (List.map Gq49.lv v14)]), (98, .I n15), (167, .I (x19.length : Int)), (168, .I n46)]) (ml := [(9, .box [.L r31.2.L, .I r31.2.At])]) R R R R) (LH.seq (LH.block (LH.seqT [(2, .I p2), (3, .I p3), (9, .ptr 9 0), (14, .lst 9 (List.map Gq49.lv x19)), (21, .I n46), (97, .agg [.lst 9 (List.map Gq49.lv l10), .lst 9 (List.map Gq49.lv p1), .lst 9 (List.map Gq49.lv v14)]), (98, .I n15), (167, .I (x19.length : Int)), (168, .I n46)] [(9, .box [.L r31.2.L, .I r31.2.At])] R (sMi R (sAi R zS)) ?_)))))
    obtain ⟨r48, hr48, h⟩ := bindS h
    obtain ⟨x49, hx49, h⟩ := bindS h
    refine LH.seqT [(2, .I p2), (3, .I p3), (9, .ptr 9 0), (14, .lst 9 (List.map Gq49.lv x19)), (21, .I n46), (22, .sptr (Gq49.lv x49).cells), (97, .agg [.lst 9 (List.map Gq49.lv l10), .lst 9 (List.map Gq49.lv p1), .lst 9 (List.map Gq49.lv v14)]), (98, .I n15), (167, .I (x19.length : Int)), (168, .I n46)] [(9, .box [.L r31.2.L, .I r31.2.At])] R (sMl R (sMi R (sMl R (sN (oLnL (f := Gq49.lv) te27 R (sN (oCP (args := [.I p2, .I (x19.length : Int)]) R isF26 R (sbR (sbR sbN)) (q174q hr48) R (sN (oIx (f := Gq49.lv) te27 tk47 ts47 R R Gq49.ok hx49 R (sN (oLdA R tk47 ta47 ts47 R R (sN (oAl (id := 122) R tz47 R R (s_ (oSt R R R tk47 ts47 R R R (s0 ((Wk.trans (Wk.eq (el := [(2, .I p2), (3, .I p3), (9, .ptr 9 0), (14, .lst 9 (List.map Gq49.lv x19)), (21, .I n46), (22, .ptr 122 0), (97, .agg [.lst 9 (List.map Gq49.lv l10), .lst 9 (List.map Gq49.lv p1), .lst 9 (List.map Gq49.lv v14)]), (98, .I n15), (167, .I (x19.length : Int)), (168, .I n46)]) (ml := [(9, .box [.L r31.2.L, .I r31.2.At]), (122, .box (Gq49.lv x49).cells)]) R R R R) (Wk.trans (Wk.frzB 122 (Gq49.lv x49).cells R R R (prN R)) (Wk.eq R R R R)))))))))))))))))))) ?_
    obtain ⟨w51, hv, h⟩ := bindS h
    refine LH.seqJM mixed [] [0, 0, 0, 0, 0, 0, 0, 0, 0, 0, 0, 0, 0, 0, 0, 0, 0, 0, 0, 0, 0, 0, 0, 0, 0, 0, 0, 0, 0, 0, 0, 0, 0, 0, 0, 0, 0, 0, 0, 0, 0] [(2, .I p2), (3, .I p3), (9, .ptr 9 0), (14, .lst 9 (List.map Gq49.lv x19)), (97, .agg [.lst 9 (List.map Gq49.lv l10), .lst 9 (List.map Gq49.lv p1), .lst 9 (List.map Gq49.lv v14)]), (98, .I n15), (167, .I (x19.length : Int)), (168, .I n46), (218, .bool w51)] [(9, .box [.L r31.2.L, .I r31.2.At])] R R (by kernel_rfl) ?_ ?_
    ·refine mMl R (mMi R ?_)
     obtain ⟨x52, hx52, hv⟩ := bindS hv
     refine mN0 (oIx (f := Gq49.lv) te27 tk47 ts47 R R Gq49.ok hx52 R ⟨R, mN0 (oLdA R tk47 ta47 ts47 R R ⟨R, ?_⟩)⟩)
     obtain ⟨r53, hr53, hv⟩ := bindS hv
     refine mN0 (oCP (args := [Gq49.lv x52]) R isF27 R (sbR sbN) (q120q hr53) R ⟨R, mMl R (mMi R ?_)⟩)
     obtain ⟨x54, hx54, hv⟩ := bindS hv
     refine mN0 (oIx (f := Gq49.lv) te27 tk47 ts47 R R Gq49.ok hx54 R ⟨R, mN0 (oLdA R tk47 ta47 ts47 R R ⟨R, ?_⟩)⟩)
     obtain ⟨r55, hr55, hv⟩ := bindS hv
     refine mN0 (oCP (args := [Gq49.lv x54]) R isF28 R (sbR sbN) (q145q hr55) R ⟨R, mN0 (oNeB R R tb4 ⟨R, mMb R ?_⟩)⟩)
     by_cases hb56 : (!(r53 == r55)) = true
     ·replace hv := iteT hv hb56
      refine mF R R hb56 (mF R R hb56 (mF R R hb56 (mF R R hb56 (mF R R hb56 (mF R R hb56 (mF R R hb56 (mF R R hb56 (mF R R hb56 (mF R R hb56 (mF R R hb56 (mF R R hb56 (mF R R hb56 (mN0 (oPkT (cB hb56) (v := (.bool _)) R ⟨R, mMb R (mF R R R (mF R R R (mF R R R (mF R R R (mF R R R (mF R R R (mF R R R (mF R R R (mF R R R (mF R R R (mF R R R (mF R R R (mF R R R (mN0 (oPkT R (v := (.bool _)) R ⟨R, ?_⟩)))))))))))))))⟩))))))))))))))
      obtain rfl := oI hv
      exact zM
     ·replace hb56 := bF hb56
      replace hv := iteF hv hb56
      refine mT R (cB hb56) (mMl R (mT R (cB hb56) (mMi R ?_)))
      obtain ⟨x57, hx57, hv⟩ := bindS hv
      refine mT R (cB hb56) (mN0 (oIx (f := Gq49.lv) te27 tk47 ts47 R R Gq49.ok hx57 R ⟨R, mT R (cB hb56) (mN0 (oLdA R tk47 ta47 ts47 R R ⟨R, mT R (cB hb56) (mN0 (oLdA R tk47 ta47 ts47 R R ⟨R, ?_⟩))⟩))⟩))
      obtain ⟨r58, hr58, hv⟩ := bindS hv
      refine mT R (cB hb56) (mN0 (oCP (args := [Gq49.lv x57, Gq49.lv x49]) R isF29 R (sbR (sbR sbN)) (q123q hr58) R ⟨R, mT R (cB hb56) (mMl R (mT R (cB hb56) (mMi R ?_)))⟩))
      obtain ⟨x59, hx59, hv⟩ := bindS hv
      refine mT R (cB hb56) (mN0 (oIx (f := Gq49.lv) te27 tk47 ts47 R R Gq49.ok hx59 R ⟨R, mT R (cB hb56) (mN0 (oLdA R tk47 ta47 ts47 R R ⟨R, mT R (cB hb56) (mN0 (oLdA R tk47 ta47 ts47 R R ⟨R, ?_⟩))⟩))⟩))
      obtain ⟨r60, hr60, hv⟩ := bindS hv
      refine mT R (cB hb56) (mN0 (oCP (args := [Gq49.lv x59, Gq49.lv x49]) R isF30 R (sbR (sbR sbN)) (q131q hr60) R ⟨R, mT R (cB hb56) (mN0 (oNeB R R tb4 ⟨R, mN0 (oPkF (cB hb56) (v := (.bool _)) R ⟨R, mMb R ?_⟩)⟩))⟩))
      by_cases hb61 : (!(r58 == r60)) = true
      ·replace hv := iteT hv hb61
       refine mF R R hb61 (mF R R hb61 (mF R R hb61 (mF R R hb61 (mF R R hb61 (mF R R hb61 (mF R R hb61 (mF R R hb61 (mF R R hb61 (mF R R hb61 (mF R R hb61 (mF R R hb61 (mF R R hb61 (mN0 (oPkT (cB hb61) (v := (.bool _)) R ⟨R, ?_⟩))))))))))))))
       obtain rfl := oI hv
       exact zM
      ·replace hb61 := bF hb61
       replace hv := iteF hv hb61
       refine mT R (cB hb61) (mMl R (mT R (cB hb61) (mMi R ?_)))
       obtain ⟨x62, hx62, hv⟩ := bindS hv
       refine mT R (cB hb61) (mN0 (oIx (f := Gq49.lv) te27 tk47 ts47 R R Gq49.ok hx62 R ⟨R, mT R (cB hb61) (mN0 (oLdA R tk47 ta47 ts47 R R ⟨R, mT R (cB hb61) (mN0 (oLdA R tk47 ta47 ts47 R R ⟨R, ?_⟩))⟩))⟩))
       obtain ⟨r63, hr63, hv⟩ := bindS hv
       refine mT R (cB hb61) (mN0 (oCP (args := [Gq49.lv x62, Gq49.lv x49]) R isF14 R (sbR (sbR sbN)) (q132q hr63) R ⟨R, mT R (cB hb61) (mMl R (mT R (cB hb61) (mMi R ?_)))⟩))
       obtain ⟨x64, hx64, hv⟩ := bindS hv
       refine mT R (cB hb61) (mN0 (oIx (f := Gq49.lv) te27 tk47 ts47 R R Gq49.ok hx64 R ⟨R, mT R (cB hb61) (mN0 (oLdA R tk47 ta47 ts47 R R ⟨R, mT R (cB hb61) (mN0 (oLdA R tk47 ta47 ts47 R R ⟨R, ?_⟩))⟩))⟩))
       obtain ⟨r65, hr65, hv⟩ := bindS hv
       refine mT R (cB hb61) (mN0 (oCP (args := [Gq49.lv x64, Gq49.lv x49]) R isF31 R (sbR (sbR sbN)) (q140q hr65) R ⟨R, mT R (cB hb61) (mN0 (oNeB R R tb4 ⟨R, mN0 (oPkF (cB hb61) (v := (.bool _)) R ⟨R, ?_⟩)⟩))⟩))
       obtain rfl := oI hv
       exact zM
    clear hv
    refine LH.cond (t := w51) R (fun hc66 => ?_) (fun hc66 => ?_)
    ·replace h := iteT h hc66
     refine LH.seqT [(8, .bool false)] [] R (sAb R zS) (LH.ret (blockR (thenR (roundR (blockR (blockR (thenR (roundR (blockR (thenR ?_))))))))))
     obtain rfl := oI h
     exact retE (aT Try.results5) (lrT R (lr0 ⟨memN mN, R, prK R, Sub.rfl⟩))
    replace h := iteF h hc66
    refine LH.skip (blockN (thenN (LH.loneT [(2, .I p2), (3, .I p3), (9, .ptr 9 0), (14, .lst 9 (List.map Gq49.lv x19)), (97, .agg [.lst 9 (List.map Gq49.lv l10), .lst 9 (List.map Gq49.lv p1), .lst 9 (List.map Gq49.lv v14)]), (98, .I n15), (167, .I (x19.length : Int)), (168, .I (i64 (n46 + 1)))] [(9, .box [.L r31.2.L, .I r31.2.At])] R (sN (oAdd R R (sMi R zS))) ?_)))
    exact roundI ⟨(i64 (n46 + 1)), hrec4 ▸ h, R, R⟩ (Wk.eq R R R R)
   replace h := iteF h hc47
   refine LH.exit (thenX (roundX (blockH (blockN (thenN (LH.loneT [(2, .I p2), (3, .I p3), (9, .ptr 9 0), (97, .agg [.lst 9 (List.map Gq49.lv l10), .lst 9 (List.map Gq49.lv p1), .lst 9 (List.map Gq49.lv v14)]), (98, .I (i64 (n15 + 1)))] [(9, .box [.L r31.2.L, .I r31.2.At])] R (sN (oAdd R R (sMi R zS))) ?_))))))
   exact roundI ⟨(i64 (n15 + 1)), r31.2.L, r31.2.At, hrec2 ▸ h, R, R⟩ (Wk.eq R R R R)
  replace h := iteF h hc18
  refine LH.exit (thenX (roundX (blockH (thenN ?_))))
  obtain ⟨r67, hr67, h⟩ := bindS h
  refine LH.seqT [(8, .bool r67)] [] R (sN (oCP (args := []) R isF8 R sbN (q147q hr67) R (sAb R zS))) (LH.ret ?_)
  obtain rfl := oI h
  exact retE (aT Try.results5) (lrT R (lr0 ⟨memN mN, R, prK R, Sub.rfl⟩))

end Go.Proofs.Ytbicmjeldappjaa
