import Derived.Test.YtmollikhdbaikaaZW3
set_option linter.unusedVariables false
set_option linter.unusedSimpArgs false
set_option maxRecDepth 100000
set_option maxHeartbeats 1000000
namespace Go.Proofs.Ytmollikhdbaikaa
open Go.L Go.Sh
theorem q103q {F : Nat} {p0 : GItem} {p1 : GItem} {r : List Int} (h : q82q F p0 p1 = some r) : LCall Try.prog 42 [.agg [.I p0.ID, .I p0.Version, .str p0.Stem, .lst 6 (List.map GPart.lv p0.Parts), .L p0.Enemies], .agg [.I p1.ID, .I p1.Version, .str p1.Stem, .lst 6 (List.map GPart.lv p1.Parts), .L p1.Enemies]] (Mem.of []) (.L r) (Mem.of []) := by
  unfold q82q at h
  refine bodyT Try.func42 R (nT Try.ntmps42 R) (LH.wk (Wk.eq (el := [(0, .agg [.I p0.ID, .I p0.Version, .str p0.Stem, .lst 6 (List.map GPart.lv p0.Parts), .L p0.Enemies]), (1, .agg [.I p1.ID, .I p1.Version, .str p1.Stem, .lst 6 (List.map GPart.lv p1.Parts), .L p1.Enemies])]) (ml := []) R R R R) (LH.seqT [(2, .sptr [.I p0.ID, .I p0.Version, .str p0.Stem, .lst 6 (List.map GPart.lv p0.Parts), .L p0.Enemies]), (3, .sptr [.I p1.ID, .I p1.Version, .str p1.Stem, .lst 6 (List.map GPart.lv p1.Parts), .L p1.Enemies])] [] R (sB (oBxR R R R R (sB (oBxR R R R R (sAn R zS))))) (LH.seqT [(2, .sptr [.I p0.ID, .I p0.Version, .str p0.Stem, .lst 6 (List.map GPart.lv p0.Parts), .L p0.Enemies]), (3, .sptr [.I p1.ID, .I p1.Version, .str p1.Stem, .lst 6 (List.map GPart.lv p1.Parts), .L p1.Enemies]), (5, .nil)] [] R (sAn R zS) (LH.seq (LH.seqT [(2, .sptr [.I p0.ID, .I p0.Version, .str p0.Stem, .lst 6 (List.map GPart.lv p0.Parts), .L p0.Enemies]), (3, .sptr [.I p1.ID, .I p1.Version, .str p1.Stem, .lst 6 (List.map GPart.lv p1.Parts), .L p1.Enemies]), (5, .nil), (6, .I 0)] [] R (sAi R zS) (LH.block (LH.wk ((Wk.trans (Wk.eq (el := [(2, .sptr [.I p0.ID, .I p0.Version, .str p0.Stem, .lst 6 (List.map GPart.lv p0.Parts), .L p0.Enemies]), (3, .sptr [.I p1.ID, .I p1.Version, .str p1.Stem, .lst 6 (List.map GPart.lv p1.Parts), .L p1.Enemies]), (5, .nil), (6, .I 0)]) (ml := []) R R R R) (Wk.trans (Wk.eq (el := [(2, .sptr [.I p0.ID, .I p0.Version, .str p0.Stem, .lst 6 (List.map GPart.lv p0.Parts), .L p0.Enemies]), (3, .sptr [.I p1.ID, .I p1.Version, .str p1.Stem, .lst 6 (List.map GPart.lv p1.Parts), .L p1.Enemies]), (5, .nil), (6, .I 0)]) (ml := []) R R R R) (Wk.trans (Wk.ownL (el' := [(2, .sptr [.I p0.ID, .I p0.Version, .str p0.Stem, .lst 6 (List.map GPart.lv p0.Parts), .L p0.Enemies]), (3, .sptr [.I p1.ID, .I p1.Version, .str p1.Stem, .lst 6 (List.map GPart.lv p1.Parts), .L p1.Enemies]), (5, .arr 146 (List.length ([] : List Int))), (6, .I 0)]) 146 3 1 R R (wK (wK (wO (wK wN))))) (Wk.eq (el := [(2, .sptr [.I p0.ID, .I p0.Version, .str p0.Stem, .lst 6 (List.map GPart.lv p0.Parts), .L p0.Enemies]), (3, .sptr [.I p1.ID, .I p1.Version, .str p1.Stem, .lst 6 (List.map GPart.lv p1.Parts), .L p1.Enemies]), (5, .arr 146 (List.length ([] : List Int))), (6, .I 0)]) (ml := [(146, .arr 3 1 (List.map LV.I ([] : List Int)))]) R R R R))))) (LH.loop (fun n e m => ∃ (n1 : Int) (l2 : List Int), q22q p0 p1 n n1 l2 = some r ∧ e = Env.of [(2, .sptr [.I p0.ID, .I p0.Version, .str p0.Stem, .lst 6 (List.map GPart.lv p0.Parts), .L p0.Enemies]), (3, .sptr [.I p1.ID, .I p1.Version, .str p1.Stem, .lst 6 (List.map GPart.lv p1.Parts), .L p1.Enemies]), (5, .arr 146 (List.length l2)), (6, .I n1)] ∧ m = Mem.of [(146, .arr 3 1 (List.map LV.I l2))]) F ⟨0, ([] : List Int), h, R, R⟩ ?_))))))))
  clear h
  rintro n e m ⟨n1, l2, h, rfl, rfl⟩
  rcases n with _ | n
  · cases (show Option.none = some _ from h)
  obtain ⟨rec1, hrec1⟩ : ∃ f, f = q22q p0 p1 n := ⟨_, rfl⟩
  replace h : q41q p0 p1 rec1 n1 l2 = some r := hrec1 ▸ h
  unfold q41q at h
  refine LH.seq (LH.seqT [(2, .sptr [.I p0.ID, .I p0.Version, .str p0.Stem, .lst 6 (List.map GPart.lv p0.Parts), .L p0.Enemies]), (3, .sptr [.I p1.ID, .I p1.Version, .str p1.Stem, .lst 6 (List.map GPart.lv p1.Parts), .L p1.Enemies]), (5, .arr 146 (List.length l2)), (6, .I n1), (15, .bool (decide (n1 < (max (p0.Parts.length : Int) (p1.Parts.length : Int)))))] [(146, .arr 3 1 (List.map LV.I l2))] R (sMi R (sN (oFaS tf34_3 tk32 ts32 R R R (sN (oLd R tk32 ta32 (sN (oLnL (f := GPart.lv) te32 R (sN (oFaS tf34_3 tk32 ts32 R R R (sN (oLd R tk32 ta32 (sN (oLnL (f := GPart.lv) te32 R (sX ((ok_max R R).ok) (sN (oLt R R zS)))))))))))))))) (LH.cond (t := (decide (n1 < (max (p0.Parts.length : Int) (p1.Parts.length : Int))))) R (fun hc3 => ?_) (fun hc3 => ?_)))
  ·replace h := iteT h hc3
   refine LH.skip (thenN (LH.wk (Wk.eq (el := [(2, .sptr [.I p0.ID, .I p0.Version, .str p0.Stem, .lst 6 (List.map GPart.lv p0.Parts), .L p0.Enemies]), (3, .sptr [.I p1.ID, .I p1.Version, .str p1.Stem, .lst 6 (List.map GPart.lv p1.Parts), .L p1.Enemies]), (5, .arr 146 (List.length l2)), (6, .I n1)]) (ml := [(146, .arr 3 1 (List.map LV.I l2))]) R R R R) (LH.seq (LH.block ?_))))
   obtain ⟨w5, hv, h⟩ := bindS h
   refine LH.seqJM mixed [] [0, 0, 0, 0, 0, 0, 0, 0, 0, 0, 0, 0, 0, 0, 0, 0, 0, 0, 0, 0, 0, 0, 0, 0, 0] [(2, .sptr [.I p0.ID, .I p0.Version, .str p0.Stem, .lst 6 (List.map GPart.lv p0.Parts), .L p0.Enemies]), (3, .sptr [.I p1.ID, .I p1.Version, .str p1.Stem, .lst 6 (List.map GPart.lv p1.Parts), .L p1.Enemies]), (5, .arr 146 (List.length l2)), (6, .I n1), (42, .bool w5)] [(146, .arr 3 1 (List.map LV.I l2))] R R (by kernel_rfl) ?_ ?_
   ·refine mMi R (mN0 (oFaS tf34_3 tk32 ts32 R R R ⟨R, mN0 (oLd R tk32 ta32 ⟨R, mN0 (oLnL (f := GPart.lv) te32 R ⟨R, mN0 (oGe R R ⟨R, mMb R ?_⟩)⟩)⟩)⟩))
    by_cases hb6 : (decide (n1 ≥ (p0.Parts.length : Int))) = true
    ·replace hv := iteT hv hb6
     refine mF R R hb6 (mF R R hb6 (mF R R hb6 (mF R R hb6 (mF R R hb6 (mN0 (oPkT (cB hb6) (v := (.bool _)) R ⟨R, mMb R (mF R R R (mF R R R (mF R R R (mF R R R (mF R R R (mF R R R (mF R R R (mF R R R (mF R R R (mF R R R (mF R R R (mN0 (oPkT R (v := (.bool _)) R ⟨R, ?_⟩)))))))))))))⟩))))))
     obtain rfl := oI hv
     exact zM
    ·replace hb6 := bF hb6
     replace hv := iteF hv hb6
     refine mT R (cB hb6) (mMi R (mT R (cB hb6) (mN0 (oFaS tf34_3 tk32 ts32 R R R ⟨R, mT R (cB hb6) (mN0 (oLd R tk32 ta32 ⟨R, mT R (cB hb6) (mN0 (oLnL (f := GPart.lv) te32 R ⟨R, mT R (cB hb6) (mN0 (oGe R R ⟨R, mN0 (oPkF (cB hb6) (v := (.bool _)) R ⟨R, mMb R ?_⟩)⟩))⟩))⟩))⟩))))
     by_cases hb7 : (decide (n1 ≥ (p1.Parts.length : Int))) = true
     ·replace hv := iteT hv hb7
      refine mF R R hb7 (mF R R hb7 (mF R R hb7 (mF R R hb7 (mF R R hb7 (mF R R hb7 (mF R R hb7 (mF R R hb7 (mF R R hb7 (mF R R hb7 (mF R R hb7 (mN0 (oPkT (cB hb7) (v := (.bool _)) R ⟨R, ?_⟩))))))))))))
      obtain rfl := oI hv
      exact zM
     ·replace hb7 := bF hb7
      replace hv := iteF hv hb7
      refine mT R (cB hb7) (mN0 (oFaS tf34_3 tk32 ts32 R R R ⟨R, mT R (cB hb7) (mN0 (oLd R tk32 ta32 ⟨R, mT R (cB hb7) (mMi R ?_)⟩))⟩))
      obtain ⟨x8, hx8, hv⟩ := bindS hv
      refine mT R (cB hb7) (mN0 (oIx (f := GPart.lv) te32 tk89 ts89 R R GPart.ok hx8 R ⟨R, mT R (cB hb7) (mN0 (oLdA R tk89 ta89 ts89 R R ⟨R, mT R (cB hb7) (mN0 (oFaS tf34_3 tk32 ts32 R R R ⟨R, mT R (cB hb7) (mN0 (oLd R tk32 ta32 ⟨R, mT R (cB hb7) (mMi R ?_)⟩))⟩))⟩))⟩))
      obtain ⟨x9, hx9, hv⟩ := bindS hv
      refine mT R (cB hb7) (mN0 (oIx (f := GPart.lv) te32 tk89 ts89 R R GPart.ok hx9 R ⟨R, mT R (cB hb7) (mN0 (oLdA R tk89 ta89 ts89 R R ⟨R, mT R (cB hb7) (mN0 (oNeA R R (ae89 x8 x9) ⟨R, mN0 (oPkF (cB hb7) (v := (.bool _)) R ⟨R, ?_⟩)⟩))⟩))⟩))
      obtain rfl := oI hv
      exact zM
   clear hv
   refine LH.cond (t := w5) R (fun hc10 => ?_) (fun hc10 => ?_)
   ·replace h := iteT h hc10
    obtain ⟨v11, hv11, h⟩ := bindS h
    refine LH.loneT [(2, .sptr [.I p0.ID, .I p0.Version, .str p0.Stem, .lst 6 (List.map GPart.lv p0.Parts), .L p0.Enemies]), (3, .sptr [.I p1.ID, .I p1.Version, .str p1.Stem, .lst 6 (List.map GPart.lv p1.Parts), .L p1.Enemies]), (5, .arr 146 (List.length v11)), (6, .I n1)] [(146, .arr 3 1 (List.map LV.I v11))] R (sMa R (sMi R (sN (oBS (f := LV.I) (ys := [n1]) te22 tr3 ts3 R R R okI (sN (oAp (f := LV.I) te22 tr3 ts3 R R (prN R) R hv11 (sAa R zS))))))) (blockN (thenN (LH.loneT [(2, .sptr [.I p0.ID, .I p0.Version, .str p0.Stem, .lst 6 (List.map GPart.lv p0.Parts), .L p0.Enemies]), (3, .sptr [.I p1.ID, .I p1.Version, .str p1.Stem, .lst 6 (List.map GPart.lv p1.Parts), .L p1.Enemies]), (5, .arr 146 (List.length v11)), (6, .I (i64 (n1 + 1)))] [(146, .arr 3 1 (List.map LV.I v11))] R (sMi R (sN (oAdd R R (sAi R zS)))) ?_)))
    exact roundI ⟨(i64 (n1 + 1)), v11, hrec1 ▸ h, R, R⟩ (Wk.eq R R R R)
   replace h := iteF h hc10
   refine LH.skip (blockN (thenN (LH.loneT [(2, .sptr [.I p0.ID, .I p0.Version, .str p0.Stem, .lst 6 (List.map GPart.lv p0.Parts), .L p0.Enemies]), (3, .sptr [.I p1.ID, .I p1.Version, .str p1.Stem, .lst 6 (List.map GPart.lv p1.Parts), .L p1.Enemies]), (5, .arr 146 (List.length l2)), (6, .I (i64 (n1 + 1)))] [(146, .arr 3 1 (List.map LV.I l2))] R (sMi R (sN (oAdd R R (sAi R zS)))) ?_)))
   exact roundI ⟨(i64 (n1 + 1)), l2, hrec1 ▸ h, R, R⟩ (Wk.eq R R R R)
  replace h := iteF h hc3
  refine LH.exit (thenX (roundX (blockH (thenN (LH.wk ((Wk.trans (Wk.eq (el := [(5, .arr 146 (List.length l2))]) (ml := [(146, .arr 3 1 (List.map LV.I l2))]) R R R R) (Wk.trans (Wk.frzL (f := LV.I) (el' := [(5, .L l2)]) 146 3 1 l2 R R (prN R) (fZ fN)) (Wk.eq (el := [(5, .L l2)]) (ml := []) R R R R)))) (LH.seqT [(4, .L l2)] [] R (sMl R (sAl R zS)) (LH.ret ?_)))))))
  obtain rfl := oI h
  exact retE (aT Try.results42) (lrT R (lr0 ⟨memN mN, R, prK R, Sub.rfl⟩))

theorem q115q {F : Nat} {p0 : List Int} {p1 : List Int} {r : Bool} (h : q81q F p0 p1 = some r) : LCall Try.prog 43 [.L p0, .L p1] (Mem.of []) (.bool r) (Mem.of []) := by
  unfold q81q at h
  refine bodyT Try.func43 R (nT Try.ntmps43 R) (LH.wk (Wk.eq (el := [(0, .L p0), (1, .L p1)]) (ml := []) R R R R) (LH.seqT [(0, .L p0), (1, .L p1)] [] R (sAb R zS) (LH.seq (LH.seqT [(0, .L p0), (1, .L p1), (10, .bool ((p0.length : Int) != (p1.length : Int)))] [] R (sMl R (sN (oLnL (f := LV.I) te22 R (sMl R (sN (oLnL (f := LV.I) te22 R (sN (oNe R R zS)))))))) (LH.cond (t := ((p0.length : Int) != (p1.length : Int))) R (fun hc1 => ?_) (fun hc1 => ?_))))))
  ·replace h := iteT h hc1
   refine LH.seqT [(4, .bool false)] [] R (sAb R zS) (LH.ret (thenR ?_))
   obtain rfl := oI h
   exact retE (aT Try.results43) (lrT R (lr0 ⟨memN mN, R, prK R, Sub.rfl⟩))
  replace h := iteF h hc1
  refine LH.skip (thenN (LH.wk (Wk.eq (el := [(0, .L p0), (1, .L p1)]) (ml := []) R R R R) (LH.seq (LH.seqT [(0, .L p0), (1, .L p1), (5, .I 0)] [] R (sAi R zS) (LH.block (LH.loop (fun n e m => ∃ (n2 : Int), q59q p0 p1 n n2 = some r ∧ e = Env.of [(0, .L p0), (1, .L p1), (5, .I n2)] ∧ m = Mem.of []) F ⟨0, h, R, R⟩ ?_))))))
  clear h
  rintro n e m ⟨n2, h, rfl, rfl⟩
  rcases n with _ | n
  · cases (show Option.none = some _ from h)
  obtain ⟨rec1, hrec1⟩ : ∃ f, f = q59q p0 p1 n := ⟨_, rfl⟩
  replace h : q73q p0 p1 rec1 n2 = some r := hrec1 ▸ h
  unfold q73q at h
  refine LH.seq (LH.seqT [(0, .L p0), (1, .L p1), (5, .I n2), (14, .bool (decide (n2 < (p0.length : Int))))] [] R (sMi R (sMl R (sN (oLnL (f := LV.I) te22 R (sN (oLt R R zS)))))) (LH.cond (t := (decide (n2 < (p0.length : Int)))) R (fun hc3 => ?_) (fun hc3 => ?_)))
  ·replace h := iteT h hc3
   refine LH.skip (thenN (LH.wk (Wk.eq (el := [(0, .L p0), (1, .L p1), (5, .I n2)]) (ml := []) R R R R) (LH.seq (LH.block ?_))))
   obtain ⟨x4, hx4, h⟩ := bindS h
   obtain ⟨x5, hx5, h⟩ := bindS h
   refine LH.seqJM mixed [] [0, 0, 0, 0, 0, 0, 0, 0, 0] [(0, .L p0), (1, .L p1), (5, .I n2), (25, .bool (x4 != x5))] [] R R (by kernel_rfl) (mMl R (mMi R (mN0 (oIx (f := LV.I) te22 tk3 ts3 R R okI hx4 R ⟨R, mN0 (oLd R tk3 ta3 ⟨R, mMl R (mMi R (mN0 (oIx (f := LV.I) te22 tk3 ts3 R R okI hx5 R ⟨R, mN0 (oLd R tk3 ta3 ⟨R, mN0 (oNe R R ⟨R, zM⟩)⟩)⟩)))⟩)⟩)))) (LH.cond (t := (x4 != x5)) R (fun hc6 => ?_) (fun hc6 => ?_))
   ·replace h := iteT h hc6
    refine LH.seqT [(4, .bool false)] [] R (sAb R zS) (LH.ret (blockR (thenR (roundR (blockR (thenR ?_))))))
    obtain rfl := oI h
    exact retE (aT Try.results43) (lrT R (lr0 ⟨memN mN, R, prK R, Sub.rfl⟩))
   replace h := iteF h hc6
   refine LH.skip (blockN (thenN (LH.loneT [(0, .L p0), (1, .L p1), (5, .I (i64 (n2 + 1)))] [] R (sMi R (sN (oAdd R R (sAi R zS)))) ?_)))
   exact roundI ⟨(i64 (n2 + 1)), hrec1 ▸ h, R, R⟩ (Wk.eq R R R R)
  replace h := iteF h hc3
  refine LH.exit (thenX (roundX (blockH (thenN (LH.seqT [(4, .bool true)] [] R (sAb R zS) (LH.ret ?_))))))
  obtain rfl := oI h
  exact retE (aT Try.results43) (lrT R (lr0 ⟨memN mN, R, prK R, Sub.rfl⟩))

theorem q116q {F : Nat} {p0 : GItem} {p1 : GItem} {r : Bool} (h : q87q F p0 p1 = some r) : LCall Try.prog 23 [.agg [.I p0.ID, .I p0.Version, .str p0.Stem, .lst 6 (List.map GPart.lv p0.Parts), .L p0.Enemies], .agg [.I p1.ID, .I p1.Version, .str p1.Stem, .lst 6 (List.map GPart.lv p1.Parts), .L p1.Enemies]] (Mem.of []) (.bool r) (Mem.of []) := by
  unfold q87q at h
  refine bodyT Try.func23 R (nT Try.ntmps23 R) (LH.wk (Wk.eq (el := [(0, .agg [.I p0.ID, .I p0.Version, .str p0.Stem, .lst 6 (List.map GPart.lv p0.Parts), .L p0.Enemies]), (1, .agg [.I p1.ID, .I p1.Version, .str p1.Stem, .lst 6 (List.map GPart.lv p1.Parts), .L p1.Enemies])]) (ml := []) R R R R) (LH.seqT [(2, .sptr [.I p0.ID, .I p0.Version, .str p0.Stem, .lst 6 (List.map GPart.lv p0.Parts), .L p0.Enemies]), (3, .sptr [.I p1.ID, .I p1.Version, .str p1.Stem, .lst 6 (List.map GPart.lv p1.Parts), .L p1.Enemies])] [] R (sB (oBxR R R R R (sB (oBxR R R R R (sAb R zS))))) ?_))
  obtain ⟨w2, hv, h⟩ := bindS h
  refine LH.seqT [(4, .bool w2)] [] R ?_ ?_
  ·refine sN (oFaS tf34_0 tk3 ts3 R R R (sN (oLd R tk3 ta3 (sN (oFaS tf34_0 tk3 ts3 R R R (sN (oLd R tk3 ta3 (sN (oEq R R (sMb R ?_))))))))))
   by_cases hb3 : (p0.ID == p1.ID) = true
   ·replace hv := iteT hv hb3
    refine sT R (cB hb3) (oFaS tf34_1 tk3 ts3 R R R (sT R (cB hb3) (oLd R tk3 ta3 (sT R (cB hb3) (oFaS tf34_1 tk3 ts3 R R R (sT R (cB hb3) (oLd R tk3 ta3 (sT R (cB hb3) (oEq R R (sN (oPkT (cB hb3) (v := (.bool _)) R (sMb R ?_))))))))))))
    by_cases hb4 : (p0.Version == p1.Version) = true
    ·replace hv := iteT hv hb4
     refine sT R (cB hb4) (oFaS tf34_2 tk9 ts9 R R R (sT R (cB hb4) (oLd R tk9 ta9 (sT R (cB hb4) (oFaS tf34_2 tk9 ts9 R R R (sT R (cB hb4) (oLd R tk9 ta9 (sXT R (cB hb4) ((ok_sEq R R).ok) (sN (oPkT (cB hb4) (v := (.bool _)) R (sMb R ?_)))))))))))
     by_cases hb5 : (decide (p0.Stem = p1.Stem)) = true
     ·replace hv := iteT hv hb5
      refine sT R (cB hb5) (oFaS tf34_3 tk32 ts32 R R R (sT R (cB hb5) (oLd R tk32 ta32 (sT R (cB hb5) (oLnL (f := GPart.lv) te32 R (sT R (cB hb5) (oFaS tf34_3 tk32 ts32 R R R (sT R (cB hb5) (oLd R tk32 ta32 (sT R (cB hb5) (oLnL (f := GPart.lv) te32 R (sT R (cB hb5) (oEq R R (sN (oPkT (cB hb5) (v := (.bool _)) R (sMb R ?_))))))))))))))))
      by_cases hb6 : ((p0.Parts.length : Int) == (p1.Parts.length : Int)) = true
      ·replace hv := iteT hv hb6
       refine sT R (cB hb6) (oLdA R tk34 ta34 ts34 R R (sT R (cB hb6) (oLdA R tk34 ta34 ts34 R R ?_)))
       obtain ⟨r7, hr7, hv⟩ := bindS hv
       refine sT R (cB hb6) (oCP (args := [.agg [.I p0.ID, .I p0.Version, .str p0.Stem, .lst 6 (List.map GPart.lv p0.Parts), .L p0.Enemies], .agg [.I p1.ID, .I p1.Version, .str p1.Stem, .lst 6 (List.map GPart.lv p1.Parts), .L p1.Enemies]]) R isF42 R (sbR (sbR sbN)) (q103q hr7) R (sT R (cB hb6) (oLnL (f := LV.I) te22 R (sT R (cB hb6) (oEq R R (sN (oPkT (cB hb6) (v := (.bool _)) R (sMb R ?_))))))))
       by_cases hb8 : ((r7.length : Int) == 0) = true
       ·replace hv := iteT hv hb8
        refine sT R (cB hb8) (oFaS tf34_4 tk22 ts22 R R R (sT R (cB hb8) (oLd R tk22 ta22 (sT R (cB hb8) (oFaS tf34_4 tk22 ts22 R R R (sT R (cB hb8) (oLd R tk22 ta22 ?_)))))))
        obtain ⟨r9, hr9, hv⟩ := bindS hv
        refine sT R (cB hb8) (oCP (args := [.L p0.Enemies, .L p1.Enemies]) R isF43 R (sbR (sbR sbN)) (q115q hr9) R (sN (oPkT (cB hb8) (v := (.bool _)) R (sAb R ?_))))
        obtain rfl := oI hv
        exact zS
       ·replace hb8 := bF hb8
        replace hv := iteF hv hb8
        refine sF R R hb8 (sF R R hb8 (sF R R hb8 (sF R R hb8 (sF R R hb8 (sN (oPkF (cB hb8) (v := (.bool _)) R (sAb R ?_)))))))
        obtain rfl := oI hv
        exact zS
      ·replace hb6 := bF hb6
       replace hv := iteF hv hb6
       refine sF R R hb6 (sF R R hb6 (sF R R hb6 (sF R R hb6 (sF R R hb6 (sN (oPkF (cB hb6) (v := (.bool _)) R (sMb R (sF R R R (sF R R R (sF R R R (sF R R R (sF R R R (sN (oPkF R (v := (.bool _)) R (sAb R ?_)))))))))))))))
       obtain rfl := oI hv
       exact zS
     ·replace hb5 := bF hb5
      replace hv := iteF hv hb5
      refine sF R R hb5 (sF R R hb5 (sF R R hb5 (sF R R hb5 (sF R R hb5 (sF R R hb5 (sF R R hb5 (sN (oPkF (cB hb5) (v := (.bool _)) R (sMb R (sF R R R (sF R R R (sF R R R (sF R R R (sF R R R (sN (oPkF R (v := (.bool _)) R (sMb R (sF R R R (sF R R R (sF R R R (sF R R R (sF R R R (sN (oPkF R (v := (.bool _)) R (sAb R ?_)))))))))))))))))))))))))
      obtain rfl := oI hv
      exact zS
    ·replace hb4 := bF hb4
     replace hv := iteF hv hb4
     refine sF R R hb4 (sF R R hb4 (sF R R hb4 (sF R R hb4 (sF R R hb4 (sN (oPkF (cB hb4) (v := (.bool _)) R (sMb R (sF R R R (sF R R R (sF R R R (sF R R R (sF R R R (sF R R R (sF R R R (sN (oPkF R (v := (.bool _)) R (sMb R (sF R R R (sF R R R (sF R R R (sF R R R (sF R R R (sN (oPkF R (v := (.bool _)) R (sMb R (sF R R R (sF R R R (sF R R R (sF R R R (sF R R R (sN (oPkF R (v := (.bool _)) R (sAb R ?_)))))))))))))))))))))))))))))))))
     obtain rfl := oI hv
     exact zS
   ·replace hb3 := bF hb3
    replace hv := iteF hv hb3
    refine sF R R hb3 (sF R R hb3 (sF R R hb3 (sF R R hb3 (sF R R hb3 (sN (oPkF (cB hb3) (v := (.bool _)) R (sMb R (sF R R R (sF R R R (sF R R R (sF R R R (sF R R R (sN (oPkF R (v := (.bool _)) R (sMb R (sF R R R (sF R R R (sF R R R (sF R R R (sF R R R (sF R R R (sF R R R (sN (oPkF R (v := (.bool _)) R (sMb R (sF R R R (sF R R R (sF R R R (sF R R R (sF R R R (sN (oPkF R (v := (.bool _)) R (sMb R (sF R R R (sF R R R (sF R R R (sF R R R (sF R R R (sN (oPkF R (v := (.bool _)) R (sAb R ?_)))))))))))))))))))))))))))))))))))))))))
    obtain rfl := oI hv
    exact zS
  clear hv
  refine LH.ret ?_
  obtain rfl := oI h
  exact retE (aT Try.results23) (lrT R (lr0 ⟨memN mN, R, prK R, Sub.rfl⟩))

theorem q91q {F : Nat} {p0 : Gq0} {p1 : Gq0} {r : Bool} (h : q66q F p0 p1 = some r) : LCall Try.prog 14 [.agg [.I p0.Stamp.Time, .I p0.Stamp.Source, .I p0.Stamp.Seq, .I p0.Kind, .I p0.Item.ID, .I p0.Item.Version, .str p0.Item.Stem, .lst 6 (List.map GPart.lv p0.Item.Parts), .L p0.Item.Enemies, .I p0.Ref.ID, .I p0.Ref.Version, .I p0.Form], .agg [.I p1.Stamp.Time, .I p1.Stamp.Source, .I p1.Stamp.Seq, .I p1.Kind, .I p1.Item.ID, .I p1.Item.Version, .str p1.Item.Stem, .lst 6 (List.map GPart.lv p1.Item.Parts), .L p1.Item.Enemies, .I p1.Ref.ID, .I p1.Ref.Version, .I p1.Form]] (Mem.of []) (.bool r) (Mem.of []) := by
  unfold q66q at h
  refine bodyT Try.func14 R (nT Try.ntmps14 R) (LH.wk (Wk.eq (el := [(0, .agg [.I p0.Stamp.Time, .I p0.Stamp.Source, .I p0.Stamp.Seq, .I p0.Kind, .I p0.Item.ID, .I p0.Item.Version, .str p0.Item.Stem, .lst 6 (List.map GPart.lv p0.Item.Parts), .L p0.Item.Enemies, .I p0.Ref.ID, .I p0.Ref.Version, .I p0.Form]), (1, .agg [.I p1.Stamp.Time, .I p1.Stamp.Source, .I p1.Stamp.Seq, .I p1.Kind, .I p1.Item.ID, .I p1.Item.Version, .str p1.Item.Stem, .lst 6 (List.map GPart.lv p1.Item.Parts), .L p1.Item.Enemies, .I p1.Ref.ID, .I p1.Ref.Version, .I p1.Form])]) (ml := []) R R R R) (LH.seqT [(2, .sptr [.I p0.Stamp.Time, .I p0.Stamp.Source, .I p0.Stamp.Seq, .I p0.Kind, .I p0.Item.ID, .I p0.Item.Version, .str p0.Item.Stem, .lst 6 (List.map GPart.lv p0.Item.Parts), .L p0.Item.Enemies, .I p0.Ref.ID, .I p0.Ref.Version, .I p0.Form]), (3, .sptr [.I p1.Stamp.Time, .I p1.Stamp.Source, .I p1.Stamp.Seq, .I p1.Kind, .I p1.Item.ID, .I p1.Item.Version, .str p1.Item.Stem, .lst 6 (List.map GPart.lv p1.Item.Parts), .L p1.Item.Enemies, .I p1.Ref.ID, .I p1.Ref.Version, .I p1.Form])] [] R (sB (oBxR R R R R (sB (oBxR R R R R (sAb R zS))))) ?_))
  obtain ⟨w2, hv, h⟩ := bindS h
  refine LH.seqT [(4, .bool w2)] [] R ?_ ?_
  ·refine sN (oFaS tf38_0 tk31 ts31 R R R (sN (oLdA R tk31 ta31 ts31 R R (sN (oFaS tf38_0 tk31 ts31 R R R (sN (oLdA R tk31 ta31 ts31 R R (sN (oEqA R R (ae31 p0.Stamp p1.Stamp) (sMb R ?_))))))))))
   by_cases hb3 : (decide (p0.Stamp = p1.Stamp)) = true
   ·replace hv := iteT hv hb3
    refine sT R (cB hb3) (oFaS tf38_1 tk3 ts3 R R R (sT R (cB hb3) (oLd R tk3 ta3 (sT R (cB hb3) (oFaS tf38_1 tk3 ts3 R R R (sT R (cB hb3) (oLd R tk3 ta3 (sT R (cB hb3) (oEq R R (sN (oPkT (cB hb3) (v := (.bool _)) R (sMb R ?_))))))))))))
    by_cases hb4 : (p0.Kind == p1.Kind) = true
    ·replace hv := iteT hv hb4
     refine sT R (cB hb4) (oFaS tf38_3 tk36 ts36 R R R (sT R (cB hb4) (oLdA R tk36 ta36 ts36 R R (sT R (cB hb4) (oFaS tf38_3 tk36 ts36 R R R (sT R (cB hb4) (oLdA R tk36 ta36 ts36 R R (sT R (cB hb4) (oEqA R R (ae36 p0.Ref p1.Ref) (sN (oPkT (cB hb4) (v := (.bool _)) R (sMb R ?_))))))))))))
     by_cases hb5 : (decide (p0.Ref = p1.Ref)) = true
     ·replace hv := iteT hv hb5
      refine sT R (cB hb5) (oFaS tf38_4 tk3 ts3 R R R (sT R (cB hb5) (oLd R tk3 ta3 (sT R (cB hb5) (oFaS tf38_4 tk3 ts3 R R R (sT R (cB hb5) (oLd R tk3 ta3 (sT R (cB hb5) (oEq R R (sN (oPkT (cB hb5) (v := (.bool _)) R (sMb R ?_))))))))))))
      by_cases hb6 : (p0.Form == p1.Form) = true
      ·replace hv := iteT hv hb6
       refine sT R (cB hb6) (oFaS tf38_2 tk34 ts34 R R R (sT R (cB hb6) (oLdA R tk34 ta34 ts34 R R (sT R (cB hb6) (oFaS tf38_2 tk34 ts34 R R R (sT R (cB hb6) (oLdA R tk34 ta34 ts34 R R ?_)))))))
       obtain ⟨r7, hr7, hv⟩ := bindS hv
       refine sT R (cB hb6) (oCP (args := [.agg [.I p0.Item.ID, .I p0.Item.Version, .str p0.Item.Stem, .lst 6 (List.map GPart.lv p0.Item.Parts), .L p0.Item.Enemies], .agg [.I p1.Item.ID, .I p1.Item.Version, .str p1.Item.Stem, .lst 6 (List.map GPart.lv p1.Item.Parts), .L p1.Item.Enemies]]) R isF23 R (sbR (sbR sbN)) (q116q hr7) R (sN (oPkT (cB hb6) (v := (.bool _)) R (sAb R ?_))))
       obtain rfl := oI hv
       exact zS
      ·replace hb6 := bF hb6
       replace hv := iteF hv hb6
       refine sF R R hb6 (sF R R hb6 (sF R R hb6 (sF R R hb6 (sF R R hb6 (sN (oPkF (cB hb6) (v := (.bool _)) R (sAb R ?_)))))))
       obtain rfl := oI hv
       exact zS
     ·replace hb5 := bF hb5
      replace hv := iteF hv hb5
      refine sF R R hb5 (sF R R hb5 (sF R R hb5 (sF R R hb5 (sF R R hb5 (sN (oPkF (cB hb5) (v := (.bool _)) R (sMb R (sF R R R (sF R R R (sF R R R (sF R R R (sF R R R (sN (oPkF R (v := (.bool _)) R (sAb R ?_)))))))))))))))
      obtain rfl := oI hv
      exact zS
    ·replace hb4 := bF hb4
     replace hv := iteF hv hb4
     refine sF R R hb4 (sF R R hb4 (sF R R hb4 (sF R R hb4 (sF R R hb4 (sN (oPkF (cB hb4) (v := (.bool _)) R (sMb R (sF R R R (sF R R R (sF R R R (sF R R R (sF R R R (sN (oPkF R (v := (.bool _)) R (sMb R (sF R R R (sF R R R (sF R R R (sF R R R (sF R R R (sN (oPkF R (v := (.bool _)) R (sAb R ?_)))))))))))))))))))))))
     obtain rfl := oI hv
     exact zS
   ·replace hb3 := bF hb3
    replace hv := iteF hv hb3
    refine sF R R hb3 (sF R R hb3 (sF R R hb3 (sF R R hb3 (sF R R hb3 (sN (oPkF (cB hb3) (v := (.bool _)) R (sMb R (sF R R R (sF R R R (sF R R R (sF R R R (sF R R R (sN (oPkF R (v := (.bool _)) R (sMb R (sF R R R (sF R R R (sF R R R (sF R R R (sF R R R (sN (oPkF R (v := (.bool _)) R (sMb R (sF R R R (sF R R R (sF R R R (sF R R R (sF R R R (sN (oPkF R (v := (.bool _)) R (sAb R ?_)))))))))))))))))))))))))))))))
    obtain rfl := oI hv
    exact zS
  clear hv
  refine LH.ret ?_
  obtain rfl := oI h
  exact retE (aT Try.results14) (lrT R (lr0 ⟨memN mN, R, prK R, Sub.rfl⟩))

theorem q95q {p0 : Gq4} {r : Bool} (h : q84q p0 = some r) : LCall Try.prog 72 [.agg [.I p0.Time, .I p0.Source, .I p0.Seq]] (Mem.of []) (.bool r) (Mem.of []) := by
  unfold q84q at h
  refine bodyT Try.func72 R (nT Try.ntmps72 R) (LH.wk (Wk.eq (el := [(0, .agg [.I p0.Time, .I p0.Source, .I p0.Seq])]) (ml := []) R R R R) (LH.seqT [(1, .sptr [.I p0.Time, .I p0.Source, .I p0.Seq])] [] R (sB (oBxR R R R R (sAb R zS))) (LH.seqT [(2, .bool ((decide (p0.Time ≥ 0)) && ((decide (p0.Time ≤ 1000000)) && ((decide (p0.Source ≥ 0)) && ((decide (p0.Source ≤ 99)) && ((decide (p0.Seq ≥ 0)) && (decide (p0.Seq ≤ 9999))))))))] [] R ?_ ?_)))
  ·refine sN (oFaS tf31_0 tk3 ts3 R R R (sN (oLd R tk3 ta3 (sN (oGe R R (sMb R ?_))))))
   by_cases hb2 : (decide (p0.Time ≥ 0)) = true
   ·refine sT R (cB hb2) (oFaS tf31_0 tk3 ts3 R R R (sT R (cB hb2) (oLd R tk3 ta3 (sT R (cB hb2) (oLe R R (sN (oPkT (cB hb2) (v := (.bool _)) R (sMb R ?_))))))))
    by_cases hb3 : (decide (p0.Time ≤ 1000000)) = true
    ·refine sT R (cB hb3) (oFaS tf31_1 tk3 ts3 R R R (sT R (cB hb3) (oLd R tk3 ta3 (sT R (cB hb3) (oGe R R (sN (oPkT (cB hb3) (v := (.bool _)) R (sMb R ?_))))))))
     by_cases hb4 : (decide (p0.Source ≥ 0)) = true
     ·refine sT R (cB hb4) (oFaS tf31_1 tk3 ts3 R R R (sT R (cB hb4) (oLd R tk3 ta3 (sT R (cB hb4) (oLe R R (sN (oPkT (cB hb4) (v := (.bool _)) R (sMb R ?_))))))))
      by_cases hb5 : (decide (p0.Source ≤ 99)) = true
      ·refine sT R (cB hb5) (oFaS tf31_2 tk3 ts3 R R R (sT R (cB hb5) (oLd R tk3 ta3 (sT R (cB hb5) (oGe R R (sN (oPkT (cB hb5) (v := (.bool _)) R (sMb R ?_))))))))
       by_cases hb6 : (decide (p0.Seq ≥ 0)) = true
       ·exact sT R (cB hb6) (oFaS tf31_2 tk3 ts3 R R R (sT R (cB hb6) (oLd R tk3 ta3 (sT R (cB hb6) (oLe R R (sN (oPkT (cB hb6) (v := (.bool _)) R (sAb R (s0 (Wk.to (eC (cB (Eq.trans (Eq.trans (Eq.trans (Eq.trans (andT hb6) (andT hb5)) (andT hb4)) (andT hb3)) (andT hb2))) eN) mN R (prK R)))))))))))
       ·replace hb6 := bF hb6
        exact sF R R hb6 (sF R R hb6 (sF R R hb6 (sN (oPkF (cB hb6) (v := (.bool _)) R (sAb R (s0 (Wk.to (eC (cB (Eq.trans (Eq.trans (Eq.trans (Eq.trans (andF hb6) (andT hb5)) (andT hb4)) (andT hb3)) (andT hb2))) eN) mN R (prK R))))))))
      ·replace hb5 := bF hb5
       exact sF R R hb5 (sF R R hb5 (sF R R hb5 (sN (oPkF (cB hb5) (v := (.bool _)) R (sMb R (sF R R R (sF R R R (sF R R R (sN (oPkF R (v := (.bool _)) R (sAb R (s0 (Wk.to (eC (cB (Eq.trans (Eq.trans (Eq.trans (andF hb5) (andT hb4)) (andT hb3)) (andT hb2))) eN) mN R (prK R))))))))))))))
     ·replace hb4 := bF hb4
      exact sF R R hb4 (sF R R hb4 (sF R R hb4 (sN (oPkF (cB hb4) (v := (.bool _)) R (sMb R (sF R R R (sF R R R (sF R R R (sN (oPkF R (v := (.bool _)) R (sMb R (sF R R R (sF R R R (sF R R R (sN (oPkF R (v := (.bool _)) R (sAb R (s0 (Wk.to (eC (cB (Eq.trans (Eq.trans (andF hb4) (andT hb3)) (andT hb2))) eN) mN R (prK R))))))))))))))))))))
    ·replace hb3 := bF hb3
     exact sF R R hb3 (sF R R hb3 (sF R R hb3 (sN (oPkF (cB hb3) (v := (.bool _)) R (sMb R (sF R R R (sF R R R (sF R R R (sN (oPkF R (v := (.bool _)) R (sMb R (sF R R R (sF R R R (sF R R R (sN (oPkF R (v := (.bool _)) R (sMb R (sF R R R (sF R R R (sF R R R (sN (oPkF R (v := (.bool _)) R (sAb R (s0 (Wk.to (eC (cB (Eq.trans (andF hb3) (andT hb2))) eN) mN R (prK R))))))))))))))))))))))))))
   ·replace hb2 := bF hb2
    exact sF R R hb2 (sF R R hb2 (sF R R hb2 (sN (oPkF (cB hb2) (v := (.bool _)) R (sMb R (sF R R R (sF R R R (sF R R R (sN (oPkF R (v := (.bool _)) R (sMb R (sF R R R (sF R R R (sF R R R (sN (oPkF R (v := (.bool _)) R (sMb R (sF R R R (sF R R R (sF R R R (sN (oPkF R (v := (.bool _)) R (sMb R (sF R R R (sF R R R (sF R R R (sN (oPkF R (v := (.bool _)) R (sAb R (s0 (Wk.to (eC (cB (andF hb2)) eN) mN R (prK R))))))))))))))))))))))))))))))))
  refine LH.ret ?_
  obtain rfl := oI h
  exact retE (aT Try.results72) (lrT R (lr0 ⟨memN mN, R, prK R, Sub.rfl⟩))

theorem q102q {p0 : Gq4} {p1 : Gq4} {p2 : Int} {p3 : Int} {r : Bool} (h : q79q p0 p1 p2 p3 = some r) : LCall Try.prog 73 [.agg [.I p0.Time, .I p0.Source, .I p0.Seq], .agg [.I p1.Time, .I p1.Source, .I p1.Seq], .I p2, .I p3] (Mem.of []) (.bool r) (Mem.of []) := by
  unfold q79q at h
  refine bodyT Try.func73 R (nT Try.ntmps73 R) (LH.wk (Wk.eq (el := [(0, .agg [.I p0.Time, .I p0.Source, .I p0.Seq]), (1, .agg [.I p1.Time, .I p1.Source, .I p1.Seq]), (2, .I p2), (3, .I p3)]) (ml := []) R R R R) (LH.seqT [(2, .I p2), (3, .I p3), (4, .sptr [.I p0.Time, .I p0.Source, .I p0.Seq]), (5, .sptr [.I p1.Time, .I p1.Source, .I p1.Seq])] [] R (sB (oBxR R R R R (sB (oBxR R R R R (sAb R zS))))) (LH.seqT [(8, .bool ((p0.Source == p1.Source) && ((p0.Seq == p1.Seq) && ((p0.Time != p1.Time) || (p2 != p3)))))] [] R ?_ ?_)))
  ·refine sN (oFaS tf31_1 tk3 ts3 R R R (sN (oLd R tk3 ta3 (sN (oFaS tf31_1 tk3 ts3 R R R (sN (oLd R tk3 ta3 (sN (oEq R R (sMb R ?_))))))))))
   by_cases hb2 : (p0.Source == p1.Source) = true
   ·refine sT R (cB hb2) (oFaS tf31_2 tk3 ts3 R R R (sT R (cB hb2) (oLd R tk3 ta3 (sT R (cB hb2) (oFaS tf31_2 tk3 ts3 R R R (sT R (cB hb2) (oLd R tk3 ta3 (sT R (cB hb2) (oEq R R (sN (oPkT (cB hb2) (v := (.bool _)) R (sMb R ?_))))))))))))
    by_cases hb3 : (p0.Seq == p1.Seq) = true
    ·refine sT R (cB hb3) (oFaS tf31_0 tk3 ts3 R R R (sT R (cB hb3) (oLd R tk3 ta3 (sT R (cB hb3) (oFaS tf31_0 tk3 ts3 R R R (sT R (cB hb3) (oLd R tk3 ta3 (sT R (cB hb3) (oNe R R (sT R (cB hb3) (oM (v := (.bool _)) R ?_)))))))))))
     by_cases hb4 : (p0.Time != p1.Time) = true
     ·exact sF R R hb4 (sF R R hb4 (sF R R hb4 (sT R (cB hb3) (oPkT (cB hb4) (v := (.bool _)) R (sN (oPkT (cB hb3) (v := (.bool _)) R (sAb R (s0 (Wk.to (eC (cB (Eq.trans (Eq.trans (orT hb4) (andT hb3)) (andT hb2))) eN) mN R (prK R))))))))))
     ·replace hb4 := bF hb4
      exact sT R (cB hb4) (oM (v := (.int _ _)) R (sT R (cB hb4) (oM (v := (.int _ _)) R (sT R (cB hb4) (oNe R R (sT R (cB hb3) (oPkF (cB hb4) (v := (.bool _)) R (sN (oPkT (cB hb3) (v := (.bool _)) R (sAb R (s0 (Wk.to (eC (cB (Eq.trans (Eq.trans (orF hb4) (andT hb3)) (andT hb2))) eN) mN R (prK R)))))))))))))
    ·replace hb3 := bF hb3
     exact sF R R hb3 (sF R R hb3 (sF R R hb3 (sF R R hb3 (sF R R hb3 (sF R R hb3 (sU R R (sU R R (sU R R (sF R R hb3 (sN (oPkF (cB hb3) (v := (.bool _)) R (sAb R (s0 (Wk.to (eC (cB (Eq.trans (andF hb3) (andT hb2))) eN) mN R (prK R)))))))))))))))
   ·replace hb2 := bF hb2
    exact sF R R hb2 (sF R R hb2 (sF R R hb2 (sF R R hb2 (sF R R hb2 (sN (oPkF (cB hb2) (v := (.bool _)) R (sMb R (sF R R R (sF R R R (sF R R R (sF R R R (sF R R R (sF R R R (sU R R (sU R R (sU R R (sF R R R (sN (oPkF R (v := (.bool _)) R (sAb R (s0 (Wk.to (eC (cB (andF hb2)) eN) mN R (prK R)))))))))))))))))))))))
  refine LH.ret ?_
  obtain rfl := oI h
  exact retE (aT Try.results73) (lrT R (lr0 ⟨memN mN, R, prK R, Sub.rfl⟩))

theorem q108q {F : Nat} {p0 : List Gq4} {p1 : List Int} {p2 : Int} {r : Bool} (h : q76q F p0 p1 p2 = some r) : LCall Try.prog 55 [.lst 3 (List.map Gq4.lv p0), .L p1, .I p2] (Mem.of []) (.bool r) (Mem.of []) := by
  unfold q76q at h
  refine bodyT Try.func55 R (nT Try.ntmps55 R) (LH.wk (Wk.eq (el := [(0, .lst 3 (List.map Gq4.lv p0)), (1, .L p1), (2, .I p2)]) (ml := []) R R R R) (LH.seqT [(0, .lst 3 (List.map Gq4.lv p0)), (1, .L p1), (2, .I p2)] [] R (sAb R zS) (LH.seq ?_)))
  obtain ⟨x1, hx1, h⟩ := bindS h
  obtain ⟨r2, hr2, h⟩ := bindS h
  refine LH.seqT [(0, .lst 3 (List.map Gq4.lv p0)), (1, .L p1), (2, .I p2), (13, .bool (!r2))] [] R (sMl R (sMi R (sN (oIx (f := Gq4.lv) te85 tk31 ts31 R R Gq4.ok hx1 R (sN (oLdA R tk31 ta31 ts31 R R (sN (oCP (args := [.agg [.I x1.Time, .I x1.Source, .I x1.Seq]]) R isF72 R (sbR sbN) (q95q hr2) R (sN (oNot R zS)))))))))) (LH.cond (t := (!r2)) R (fun hc3 => ?_) (fun hc3 => ?_))
  ·replace h := iteT h hc3
   refine LH.seqT [(6, .bool false)] [] R (sAb R zS) (LH.ret (thenR ?_))
   obtain rfl := oI h
   exact retE (aT Try.results55) (lrT R (lr0 ⟨memN mN, R, prK R, Sub.rfl⟩))
  replace h := iteF h hc3
  refine LH.skip (thenN (LH.wk (Wk.eq (el := [(0, .lst 3 (List.map Gq4.lv p0)), (1, .L p1), (2, .I p2)]) (ml := []) R R R R) (LH.seq (LH.seqT [(0, .lst 3 (List.map Gq4.lv p0)), (1, .L p1), (2, .I p2), (7, .I 0)] [] R (sAi R zS) (LH.block (LH.loop (fun n e m => ∃ (n4 : Int), q46q p0 p1 p2 n n4 = some r ∧ e = Env.of [(0, .lst 3 (List.map Gq4.lv p0)), (1, .L p1), (2, .I p2), (7, .I n4)] ∧ m = Mem.of []) F ⟨0, h, R, R⟩ ?_))))))
  clear h
  rintro n e m ⟨n4, h, rfl, rfl⟩
  rcases n with _ | n
  · cases (show Option.none = some _ from h)
  obtain ⟨rec1, hrec1⟩ : ∃ f, f = q46q p0 p1 p2 n := ⟨_, rfl⟩
  replace h : q38q p0 p1 p2 rec1 n4 = some r := hrec1 ▸ h
  unfold q38q at h
  refine LH.seq (LH.seqT [(0, .lst 3 (List.map Gq4.lv p0)), (1, .L p1), (2, .I p2), (7, .I n4), (17, .bool (decide (n4 < (p0.length : Int))))] [] R (sMi R (sMl R (sN (oLnL (f := Gq4.lv) te85 R (sN (oLt R R zS)))))) (LH.cond (t := (decide (n4 < (p0.length : Int)))) R (fun hc5 => ?_) (fun hc5 => ?_)))
  ·replace h := iteT h hc5
   refine LH.skip (thenN (LH.wk (Wk.eq (el := [(0, .lst 3 (List.map Gq4.lv p0)), (1, .L p1), (2, .I p2), (7, .I n4)]) (ml := []) R R R R) (LH.seq (LH.block ?_))))
   obtain ⟨w7, hv, h⟩ := bindS h
   refine LH.seqJM mixed [] [0, 0, 0, 0, 0, 0, 0, 0, 0, 0, 0, 0, 0, 0, 0, 0, 0, 0, 0, 0, 0, 0, 0, 0, 0, 0, 0, 0, 0, 0, 0, 0, 0, 0, 0, 0, 0, 0, 0, 0] [(0, .lst 3 (List.map Gq4.lv p0)), (1, .L p1), (2, .I p2), (7, .I n4), (59, .bool w7)] [] R R (by kernel_rfl) ?_ ?_
   ·refine mMl R (mMi R ?_)
    obtain ⟨x8, hx8, hv⟩ := bindS hv
    refine mN0 (oIx (f := Gq4.lv) te85 tk31 ts31 R R Gq4.ok hx8 R ⟨R, mN0 (oLdA R tk31 ta31 ts31 R R ⟨R, ?_⟩)⟩)
    obtain ⟨r9, hr9, hv⟩ := bindS hv
    refine mN0 (oCP (args := [.agg [.I x8.Time, .I x8.Source, .I x8.Seq]]) R isF72 R (sbR sbN) (q95q hr9) R ⟨R, mMb R ?_⟩)
    by_cases hb10 : r9 = true
    ·replace hv := iteT hv hb10
     refine mT R (cB hb10) (mMl R (mT R (cB hb10) (mMi R ?_)))
     obtain ⟨x11, hx11, hv⟩ := bindS hv
     refine mT R (cB hb10) (mN0 (oIx (f := Gq4.lv) te85 tk31 ts31 R R Gq4.ok hx11 R ⟨R, mT R (cB hb10) (mN0 (oLdA R tk31 ta31 ts31 R R ⟨R, mT R (cB hb10) (mMl R (mT R (cB hb10) (mMi R ?_)))⟩))⟩))
     obtain ⟨x12, hx12, hv⟩ := bindS hv
     refine mT R (cB hb10) (mN0 (oIx (f := Gq4.lv) te85 tk31 ts31 R R Gq4.ok hx12 R ⟨R, mT R (cB hb10) (mN0 (oLdA R tk31 ta31 ts31 R R ⟨R, mT R (cB hb10) (mMl R (mT R (cB hb10) (mMi R ?_)))⟩))⟩))
     obtain ⟨x13, hx13, hv⟩ := bindS hv
     refine mT R (cB hb10) (mN0 (oIx (f := LV.I) te22 tk3 ts3 R R okI hx13 R ⟨R, mT R (cB hb10) (mN0 (oLd R tk3 ta3 ⟨R, mT R (cB hb10) (mMl R (mT R (cB hb10) (mMi R ?_)))⟩))⟩))
     obtain ⟨x14, hx14, hv⟩ := bindS hv
     refine mT R (cB hb10) (mN0 (oIx (f := LV.I) te22 tk3 ts3 R R okI hx14 R ⟨R, mT R (cB hb10) (mN0 (oLd R tk3 ta3 ⟨R, ?_⟩))⟩))
     obtain ⟨r15, hr15, hv⟩ := bindS hv
     refine mT R (cB hb10) (mN0 (oCP (args := [.agg [.I x11.Time, .I x11.Source, .I x11.Seq], .agg [.I x12.Time, .I x12.Source, .I x12.Seq], .I x13, .I x14]) R isF73 R (sbR (sbR (sbR (sbR sbN)))) (q102q hr15) R ⟨R, mT R (cB hb10) (mMb R ?_)⟩))
     by_cases hb16 : r15 = true
     ·replace hv := iteT hv hb16
      refine mF R R hb16 (mF R R hb16 (mF R R hb16 (mF R R hb16 (mU R R (mU R R (mU R R (mU R R (mU R R (mU R R (mU R R (mU R R (mU R R (mF R R hb16 (mT R (cB hb10) (mN0 (oPkT (cB hb16) (v := (.bool _)) R ⟨R, mN0 (oPkT (cB hb10) (v := (.bool _)) R ⟨R, ?_⟩)⟩))))))))))))))))
      obtain rfl := oI hv
      exact zM
     ·replace hb16 := bF hb16
      replace hv := iteF hv hb16
      refine mT R (cB hb16) (mMi R (mT R (cB hb16) (mMi R (mT R (cB hb16) (mN0 (oLt R R ⟨R, mT R (cB hb16) (mMb R ?_)⟩))))))
      by_cases hb17 : (decide (n4 < p2)) = true
      ·replace hv := iteT hv hb17
       refine mT R (cB hb17) (mMl R (mT R (cB hb17) (mMi R ?_)))
       obtain ⟨x18, hx18, hv⟩ := bindS hv
       refine mT R (cB hb17) (mN0 (oIx (f := Gq4.lv) te85 tk31 ts31 R R Gq4.ok hx18 R ⟨R, mT R (cB hb17) (mN0 (oLdA R tk31 ta31 ts31 R R ⟨R, mT R (cB hb17) (mMl R (mT R (cB hb17) (mMi R ?_)))⟩))⟩))
       obtain ⟨x19, hx19, hv⟩ := bindS hv
       refine mT R (cB hb17) (mN0 (oIx (f := Gq4.lv) te85 tk31 ts31 R R Gq4.ok hx19 R ⟨R, mT R (cB hb17) (mN0 (oLdA R tk31 ta31 ts31 R R ⟨R, mT R (cB hb17) (mN0 (oEqA R R (ae31 x18 x19) ⟨R, mT R (cB hb16) (mN0 (oPkT (cB hb17) (v := (.bool _)) R ⟨R, mT R (cB hb10) (mN0 (oPkF (cB hb16) (v := (.bool _)) R ⟨R, mN0 (oPkT (cB hb10) (v := (.bool _)) R ⟨R, ?_⟩)⟩))⟩))⟩))⟩))⟩))
       obtain rfl := oI hv
       exact zM
      ·replace hb17 := bF hb17
       replace hv := iteF hv hb17
       refine mF R R hb17 (mF R R hb17 (mF R R hb17 (mF R R hb17 (mF R R hb17 (mF R R hb17 (mF R R hb17 (mF R R hb17 (mF R R hb17 (mT R (cB hb16) (mN0 (oPkF (cB hb17) (v := (.bool _)) R ⟨R, mT R (cB hb10) (mN0 (oPkF (cB hb16) (v := (.bool _)) R ⟨R, mN0 (oPkT (cB hb10) (v := (.bool _)) R ⟨R, ?_⟩)⟩))⟩)))))))))))
       obtain rfl := oI hv
       exact zM
    ·replace hb10 := bF hb10
     replace hv := iteF hv hb10
     refine mF R R hb10 (mF R R hb10 (mF R R hb10 (mF R R hb10 (mF R R hb10 (mF R R hb10 (mF R R hb10 (mF R R hb10 (mF R R hb10 (mF R R hb10 (mF R R hb10 (mF R R hb10 (mF R R hb10 (mF R R hb10 (mF R R hb10 (mF R R hb10 (mF R R hb10 (mF R R hb10 (mU R R (mU R R (mU R R (mU R R (mU R R (mU R R (mU R R (mU R R (mU R R (mU R R (mU R R (mU R R (mU R R (mU R R (mF R R hb10 (mN0 (oPkF (cB hb10) (v := (.bool _)) R ⟨R, ?_⟩))))))))))))))))))))))))))))))))))
     obtain rfl := oI hv
     exact zM
   clear hv
   refine LH.cond (t := w7) R (fun hc20 => ?_) (fun hc20 => ?_)
   ·replace h := iteT h hc20
    refine LH.seqT [(6, .bool false)] [] R (sAb R zS) (LH.ret (blockR (thenR (roundR (blockR (thenR ?_))))))
    obtain rfl := oI h
    exact retE (aT Try.results55) (lrT R (lr0 ⟨memN mN, R, prK R, Sub.rfl⟩))
   replace h := iteF h hc20
   refine LH.skip (blockN (thenN (LH.loneT [(0, .lst 3 (List.map Gq4.lv p0)), (1, .L p1), (2, .I p2), (7, .I (i64 (n4 + 1)))] [] R (sMi R (sN (oAdd R R (sAi R zS)))) ?_)))
   exact roundI ⟨(i64 (n4 + 1)), hrec1 ▸ h, R, R⟩ (Wk.eq R R R R)
  replace h := iteF h hc5
  refine LH.exit (thenX (roundX (blockH (thenN (LH.seqT [(6, .bool true)] [] R (sAb R zS) (LH.ret ?_))))))
  obtain rfl := oI h
  exact retE (aT Try.results55) (lrT R (lr0 ⟨memN mN, R, prK R, Sub.rfl⟩))

theorem q80q {p0 : Int} {p1 : Int} {r : Int} (h : q53q p0 p1 = some r) : LCall Try.prog 74 [.I p0, .I p1] (Mem.of []) (.I r) (Mem.of []) := by
  unfold q53q at h
  refine bodyT Try.func74 R (nT Try.ntmps74 R) (LH.wk (Wk.eq (el := [(0, .I p0), (1, .I p1)]) (ml := []) R R R R) (LH.seqT [(0, .I p0), (1, .I p1)] [] R (sAi R zS) (LH.seq (LH.seqT [(0, .I p0), (1, .I p1), (7, .bool (decide (p0 < p1)))] [] R (sMi R (sMi R (sN (oLt R R zS)))) (LH.cond (t := (decide (p0 < p1))) R (fun hc1 => ?_) (fun hc1 => ?_))))))
  ·replace h := iteT h hc1
   refine LH.seqT [(4, .I (-1))] [] R (sAi R zS) (LH.ret (thenR ?_))
   obtain rfl := oI h
   exact retE (aT Try.results74) (lrT R (lr0 ⟨memN mN, R, prK R, Sub.rfl⟩))
  replace h := iteF h hc1
  refine LH.skip (thenN (LH.wk (Wk.eq (el := [(0, .I p0), (1, .I p1)]) (ml := []) R R R R) (LH.seq (LH.seqT [(10, .bool (decide (p0 > p1)))] [] R (sMi R (sMi R (sN (oGt R R zS)))) (LH.cond (t := (decide (p0 > p1))) R (fun hc2 => ?_) (fun hc2 => ?_))))))
  ·replace h := iteT h hc2
   refine LH.seqT [(4, .I 1)] [] R (sAi R zS) (LH.ret (thenR ?_))
   obtain rfl := oI h
   exact retE (aT Try.results74) (lrT R (lr0 ⟨memN mN, R, prK R, Sub.rfl⟩))
  replace h := iteF h hc2
  refine LH.skip (thenN (LH.seqT [(4, .I 0)] [] R (sAi R zS) (LH.ret ?_)))
  obtain rfl := oI h
  exact retE (aT Try.results74) (lrT R (lr0 ⟨memN mN, R, prK R, Sub.rfl⟩))

theorem q105q {p0 : Gq4} {p1 : Gq4} {r : Int} (h : q70q p0 p1 = some r) : LCall Try.prog 56 [.agg [.I p0.Time, .I p0.Source, .I p0.Seq], .agg [.I p1.Time, .I p1.Source, .I p1.Seq]] (Mem.of []) (.I r) (Mem.of []) := by
  unfold q70q at h
  refine bodyT Try.func56 R (nT Try.ntmps56 R) (LH.wk (Wk.eq (el := [(0, .agg [.I p0.Time, .I p0.Source, .I p0.Seq]), (1, .agg [.I p1.Time, .I p1.Source, .I p1.Seq])]) (ml := []) R R R R) (LH.seqT [(2, .sptr [.I p0.Time, .I p0.Source, .I p0.Seq]), (3, .sptr [.I p1.Time, .I p1.Source, .I p1.Seq])] [] R (sB (oBxR R R R R (sB (oBxR R R R R (sAi R zS))))) ?_))
  obtain ⟨r1, hr1, h⟩ := bindS h
  refine LH.seqT [(2, .sptr [.I p0.Time, .I p0.Source, .I p0.Seq]), (3, .sptr [.I p1.Time, .I p1.Source, .I p1.Seq]), (5, .I r1)] [] R (sN (oFaS tf31_0 tk3 ts3 R R R (sN (oLd R tk3 ta3 (sN (oFaS tf31_0 tk3 ts3 R R R (sN (oLd R tk3 ta3 (sN (oCP (args := [.I p0.Time, .I p1.Time]) R isF74 R (sbR (sbR sbN)) (q80q hr1) R (sAi R zS))))))))))) (LH.seq (LH.seqT [(2, .sptr [.I p0.Time, .I p0.Source, .I p0.Seq]), (3, .sptr [.I p1.Time, .I p1.Source, .I p1.Seq]), (5, .I r1), (12, .bool (r1 == 0))] [] R (sMi R (sN (oEq R R zS))) (LH.cond (t := (r1 == 0)) R (fun hc2 => ?_) (fun hc2 => ?_))))
  ·replace h := iteT h hc2
   obtain ⟨r3, hr3, h⟩ := bindS h
   refine LH.loneT [(2, .sptr [.I p0.Time, .I p0.Source, .I p0.Seq]), (3, .sptr [.I p1.Time, .I p1.Source, .I p1.Seq]), (5, .I r3)] [] R (sN (oFaS tf31_1 tk3 ts3 R R R (sN (oLd R tk3 ta3 (sN (oFaS tf31_1 tk3 ts3 R R R (sN (oLd R tk3 ta3 (sN (oCP (args := [.I p0.Source, .I p1.Source]) R isF74 R (sbR (sbR sbN)) (q80q hr3) R (sAi R zS))))))))))) (thenN (LH.seq (LH.seqT [(2, .sptr [.I p0.Time, .I p0.Source, .I p0.Seq]), (3, .sptr [.I p1.Time, .I p1.Source, .I p1.Seq]), (5, .I r3), (19, .bool (r3 == 0))] [] R (sMi R (sN (oEq R R zS))) (LH.cond (t := (r3 == 0)) R (fun hc4 => ?_) (fun hc4 => ?_)))))
   ·replace h := iteT h hc4
    obtain ⟨r5, hr5, h⟩ := bindS h
    refine LH.loneT [(5, .I r5)] [] R (sN (oFaS tf31_2 tk3 ts3 R R R (sN (oLd R tk3 ta3 (sN (oFaS tf31_2 tk3 ts3 R R R (sN (oLd R tk3 ta3 (sN (oCP (args := [.I p0.Seq, .I p1.Seq]) R isF74 R (sbR (sbR sbN)) (q80q hr5) R (sAi R zS))))))))))) (thenN (LH.seqT [(4, .I r5)] [] R (sMi R (sAi R zS)) (LH.ret ?_)))
    obtain rfl := oI h
    exact retE (aT Try.results56) (lrT R (lr0 ⟨memN mN, R, prK R, Sub.rfl⟩))
   replace h := iteF h hc4
   refine LH.skip (thenN (LH.seqT [(4, .I r3)] [] R (sMi R (sAi R zS)) (LH.ret ?_)))
   obtain rfl := oI h
   exact retE (aT Try.results56) (lrT R (lr0 ⟨memN mN, R, prK R, Sub.rfl⟩))
  replace h := iteF h hc2
  refine LH.skip (thenN (LH.wk (Wk.eq (el := [(2, .sptr [.I p0.Time, .I p0.Source, .I p0.Seq]), (3, .sptr [.I p1.Time, .I p1.Source, .I p1.Seq]), (5, .I r1)]) (ml := []) R R R R) (LH.seq (LH.seqT [(2, .sptr [.I p0.Time, .I p0.Source, .I p0.Seq]), (3, .sptr [.I p1.Time, .I p1.Source, .I p1.Seq]), (5, .I r1), (19, .bool (r1 == 0))] [] R (sMi R (sN (oEq R R zS))) (LH.cond (t := (r1 == 0)) R (fun hc6 => ?_) (fun hc6 => ?_))))))
  ·replace h := iteT h hc6
   obtain ⟨r7, hr7, h⟩ := bindS h
   refine LH.loneT [(5, .I r7)] [] R (sN (oFaS tf31_2 tk3 ts3 R R R (sN (oLd R tk3 ta3 (sN (oFaS tf31_2 tk3 ts3 R R R (sN (oLd R tk3 ta3 (sN (oCP (args := [.I p0.Seq, .I p1.Seq]) R isF74 R (sbR (sbR sbN)) (q80q hr7) R (sAi R zS))))))))))) (thenN (LH.seqT [(4, .I r7)] [] R (sMi R (sAi R zS)) (LH.ret ?_)))
   obtain rfl := oI h
   exact retE (aT Try.results56) (lrT R (lr0 ⟨memN mN, R, prK R, Sub.rfl⟩))
  replace h := iteF h hc6
  refine LH.skip (thenN (LH.seqT [(4, .I r1)] [] R (sMi R (sAi R zS)) (LH.ret ?_)))
  obtain rfl := oI h
  exact retE (aT Try.results56) (lrT R (lr0 ⟨memN mN, R, prK R, Sub.rfl⟩))

theorem q99q {F : Nat} {p0 : List Gq4} {p1 : List Int} {r : List Int × Int} (h : q45q F p0 p1 = some r) : LCall Try.prog 35 [.lst 3 (List.map Gq4.lv p0), .L p1] (Mem.of []) (.tup [.L r.1, .I r.2]) (Mem.of []) := by
  unfold q45q at h
  refine bodyT Try.func35 R (nT Try.ntmps35 R) (LH.wk (Wk.eq (el := [(0, .lst 3 (List.map Gq4.lv p0)), (1, .L p1)]) (ml := []) R R R R) (LH.seqT [(0, .lst 3 (List.map Gq4.lv p0)), (1, .L p1)] [] R (sAn R (sAi R zS)) (LH.seq (LH.seqT [(0, .lst 3 (List.map Gq4.lv p0)), (1, .L p1), (14, .bool ((p1.length : Int) != (p0.length : Int)))] [] R (sMl R (sN (oLnL (f := LV.I) te22 R (sMl R (sN (oLnL (f := Gq4.lv) te85 R (sN (oNe R R zS)))))))) (LH.cond (t := ((p1.length : Int) != (p0.length : Int))) R (fun hc1 => ?_) (fun hc1 => ?_))))))
  ·replace h := iteT h hc1
   refine LH.seqT [(4, .nil), (5, .I 1)] [] R (sAn R (sAi R zS)) (LH.ret (thenR ?_))
   obtain rfl := oI h
   exact retE (aT Try.results35) (lrT R (lrT R (lr0 ⟨memN mN, R, prK R, (Sub.tup (sbL (sbR sbN)))⟩)))
  replace h := iteF h hc1
  refine LH.skip (thenN (LH.seqT [(0, .lst 3 (List.map Gq4.lv p0)), (1, .L p1), (6, .nil)] [] R (sAn R zS) (LH.seq (LH.seqT [(0, .lst 3 (List.map Gq4.lv p0)), (1, .L p1), (6, .nil), (7, .I 0)] [] R (sAi R zS) (LH.block (LH.wk (Wk.to (el := [(0, .lst 3 (List.map Gq4.lv p0)), (1, .L p1), (6, .L ([] : List Int)), (7, .I 0)]) (ml := []) (eC R (eC R (eL R (eC R eN)))) mN R (prK R)) (LH.loop (fun n e m => ∃ (l2 : List Int) (n3 : Int), q27q F p0 p1 n l2 n3 = some r ∧ e = Env.of [(0, .lst 3 (List.map Gq4.lv p0)), (1, .L p1), (6, .L l2), (7, .I n3)] ∧ m = Mem.of []) F ⟨([] : List Int), 0, h, R, R⟩ ?_)))))))
  clear h
  rintro n e m ⟨l2, n3, h, rfl, rfl⟩
  rcases n with _ | n
  · cases (show Option.none = some _ from h)
  obtain ⟨rec1, hrec1⟩ : ∃ f, f = q27q F p0 p1 n := ⟨_, rfl⟩
  replace h : q31q F p0 p1 rec1 l2 n3 = some r := hrec1 ▸ h
  unfold q31q at h
  refine LH.seq (LH.seqT [(0, .lst 3 (List.map Gq4.lv p0)), (1, .L p1), (6, .L l2), (7, .I n3), (18, .bool (decide (n3 < (p0.length : Int))))] [] R (sMi R (sMl R (sN (oLnL (f := Gq4.lv) te85 R (sN (oLt R R zS)))))) (LH.cond (t := (decide (n3 < (p0.length : Int)))) R (fun hc4 => ?_) (fun hc4 => ?_)))
  ·replace h := iteT h hc4
   refine LH.skip (thenN (LH.wk (Wk.eq (el := [(0, .lst 3 (List.map Gq4.lv p0)), (1, .L p1), (6, .L l2), (7, .I n3)]) (ml := []) R R R R) (LH.seq (LH.block (LH.seq ?_)))))
   obtain ⟨r5, hr5, h⟩ := bindS h
   refine LH.seqT [(0, .lst 3 (List.map Gq4.lv p0)), (1, .L p1), (6, .L l2), (7, .I n3), (25, .bool (!r5))] [] R (sMl R (sMl R (sMi R (sN (oCP (args := [.lst 3 (List.map Gq4.lv p0), .L p1, .I n3]) R isF55 R (sbR (sbR (sbR sbN))) (q108q hr5) R (sN (oNot R zS))))))) (LH.cond (t := (!r5)) R (fun hc6 => ?_) (fun hc6 => ?_))
   ·replace h := iteT h hc6
    refine LH.exit (thenX (blockH (thenN (LH.loneT [(0, .lst 3 (List.map Gq4.lv p0)), (1, .L p1), (6, .L l2), (7, .I (i64 (n3 + 1)))] [] R (sMi R (sN (oAdd R R (sAi R zS)))) ?_))))
    exact roundI ⟨l2, (i64 (n3 + 1)), hrec1 ▸ h, R, R⟩ (Wk.eq R R R R)
   replace h := iteF h hc6
   refine LH.skip (thenN (LH.seqT [(0, .lst 3 (List.map Gq4.lv p0)), (1, .L p1), (6, .L l2), (7, .I n3), (8, .I (l2.length : Int))] [] R (sMl R (sN (oLnL (f := LV.I) te22 R (sAi R zS)))) (LH.seq (LH.block (LH.loop (fun n e m => ∃ (n7 : Int), q28q rec1 p0 l2 n3 n n7 = some r ∧ e = Env.of [(0, .lst 3 (List.map Gq4.lv p0)), (1, .L p1), (6, .L l2), (7, .I n3), (8, .I n7)] ∧ m = Mem.of []) F ⟨(l2.length : Int), h, R, R⟩ ?_)))))
   clear h
   rintro n e m ⟨n7, h, rfl, rfl⟩
   rcases n with _ | n
   · cases (show Option.none = some _ from h)
   obtain ⟨rec2, hrec2⟩ : ∃ f, f = q28q rec1 p0 l2 n3 n := ⟨_, rfl⟩
   replace h : q32q rec1 p0 l2 n3 rec2 n7 = some r := hrec2 ▸ h
   unfold q32q at h
   refine LH.seq ?_
   obtain ⟨w9, hv, h⟩ := bindS h
   refine LH.seqJM mixed [] [0, 0, 0, 0, 0, 0, 0, 0, 0, 0, 0, 0, 0, 0, 0, 0, 0, 0] [(0, .lst 3 (List.map Gq4.lv p0)), (1, .L p1), (6, .L l2), (7, .I n3), (8, .I n7), (45, .bool w9)] [] R R (by kernel_rfl) ?_ ?_
   ·refine mMi R (mN0 (oGt R R ⟨R, mMb R ?_⟩))
    by_cases hb10 : (decide (n7 > 0)) = true
    ·replace hv := iteT hv hb10
     refine mT R (cB hb10) (mMl R (mT R (cB hb10) (mMl R (mT R (cB hb10) (mMi R (mT R (cB hb10) (mN0 (oSub R R ⟨R, ?_⟩))))))))
     obtain ⟨x11, hx11, hv⟩ := bindS hv
     refine mT R (cB hb10) (mN0 (oIx (f := LV.I) te22 tk3 ts3 R R okI hx11 R ⟨R, mT R (cB hb10) (mN0 (oLd R tk3 ta3 ⟨R, ?_⟩))⟩))
     obtain ⟨x12, hx12, hv⟩ := bindS hv
     refine mT R (cB hb10) (mN0 (oIx (f := Gq4.lv) te85 tk31 ts31 R R Gq4.ok hx12 R ⟨R, mT R (cB hb10) (mN0 (oLdA R tk31 ta31 ts31 R R ⟨R, mT R (cB hb10) (mMl R (mT R (cB hb10) (mMi R ?_)))⟩))⟩))
     obtain ⟨x13, hx13, hv⟩ := bindS hv
     refine mT R (cB hb10) (mN0 (oIx (f := Gq4.lv) te85 tk31 ts31 R R Gq4.ok hx13 R ⟨R, mT R (cB hb10) (mN0 (oLdA R tk31 ta31 ts31 R R ⟨R, ?_⟩))⟩))
     obtain ⟨r14, hr14, hv⟩ := bindS hv
     refine mT R (cB hb10) (mN0 (oCP (args := [.agg [.I x12.Time, .I x12.Source, .I x12.Seq], .agg [.I x13.Time, .I x13.Source, .I x13.Seq]]) R isF56 R (sbR (sbR sbN)) (q105q hr14) R ⟨R, mT R (cB hb10) (mN0 (oGt R R ⟨R, mN0 (oPkT (cB hb10) (v := (.bool _)) R ⟨R, ?_⟩)⟩))⟩))
     obtain rfl := oI hv
     exact zM
    ·replace hb10 := bF hb10
     replace hv := iteF hv hb10
     refine mF R R hb10 (mF R R hb10 (mF R R hb10 (mF R R hb10 (mF R R hb10 (mF R R hb10 (mF R R hb10 (mF R R hb10 (mF R R hb10 (mF R R hb10 (mF R R hb10 (mF R R hb10 (mF R R hb10 (mF R R hb10 (mN0 (oPkF (cB hb10) (v := (.bool _)) R ⟨R, ?_⟩)))))))))))))))
     obtain rfl := oI hv
     exact zM
   clear hv
   refine LH.cond (t := w9) R (fun hc15 => ?_) (fun hc15 => ?_)
   ·replace h := iteT h hc15
    refine LH.skip (thenN (LH.wk (Wk.eq (el := [(0, .lst 3 (List.map Gq4.lv p0)), (1, .L p1), (6, .L l2), (7, .I n3), (8, .I n7)]) (ml := []) R R R R) (LH.block (LH.loneT [(0, .lst 3 (List.map Gq4.lv p0)), (1, .L p1), (6, .L l2), (7, .I n3), (8, .I (i64 (n7 - 1)))] [] R (sMi R (sN (oSub R R (sAi R zS)))) (blockN ?_)))))
    exact roundI ⟨(i64 (n7 - 1)), hrec2 ▸ h, R, R⟩ (Wk.eq R R R R)
   replace h := iteF h hc15
   refine LH.exit (thenX (roundX (blockH (thenN (LH.seqT [(0, .lst 3 (List.map Gq4.lv p0)), (1, .L p1), (6, .L l2), (7, .I n3), (8, .I n7), (9, .nil)] [] R (sAn R zS) ?_)))))
   obtain ⟨v16, hv16, h⟩ := bindS h
   obtain ⟨v17, hv17, h⟩ := bindS h
   refine LH.seqT [(0, .lst 3 (List.map Gq4.lv p0)), (1, .L p1), (6, .L l2), (7, .I n3), (8, .I n7), (9, .arr 152 (List.length v17))] [(152, .arr 3 1 (List.map LV.I v17))] R (sMn R (sMl R (sMi R (sN (oSl (f := LV.I) te22 tk3 ts3 R R R hv16 (sN (oApN (f := LV.I) (id := 152) R te22 tr3 ts3 R R hv17 R (sAa R zS)))))))) ?_
   obtain ⟨v18, hv18, h⟩ := bindS h
   refine LH.seqT [(0, .lst 3 (List.map Gq4.lv p0)), (1, .L p1), (6, .L l2), (7, .I n3), (8, .I n7), (9, .arr 152 (List.length v18))] [(152, .arr 3 1 (List.map LV.I v18))] R (sMa R (sMi R (sN (oBS (f := LV.I) (ys := [n3]) te22 tr3 ts3 R R R okI (sN (oAp (f := LV.I) te22 tr3 ts3 R R (prN R) R hv18 (sAa R zS))))))) ?_
   obtain ⟨v19, hv19, h⟩ := bindS h
   obtain ⟨v20, hv20, h⟩ := bindS h
   refine LH.seqT [(0, .lst 3 (List.map Gq4.lv p0)), (1, .L p1), (7, .I n3), (9, .L v20)] [] R (sMa R (sMl R (sMi R (sN (oSl (f := LV.I) te22 tk3 ts3 R R R hv19 (sN (oAp (f := LV.I) te22 tr3 ts3 R R (prN R) R hv20 (sAa R (s0 ((Wk.trans (Wk.eq (el := [(0, .lst 3 (List.map Gq4.lv p0)), (1, .L p1), (7, .I n3), (9, .arr 152 (List.length v20))]) (ml := [(152, .arr 3 1 (List.map LV.I v20))]) R R R R) (Wk.trans (Wk.frzL (f := LV.I) (el' := [(0, .lst 3 (List.map Gq4.lv p0)), (1, .L p1), (7, .I n3), (9, .L v20)]) 152 3 1 v20 R R (prN R) (fK R (fK R (fK R (fZ fN))))) (Wk.eq R R R R))))))))))))) (LH.loneT [(0, .lst 3 (List.map Gq4.lv p0)), (1, .L p1), (6, .L v20), (7, .I n3)] [] R (sMl R (sAl R zS)) (blockN (thenN (LH.loneT [(0, .lst 3 (List.map Gq4.lv p0)), (1, .L p1), (6, .L v20), (7, .I (i64 (n3 + 1)))] [] R (sMi R (sN (oAdd R R (sAi R zS)))) ?_))))
   exact roundI ⟨v20, (i64 (n3 + 1)), hrec1 ▸ h, R, R⟩ (Wk.eq R R R R)
  replace h := iteF h hc4
  refine LH.exit (thenX (roundX (blockH (thenN (LH.wk (Wk.eq (el := [(6, .L l2)]) (ml := []) R R R R) (LH.seq (LH.seqT [(6, .L l2), (65, .bool (decide ((l2.length : Int) > 300)))] [] R (sMl R (sN (oLnL (f := LV.I) te22 R (sN (oGt R R zS))))) (LH.cond (t := (decide ((l2.length : Int) > 300))) R (fun hc21 => ?_) (fun hc21 => ?_)))))))))
  ·replace h := iteT h hc21
   refine LH.seqT [(4, .nil), (5, .I 3)] [] R (sAn R (sAi R zS)) (LH.ret (thenR ?_))
   obtain rfl := oI h
   exact retE (aT Try.results35) (lrT R (lrT R (lr0 ⟨memN mN, R, prK R, (Sub.tup (sbL (sbR sbN)))⟩)))
  replace h := iteF h hc21
  refine LH.skip (thenN (LH.seqT [(4, .L l2), (5, .I 0)] [] R (sMl R (sAl R (sAi R zS))) (LH.ret ?_)))
  obtain rfl := oI h
  exact retE (aT Try.results35) (lrT R (lrT R (lr0 ⟨memN mN, R, prK R, (Sub.tup (sbR (sbR sbN)))⟩)))

theorem q100q {F : Nat} {p0 : List Gq0} {r : List Gq0 × Int} (h : q74q F p0 = some r) : LCall Try.prog 11 [.lst 12 (List.map Gq0.lv p0)] (Mem.of []) (.tup [.lst 12 (List.map Gq0.lv r.1), .I r.2]) (Mem.of []) := by
  unfold q74q at h
  refine bodyT Try.func11 R (nT Try.ntmps11 R) (LH.wk (Wk.eq (el := [(0, .lst 12 (List.map Gq0.lv p0))]) (ml := []) R R R R) (LH.seqT [(0, .lst 12 (List.map Gq0.lv p0))] [] R (sAn R (sAi R zS)) (LH.seqT [(0, .lst 12 (List.map Gq0.lv p0)), (4, .nil)] [] R (sAn R zS) (LH.seqT [(0, .lst 12 (List.map Gq0.lv p0)), (4, .nil), (5, .nil)] [] R (sAn R zS) (LH.seq (LH.seqT [(0, .lst 12 (List.map Gq0.lv p0)), (4, .nil), (5, .nil), (6, .I 0)] [] R (sAi R zS) (LH.block (LH.wk ((Wk.trans (Wk.eq (el := [(0, .lst 12 (List.map Gq0.lv p0)), (4, .nil), (5, .nil), (6, .I 0)]) (ml := []) R R R R) (Wk.trans (Wk.eq (el := [(0, .lst 12 (List.map Gq0.lv p0)), (4, .nil), (5, .nil), (6, .I 0)]) (ml := []) R R R R) (Wk.trans (Wk.ownL (el' := [(0, .lst 12 (List.map Gq0.lv p0)), (4, .arr 143 (List.length ([] : List Gq4))), (5, .nil), (6, .I 0)]) 143 31 3 R R (wK (wO (wK (wK wN))))) (Wk.trans (Wk.eq (el := [(0, .lst 12 (List.map Gq0.lv p0)), (4, .arr 143 (List.length ([] : List Gq4))), (5, .nil), (6, .I 0)]) (ml := [(143, .arr 31 3 (List.map Gq4.lv ([] : List Gq4)))]) R R R R) (Wk.trans (Wk.ownL (el' := [(0, .lst 12 (List.map Gq0.lv p0)), (4, .arr 143 (List.length ([] : List Gq4))), (5, .arr 147 (List.length ([] : List Int))), (6, .I 0)]) 147 3 1 R R (wK (wK (wO (wK wN))))) (Wk.eq (el := [(0, .lst 12 (List.map Gq0.lv p0)), (4, .arr 143 (List.length ([] : List Gq4))), (5, .arr 147 (List.length ([] : List Int))), (6, .I 0)]) (ml := [(143, .arr 31 3 (List.map Gq4.lv ([] : List Gq4))), (147, .arr 3 1 (List.map LV.I ([] : List Int)))]) R R R R))))))) (LH.loop (fun n e m => ∃ (n1 : Int) (l2 : List Gq4) (l3 : List Int), q15q F p0 n n1 l2 l3 = some r ∧ e = Env.of [(0, .lst 12 (List.map Gq0.lv p0)), (4, .arr 143 (List.length l2)), (5, .arr 147 (List.length l3)), (6, .I n1)] ∧ m = Mem.of [(143, .arr 31 3 (List.map Gq4.lv l2)), (147, .arr 3 1 (List.map LV.I l3))]) F ⟨0, ([] : List Gq4), ([] : List Int), h, R, R⟩ ?_)))))))))
  clear h
  rintro n e m ⟨n1, l2, l3, h, rfl, rfl⟩
  rcases n with _ | n
  · cases (show Option.none = some _ from h)
  obtain ⟨rec1, hrec1⟩ : ∃ f, f = q15q F p0 n := ⟨_, rfl⟩
  replace h : q33q F p0 rec1 n1 l2 l3 = some r := hrec1 ▸ h
  unfold q33q at h
  refine LH.seq (LH.seqT [(0, .lst 12 (List.map Gq0.lv p0)), (4, .arr 143 (List.length l2)), (5, .arr 147 (List.length l3)), (6, .I n1), (16, .bool (decide (n1 < (p0.length : Int))))] [(143, .arr 31 3 (List.map Gq4.lv l2)), (147, .arr 3 1 (List.map LV.I l3))] R (sMi R (sMl R (sN (oLnL (f := Gq0.lv) te25 R (sN (oLt R R zS)))))) (LH.cond (t := (decide (n1 < (p0.length : Int)))) R (fun hc4 => ?_) (fun hc4 => ?_)))
  ·replace h := iteT h hc4
   refine LH.skip (thenN (LH.wk (Wk.eq (el := [(0, .lst 12 (List.map Gq0.lv p0)), (4, .arr 143 (List.length l2)), (5, .arr 147 (List.length l3)), (6, .I n1)]) (ml := [(143, .arr 31 3 (List.map Gq4.lv l2)), (147, .arr 3 1 (List.map LV.I l3))]) R R R R) (LH.seq (LH.block (LH.seqT [(0, .lst 12 (List.map Gq0.lv p0)), (4, .arr 143 (List.length l2)), (5, .arr 147 (List.length l3)), (6, .I n1), (7, .I n1)] [(143, .arr 31 3 (List.map Gq4.lv l2)), (147, .arr 3 1 (List.map LV.I l3))] R (sMi R (sAi R zS)) (LH.seq (LH.seqT [(0, .lst 12 (List.map Gq0.lv p0)), (4, .arr 143 (List.length l2)), (5, .arr 147 (List.length l3)), (6, .I n1), (7, .I n1), (8, .I (i64 (n1 - 1)))] [(143, .arr 31 3 (List.map Gq4.lv l2)), (147, .arr 3 1 (List.map LV.I l3))] R (sMi R (sN (oSub R R (sAi R zS)))) (LH.block (LH.loop (fun n e m => ∃ (n5 : Int) (n6 : Int), q20q rec1 F p0 n1 l2 l3 n n5 n6 = some r ∧ e = Env.of [(0, .lst 12 (List.map Gq0.lv p0)), (4, .arr 143 (List.length l2)), (5, .arr 147 (List.length l3)), (6, .I n1), (7, .I n5), (8, .I n6)] ∧ m = Mem.of [(143, .arr 31 3 (List.map Gq4.lv l2)), (147, .arr 3 1 (List.map LV.I l3))]) F ⟨n1, (i64 (n1 - 1)), h, R, R⟩ ?_)))))))))
   clear h
   rintro n e m ⟨n5, n6, h, rfl, rfl⟩
   rcases n with _ | n
   · cases (show Option.none = some _ from h)
   obtain ⟨rec2, hrec2⟩ : ∃ f, f = q20q rec1 F p0 n1 l2 l3 n := ⟨_, rfl⟩
   replace h : q34q rec1 F p0 n1 l2 l3 rec2 n5 n6 = some r := hrec2 ▸ h
   unfold q34q at h
   refine LH.seq (LH.seqT [(0, .lst 12 (List.map Gq0.lv p0)), (4, .arr 143 (List.length l2)), (5, .arr 147 (List.length l3)), (6, .I n1), (7, .I n5), (8, .I n6), (23, .bool (decide (n6 ≥ 0)))] [(143, .arr 31 3 (List.map Gq4.lv l2)), (147, .arr 3 1 (List.map LV.I l3))] R (sMi R (sN (oGe R R zS))) (LH.cond (t := (decide (n6 ≥ 0))) R (fun hc7 => ?_) (fun hc7 => ?_)))
   ·replace h := iteT h hc7
    refine LH.skip (thenN (LH.wk (Wk.eq (el := [(0, .lst 12 (List.map Gq0.lv p0)), (4, .arr 143 (List.length l2)), (5, .arr 147 (List.length l3)), (6, .I n1), (7, .I n5), (8, .I n6)]) (ml := [(143, .arr 31 3 (List.map Gq4.lv l2)), (147, .arr 3 1 (List.map LV.I l3))]) R R R R) (LH.seq (LH.block ?_))))
    obtain ⟨x8, hx8, h⟩ := bindS h
    obtain ⟨x9, hx9, h⟩ := bindS h
    obtain ⟨r10, hr10, h⟩ := bindS h
    refine LH.seqJM mixed [] [0, 0, 0, 0, 0, 0, 0, 0, 0] [(0, .lst 12 (List.map Gq0.lv p0)), (4, .arr 143 (List.length l2)), (5, .arr 147 (List.length l3)), (6, .I n1), (7, .I n5), (8, .I n6), (34, .bool r10)] [(143, .arr 31 3 (List.map Gq4.lv l2)), (147, .arr 3 1 (List.map LV.I l3))] R R (by kernel_rfl) (mMl R (mMi R (mN0 (oIx (f := Gq0.lv) te25 tk38 ts38 R R Gq0.ok hx8 R ⟨R, mN0 (oLdA R tk38 ta38 ts38 R R ⟨R, mMl R (mMi R (mN0 (oIx (f := Gq0.lv) te25 tk38 ts38 R R Gq0.ok hx9 R ⟨R, mN0 (oLdA R tk38 ta38 ts38 R R ⟨R, mN0 (oCP (args := [.agg [.I x8.Stamp.Time, .I x8.Stamp.Source, .I x8.Stamp.Seq, .I x8.Kind, .I x8.Item.ID, .I x8.Item.Version, .str x8.Item.Stem, .lst 6 (List.map GPart.lv x8.Item.Parts), .L x8.Item.Enemies, .I x8.Ref.ID, .I x8.Ref.Version, .I x8.Form], .agg [.I x9.Stamp.Time, .I x9.Stamp.Source, .I x9.Stamp.Seq, .I x9.Kind, .I x9.Item.ID, .I x9.Item.Version, .str x9.Item.Stem, .lst 6 (List.map GPart.lv x9.Item.Parts), .L x9.Item.Enemies, .I x9.Ref.ID, .I x9.Ref.Version, .I x9.Form]]) R isF14 R (sbR (sbR sbN)) (q91q hr10) R ⟨R, zM⟩)⟩)⟩)))⟩)⟩)))) (LH.cond (t := r10) R (fun hc11 => ?_) (fun hc11 => ?_))
    ·replace h := iteT h hc11
     refine LH.loneT [(0, .lst 12 (List.map Gq0.lv p0)), (4, .arr 143 (List.length l2)), (5, .arr 147 (List.length l3)), (6, .I n1), (7, .I n6), (8, .I n6)] [(143, .arr 31 3 (List.map Gq4.lv l2)), (147, .arr 3 1 (List.map LV.I l3))] R (sMi R (sAi R zS)) (blockN (thenN (LH.loneT [(0, .lst 12 (List.map Gq0.lv p0)), (4, .arr 143 (List.length l2)), (5, .arr 147 (List.length l3)), (6, .I n1), (7, .I n6), (8, .I (i64 (n6 - 1)))] [(143, .arr 31 3 (List.map Gq4.lv l2)), (147, .arr 3 1 (List.map LV.I l3))] R (sMi R (sN (oSub R R (sAi R zS)))) ?_)))
     exact roundI ⟨n6, (i64 (n6 - 1)), hrec2 ▸ h, R, R⟩ (Wk.eq R R R R)
    replace h := iteF h hc11
    refine LH.skip (blockN (thenN (LH.loneT [(0, .lst 12 (List.map Gq0.lv p0)), (4, .arr 143 (List.length l2)), (5, .arr 147 (List.length l3)), (6, .I n1), (7, .I n5), (8, .I (i64 (n6 - 1)))] [(143, .arr 31 3 (List.map Gq4.lv l2)), (147, .arr 3 1 (List.map LV.I l3))] R (sMi R (sN (oSub R R (sAi R zS)))) ?_)))
    exact roundI ⟨n5, (i64 (n6 - 1)), hrec2 ▸ h, R, R⟩ (Wk.eq R R R R)
   replace h := iteF h hc7
   refine LH.exit (thenX (roundX (blockH (thenN ?_))))
   obtain ⟨x12, hx12, h⟩ := bindS h
   obtain ⟨v13, hv13, h⟩ := bindS h
   obtain ⟨v14, hv14, h⟩ := bindS h
   refine LH.loneT [(0, .lst 12 (List.map Gq0.lv p0)), (4, .arr 143 (List.length v13)), (5, .arr 147 (List.length v14)), (6, .I n1)] [(143, .arr 31 3 (List.map Gq4.lv v13)), (147, .arr 3 1 (List.map LV.I v14))] R ?_ ?_
   ·exact sMa R (sMl R (sMi R (sN (oIx (f := Gq0.lv) te25 tk38 ts38 R R Gq0.ok hx12 R (sN (oFaS tf38_0 tk31 ts31 R R R (sN (oLdA R tk31 ta31 ts31 R R (sN (oBS (f := Gq4.lv) (ys := [x12.Stamp]) te85 tr31 ts31 R R R Gq4.ok (sN (oAp (f := Gq4.lv) te85 tr31 ts31 R R (prN R) R hv13 (sMa R (sMi R (sN (oBS (f := LV.I) (ys := [n5]) te22 tr3 ts3 R R R okI (sN (oAp (f := LV.I) te22 tr3 ts3 R R (prN R) R hv14 (sAa R (sAa R zS))))))))))))))))))))
   refine blockN (thenN (LH.loneT [(0, .lst 12 (List.map Gq0.lv p0)), (4, .arr 143 (List.length v13)), (5, .arr 147 (List.length v14)), (6, .I (i64 (n1 + 1)))] [(143, .arr 31 3 (List.map Gq4.lv v13)), (147, .arr 3 1 (List.map LV.I v14))] R (sMi R (sN (oAdd R R (sAi R zS)))) ?_))
   exact roundI ⟨(i64 (n1 + 1)), v13, v14, hrec1 ▸ h, R, R⟩ (Wk.eq R R R R)
  replace h := iteF h hc4
  refine LH.exit (thenX (roundX (blockH (thenN (LH.wk ((Wk.trans (Wk.eq (el := [(0, .lst 12 (List.map Gq0.lv p0)), (4, .arr 143 (List.length l2)), (5, .arr 147 (List.length l3))]) (ml := [(143, .arr 31 3 (List.map Gq4.lv l2)), (147, .arr 3 1 (List.map LV.I l3))]) R R R R) (Wk.trans (Wk.frzL (f := Gq4.lv) (el' := [(0, .lst 12 (List.map Gq0.lv p0)), (4, .lst 3 (List.map Gq4.lv l2)), (5, .arr 147 (List.length l3))]) 143 31 3 l2 R R (prN R) (fK R (fZ (fK R fN)))) (Wk.trans (Wk.frzL (f := LV.I) (el' := [(0, .lst 12 (List.map Gq0.lv p0)), (4, .lst 3 (List.map Gq4.lv l2)), (5, .L l3)]) 147 3 1 l3 R R (prN R) (fK R (fK R (fZ fN)))) (Wk.eq (el := [(0, .lst 12 (List.map Gq0.lv p0)), (4, .lst 3 (List.map Gq4.lv l2)), (5, .L l3)]) (ml := []) R R R R))))) ?_)))))
  obtain ⟨r15, hr15, h⟩ := bindS h
  refine LH.seqT [(0, .lst 12 (List.map Gq0.lv p0)), (9, .L r15.1), (10, .I r15.2)] [] R (sMl R (sMl R (sN (oCP (args := [.lst 3 (List.map Gq4.lv l2), .L l3]) R isF35 R (sbR (sbR sbN)) (q99q hr15) R (sMt R (sN (oEx R R (sN (oEx R R (sAl R (sAi R zS))))))))))) (LH.seq (LH.seqT [(0, .lst 12 (List.map Gq0.lv p0)), (9, .L r15.1), (10, .I r15.2), (55, .bool (r15.2 != 0))] [] R (sMi R (sN (oNe R R zS))) (LH.cond (t := (r15.2 != 0)) R (fun hc16 => ?_) (fun hc16 => ?_))))
  ·replace h := iteT h hc16
   refine LH.seqT [(2, .nil), (3, .I r15.2)] [] R (sMi R (sAn R (sAi R zS))) (LH.ret (thenR ?_))
   obtain rfl := oI h
   exact retE (aT Try.results11) (lrT R (lrT R (lr0 ⟨memN mN, R, prK R, (Sub.tup (sbL (sbR sbN)))⟩)))
  replace h := iteF h hc16
  refine LH.skip (thenN (LH.seqT [(0, .lst 12 (List.map Gq0.lv p0)), (9, .L r15.1), (11, .nil)] [] R (sAn R zS) (LH.seq (LH.seqT [(0, .lst 12 (List.map Gq0.lv p0)), (9, .L r15.1), (11, .nil), (12, .I 0)] [] R (sAi R zS) (LH.block (LH.wk ((Wk.trans (Wk.eq (el := [(0, .lst 12 (List.map Gq0.lv p0)), (9, .L r15.1), (11, .nil), (12, .I 0)]) (ml := []) R R R R) (Wk.trans (Wk.eq (el := [(0, .lst 12 (List.map Gq0.lv p0)), (9, .L r15.1), (11, .nil), (12, .I 0)]) (ml := []) R R R R) (Wk.trans (Wk.ownL (el' := [(0, .lst 12 (List.map Gq0.lv p0)), (9, .L r15.1), (11, .arr 172 (List.length ([] : List Gq0))), (12, .I 0)]) 172 38 12 R R (wK (wK (wO (wK wN))))) (Wk.eq (el := [(0, .lst 12 (List.map Gq0.lv p0)), (9, .L r15.1), (11, .arr 172 (List.length ([] : List Gq0))), (12, .I 0)]) (ml := [(172, .arr 38 12 (List.map Gq0.lv ([] : List Gq0)))]) R R R R))))) (LH.loop (fun n e m => ∃ (n17 : Int) (l18 : List Gq0), q21q p0 r15 n n17 l18 = some r ∧ e = Env.of [(0, .lst 12 (List.map Gq0.lv p0)), (9, .L r15.1), (11, .arr 172 (List.length l18)), (12, .I n17)] ∧ m = Mem.of [(172, .arr 38 12 (List.map Gq0.lv l18))]) F ⟨0, ([] : List Gq0), h, R, R⟩ ?_)))))))
  clear h
  rintro n e m ⟨n17, l18, h, rfl, rfl⟩
  rcases n with _ | n
  · cases (show Option.none = some _ from h)
  obtain ⟨rec3, hrec3⟩ : ∃ f, f = q21q p0 r15 n := ⟨_, rfl⟩
  replace h : q35q p0 r15 rec3 n17 l18 = some r := hrec3 ▸ h
  unfold q35q at h
  refine LH.seq (LH.seqT [(0, .lst 12 (List.map Gq0.lv p0)), (9, .L r15.1), (11, .arr 172 (List.length l18)), (12, .I n17), (60, .bool (decide (n17 < (r15.1.length : Int))))] [(172, .arr 38 12 (List.map Gq0.lv l18))] R (sMi R (sMl R (sN (oLnL (f := LV.I) te22 R (sN (oLt R R zS)))))) (LH.cond (t := (decide (n17 < (r15.1.length : Int)))) R (fun hc19 => ?_) (fun hc19 => ?_)))
  ·replace h := iteT h hc19
   refine LH.skip (thenN (LH.wk (Wk.eq (el := [(0, .lst 12 (List.map Gq0.lv p0)), (9, .L r15.1), (11, .arr 172 (List.length l18)), (12, .I n17)]) (ml := [(172, .arr 38 12 (List.map Gq0.lv l18))]) R R R R) (LH.seq (LH.block ?_))))
   obtain ⟨x20, hx20, h⟩ := bindS h
   obtain ⟨x21, hx21, h⟩ := bindS h
   obtain ⟨v22, hv22, h⟩ := bindS h
   refine LH.loneT [(0, .lst 12 (List.map Gq0.lv p0)), (9, .L r15.1), (11, .arr 172 (List.length v22)), (12, .I n17)] [(172, .arr 38 12 (List.map Gq0.lv v22))] R (sMa R (sMl R (sMl R (sMi R (sN (oIx (f := LV.I) te22 tk3 ts3 R R okI hx20 R (sN (oLd R tk3 ta3 (sN (oIx (f := Gq0.lv) te25 tk38 ts38 R R Gq0.ok hx21 R (sN (oLdA R tk38 ta38 ts38 R R (sN (oBS (f := Gq0.lv) (ys := [x21]) te25 tr38 ts38 R R R Gq0.ok (sN (oAp (f := Gq0.lv) te25 tr38 ts38 R R (prN R) R hv22 (sAa R zS))))))))))))))))) (blockN (thenN (LH.loneT [(0, .lst 12 (List.map Gq0.lv p0)), (9, .L r15.1), (11, .arr 172 (List.length v22)), (12, .I (i64 (n17 + 1)))] [(172, .arr 38 12 (List.map Gq0.lv v22))] R (sMi R (sN (oAdd R R (sAi R zS)))) ?_)))
   exact roundI ⟨(i64 (n17 + 1)), v22, hrec3 ▸ h, R, R⟩ (Wk.eq R R R R)
  replace h := iteF h hc19
  refine LH.exit (thenX (roundX (blockH (thenN (LH.wk ((Wk.trans (Wk.eq (el := [(11, .arr 172 (List.length l18))]) (ml := [(172, .arr 38 12 (List.map Gq0.lv l18))]) R R R R) (Wk.trans (Wk.frzL (f := Gq0.lv) (el' := [(11, .lst 12 (List.map Gq0.lv l18))]) 172 38 12 l18 R R (prN R) (fZ fN)) (Wk.eq (el := [(11, .lst 12 (List.map Gq0.lv l18))]) (ml := []) R R R R)))) (LH.seqT [(2, .lst 12 (List.map Gq0.lv l18)), (3, .I 0)] [] R (sMl R (sAl R (sAi R zS))) (LH.ret ?_)))))))
  obtain rfl := oI h
  exact retE (aT Try.results11) (lrT R (lrT R (lr0 ⟨memN mN, R, prK R, (Sub.tup (sbR (sbR sbN)))⟩)))

theorem q107q {F : Nat} {p0 : List Gq0} {p1 : List Gq0} {r : Bool} (h : q75q F p0 p1 = some r) : LCall Try.prog 15 [.lst 12 (List.map Gq0.lv p0), .lst 12 (List.map Gq0.lv p1)] (Mem.of []) (.bool r) (Mem.of []) := by
  unfold q75q at h
  refine bodyT Try.func15 R (nT Try.ntmps15 R) (LH.wk (Wk.eq (el := [(0, .lst 12 (List.map Gq0.lv p0)), (1, .lst 12 (List.map Gq0.lv p1))]) (ml := []) R R R R) (LH.seqT [(0, .lst 12 (List.map Gq0.lv p0)), (1, .lst 12 (List.map Gq0.lv p1))] [] R (sAb R zS) (LH.seq (LH.seqT [(0, .lst 12 (List.map Gq0.lv p0)), (1, .lst 12 (List.map Gq0.lv p1)), (10, .bool ((p0.length : Int) != (p1.length : Int)))] [] R (sMl R (sN (oLnL (f := Gq0.lv) te25 R (sMl R (sN (oLnL (f := Gq0.lv) te25 R (sN (oNe R R zS)))))))) (LH.cond (t := ((p0.length : Int) != (p1.length : Int))) R (fun hc1 => ?_) (fun hc1 => ?_))))))
  ·replace h := iteT h hc1
   refine LH.seqT [(4, .bool false)] [] R (sAb R zS) (LH.ret (thenR ?_))
   obtain rfl := oI h
   exact retE (aT Try.results15) (lrT R (lr0 ⟨memN mN, R, prK R, Sub.rfl⟩))
  replace h := iteF h hc1
  refine LH.skip (thenN (LH.wk (Wk.eq (el := [(0, .lst 12 (List.map Gq0.lv p0)), (1, .lst 12 (List.map Gq0.lv p1))]) (ml := []) R R R R) (LH.seq (LH.seqT [(0, .lst 12 (List.map Gq0.lv p0)), (1, .lst 12 (List.map Gq0.lv p1)), (5, .I 0)] [] R (sAi R zS) (LH.block (LH.loop (fun n e m => ∃ (n2 : Int), q44q F p0 p1 n n2 = some r ∧ e = Env.of [(0, .lst 12 (List.map Gq0.lv p0)), (1, .lst 12 (List.map Gq0.lv p1)), (5, .I n2)] ∧ m = Mem.of []) F ⟨0, h, R, R⟩ ?_))))))
  clear h
  rintro n e m ⟨n2, h, rfl, rfl⟩
  rcases n with _ | n
  · cases (show Option.none = some _ from h)
  obtain ⟨rec1, hrec1⟩ : ∃ f, f = q44q F p0 p1 n := ⟨_, rfl⟩
  replace h : q50q F p0 p1 rec1 n2 = some r := hrec1 ▸ h
  unfold q50q at h
  refine LH.seq (LH.seqT [(0, .lst 12 (List.map Gq0.lv p0)), (1, .lst 12 (List.map Gq0.lv p1)), (5, .I n2), (14, .bool (decide (n2 < (p0.length : Int))))] [] R (sMi R (sMl R (sN (oLnL (f := Gq0.lv) te25 R (sN (oLt R R zS)))))) (LH.cond (t := (decide (n2 < (p0.length : Int)))) R (fun hc3 => ?_) (fun hc3 => ?_)))
  ·replace h := iteT h hc3
   refine LH.skip (thenN (LH.wk (Wk.eq (el := [(0, .lst 12 (List.map Gq0.lv p0)), (1, .lst 12 (List.map Gq0.lv p1)), (5, .I n2)]) (ml := []) R R R R) (LH.seq (LH.block ?_))))
   obtain ⟨x4, hx4, h⟩ := bindS h
   obtain ⟨x5, hx5, h⟩ := bindS h
   obtain ⟨r6, hr6, h⟩ := bindS h
   refine LH.seqJM mixed [] [0, 0, 0, 0, 0, 0, 0, 0, 0, 0] [(0, .lst 12 (List.map Gq0.lv p0)), (1, .lst 12 (List.map Gq0.lv p1)), (5, .I n2), (26, .bool (!r6))] [] R R (by kernel_rfl) (mMl R (mMi R (mN0 (oIx (f := Gq0.lv) te25 tk38 ts38 R R Gq0.ok hx4 R ⟨R, mN0 (oLdA R tk38 ta38 ts38 R R ⟨R, mMl R (mMi R (mN0 (oIx (f := Gq0.lv) te25 tk38 ts38 R R Gq0.ok hx5 R ⟨R, mN0 (oLdA R tk38 ta38 ts38 R R ⟨R, mN0 (oCP (args := [.agg [.I x4.Stamp.Time, .I x4.Stamp.Source, .I x4.Stamp.Seq, .I x4.Kind, .I x4.Item.ID, .I x4.Item.Version, .str x4.Item.Stem, .lst 6 (List.map GPart.lv x4.Item.Parts), .L x4.Item.Enemies, .I x4.Ref.ID, .I x4.Ref.Version, .I x4.Form], .agg [.I x5.Stamp.Time, .I x5.Stamp.Source, .I x5.Stamp.Seq, .I x5.Kind, .I x5.Item.ID, .I x5.Item.Version, .str x5.Item.Stem, .lst 6 (List.map GPart.lv x5.Item.Parts), .L x5.Item.Enemies, .I x5.Ref.ID, .I x5.Ref.Version, .I x5.Form]]) R isF14 R (sbR (sbR sbN)) (q91q hr6) R ⟨R, mN0 (oNot R ⟨R, zM⟩)⟩)⟩)⟩)))⟩)⟩)))) (LH.cond (t := (!r6)) R (fun hc7 => ?_) (fun hc7 => ?_))
   ·replace h := iteT h hc7
    refine LH.seqT [(4, .bool false)] [] R (sAb R zS) (LH.ret (blockR (thenR (roundR (blockR (thenR ?_))))))
    obtain rfl := oI h
    exact retE (aT Try.results15) (lrT R (lr0 ⟨memN mN, R, prK R, Sub.rfl⟩))
   replace h := iteF h hc7
   refine LH.skip (blockN (thenN (LH.loneT [(0, .lst 12 (List.map Gq0.lv p0)), (1, .lst 12 (List.map Gq0.lv p1)), (5, .I (i64 (n2 + 1)))] [] R (sMi R (sN (oAdd R R (sAi R zS)))) ?_)))
   exact roundI ⟨(i64 (n2 + 1)), hrec1 ▸ h, R, R⟩ (Wk.eq R R R R)
  replace h := iteF h hc3
  refine LH.exit (thenX (roundX (blockH (thenN (LH.seqT [(4, .bool true)] [] R (sAb R zS) (LH.ret ?_))))))
  obtain rfl := oI h
  exact retE (aT Try.results15) (lrT R (lr0 ⟨memN mN, R, prK R, Sub.rfl⟩))

theorem q94q {F : Nat} {p0 : List Int} {r : Bool} (h : q55q F p0 = some r) : LCall Try.prog 3 [.L p0] (Mem.of []) (.bool r) (Mem.of []) := by
  unfold q55q at h
  refine bodyT Try.func3 R (nT Try.ntmps3 R) (LH.wk (Wk.eq (el := [(0, .L p0)]) (ml := []) R R R R) (LH.seqT [(0, .L p0)] [] R (sAb R zS) ?_))
  obtain ⟨r1, hr1, h⟩ := bindS h
  refine LH.seqT [(3, .ptr 7 0)] [(7, .box [.L r1.L, .I r1.At])] R (sMl R (sN (oCM (args := [.L p0]) (ml := []) (ml' := [(7, .box [.L r1.L, .I r1.At])]) R isF8 R (sbR sbN) (q120q hr1) mN (newF R newN) R (sAp R zS)))) ?_
  obtain ⟨r2, hr2, h⟩ := bindS h
  refine LH.seqT [(3, .ptr 7 0), (4, .lst 12 (List.map Gq0.lv r2.1))] [(7, .box [.L r2.2.L, .I r2.2.At])] R (sMp R (sN (oCM (args := [.ptr 7 0, .I 12, .I 4]) (ml := [(7, .box [.L r1.L, .I r1.At])]) (ml' := [(7, .box [.L r2.2.L, .I r2.2.At])]) R isF9 R (sbR (sbR (sbR sbN))) (Gq11 hr2) (mC R mN) (newI R newN) R (sAl R zS)))) ?_
  obtain ⟨r3, hr3, h⟩ := bindS h
  refine LH.seqT [(3, .ptr 7 0), (4, .lst 12 (List.map Gq0.lv r2.1)), (5, .lst 12 (List.map Gq0.lv r3.1)), (6, .I r3.2)] [(7, .box [.L r2.2.L, .I r2.2.At])] R (sMl R (sN (oCP (args := [.lst 12 (List.map Gq0.lv r2.1)]) R isF10 R (sbR sbN) (bank_Canonical_ok hr3) R (sMt R (sN (oEx R R (sN (oEx R R (sAl R (sAi R zS)))))))))) ?_
  obtain ⟨r4, hr4, h⟩ := bindS h
  refine LH.seqT [(3, .ptr 7 0), (4, .lst 12 (List.map Gq0.lv r2.1)), (5, .lst 12 (List.map Gq0.lv r3.1)), (6, .I r3.2), (7, .lst 12 (List.map Gq0.lv r4.1)), (8, .I r4.2)] [(7, .box [.L r2.2.L, .I r2.2.At])] R (sMl R (sN (oCP (args := [.lst 12 (List.map Gq0.lv r2.1)]) R isF11 R (sbR sbN) (q100q hr4) R (sMt R (sN (oEx R R (sN (oEx R R (sAl R (sAi R zS)))))))))) (LH.mid (fun e m => q18q F r3 r4 = some r ∧ Wk (fun id => Mem.of [] id ≠ .none) e m (Env.of [(5, .lst 12 (List.map Gq0.lv r3.1)), (6, .I r3.2), (7, .lst 12 (List.map Gq0.lv r4.1)), (8, .I r4.2)]) (Mem.of [])) ?_ ?_)
  ·refine LH.seqT [(3, .ptr 7 0), (4, .lst 12 (List.map Gq0.lv r2.1)), (5, .lst 12 (List.map Gq0.lv r3.1)), (6, .I r3.2), (7, .lst 12 (List.map Gq0.lv r4.1)), (8, .I r4.2), (27, .bool (decide ((r2.1.length : Int) > 0)))] [(7, .box [.L r2.2.L, .I r2.2.At])] R (sMl R (sN (oLnL (f := Gq0.lv) te25 R (sN (oGt R R zS))))) (LH.cond (t := (decide ((r2.1.length : Int) > 0))) R (fun hc11 => ?_) (fun hc11 => ?_))
   ·replace h := iteT h hc11
    obtain ⟨r12, hr12, h⟩ := bindS h
    obtain ⟨x13, hx13, h⟩ := bindS h
    obtain ⟨r14, hr14, h⟩ := bindS h
    obtain ⟨x15, hx15, h⟩ := bindS h
    refine LH.seqJM mixed [] [0, 0, 0, 0, 100007, 0, 0, 0, 0, 0, 0, 100007, 0, 0, 2, 2, 100109, 100110] [(5, .lst 12 (List.map Gq0.lv r3.1)), (6, .I r3.2), (7, .lst 12 (List.map Gq0.lv r4.1)), (8, .I r4.2), (9, .sptr [.I x13.Stamp.Time, .I x13.Stamp.Source, .I x13.Stamp.Seq, .I x13.Kind, .I x13.Item.ID, .I x13.Item.Version, .str x13.Item.Stem, .lst 6 (List.map GPart.lv x13.Item.Parts), .L x13.Item.Enemies, .I x13.Ref.ID, .I x13.Ref.Version, .I x13.Form]), (10, .sptr [.I x15.Stamp.Time, .I x15.Stamp.Source, .I x15.Stamp.Seq, .I x15.Kind, .I x15.Item.ID, .I x15.Item.Version, .str x15.Item.Stem, .lst 6 (List.map GPart.lv x15.Item.Parts), .L x15.Item.Enemies, .I x15.Ref.ID, .I x15.Ref.Version, .I x15.Form])] [] R R (by kernel_rfl) ?_ ?_
    ·exact mMl R (mMp R (mMl R (mN0 (oLnL (f := Gq0.lv) te25 R ⟨R, mW R R R (fun _ b _ d => oCM (args := [.ptr 7 0, .I (r2.1.length : Int)]) (ml := [(7, .box [.L r2.2.L, .I r2.2.At])]) (ml' := [(7, .box [.L r12.2.L, .I r12.2.At])]) R isF12 R (sbR (sbR sbN)) (Gq19 hr12) (mC b mN) (newI R newN) R d) (mN0 (oIx (f := Gq0.lv) te25 tk38 ts38 R R Gq0.ok hx13 R ⟨R, mN0 (oLdA R tk38 ta38 ts38 R R ⟨R, mMl R (mMp R (mMl R (mN0 (oLnL (f := Gq0.lv) te25 R ⟨R, mW R R R (fun _ b _ d => oCM (args := [.ptr 7 0, .I (r2.1.length : Int)]) (ml := [(7, .box [.L r12.2.L, .I r12.2.At])]) (ml' := [(7, .box [.L r14.2.L, .I r14.2.At])]) R isF12 R (sbR (sbR sbN)) (Gq19 hr14) (mC b mN) (newI R newN) R d) (mN0 (oIx (f := Gq0.lv) te25 tk38 ts38 R R Gq0.ok hx15 R ⟨R, mN0 (oLdA R tk38 ta38 ts38 R R ⟨R, mN2 (oAl (id := 109) R tz38 R R (mN2 (oAl (id := 110) R tz38 R R (mS R R R (fun _ b _ d => oSt R R R tk38 ts38 b R R d) (mS R R R (fun _ b _ d => oSt R R R tk38 ts38 b R R d) (m0 ((Wk.trans (Wk.eq (el := [(5, .lst 12 (List.map Gq0.lv r3.1)), (6, .I r3.2), (7, .lst 12 (List.map Gq0.lv r4.1)), (8, .I r4.2), (9, .ptr 109 0), (10, .ptr 110 0)]) (ml := [(109, .box [.I x13.Stamp.Time, .I x13.Stamp.Source, .I x13.Stamp.Seq, .I x13.Kind, .I x13.Item.ID, .I x13.Item.Version, .str x13.Item.Stem, .lst 6 (List.map GPart.lv x13.Item.Parts), .L x13.Item.Enemies, .I x13.Ref.ID, .I x13.Ref.Version, .I x13.Form]), (110, .box [.I x15.Stamp.Time, .I x15.Stamp.Source, .I x15.Stamp.Seq, .I x15.Kind, .I x15.Item.ID, .I x15.Item.Version, .str x15.Item.Stem, .lst 6 (List.map GPart.lv x15.Item.Parts), .L x15.Item.Enemies, .I x15.Ref.ID, .I x15.Ref.Version, .I x15.Form])]) R R R R) (Wk.trans (Wk.frzB 109 [.I x13.Stamp.Time, .I x13.Stamp.Source, .I x13.Stamp.Seq, .I x13.Kind, .I x13.Item.ID, .I x13.Item.Version, .str x13.Item.Stem, .lst 6 (List.map GPart.lv x13.Item.Parts), .L x13.Item.Enemies, .I x13.Ref.ID, .I x13.Ref.Version, .I x13.Form] R R R (prN R)) (Wk.trans (Wk.frzB 110 [.I x15.Stamp.Time, .I x15.Stamp.Source, .I x15.Stamp.Seq, .I x15.Kind, .I x15.Item.ID, .I x15.Item.Version, .str x15.Item.Stem, .lst 6 (List.map GPart.lv x15.Item.Parts), .L x15.Item.Enemies, .I x15.Ref.ID, .I x15.Ref.Version, .I x15.Form] R R R (prN R)) (Wk.eq R R R R)))))))))))⟩)⟩))⟩))))⟩)⟩))⟩))))
    obtain ⟨w17, hv, h⟩ := bindS h
    refine LH.seqJM mixed [] [0, 0, 0, 0, 0, 0, 0, 0, 0, 0, 0, 0, 0] [(5, .lst 12 (List.map Gq0.lv r3.1)), (6, .I r3.2), (7, .lst 12 (List.map Gq0.lv r4.1)), (8, .I r4.2), (54, .bool w17)] [] R R (by kernel_rfl) ?_ ?_
    ·refine mN0 (oLdA R tk38 ta38 ts38 R R ⟨R, mN0 (oLdA R tk38 ta38 ts38 R R ⟨R, ?_⟩)⟩)
     obtain ⟨r18, hr18, hv⟩ := bindS hv
     refine mN0 (oCP (args := [.agg [.I x13.Stamp.Time, .I x13.Stamp.Source, .I x13.Stamp.Seq, .I x13.Kind, .I x13.Item.ID, .I x13.Item.Version, .str x13.Item.Stem, .lst 6 (List.map GPart.lv x13.Item.Parts), .L x13.Item.Enemies, .I x13.Ref.ID, .I x13.Ref.Version, .I x13.Form], .agg [.I x15.Stamp.Time, .I x15.Stamp.Source, .I x15.Stamp.Seq, .I x15.Kind, .I x15.Item.ID, .I x15.Item.Version, .str x15.Item.Stem, .lst 6 (List.map GPart.lv x15.Item.Parts), .L x15.Item.Enemies, .I x15.Ref.ID, .I x15.Ref.Version, .I x15.Form]]) R isF13 R (sbR (sbR sbN)) (bank_Same_ok hr18) R ⟨R, mN0 (oLdA R tk38 ta38 ts38 R R ⟨R, mN0 (oLdA R tk38 ta38 ts38 R R ⟨R, ?_⟩)⟩)⟩)
     obtain ⟨r19, hr19, hv⟩ := bindS hv
     refine mN0 (oCP (args := [.agg [.I x13.Stamp.Time, .I x13.Stamp.Source, .I x13.Stamp.Seq, .I x13.Kind, .I x13.Item.ID, .I x13.Item.Version, .str x13.Item.Stem, .lst 6 (List.map GPart.lv x13.Item.Parts), .L x13.Item.Enemies, .I x13.Ref.ID, .I x13.Ref.Version, .I x13.Form], .agg [.I x15.Stamp.Time, .I x15.Stamp.Source, .I x15.Stamp.Seq, .I x15.Kind, .I x15.Item.ID, .I x15.Item.Version, .str x15.Item.Stem, .lst 6 (List.map GPart.lv x15.Item.Parts), .L x15.Item.Enemies, .I x15.Ref.ID, .I x15.Ref.Version, .I x15.Form]]) R isF14 R (sbR (sbR sbN)) (q91q hr19) R ⟨R, mN0 (oNeB R R tb4 ⟨R, mMb R ?_⟩)⟩)
     by_cases hb20 : (!(r18 == r19)) = true
     ·replace hv := iteT hv hb20
      refine mF R R hb20 (mF R R hb20 (mF R R hb20 (mF R R hb20 (mN0 (oPkT (cB hb20) (v := (.bool _)) R ⟨R, ?_⟩)))))
      obtain rfl := oI hv
      exact zM
     ·replace hb20 := bF hb20
      replace hv := iteF hv hb20
      refine mT R (cB hb20) (mN0 (oLdA R tk38 ta38 ts38 R R ⟨R, mT R (cB hb20) (mN0 (oLdA R tk38 ta38 ts38 R R ⟨R, ?_⟩))⟩))
      obtain ⟨r21, hr21, hv⟩ := bindS hv
      refine mT R (cB hb20) (mN0 (oCP (args := [.agg [.I x13.Stamp.Time, .I x13.Stamp.Source, .I x13.Stamp.Seq, .I x13.Kind, .I x13.Item.ID, .I x13.Item.Version, .str x13.Item.Stem, .lst 6 (List.map GPart.lv x13.Item.Parts), .L x13.Item.Enemies, .I x13.Ref.ID, .I x13.Ref.Version, .I x13.Form], .agg [.I x13.Stamp.Time, .I x13.Stamp.Source, .I x13.Stamp.Seq, .I x13.Kind, .I x13.Item.ID, .I x13.Item.Version, .str x13.Item.Stem, .lst 6 (List.map GPart.lv x13.Item.Parts), .L x13.Item.Enemies, .I x13.Ref.ID, .I x13.Ref.Version, .I x13.Form]]) R isF13 R (sbR (sbR sbN)) (bank_Same_ok hr21) R ⟨R, mT R (cB hb20) (mN0 (oNot R ⟨R, mN0 (oPkF (cB hb20) (v := (.bool _)) R ⟨R, ?_⟩)⟩))⟩))
      obtain rfl := oI hv
      exact zM
    clear hv
    refine LH.cond (t := w17) R (fun hc22 => ?_) (fun hc22 => ?_)
    ·replace h := iteT h hc22
     refine LH.seqT [(2, .bool false)] [] R (sAb R zS) (LH.ret (thenR ?_))
     obtain rfl := oI h
     exact retE (aT Try.results3) (lrT R (lr0 ⟨memN mN, R, prK R, Sub.rfl⟩))
    replace h := iteF h hc22
    exact LH.skip (thenN ⟨h, Wk.eq R R R R⟩)
   replace h := iteF h hc11
   exact LH.skip (thenN ⟨h, Wk.eq R R R R⟩)
  clear h
  rintro e m ⟨h, hw⟩
  refine LH.wk hw ?_
  clear hw
  unfold q18q at h
  obtain ⟨w6, hv, h⟩ := bindS h
  refine LH.seqT [(2, .bool w6)] [] R ?_ ?_
  ·refine sMl R (sMl R ?_)
   obtain ⟨r7, hr7, hv⟩ := bindS hv
   refine sN (oCP (args := [.lst 12 (List.map Gq0.lv r3.1), .lst 12 (List.map Gq0.lv r4.1)]) R isF15 R (sbR (sbR sbN)) (q107q hr7) R (sMb R ?_))
   by_cases hb8 : r7 = true
   ·replace hv := iteT hv hb8
    refine sT R (cB hb8) (oM (v := (.int _ _)) R (sT R (cB hb8) (oM (v := (.int _ _)) R (sT R (cB hb8) (oEq R R (sN (oPkT (cB hb8) (v := (.bool _)) R (sMb R ?_))))))))
    by_cases hb9 : (r3.2 == r4.2) = true
    ·replace hv := iteT hv hb9
     obtain ⟨r10, hr10, hv⟩ := bindS hv
     refine sT R (cB hb9) (oCP (args := []) R isF16 R sbN (q111q hr10) R (sN (oPkT (cB hb9) (v := (.bool _)) R (sAb R ?_))))
     obtain rfl := oI hv
     exact zS
    ·replace hb9 := bF hb9
     replace hv := iteF hv hb9
     refine sF R R hb9 (sN (oPkF (cB hb9) (v := (.bool _)) R (sAb R ?_)))
     obtain rfl := oI hv
     exact zS
   ·replace hb8 := bF hb8
    replace hv := iteF hv hb8
    refine sF R R hb8 (sF R R hb8 (sF R R hb8 (sN (oPkF (cB hb8) (v := (.bool _)) R (sMb R (sF R R R (sN (oPkF R (v := (.bool _)) R (sAb R ?_)))))))))
    obtain rfl := oI hv
    exact zS
  clear hv
  refine LH.ret ?_
  obtain rfl := oI h
  exact retE (aT Try.results3) (lrT R (lr0 ⟨memN mN, R, prK R, Sub.rfl⟩))

end Go.Proofs.Ytmollikhdbaikaa
