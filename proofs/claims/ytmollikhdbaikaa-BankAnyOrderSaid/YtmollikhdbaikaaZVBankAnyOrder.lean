import Derived.Test.YtmollikhdbaikaaZW3
set_option linter.unusedVariables false
set_option linter.unusedSimpArgs false
set_option maxRecDepth 100000
set_option maxHeartbeats 1000000
namespace Go.Proofs.Ytmollikhdbaikaa
open Go.L Go.Sh
theorem q96q {F : Nat} {p0 : GItem} {p1 : GItem} {r : List Int} (h : q76q F p0 p1 = some r) : LCall Try.prog 42 [.agg [.I p0.ID, .I p0.Version, .str p0.Stem, .lst 6 (List.map GPart.lv p0.Parts), .L p0.Enemies], .agg [.I p1.ID, .I p1.Version, .str p1.Stem, .lst 6 (List.map GPart.lv p1.Parts), .L p1.Enemies]] (Mem.of []) (.L r) (Mem.of []) := by
  unfold q76q at h
  refine bodyT Try.func42 R (nT Try.ntmps42 R) (LH.wk (Wk.eq (el := [(0, .agg [.I p0.ID, .I p0.Version, .str p0.Stem, .lst 6 (List.map GPart.lv p0.Parts), .L p0.Enemies]), (1, .agg [.I p1.ID, .I p1.Version, .str p1.Stem, .lst 6 (List.map GPart.lv p1.Parts), .L p1.Enemies])]) (ml := []) R R R R) (LH.seqT [(2, .sptr [.I p0.ID, .I p0.Version, .str p0.Stem, .lst 6 (List.map GPart.lv p0.Parts), .L p0.Enemies]), (3, .sptr [.I p1.ID, .I p1.Version, .str p1.Stem, .lst 6 (List.map GPart.lv p1.Parts), .L p1.Enemies])] [] R (sB (oBxR R R R R (sB (oBxR R R R R (sAn R zS))))) (LH.seqT [(2, .sptr [.I p0.ID, .I p0.Version, .str p0.Stem, .lst 6 (List.map GPart.lv p0.Parts), .L p0.Enemies]), (3, .sptr [.I p1.ID, .I p1.Version, .str p1.Stem, .lst 6 (List.map GPart.lv p1.Parts), .L p1.Enemies]), (5, .nil)] [] R (sAn R zS) (LH.seq (LH.seqT [(2, .sptr [.I p0.ID, .I p0.Version, .str p0.Stem, .lst 6 (List.map GPart.lv p0.Parts), .L p0.Enemies]), (3, .sptr [.I p1.ID, .I p1.Version, .str p1.Stem, .lst 6 (List.map GPart.lv p1.Parts), .L p1.Enemies]), (5, .nil), (6, .I 0)] [] R (sAi R zS) (LH.block (LH.wk ((Wk.trans (Wk.eq (el := [(2, .sptr [.I p0.ID, .I p0.Version, .str p0.Stem, .lst 6 (List.map GPart.lv p0.Parts), .L p0.Enemies]), (3, .sptr [.I p1.ID, .I p1.Version, .str p1.Stem, .lst 6 (List.map GPart.lv p1.Parts), .L p1.Enemies]), (5, .nil), (6, .I 0)]) (ml := []) R R R R) (Wk.trans (Wk.eq (el := [(2, .sptr [.I p0.ID, .I p0.Version, .str p0.Stem, .lst 6 (List.map GPart.lv p0.Parts), .L p0.Enemies]), (3, .sptr [.I p1.ID, .I p1.Version, .str p1.Stem, .lst 6 (List.map GPart.lv p1.Parts), .L p1.Enemies]), (5, .nil), (6, .I 0)]) (ml := []) R R R R) (Wk.trans (Wk.ownL (el' := [(2, .sptr [.I p0.ID, .I p0.Version, .str p0.Stem, .lst 6 (List.map GPart.lv p0.Parts), .L p0.Enemies]), (3, .sptr [.I p1.ID, .I p1.Version, .str p1.Stem, .lst 6 (List.map GPart.lv p1.Parts), .L p1.Enemies]), (5, .arr 146 (List.length ([] : List Int))), (6, .I 0)]) 146 3 1 R R (wK (wK (wO (wK wN))))) (Wk.eq (el := [(2, .sptr [.I p0.ID, .I p0.Version, .str p0.Stem, .lst 6 (List.map GPart.lv p0.Parts), .L p0.Enemies]), (3, .sptr [.I p1.ID, .I p1.Version, .str p1.Stem, .lst 6 (List.map GPart.lv p1.Parts), .L p1.Enemies]), (5, .arr 146 (List.length ([] : List Int))), (6, .I 0)]) (ml := [(146, .arr 3 1 (List.map LV.I ([] : List Int)))]) R R R R))))) (LH.loop (fun n e m => ∃ (n1 : Int) (l2 : List Int), q23q p0 p1 n n1 l2 = some r ∧ e = Env.of [(2, .sptr [.I p0.ID, .I p0.Version, .str p0.Stem, .lst 6 (List.map GPart.lv p0.Parts), .L p0.Enemies]), (3, .sptr [.I p1.ID, .I p1.Version, .str p1.Stem, .lst 6 (List.map GPart.lv p1.Parts), .L p1.Enemies]), (5, .arr 146 (List.length l2)), (6, .I n1)] ∧ m = Mem.of [(146, .arr 3 1 (List.map LV.I l2))]) F ⟨0, ([] : List Int), h, R, R⟩ ?_))))))))
  clear h
  rintro n e m ⟨n1, l2, h, rfl, rfl⟩
  rcases n with _ | n
  · cases (show Option.none = some _ from h)
  obtain ⟨rec1, hrec1⟩ : ∃ f, f = q23q p0 p1 n := ⟨_, rfl⟩
  replace h : q39q p0 p1 rec1 n1 l2 = some r := hrec1 ▸ h
  unfold q39q at h
  refine LH.seq (LH.seqT [(2, .sptr [.I p0.ID, .I p0.Version, .str p0.Stem, .lst 6 (List.map GPart.lv p0.Parts), .L p0.Enemies]), (3, .sptr [.I p1.ID, .I p1.Version, .str p1.Stem, .lst 6 (List.map GPart.lv p1.Parts), .L p1.Enemies]), (5, .arr 146 (List.length l2)), (6, .I n1), (15, .bool (decide (n1 < (max (p0.Parts.length : Int) (p1.Parts.length : Int)))))] [(146, .arr 3 1 (List.map LV.I l2))] R (sMi R (sN (oFaS tf34_3 tk32 ts32 R R R (sN (oLd R tk32 ta32 (sN (oLnL (f := GPart.lv) te32 R (sN (oFaS tf34_3 tk32 ts32 R R R (sN (oLd R tk32 ta32 (sN (oLnL (f := GPart.lv) te32 R (sX ((ok_max R R).ok) (sN (oLt R R zS)))))))))))))))) (LH.cond (t := (decide (n1 < (max (p0.Parts.length : Int) (p1.Parts.length : Int))))) R (fun hc3 => ?_) (fun hc3 => ?_)))
  ·replace h := iteT h hc3
   refine LH.skip (thenN (LH.wk (Wk.eq (el := [(2, .sptr [.I p0.ID, .I p0.Version, .str p0.Stem, .lst 6 (List.map GPart.lv p0.Parts), .L p0.Enemies]), (3, .sptr [.I p1.ID, .I p1.Version, .str p1.Stem, .lst 6 (List.map GPart.lv p1.Parts), .L p1.Enemies]), (5, .arr 146 (List.length l2)), (6, .I n1)]) (ml := [(146, .arr 3 1 (List.map LV.I l2))]) R R R R) (LH.seq (LH.block ?_))))
   obtain ⟨w5, hv, h⟩ := bindS h
   refine LH.seqJM mixed [] [0, 0, 0, 0, 0, 0, 0, 0, 0, 0, 0, 0, 0, 0, 0, 0, 0, 0, 0, 0, 0, 0, 0, 0, 0] [(2, .sptr [.I p0.ID, .I p0.Version, .str p0.Stem, .lst 6 (List.map GPart.lv p0.Parts), .L p0.Enemies]), (3, .sptr [.I p1.ID, .I p1.Version, .str p1.Stem, .lst 6 (List.map GPart.lv p1.Parts), .L p1.Enemies]), (5, .arr 146 (List.length l2)), (6, .I n1), (42, .bool w5)] [(146, .arr 3 1 (List.map LV.I l2))] R R (by kernel_rfl) ?_ ?_
   ·refine mMi R (mN0 (oFaS tf34_3 tk32 ts32 R R R ⟨R, mN0 (oLd R tk32 ta32 ⟨R, mN0 (oLnL (f := GPart.lv) te32 R ⟨R, mN0 (oGe R R ⟨R, mMb R ?_⟩)⟩)⟩)⟩))
    by_cases hb6 : (decide (n1 ≥ (p0.Parts.length : Int))) = true
    ·replace hv := iteT hv hb6
     refine mF R R hb6 (mF R R hb6 (mF R R hb6 (mF R R hb6 (mF R R hb6 (mN0 (oPkT (cB hb6) (v := (.bool _)) R ⟨R, mMb R (mF R R R (mF R R R (mF R R R (mF R R R (mF R R R (mF R R R (mF R R R (mF R R R (mF R R R (mF R R R (mF R R R (mN0 (oPkT R (v := (.bool _)) R ⟨R, ?_⟩)))))))))))))⟩))))))
     obtain rfl := oI hv
     exact zM
    ·replace hb6 := bF hb6
     replace hv := iteF hv hb6
     refine mT R (cB hb6) (mMi R (mT R (cB hb6) (mN0 (oFaS tf34_3 tk32 ts32 R R R ⟨R, mT R (cB hb6) (mN0 (oLd R tk32 ta32 ⟨R, mT R (cB hb6) (mN0 (oLnL (f := GPart.lv) te32 R ⟨R, mT R (cB hb6) (mN0 (oGe R R ⟨R, mN0 (oPkF (cB hb6) (v := (.bool _)) R ⟨R, mMb R ?_⟩)⟩))⟩))⟩))⟩))))
     by_cases hb7 : (decide (n1 ≥ (p1.Parts.length : Int))) = true
     ·replace hv := iteT hv hb7
      refine mF R R hb7 (mF R R hb7 (mF R R hb7 (mF R R hb7 (mF R R hb7 (mF R R hb7 (mF R R hb7 (mF R R hb7 (mF R R hb7 (mF R R hb7 (mF R R hb7 (mN0 (oPkT (cB hb7) (v := (.bool _)) R ⟨R, ?_⟩))))))))))))
      obtain rfl := oI hv
      exact zM
     ·replace hb7 := bF hb7
      replace hv := iteF hv hb7
      refine mT R (cB hb7) (mN0 (oFaS tf34_3 tk32 ts32 R R R ⟨R, mT R (cB hb7) (mN0 (oLd R tk32 ta32 ⟨R, mT R (cB hb7) (mMi R ?_)⟩))⟩))
      obtain ⟨x8, hx8, hv⟩ := bindS hv
      refine mT R (cB hb7) (mN0 (oIx (f := GPart.lv) te32 tk89 ts89 R R GPart.ok hx8 R ⟨R, mT R (cB hb7) (mN0 (oLdA R tk89 ta89 ts89 R R ⟨R, mT R (cB hb7) (mN0 (oFaS tf34_3 tk32 ts32 R R R ⟨R, mT R (cB hb7) (mN0 (oLd R tk32 ta32 ⟨R, mT R (cB hb7) (mMi R ?_)⟩))⟩))⟩))⟩))
      obtain ⟨x9, hx9, hv⟩ := bindS hv
      refine mT R (cB hb7) (mN0 (oIx (f := GPart.lv) te32 tk89 ts89 R R GPart.ok hx9 R ⟨R, mT R (cB hb7) (mN0 (oLdA R tk89 ta89 ts89 R R ⟨R, mT R (cB hb7) (mN0 (oNeA R R (ae89 x8 x9) ⟨R, mN0 (oPkF (cB hb7) (v := (.bool _)) R ⟨R, ?_⟩)⟩))⟩))⟩))
      obtain rfl := oI hv
      exact zM
   clear hv
   refine LH.cond (t := w5) R (fun hc10 => ?_) (fun hc10 => ?_)
   ·replace h := iteT h hc10
    obtain ⟨v11, hv11, h⟩ := bindS h
    refine LH.loneT [(2, .sptr [.I p0.ID, .I p0.Version, .str p0.Stem, .lst 6 (List.map GPart.lv p0.Parts), .L p0.Enemies]), (3, .sptr [.I p1.ID, .I p1.Version, .str p1.Stem, .lst 6 (List.map GPart.lv p1.Parts), .L p1.Enemies]), (5, .arr 146 (List.length v11)), (6, .I n1)] [(146, .arr 3 1 (List.map LV.I v11))] R (sMa R (sMi R (sN (oBS (f := LV.I) (ys := [n1]) te22 tr3 ts3 R R R okI (sN (oAp (f := LV.I) te22 tr3 ts3 R R (prN R) R hv11 (sAa R zS))))))) (blockN (thenN (LH.loneT [(2, .sptr [.I p0.ID, .I p0.Version, .str p0.Stem, .lst 6 (List.map GPart.lv p0.Parts), .L p0.Enemies]), (3, .sptr [.I p1.ID, .I p1.Version, .str p1.Stem, .lst 6 (List.map GPart.lv p1.Parts), .L p1.Enemies]), (5, .arr 146 (List.length v11)), (6, .I (i64 (n1 + 1)))] [(146, .arr 3 1 (List.map LV.I v11))] R (sMi R (sN (oAdd R R (sAi R zS)))) ?_)))
    exact roundI ⟨(i64 (n1 + 1)), v11, hrec1 ▸ h, R, R⟩ (Wk.eq R R R R)
   replace h := iteF h hc10
   refine LH.skip (blockN (thenN (LH.loneT [(2, .sptr [.I p0.ID, .I p0.Version, .str p0.Stem, .lst 6 (List.map GPart.lv p0.Parts), .L p0.Enemies]), (3, .sptr [.I p1.ID, .I p1.Version, .str p1.Stem, .lst 6 (List.map GPart.lv p1.Parts), .L p1.Enemies]), (5, .arr 146 (List.length l2)), (6, .I (i64 (n1 + 1)))] [(146, .arr 3 1 (List.map LV.I l2))] R (sMi R (sN (oAdd R R (sAi R zS)))) ?_)))
   exact roundI ⟨(i64 (n1 + 1)), l2, hrec1 ▸ h, R, R⟩ (Wk.eq R R R R)
  replace h := iteF h hc3
  refine LH.exit (thenX (roundX (blockH (thenN (LH.wk ((Wk.trans (Wk.eq (el := [(5, .arr 146 (List.length l2))]) (ml := [(146, .arr 3 1 (List.map LV.I l2))]) R R R R) (Wk.trans (Wk.frzL (f := LV.I) (el' := [(5, .L l2)]) 146 3 1 l2 R R (prN R) (fZ fN)) (Wk.eq (el := [(5, .L l2)]) (ml := []) R R R R)))) (LH.seqT [(4, .L l2)] [] R (sMl R (sAl R zS)) (LH.ret ?_)))))))
  obtain rfl := oI h
  exact retE (aT Try.results42) (lrT R (lr0 ⟨memN mN, R, prK R, Sub.rfl⟩))

theorem q108q {F : Nat} {p0 : List Int} {p1 : List Int} {r : Bool} (h : q75q F p0 p1 = some r) : LCall Try.prog 43 [.L p0, .L p1] (Mem.of []) (.bool r) (Mem.of []) := by
  unfold q75q at h
  refine bodyT Try.func43 R (nT Try.ntmps43 R) (LH.wk (Wk.eq (el := [(0, .L p0), (1, .L p1)]) (ml := []) R R R R) (LH.seqT [(0, .L p0), (1, .L p1)] [] R (sAb R zS) (LH.seq (LH.seqT [(0, .L p0), (1, .L p1), (10, .bool ((p0.length : Int) != (p1.length : Int)))] [] R (sMl R (sN (oLnL (f := LV.I) te22 R (sMl R (sN (oLnL (f := LV.I) te22 R (sN (oNe R R zS)))))))) (LH.cond (t := ((p0.length : Int) != (p1.length : Int))) R (fun hc1 => ?_) (fun hc1 => ?_))))))
  ·replace h := iteT h hc1
   refine LH.seqT [(4, .bool false)] [] R (sAb R zS) (LH.ret (thenR ?_))
   obtain rfl := oI h
   exact retE (aT Try.results43) (lrT R (lr0 ⟨memN mN, R, prK R, Sub.rfl⟩))
  replace h := iteF h hc1
  refine LH.skip (thenN (LH.wk (Wk.eq (el := [(0, .L p0), (1, .L p1)]) (ml := []) R R R R) (LH.seq (LH.seqT [(0, .L p0), (1, .L p1), (5, .I 0)] [] R (sAi R zS) (LH.block (LH.loop (fun n e m => ∃ (n2 : Int), q57q p0 p1 n n2 = some r ∧ e = Env.of [(0, .L p0), (1, .L p1), (5, .I n2)] ∧ m = Mem.of []) F ⟨0, h, R, R⟩ ?_))))))
  clear h
  rintro n e m ⟨n2, h, rfl, rfl⟩
  rcases n with _ | n
  · cases (show Option.none = some _ from h)
  obtain ⟨rec1, hrec1⟩ : ∃ f, f = q57q p0 p1 n := ⟨_, rfl⟩
  replace h : q72q p0 p1 rec1 n2 = some r := hrec1 ▸ h
  unfold q72q at h
  refine LH.seq (LH.seqT [(0, .L p0), (1, .L p1), (5, .I n2), (14, .bool (decide (n2 < (p0.length : Int))))] [] R (sMi R (sMl R (sN (oLnL (f := LV.I) te22 R (sN (oLt R R zS)))))) (LH.cond (t := (decide (n2 < (p0.length : Int)))) R (fun hc3 => ?_) (fun hc3 => ?_)))
  ·replace h := iteT h hc3
   refine LH.skip (thenN (LH.wk (Wk.eq (el := [(0, .L p0), (1, .L p1), (5, .I n2)]) (ml := []) R R R R) (LH.seq (LH.block ?_))))
   obtain ⟨x4, hx4, h⟩ := bindS h
   obtain ⟨x5, hx5, h⟩ := bindS h
   refine LH.seqJM mixed [] [0, 0, 0, 0, 0, 0, 0, 0, 0] [(0, .L p0), (1, .L p1), (5, .I n2), (25, .bool (x4 != x5))] [] R R (by kernel_rfl) (mMl R (mMi R (mN0 (oIx (f := LV.I) te22 tk3 ts3 R R okI hx4 R ⟨R, mN0 (oLd R tk3 ta3 ⟨R, mMl R (mMi R (mN0 (oIx (f := LV.I) te22 tk3 ts3 R R okI hx5 R ⟨R, mN0 (oLd R tk3 ta3 ⟨R, mN0 (oNe R R ⟨R, zM⟩)⟩)⟩)))⟩)⟩)))) (LH.cond (t := (x4 != x5)) R (fun hc6 => ?_) (fun hc6 => ?_))
   ·replace h := iteT h hc6
    refine LH.seqT [(4, .bool false)] [] R (sAb R zS) (LH.ret (blockR (thenR (roundR (blockR (thenR ?_))))))
    obtain rfl := oI h
    exact retE (aT Try.results43) (lrT R (lr0 ⟨memN mN, R, prK R, Sub.rfl⟩))
   replace h := iteF h hc6
   refine LH.skip (blockN (thenN (LH.loneT [(0, .L p0), (1, .L p1), (5, .I (i64 (n2 + 1)))] [] R (sMi R (sN (oAdd R R (sAi R zS)))) ?_)))
   exact roundI ⟨(i64 (n2 + 1)), hrec1 ▸ h, R, R⟩ (Wk.eq R R R R)
  replace h := iteF h hc3
  refine LH.exit (thenX (roundX (blockH (thenN (LH.seqT [(4, .bool true)] [] R (sAb R zS) (LH.ret ?_))))))
  obtain rfl := oI h
  exact retE (aT Try.results43) (lrT R (lr0 ⟨memN mN, R, prK R, Sub.rfl⟩))

theorem q109q {F : Nat} {p0 : GItem} {p1 : GItem} {r : Bool} (h : q82q F p0 p1 = some r) : LCall Try.prog 23 [.agg [.I p0.ID, .I p0.Version, .str p0.Stem, .lst 6 (List.map GPart.lv p0.Parts), .L p0.Enemies], .agg [.I p1.ID, .I p1.Version, .str p1.Stem, .lst 6 (List.map GPart.lv p1.Parts), .L p1.Enemies]] (Mem.of []) (.bool r) (Mem.of []) := by
  unfold q82q at h
  refine bodyT Try.func23 R (nT Try.ntmps23 R) (LH.wk (Wk.eq (el := [(0, .agg [.I p0.ID, .I p0.Version, .str p0.Stem, .lst 6 (List.map GPart.lv p0.Parts), .L p0.Enemies]), (1, .agg [.I p1.ID, .I p1.Version, .str p1.Stem, .lst 6 (List.map GPart.lv p1.Parts), .L p1.Enemies])]) (ml := []) R R R R) (LH.seqT [(2, .sptr [.I p0.ID, .I p0.Version, .str p0.Stem, .lst 6 (List.map GPart.lv p0.Parts), .L p0.Enemies]), (3, .sptr [.I p1.ID, .I p1.Version, .str p1.Stem, .lst 6 (List.map GPart.lv p1.Parts), .L p1.Enemies])] [] R (sB (oBxR R R R R (sB (oBxR R R R R (sAb R zS))))) ?_))
  obtain ⟨w2, hv, h⟩ := bindS h
  refine LH.seqT [(4, .bool w2)] [] R ?_ ?_
  ·refine sN (oFaS tf34_0 tk3 ts3 R R R (sN (oLd R tk3 ta3 (sN (oFaS tf34_0 tk3 ts3 R R R (sN (oLd R tk3 ta3 (sN (oEq R R (sMb R ?_))))))))))
   by_cases hb3 : (p0.ID == p1.ID) = true
   ·replace hv := iteT hv hb3
    refine sT R (cB hb3) (oFaS tf34_1 tk3 ts3 R R R (sT R (cB hb3) (oLd R tk3 ta3 (sT R (cB hb3) (oFaS tf34_1 tk3 ts3 R R R (sT R (cB hb3) (oLd R tk3 ta3 (sT R (cB hb3) (oEq R R (sN (oPkT (cB hb3) (v := (.bool _)) R (sMb R ?_))))))))))))
    by_cases hb4 : (p0.Version == p1.Version) = true
    ·replace hv := iteT hv hb4
     refine sT R (cB hb4) (oFaS tf34_2 tk9 ts9 R R R (sT R (cB hb4) (oLd R tk9 ta9 (sT R (cB hb4) (oFaS tf34_2 tk9 ts9 R R R (sT R (cB hb4) (oLd R tk9 ta9 (sXT R (cB hb4) ((ok_sEq R R).ok) (sN (oPkT (cB hb4) (v := (.bool _)) R (sMb R ?_)))))))))))
     by_cases hb5 : (decide (p0.Stem = p1.Stem)) = true
     ·replace hv := iteT hv hb5
      refine sT R (cB hb5) (oFaS tf34_3 tk32 ts32 R R R (sT R (cB hb5) (oLd R tk32 ta32 (sT R (cB hb5) (oLnL (f := GPart.lv) te32 R (sT R (cB hb5) (oFaS tf34_3 tk32 ts32 R R R (sT R (cB hb5) (oLd R tk32 ta32 (sT R (cB hb5) (oLnL (f := GPart.lv) te32 R (sT R (cB hb5) (oEq R R (sN (oPkT (cB hb5) (v := (.bool _)) R (sMb R ?_))))))))))))))))
      by_cases hb6 : ((p0.Parts.length : Int) == (p1.Parts.length : Int)) = true
      ·replace hv := iteT hv hb6
       refine sT R (cB hb6) (oLdA R tk34 ta34 ts34 R R (sT R (cB hb6) (oLdA R tk34 ta34 ts34 R R ?_)))
       obtain ⟨r7, hr7, hv⟩ := bindS hv
       refine sT R (cB hb6) (oCP (args := [.agg [.I p0.ID, .I p0.Version, .str p0.Stem, .lst 6 (List.map GPart.lv p0.Parts), .L p0.Enemies], .agg [.I p1.ID, .I p1.Version, .str p1.Stem, .lst 6 (List.map GPart.lv p1.Parts), .L p1.Enemies]]) R isF42 R (sbR (sbR sbN)) (q96q hr7) R (sT R (cB hb6) (oLnL (f := LV.I) te22 R (sT R (cB hb6) (oEq R R (sN (oPkT (cB hb6) (v := (.bool _)) R (sMb R ?_))))))))
       by_cases hb8 : ((r7.length : Int) == 0) = true
       ·replace hv := iteT hv hb8
        refine sT R (cB hb8) (oFaS tf34_4 tk22 ts22 R R R (sT R (cB hb8) (oLd R tk22 ta22 (sT R (cB hb8) (oFaS tf34_4 tk22 ts22 R R R (sT R (cB hb8) (oLd R tk22 ta22 ?_)))))))
        obtain ⟨r9, hr9, hv⟩ := bindS hv
        refine sT R (cB hb8) (oCP (args := [.L p0.Enemies, .L p1.Enemies]) R isF43 R (sbR (sbR sbN)) (q108q hr9) R (sN (oPkT (cB hb8) (v := (.bool _)) R (sAb R ?_))))
        obtain rfl := oI hv
        exact zS
       ·replace hb8 := bF hb8
        replace hv := iteF hv hb8
        refine sF R R hb8 (sF R R hb8 (sF R R hb8 (sF R R hb8 (sF R R hb8 (sN (oPkF (cB hb8) (v := (.bool _)) R (sAb R ?_)))))))
        obtain rfl := oI hv
        exact zS
      ·replace hb6 := bF hb6
       replace hv := iteF hv hb6
       refine sF R R hb6 (sF R R hb6 (sF R R hb6 (sF R R hb6 (sF R R hb6 (sN (oPkF (cB hb6) (v := (.bool _)) R (sMb R (sF R R R (sF R R R (sF R R R (sF R R R (sF R R R (sN (oPkF R (v := (.bool _)) R (sAb R ?_)))))))))))))))
       obtain rfl := oI hv
       exact zS
     ·replace hb5 := bF hb5
      replace hv := iteF hv hb5
      refine sF R R hb5 (sF R R hb5 (sF R R hb5 (sF R R hb5 (sF R R hb5 (sF R R hb5 (sF R R hb5 (sN (oPkF (cB hb5) (v := (.bool _)) R (sMb R (sF R R R (sF R R R (sF R R R (sF R R R (sF R R R (sN (oPkF R (v := (.bool _)) R (sMb R (sF R R R (sF R R R (sF R R R (sF R R R (sF R R R (sN (oPkF R (v := (.bool _)) R (sAb R ?_)))))))))))))))))))))))))
      obtain rfl := oI hv
      exact zS
    ·replace hb4 := bF hb4
     replace hv := iteF hv hb4
     refine sF R R hb4 (sF R R hb4 (sF R R hb4 (sF R R hb4 (sF R R hb4 (sN (oPkF (cB hb4) (v := (.bool _)) R (sMb R (sF R R R (sF R R R (sF R R R (sF R R R (sF R R R (sF R R R (sF R R R (sN (oPkF R (v := (.bool _)) R (sMb R (sF R R R (sF R R R (sF R R R (sF R R R (sF R R R (sN (oPkF R (v := (.bool _)) R (sMb R (sF R R R (sF R R R (sF R R R (sF R R R (sF R R R (sN (oPkF R (v := (.bool _)) R (sAb R ?_)))))))))))))))))))))))))))))))))
     obtain rfl := oI hv
     exact zS
   ·replace hb3 := bF hb3
    replace hv := iteF hv hb3
    refine sF R R hb3 (sF R R hb3 (sF R R hb3 (sF R R hb3 (sF R R hb3 (sN (oPkF (cB hb3) (v := (.bool _)) R (sMb R (sF R R R (sF R R R (sF R R R (sF R R R (sF R R R (sN (oPkF R (v := (.bool _)) R (sMb R (sF R R R (sF R R R (sF R R R (sF R R R (sF R R R (sF R R R (sF R R R (sN (oPkF R (v := (.bool _)) R (sMb R (sF R R R (sF R R R (sF R R R (sF R R R (sF R R R (sN (oPkF R (v := (.bool _)) R (sMb R (sF R R R (sF R R R (sF R R R (sF R R R (sF R R R (sN (oPkF R (v := (.bool _)) R (sAb R ?_)))))))))))))))))))))))))))))))))))))))))
    obtain rfl := oI hv
    exact zS
  clear hv
  refine LH.ret ?_
  obtain rfl := oI h
  exact retE (aT Try.results23) (lrT R (lr0 ⟨memN mN, R, prK R, Sub.rfl⟩))

theorem Gq29 {F : Nat} {p0 : GTape} {p1 : Int} {r : List Int × GTape} (h : Gq26 F p0 p1 = some r) : LCall Try.prog 38 [.ptr 7 0, .I p1] (Mem.of [(7, .box [.L p0.L, .I p0.At])]) (.L r.1) (Mem.of [(7, .box [.L r.2.L, .I r.2.At])]) := by
  unfold Gq26 at h
  refine bodyT Try.func38 R (nT Try.ntmps38 R) (LH.wk (Wk.eq (el := [(0, .ptr 7 0), (1, .I p1)]) (ml := [(7, .box [.L p0.L, .I p0.At])]) R R R R) (LH.seqT [(0, .ptr 7 0), (1, .I p1)] [(7, .box [.L p0.L, .I p0.At])] R (sAn R zS) (LH.seqT [(0, .ptr 7 0), (1, .I p1), (5, .nil)] [(7, .box [.L p0.L, .I p0.At])] R (sAn R zS) (LH.seq (LH.seqT [(0, .ptr 7 0), (1, .I p1), (5, .nil), (6, .I 0)] [(7, .box [.L p0.L, .I p0.At])] R (sAi R zS) (LH.block (LH.wk (Wk.to (el := [(0, .ptr 7 0), (1, .I p1), (5, .L ([] : List Int)), (6, .I 0)]) (ml := [(7, .box [.L p0.L, .I p0.At])]) (eC R (eC R (eL R (eC R eN)))) ⟨R, trivial⟩ R (prK R)) (LH.loop (fun n e m => ∃ (l1 : List Int) (n2 : Int) (l3 : List Int) (n4 : Int), Gq27 p1 n l1 n2 l3 n4 = some r ∧ e = Env.of [(0, .ptr 7 0), (1, .I p1), (5, .L l1), (6, .I n2)] ∧ m = Mem.of [(7, .box [.L l3, .I n4])]) F ⟨([] : List Int), 0, p0.L, p0.At, h, R, R⟩ ?_))))))))
  clear h
  rintro n e m ⟨l1, n2, l3, n4, h, rfl, rfl⟩
  rcases n with _ | n
  · cases (show Option.none = some _ from h)
  obtain ⟨rec1, hrec1⟩ : ∃ f, f = Gq27 p1 n := ⟨_, rfl⟩
  replace h : Gq28 p1 rec1 l1 n2 l3 n4 = some r := hrec1 ▸ h
  unfold Gq28 at h
  refine LH.seq (LH.seqT [(0, .ptr 7 0), (1, .I p1), (5, .L l1), (6, .I n2), (11, .bool (decide (n2 < p1)))] [(7, .box [.L l3, .I n4])] R (sMi R (sMi R (sN (oLt R R zS)))) (LH.cond (t := (decide (n2 < p1))) R (fun hc5 => ?_) (fun hc5 => ?_)))
  ·replace h := iteT h hc5
   refine LH.skip (thenN (LH.wk (Wk.eq (el := [(0, .ptr 7 0), (1, .I p1), (5, .L l1), (6, .I n2)]) (ml := [(7, .box [.L l3, .I n4])]) R R R R) (LH.seq (LH.block ?_))))
   obtain ⟨r6, hr6, h⟩ := bindS h
   refine LH.seqT [(0, .ptr 7 0), (1, .I p1), (5, .L l1), (6, .I n2), (7, .I r6.1)] [(7, .box [.L r6.2.L, .I r6.2.At])] R (sMp R (sMi R (sN (oAdd R R (sN (oCM (args := [.ptr 7 0, .I (i64 (n2 + 1))]) (ml := [(7, .box [.L l3, .I n4])]) (ml' := [(7, .box [.L r6.2.L, .I r6.2.At])]) R isF12 R (sbR (sbR sbN)) (Gq23 hr6) (mC R mN) (newI R newN) R (sAi R zS))))))) (LH.seqT [(0, .ptr 7 0), (1, .I p1), (5, .L l1), (6, .I n2), (7, .I r6.1), (8, .nil)] [(7, .box [.L r6.2.L, .I r6.2.At])] R (sAn R zS) ?_)
   obtain ⟨v7, hv7, h⟩ := bindS h
   obtain ⟨v8, hv8, h⟩ := bindS h
   refine LH.seqT [(0, .ptr 7 0), (1, .I p1), (5, .L l1), (6, .I n2), (7, .I r6.1), (8, .arr 122 (List.length v8))] [(7, .box [.L r6.2.L, .I r6.2.At]), (122, .arr 3 1 (List.map LV.I v8))] R (sMn R (sMl R (sMi R (sN (oSl (f := LV.I) te22 tk3 ts3 R R R hv7 (sN (oApN (f := LV.I) (id := 122) R te22 tr3 ts3 R R hv8 R (sAa R zS)))))))) ?_
   obtain ⟨v9, hv9, h⟩ := bindS h
   refine LH.seqT [(0, .ptr 7 0), (1, .I p1), (5, .L l1), (6, .I n2), (7, .I r6.1), (8, .arr 122 (List.length v9))] [(7, .box [.L r6.2.L, .I r6.2.At]), (122, .arr 3 1 (List.map LV.I v9))] R (sMa R (sMi R (sN (oBS (f := LV.I) (ys := [n2]) te22 tr3 ts3 R R R okI (sN (oAp (f := LV.I) te22 tr3 ts3 R R (prN R) R hv9 (sAa R zS))))))) ?_
   obtain ⟨v10, hv10, h⟩ := bindS h
   obtain ⟨v11, hv11, h⟩ := bindS h
   refine LH.loneT [(0, .ptr 7 0), (1, .I p1), (5, .L v11), (6, .I n2)] [(7, .box [.L r6.2.L, .I r6.2.At])] R (sMa R (sMl R (sMi R (sN (oSl (f := LV.I) te22 tk3 ts3 R R R hv10 (sN (oAp (f := LV.I) te22 tr3 ts3 R R (prN R) R hv11 (sAa R (s0 ((Wk.trans (Wk.eq (el := [(0, .ptr 7 0), (1, .I p1), (5, .arr 122 (List.length v11)), (6, .I n2)]) (ml := [(7, .box [.L r6.2.L, .I r6.2.At]), (122, .arr 3 1 (List.map LV.I v11))]) R R R R) (Wk.trans (Wk.frzL (f := LV.I) (el' := [(0, .ptr 7 0), (1, .I p1), (5, .L v11), (6, .I n2)]) 122 3 1 v11 R R (prN R) (fK R (fK R (fZ (fK R fN))))) (Wk.eq R R R R))))))))))))) (blockN (thenN (LH.loneT [(0, .ptr 7 0), (1, .I p1), (5, .L v11), (6, .I (i64 (n2 + 1)))] [(7, .box [.L r6.2.L, .I r6.2.At])] R (sMi R (sN (oAdd R R (sAi R zS)))) ?_)))
   exact roundI ⟨v11, (i64 (n2 + 1)), r6.2.L, r6.2.At, hrec1 ▸ h, R, R⟩ (Wk.eq R R R R)
  replace h := iteF h hc5
  refine LH.exit (thenX (roundX (blockH (thenN (LH.seqT [(4, .L l1)] [(7, .box [.L l3, .I n4])] R (sMl R (sAl R zS)) (LH.ret ?_))))))
  obtain rfl := oI h
  exact retE (aT Try.results38) (lrT R (lr0 ⟨memN (mC R mN), R, prK R, Sub.rfl⟩))

theorem Gq21 {F : Nat} {p0 : GTape} {p1 : Int} {r : List Int × GTape} (h : Gq18 F p0 p1 = some r) : LCall Try.prog 17 [.ptr 7 0, .I p1] (Mem.of [(7, .box [.L p0.L, .I p0.At])]) (.L r.1) (Mem.of [(7, .box [.L r.2.L, .I r.2.At])]) := by
  unfold Gq18 at h
  refine bodyT Try.func17 R (nT Try.ntmps17 R) (LH.wk (Wk.eq (el := [(0, .ptr 7 0), (1, .I p1)]) (ml := [(7, .box [.L p0.L, .I p0.At])]) R R R R) (LH.seqT [(0, .ptr 7 0), (1, .I p1)] [(7, .box [.L p0.L, .I p0.At])] R (sAn R zS) ?_))
  obtain ⟨r1, hr1, h⟩ := bindS h
  refine LH.seqT [(0, .ptr 7 0), (1, .I p1), (5, .L r1.1)] [(7, .box [.L r1.2.L, .I r1.2.At])] R (sMp R (sMi R (sN (oCM (args := [.ptr 7 0, .I p1]) (ml := [(7, .box [.L p0.L, .I p0.At])]) (ml' := [(7, .box [.L r1.2.L, .I r1.2.At])]) R isF38 R (sbR (sbR sbN)) (Gq29 hr1) (mC R mN) (newI R newN) R (sAl R zS))))) (LH.seq ?_)
  obtain ⟨r2, hr2, h⟩ := bindS h
  refine LH.seqT [(0, .ptr 7 0), (1, .I p1), (5, .L r1.1), (6, .I r2.1)] [(7, .box [.L r2.2.L, .I r2.2.At])] R (sMp R (sN (oCM (args := [.ptr 7 0, .I 4]) (ml := [(7, .box [.L r1.2.L, .I r1.2.At])]) (ml' := [(7, .box [.L r2.2.L, .I r2.2.At])]) R isF12 R (sbR (sbR sbN)) (Gq23 hr2) (mC R mN) (newI R newN) R (sAi R zS)))) (LH.block (LH.loop (fun n e m => ∃ (l3 : List Int) (n4 : Int) (l5 : List Int) (n6 : Int), Gq19 p1 n l3 n4 l5 n6 = some r ∧ e = Env.of [(0, .ptr 7 0), (1, .I p1), (5, .L l3), (6, .I n4)] ∧ m = Mem.of [(7, .box [.L l5, .I n6])]) F ⟨r1.1, r2.1, r2.2.L, r2.2.At, h, R, R⟩ ?_))
  clear h
  rintro n e m ⟨l3, n4, l5, n6, h, rfl, rfl⟩
  rcases n with _ | n
  · cases (show Option.none = some _ from h)
  obtain ⟨rec1, hrec1⟩ : ∃ f, f = Gq19 p1 n := ⟨_, rfl⟩
  replace h : Gq20 p1 rec1 l3 n4 l5 n6 = some r := hrec1 ▸ h
  unfold Gq20 at h
  refine LH.seq (LH.seqT [(0, .ptr 7 0), (1, .I p1), (5, .L l3), (6, .I n4), (20, .bool ((decide (n4 > 0)) && (decide (p1 > 0))))] [(7, .box [.L l5, .I n6])] R ?_ ?_)
  ·refine sMi R (sN (oGt R R (sMb R ?_)))
   by_cases hb8 : (decide (n4 > 0)) = true
   ·exact sT R (cB hb8) (oM (v := (.int _ _)) R (sT R (cB hb8) (oGt R R (sN (oPkT (cB hb8) (v := (.bool _)) R (s0 (Wk.to (eC R (eC R (eC R (eC R (eC (cB (andT hb8)) eN))))) ⟨R, trivial⟩ R (prK R))))))))
   ·replace hb8 := bF hb8
    exact sF R R hb8 (sF R R hb8 (sN (oPkF (cB hb8) (v := (.bool _)) R (s0 (Wk.to (eC R (eC R (eC R (eC R (eC (cB (andF hb8)) eN))))) ⟨R, trivial⟩ R (prK R))))))
  refine LH.cond (t := ((decide (n4 > 0)) && (decide (p1 > 0)))) R (fun hc9 => ?_) (fun hc9 => ?_)
  ·replace h := iteT h hc9
   refine LH.skip (thenN (LH.wk (Wk.eq (el := [(0, .ptr 7 0), (1, .I p1), (5, .L l3), (6, .I n4)]) (ml := [(7, .box [.L l5, .I n6])]) R R R R) (LH.seq (LH.block ?_))))
   obtain ⟨r10, hr10, h⟩ := bindS h
   obtain ⟨r11, hr11, h⟩ := bindS h
   refine LH.seqT [(0, .ptr 7 0), (1, .I p1), (5, .L l3), (6, .I n4), (7, .I r10.1), (8, .I r11.1)] [(7, .box [.L r11.2.L, .I r11.2.At])] R (sMp R (sMl R (sN (oLnL (f := LV.I) te22 R (sN (oAdd R R (sN (oCM (args := [.ptr 7 0, .I (i64 ((l3.length : Int) + 1))]) (ml := [(7, .box [.L l5, .I n6])]) (ml' := [(7, .box [.L r10.2.L, .I r10.2.At])]) R isF12 R (sbR (sbR sbN)) (Gq23 hr10) (mC R mN) (newI R newN) R (sMp R (sMi R (sN (oCM (args := [.ptr 7 0, .I p1]) (ml := [(7, .box [.L r10.2.L, .I r10.2.At])]) (ml' := [(7, .box [.L r11.2.L, .I r11.2.At])]) R isF12 R (sbR (sbR sbN)) (Gq23 hr11) (mC R mN) (newI R newN) R (sAi R (sAi R zS)))))))))))))) (LH.seqT [(0, .ptr 7 0), (1, .I p1), (5, .L l3), (6, .I n4), (7, .I r10.1), (8, .I r11.1), (9, .nil)] [(7, .box [.L r11.2.L, .I r11.2.At])] R (sAn R zS) ?_)
   obtain ⟨v12, hv12, h⟩ := bindS h
   obtain ⟨v13, hv13, h⟩ := bindS h
   refine LH.seqT [(0, .ptr 7 0), (1, .I p1), (5, .L l3), (6, .I n4), (7, .I r10.1), (8, .I r11.1), (9, .arr 135 (List.length v13))] [(7, .box [.L r11.2.L, .I r11.2.At]), (135, .arr 3 1 (List.map LV.I v13))] R (sMn R (sMl R (sMi R (sN (oSl (f := LV.I) te22 tk3 ts3 R R R hv12 (sN (oApN (f := LV.I) (id := 135) R te22 tr3 ts3 R R hv13 R (sAa R zS)))))))) ?_
   obtain ⟨v14, hv14, h⟩ := bindS h
   refine LH.seqT [(0, .ptr 7 0), (1, .I p1), (5, .L l3), (6, .I n4), (7, .I r10.1), (9, .arr 135 (List.length v14))] [(7, .box [.L r11.2.L, .I r11.2.At]), (135, .arr 3 1 (List.map LV.I v14))] R (sMa R (sMi R (sN (oBS (f := LV.I) (ys := [r11.1]) te22 tr3 ts3 R R R okI (sN (oAp (f := LV.I) te22 tr3 ts3 R R (prN R) R hv14 (sAa R zS))))))) ?_
   obtain ⟨v15, hv15, h⟩ := bindS h
   obtain ⟨v16, hv16, h⟩ := bindS h
   refine LH.loneT [(0, .ptr 7 0), (1, .I p1), (5, .L v16), (6, .I n4)] [(7, .box [.L r11.2.L, .I r11.2.At])] R (sMa R (sMl R (sMi R (sN (oSl (f := LV.I) te22 tk3 ts3 R R R hv15 (sN (oAp (f := LV.I) te22 tr3 ts3 R R (prN R) R hv16 (sAa R (s0 ((Wk.trans (Wk.eq (el := [(0, .ptr 7 0), (1, .I p1), (5, .arr 135 (List.length v16)), (6, .I n4)]) (ml := [(7, .box [.L r11.2.L, .I r11.2.At]), (135, .arr 3 1 (List.map LV.I v16))]) R R R R) (Wk.trans (Wk.frzL (f := LV.I) (el' := [(0, .ptr 7 0), (1, .I p1), (5, .L v16), (6, .I n4)]) 135 3 1 v16 R R (prN R) (fK R (fK R (fZ (fK R fN))))) (Wk.eq R R R R))))))))))))) (blockN (thenN (LH.loneT [(0, .ptr 7 0), (1, .I p1), (5, .L v16), (6, .I (i64 (n4 - 1)))] [(7, .box [.L r11.2.L, .I r11.2.At])] R (sMi R (sN (oSub R R (sAi R zS)))) ?_)))
   exact roundI ⟨v16, (i64 (n4 - 1)), r11.2.L, r11.2.At, hrec1 ▸ h, R, R⟩ (Wk.eq R R R R)
  replace h := iteF h hc9
  refine LH.exit (thenX (roundX (blockH (thenN (LH.seqT [(4, .L l3)] [(7, .box [.L l5, .I n6])] R (sMl R (sAl R zS)) (LH.ret ?_))))))
  obtain rfl := oI h
  exact retE (aT Try.results17) (lrT R (lr0 ⟨memN (mC R mN), R, prK R, Sub.rfl⟩))

set_option maxHeartbeats 4000000 in
theorem q93q {F : Nat} {p0 : Gq2} {p1 : Gq2} {r : Bool} (h : q52q F p0 p1 = some r) : LCall Try.prog 40 [.agg [.I p0.ID, .lst 5 (List.map GItem.lv p0.Versions), .lst 1 (List.map LV.bool p0.Approved), .lst 3 (List.map GUse.lv p0.Uses), .bool p0.Withdrawn], .agg [.I p1.ID, .lst 5 (List.map GItem.lv p1.Versions), .lst 1 (List.map LV.bool p1.Approved), .lst 3 (List.map GUse.lv p1.Uses), .bool p1.Withdrawn]] (Mem.of []) (.bool r) (Mem.of []) := by
  unfold q52q at h
  refine bodyT Try.func40 R (nT Try.ntmps40 R) (LH.wk (Wk.eq (el := [(0, .agg [.I p0.ID, .lst 5 (List.map GItem.lv p0.Versions), .lst 1 (List.map LV.bool p0.Approved), .lst 3 (List.map GUse.lv p0.Uses), .bool p0.Withdrawn]), (1, .agg [.I p1.ID, .lst 5 (List.map GItem.lv p1.Versions), .lst 1 (List.map LV.bool p1.Approved), .lst 3 (List.map GUse.lv p1.Uses), .bool p1.Withdrawn])]) (ml := []) R R R R) (LH.seqT [(2, .sptr [.I p0.ID, .lst 5 (List.map GItem.lv p0.Versions), .lst 1 (List.map LV.bool p0.Approved), .lst 3 (List.map GUse.lv p0.Uses), .bool p0.Withdrawn]), (3, .sptr [.I p1.ID, .lst 5 (List.map GItem.lv p1.Versions), .lst 1 (List.map LV.bool p1.Approved), .lst 3 (List.map GUse.lv p1.Uses), .bool p1.Withdrawn])] [] R (sB (oBxR R R R R (sB (oBxR R R R R (sAb R zS))))) (LH.seq (LH.seqT [(2, .sptr [.I p0.ID, .lst 5 (List.map GItem.lv p0.Versions), .lst 1 (List.map LV.bool p0.Approved), .lst 3 (List.map GUse.lv p0.Uses), .bool p0.Withdrawn]), (3, .sptr [.I p1.ID, .lst 5 (List.map GItem.lv p1.Versions), .lst 1 (List.map LV.bool p1.Approved), .lst 3 (List.map GUse.lv p1.Uses), .bool p1.Withdrawn]), (46, .bool ((p0.ID != p1.ID) || ((!(p0.Withdrawn == p1.Withdrawn)) || (((p0.Versions.length : Int) != (p1.Versions.length : Int)) || (((p0.Approved.length : Int) != (p1.Approved.length : Int)) || ((p0.Uses.length : Int) != (p1.Uses.length : Int)))))))] [] R ?_ ?_))))
  ·refine sN (oFaS tf58_0 tk3 ts3 R R R (sN (oLd R tk3 ta3 (sN (oFaS tf58_0 tk3 ts3 R R R (sN (oLd R tk3 ta3 (sN (oNe R R (sMb R ?_))))))))))
   by_cases hb2 : (p0.ID != p1.ID) = true
   ·exact sF R R hb2 (sF R R hb2 (sF R R hb2 (sF R R hb2 (sF R R hb2 (sN (oPkT (cB hb2) (v := (.bool _)) R (sMb R (sF R R R (sF R R R (sF R R R (sF R R R (sF R R R (sF R R R (sF R R R (sN (oPkT R (v := (.bool _)) R (sMb R (sF R R R (sF R R R (sF R R R (sF R R R (sF R R R (sF R R R (sF R R R (sN (oPkT R (v := (.bool _)) R (sMb R (sF R R R (sF R R R (sF R R R (sF R R R (sF R R R (sF R R R (sF R R R (sN (oPkT R (v := (.bool _)) R (s0 (Wk.to (eC R (eC R (eC (cB (orT hb2)) eN))) mN R (prK R)))))))))))))))))))))))))))))))))))))))
   ·replace hb2 := bF hb2
    refine sT R (cB hb2) (oFaS tf58_4 tk4 ts4 R R R (sT R (cB hb2) (oLd R tk4 ta4 (sT R (cB hb2) (oFaS tf58_4 tk4 ts4 R R R (sT R (cB hb2) (oLd R tk4 ta4 (sT R (cB hb2) (oNeB R R tb4 (sN (oPkF (cB hb2) (v := (.bool _)) R (sMb R ?_))))))))))))
    by_cases hb3 : (!(p0.Withdrawn == p1.Withdrawn)) = true
    ·exact sF R R hb3 (sF R R hb3 (sF R R hb3 (sF R R hb3 (sF R R hb3 (sF R R hb3 (sF R R hb3 (sN (oPkT (cB hb3) (v := (.bool _)) R (sMb R (sF R R R (sF R R R (sF R R R (sF R R R (sF R R R (sF R R R (sF R R R (sN (oPkT R (v := (.bool _)) R (sMb R (sF R R R (sF R R R (sF R R R (sF R R R (sF R R R (sF R R R (sF R R R (sN (oPkT R (v := (.bool _)) R (s0 (Wk.to (eC R (eC R (eC (cB (Eq.trans (orT hb3) (orF hb2))) eN))) mN R (prK R)))))))))))))))))))))))))))))))
    ·replace hb3 := bF hb3
     refine sT R (cB hb3) (oFaS tf58_1 tk54 ts54 R R R (sT R (cB hb3) (oLd R tk54 ta54 (sT R (cB hb3) (oLnL (f := GItem.lv) te54 R (sT R (cB hb3) (oFaS tf58_1 tk54 ts54 R R R (sT R (cB hb3) (oLd R tk54 ta54 (sT R (cB hb3) (oLnL (f := GItem.lv) te54 R (sT R (cB hb3) (oNe R R (sN (oPkF (cB hb3) (v := (.bool _)) R (sMb R ?_))))))))))))))))
     by_cases hb4 : ((p0.Versions.length : Int) != (p1.Versions.length : Int)) = true
     ·exact sF R R hb4 (sF R R hb4 (sF R R hb4 (sF R R hb4 (sF R R hb4 (sF R R hb4 (sF R R hb4 (sN (oPkT (cB hb4) (v := (.bool _)) R (sMb R (sF R R R (sF R R R (sF R R R (sF R R R (sF R R R (sF R R R (sF R R R (sN (oPkT R (v := (.bool _)) R (s0 (Wk.to (eC R (eC R (eC (cB (Eq.trans (Eq.trans (orT hb4) (orF hb3)) (orF hb2))) eN))) mN R (prK R)))))))))))))))))))))
     ·replace hb4 := bF hb4
      refine sT R (cB hb4) (oFaS tf58_2 tk55 ts55 R R R (sT R (cB hb4) (oLd R tk55 ta55 (sT R (cB hb4) (oLnL (f := LV.bool) te55 R (sT R (cB hb4) (oFaS tf58_2 tk55 ts55 R R R (sT R (cB hb4) (oLd R tk55 ta55 (sT R (cB hb4) (oLnL (f := LV.bool) te55 R (sT R (cB hb4) (oNe R R (sN (oPkF (cB hb4) (v := (.bool _)) R (sMb R ?_))))))))))))))))
      by_cases hb5 : ((p0.Approved.length : Int) != (p1.Approved.length : Int)) = true
      ·exact sF R R hb5 (sF R R hb5 (sF R R hb5 (sF R R hb5 (sF R R hb5 (sF R R hb5 (sF R R hb5 (sN (oPkT (cB hb5) (v := (.bool _)) R (s0 (Wk.to (eC R (eC R (eC (cB (Eq.trans (Eq.trans (Eq.trans (orT hb5) (orF hb4)) (orF hb3)) (orF hb2))) eN))) mN R (prK R)))))))))))
      ·replace hb5 := bF hb5
       exact sT R (cB hb5) (oFaS tf58_3 tk56 ts56 R R R (sT R (cB hb5) (oLd R tk56 ta56 (sT R (cB hb5) (oLnL (f := GUse.lv) te56 R (sT R (cB hb5) (oFaS tf58_3 tk56 ts56 R R R (sT R (cB hb5) (oLd R tk56 ta56 (sT R (cB hb5) (oLnL (f := GUse.lv) te56 R (sT R (cB hb5) (oNe R R (sN (oPkF (cB hb5) (v := (.bool _)) R (s0 (Wk.to (eC R (eC R (eC (cB (Eq.trans (Eq.trans (Eq.trans (orF hb5) (orF hb4)) (orF hb3)) (orF hb2))) eN))) mN R (prK R))))))))))))))))))
  refine LH.cond (t := ((p0.ID != p1.ID) || ((!(p0.Withdrawn == p1.Withdrawn)) || (((p0.Versions.length : Int) != (p1.Versions.length : Int)) || (((p0.Approved.length : Int) != (p1.Approved.length : Int)) || ((p0.Uses.length : Int) != (p1.Uses.length : Int))))))) R (fun hc6 => ?_) (fun hc6 => ?_)
  ·replace h := iteT h hc6
   refine LH.seqT [(4, .bool false)] [] R (sAb R zS) (LH.ret (thenR ?_))
   obtain rfl := oI h
   exact retE (aT Try.results40) (lrT R (lr0 ⟨memN mN, R, prK R, Sub.rfl⟩))
  replace h := iteF h hc6
  refine LH.skip (thenN (LH.wk (Wk.eq (el := [(2, .sptr [.I p0.ID, .lst 5 (List.map GItem.lv p0.Versions), .lst 1 (List.map LV.bool p0.Approved), .lst 3 (List.map GUse.lv p0.Uses), .bool p0.Withdrawn]), (3, .sptr [.I p1.ID, .lst 5 (List.map GItem.lv p1.Versions), .lst 1 (List.map LV.bool p1.Approved), .lst 3 (List.map GUse.lv p1.Uses), .bool p1.Withdrawn])]) (ml := []) R R R R) (LH.seq (LH.seqT [(2, .sptr [.I p0.ID, .lst 5 (List.map GItem.lv p0.Versions), .lst 1 (List.map LV.bool p0.Approved), .lst 3 (List.map GUse.lv p0.Uses), .bool p0.Withdrawn]), (3, .sptr [.I p1.ID, .lst 5 (List.map GItem.lv p1.Versions), .lst 1 (List.map LV.bool p1.Approved), .lst 3 (List.map GUse.lv p1.Uses), .bool p1.Withdrawn]), (5, .I 0)] [] R (sAi R zS) (LH.block (LH.loop (fun n e m => ∃ (n7 : Int), q19q F p0 p1 n n7 = some r ∧ e = Env.of [(2, .sptr [.I p0.ID, .lst 5 (List.map GItem.lv p0.Versions), .lst 1 (List.map LV.bool p0.Approved), .lst 3 (List.map GUse.lv p0.Uses), .bool p0.Withdrawn]), (3, .sptr [.I p1.ID, .lst 5 (List.map GItem.lv p1.Versions), .lst 1 (List.map LV.bool p1.Approved), .lst 3 (List.map GUse.lv p1.Uses), .bool p1.Withdrawn]), (5, .I n7)] ∧ m = Mem.of []) F ⟨0, h, R, R⟩ ?_))))))
  clear h
  rintro n e m ⟨n7, h, rfl, rfl⟩
  rcases n with _ | n
  · cases (show Option.none = some _ from h)
  obtain ⟨rec1, hrec1⟩ : ∃ f, f = q19q F p0 p1 n := ⟨_, rfl⟩
  replace h : q28q F p0 p1 rec1 n7 = some r := hrec1 ▸ h
  unfold q28q at h
  refine LH.seq (LH.seqT [(2, .sptr [.I p0.ID, .lst 5 (List.map GItem.lv p0.Versions), .lst 1 (List.map LV.bool p0.Approved), .lst 3 (List.map GUse.lv p0.Uses), .bool p0.Withdrawn]), (3, .sptr [.I p1.ID, .lst 5 (List.map GItem.lv p1.Versions), .lst 1 (List.map LV.bool p1.Approved), .lst 3 (List.map GUse.lv p1.Uses), .bool p1.Withdrawn]), (5, .I n7), (51, .bool (decide (n7 < (p0.Versions.length : Int))))] [] R (sMi R (sN (oFaS tf58_1 tk54 ts54 R R R (sN (oLd R tk54 ta54 (sN (oLnL (f := GItem.lv) te54 R (sN (oLt R R zS))))))))) (LH.cond (t := (decide (n7 < (p0.Versions.length : Int)))) R (fun hc8 => ?_) (fun hc8 => ?_)))
  ·replace h := iteT h hc8
   refine LH.skip (thenN (LH.wk (Wk.eq (el := [(2, .sptr [.I p0.ID, .lst 5 (List.map GItem.lv p0.Versions), .lst 1 (List.map LV.bool p0.Approved), .lst 3 (List.map GUse.lv p0.Uses), .bool p0.Withdrawn]), (3, .sptr [.I p1.ID, .lst 5 (List.map GItem.lv p1.Versions), .lst 1 (List.map LV.bool p1.Approved), .lst 3 (List.map GUse.lv p1.Uses), .bool p1.Withdrawn]), (5, .I n7)]) (ml := []) R R R R) (LH.seq (LH.block ?_))))
   obtain ⟨x9, hx9, h⟩ := bindS h
   obtain ⟨x10, hx10, h⟩ := bindS h
   obtain ⟨r11, hr11, h⟩ := bindS h
   refine LH.seqJM mixed [] [0, 0, 0, 0, 0, 0, 0, 0, 0, 0, 0, 0] [(2, .sptr [.I p0.ID, .lst 5 (List.map GItem.lv p0.Versions), .lst 1 (List.map LV.bool p0.Approved), .lst 3 (List.map GUse.lv p0.Uses), .bool p0.Withdrawn]), (3, .sptr [.I p1.ID, .lst 5 (List.map GItem.lv p1.Versions), .lst 1 (List.map LV.bool p1.Approved), .lst 3 (List.map GUse.lv p1.Uses), .bool p1.Withdrawn]), (5, .I n7), (65, .bool (!r11))] [] R R (by kernel_rfl) (mN0 (oFaS tf58_1 tk54 ts54 R R R ⟨R, mN0 (oLd R tk54 ta54 ⟨R, mMi R (mN0 (oIx (f := GItem.lv) te54 tk34 ts34 R R GItem.ok hx9 R ⟨R, mN0 (oLdA R tk34 ta34 ts34 R R ⟨R, mN0 (oFaS tf58_1 tk54 ts54 R R R ⟨R, mN0 (oLd R tk54 ta54 ⟨R, mMi R (mN0 (oIx (f := GItem.lv) te54 tk34 ts34 R R GItem.ok hx10 R ⟨R, mN0 (oLdA R tk34 ta34 ts34 R R ⟨R, mN0 (oCP (args := [.agg [.I x9.ID, .I x9.Version, .str x9.Stem, .lst 6 (List.map GPart.lv x9.Parts), .L x9.Enemies], .agg [.I x10.ID, .I x10.Version, .str x10.Stem, .lst 6 (List.map GPart.lv x10.Parts), .L x10.Enemies]]) R isF23 R (sbR (sbR sbN)) (q109q hr11) R ⟨R, mN0 (oNot R ⟨R, zM⟩)⟩)⟩)⟩))⟩)⟩)⟩)⟩))⟩)⟩)) (LH.cond (t := (!r11)) R (fun hc12 => ?_) (fun hc12 => ?_))
   ·replace h := iteT h hc12
    refine LH.seqT [(4, .bool false)] [] R (sAb R zS) (LH.ret (blockR (thenR (roundR (blockR (thenR ?_))))))
    obtain rfl := oI h
    exact retE (aT Try.results40) (lrT R (lr0 ⟨memN mN, R, prK R, Sub.rfl⟩))
   replace h := iteF h hc12
   refine LH.skip (blockN (thenN (LH.loneT [(2, .sptr [.I p0.ID, .lst 5 (List.map GItem.lv p0.Versions), .lst 1 (List.map LV.bool p0.Approved), .lst 3 (List.map GUse.lv p0.Uses), .bool p0.Withdrawn]), (3, .sptr [.I p1.ID, .lst 5 (List.map GItem.lv p1.Versions), .lst 1 (List.map LV.bool p1.Approved), .lst 3 (List.map GUse.lv p1.Uses), .bool p1.Withdrawn]), (5, .I (i64 (n7 + 1)))] [] R (sMi R (sN (oAdd R R (sAi R zS)))) ?_)))
   exact roundI ⟨(i64 (n7 + 1)), hrec1 ▸ h, R, R⟩ (Wk.eq R R R R)
  replace h := iteF h hc8
  refine LH.exit (thenX (roundX (blockH (thenN (LH.wk (Wk.eq (el := [(2, .sptr [.I p0.ID, .lst 5 (List.map GItem.lv p0.Versions), .lst 1 (List.map LV.bool p0.Approved), .lst 3 (List.map GUse.lv p0.Uses), .bool p0.Withdrawn]), (3, .sptr [.I p1.ID, .lst 5 (List.map GItem.lv p1.Versions), .lst 1 (List.map LV.bool p1.Approved), .lst 3 (List.map GUse.lv p1.Uses), .bool p1.Withdrawn])]) (ml := []) R R R R) (LH.seq (LH.seqT [(2, .sptr [.I p0.ID, .lst 5 (List.map GItem.lv p0.Versions), .lst 1 (List.map LV.bool p0.Approved), .lst 3 (List.map GUse.lv p0.Uses), .bool p0.Withdrawn]), (3, .sptr [.I p1.ID, .lst 5 (List.map GItem.lv p1.Versions), .lst 1 (List.map LV.bool p1.Approved), .lst 3 (List.map GUse.lv p1.Uses), .bool p1.Withdrawn]), (6, .I 0)] [] R (sAi R zS) (LH.block (LH.loop (fun n e m => ∃ (n13 : Int), q15q F p0 p1 n n13 = some r ∧ e = Env.of [(2, .sptr [.I p0.ID, .lst 5 (List.map GItem.lv p0.Versions), .lst 1 (List.map LV.bool p0.Approved), .lst 3 (List.map GUse.lv p0.Uses), .bool p0.Withdrawn]), (3, .sptr [.I p1.ID, .lst 5 (List.map GItem.lv p1.Versions), .lst 1 (List.map LV.bool p1.Approved), .lst 3 (List.map GUse.lv p1.Uses), .bool p1.Withdrawn]), (6, .I n13)] ∧ m = Mem.of []) F ⟨0, h, R, R⟩ ?_)))))))))
  clear h
  rintro n e m ⟨n13, h, rfl, rfl⟩
  rcases n with _ | n
  · cases (show Option.none = some _ from h)
  obtain ⟨rec2, hrec2⟩ : ∃ f, f = q15q F p0 p1 n := ⟨_, rfl⟩
  replace h : q29q F p0 p1 rec2 n13 = some r := hrec2 ▸ h
  unfold q29q at h
  refine LH.seq (LH.seqT [(2, .sptr [.I p0.ID, .lst 5 (List.map GItem.lv p0.Versions), .lst 1 (List.map LV.bool p0.Approved), .lst 3 (List.map GUse.lv p0.Uses), .bool p0.Withdrawn]), (3, .sptr [.I p1.ID, .lst 5 (List.map GItem.lv p1.Versions), .lst 1 (List.map LV.bool p1.Approved), .lst 3 (List.map GUse.lv p1.Uses), .bool p1.Withdrawn]), (6, .I n13), (70, .bool (decide (n13 < (p0.Approved.length : Int))))] [] R (sMi R (sN (oFaS tf58_2 tk55 ts55 R R R (sN (oLd R tk55 ta55 (sN (oLnL (f := LV.bool) te55 R (sN (oLt R R zS))))))))) (LH.cond (t := (decide (n13 < (p0.Approved.length : Int)))) R (fun hc14 => ?_) (fun hc14 => ?_)))
  ·replace h := iteT h hc14
   refine LH.skip (thenN (LH.wk (Wk.eq (el := [(2, .sptr [.I p0.ID, .lst 5 (List.map GItem.lv p0.Versions), .lst 1 (List.map LV.bool p0.Approved), .lst 3 (List.map GUse.lv p0.Uses), .bool p0.Withdrawn]), (3, .sptr [.I p1.ID, .lst 5 (List.map GItem.lv p1.Versions), .lst 1 (List.map LV.bool p1.Approved), .lst 3 (List.map GUse.lv p1.Uses), .bool p1.Withdrawn]), (6, .I n13)]) (ml := []) R R R R) (LH.seq (LH.block ?_))))
   obtain ⟨x15, hx15, h⟩ := bindS h
   obtain ⟨x16, hx16, h⟩ := bindS h
   refine LH.seqJM mixed [] [0, 0, 0, 0, 0, 0, 0, 0, 0, 0, 0] [(2, .sptr [.I p0.ID, .lst 5 (List.map GItem.lv p0.Versions), .lst 1 (List.map LV.bool p0.Approved), .lst 3 (List.map GUse.lv p0.Uses), .bool p0.Withdrawn]), (3, .sptr [.I p1.ID, .lst 5 (List.map GItem.lv p1.Versions), .lst 1 (List.map LV.bool p1.Approved), .lst 3 (List.map GUse.lv p1.Uses), .bool p1.Withdrawn]), (6, .I n13), (83, .bool (!(x15 == x16)))] [] R R (by kernel_rfl) (mN0 (oFaS tf58_2 tk55 ts55 R R R ⟨R, mN0 (oLd R tk55 ta55 ⟨R, mMi R (mN0 (oIx (f := LV.bool) te55 tk4 ts4 R R okB hx15 R ⟨R, mN0 (oLd R tk4 ta4 ⟨R, mN0 (oFaS tf58_2 tk55 ts55 R R R ⟨R, mN0 (oLd R tk55 ta55 ⟨R, mMi R (mN0 (oIx (f := LV.bool) te55 tk4 ts4 R R okB hx16 R ⟨R, mN0 (oLd R tk4 ta4 ⟨R, mN0 (oNeB R R tb4 ⟨R, zM⟩)⟩)⟩))⟩)⟩)⟩)⟩))⟩)⟩)) (LH.cond (t := (!(x15 == x16))) R (fun hc17 => ?_) (fun hc17 => ?_))
   ·replace h := iteT h hc17
    refine LH.seqT [(4, .bool false)] [] R (sAb R zS) (LH.ret (blockR (thenR (roundR (blockR (thenR ?_))))))
    obtain rfl := oI h
    exact retE (aT Try.results40) (lrT R (lr0 ⟨memN mN, R, prK R, Sub.rfl⟩))
   replace h := iteF h hc17
   refine LH.skip (blockN (thenN (LH.loneT [(2, .sptr [.I p0.ID, .lst 5 (List.map GItem.lv p0.Versions), .lst 1 (List.map LV.bool p0.Approved), .lst 3 (List.map GUse.lv p0.Uses), .bool p0.Withdrawn]), (3, .sptr [.I p1.ID, .lst 5 (List.map GItem.lv p1.Versions), .lst 1 (List.map LV.bool p1.Approved), .lst 3 (List.map GUse.lv p1.Uses), .bool p1.Withdrawn]), (6, .I (i64 (n13 + 1)))] [] R (sMi R (sN (oAdd R R (sAi R zS)))) ?_)))
   exact roundI ⟨(i64 (n13 + 1)), hrec2 ▸ h, R, R⟩ (Wk.eq R R R R)
  replace h := iteF h hc14
  refine LH.exit (thenX (roundX (blockH (thenN (LH.wk (Wk.eq (el := [(2, .sptr [.I p0.ID, .lst 5 (List.map GItem.lv p0.Versions), .lst 1 (List.map LV.bool p0.Approved), .lst 3 (List.map GUse.lv p0.Uses), .bool p0.Withdrawn]), (3, .sptr [.I p1.ID, .lst 5 (List.map GItem.lv p1.Versions), .lst 1 (List.map LV.bool p1.Approved), .lst 3 (List.map GUse.lv p1.Uses), .bool p1.Withdrawn])]) (ml := []) R R R R) (LH.seq (LH.seqT [(2, .sptr [.I p0.ID, .lst 5 (List.map GItem.lv p0.Versions), .lst 1 (List.map LV.bool p0.Approved), .lst 3 (List.map GUse.lv p0.Uses), .bool p0.Withdrawn]), (3, .sptr [.I p1.ID, .lst 5 (List.map GItem.lv p1.Versions), .lst 1 (List.map LV.bool p1.Approved), .lst 3 (List.map GUse.lv p1.Uses), .bool p1.Withdrawn]), (7, .I 0)] [] R (sAi R zS) (LH.block (LH.loop (fun n e m => ∃ (n18 : Int), q20q p0 p1 n n18 = some r ∧ e = Env.of [(2, .sptr [.I p0.ID, .lst 5 (List.map GItem.lv p0.Versions), .lst 1 (List.map LV.bool p0.Approved), .lst 3 (List.map GUse.lv p0.Uses), .bool p0.Withdrawn]), (3, .sptr [.I p1.ID, .lst 5 (List.map GItem.lv p1.Versions), .lst 1 (List.map LV.bool p1.Approved), .lst 3 (List.map GUse.lv p1.Uses), .bool p1.Withdrawn]), (7, .I n18)] ∧ m = Mem.of []) F ⟨0, h, R, R⟩ ?_)))))))))
  clear h
  rintro n e m ⟨n18, h, rfl, rfl⟩
  rcases n with _ | n
  · cases (show Option.none = some _ from h)
  obtain ⟨rec3, hrec3⟩ : ∃ f, f = q20q p0 p1 n := ⟨_, rfl⟩
  replace h : q30q p0 p1 rec3 n18 = some r := hrec3 ▸ h
  unfold q30q at h
  refine LH.seq (LH.seqT [(2, .sptr [.I p0.ID, .lst 5 (List.map GItem.lv p0.Versions), .lst 1 (List.map LV.bool p0.Approved), .lst 3 (List.map GUse.lv p0.Uses), .bool p0.Withdrawn]), (3, .sptr [.I p1.ID, .lst 5 (List.map GItem.lv p1.Versions), .lst 1 (List.map LV.bool p1.Approved), .lst 3 (List.map GUse.lv p1.Uses), .bool p1.Withdrawn]), (7, .I n18), (88, .bool (decide (n18 < (p0.Uses.length : Int))))] [] R (sMi R (sN (oFaS tf58_3 tk56 ts56 R R R (sN (oLd R tk56 ta56 (sN (oLnL (f := GUse.lv) te56 R (sN (oLt R R zS))))))))) (LH.cond (t := (decide (n18 < (p0.Uses.length : Int)))) R (fun hc19 => ?_) (fun hc19 => ?_)))
  ·replace h := iteT h hc19
   refine LH.skip (thenN (LH.wk (Wk.eq (el := [(2, .sptr [.I p0.ID, .lst 5 (List.map GItem.lv p0.Versions), .lst 1 (List.map LV.bool p0.Approved), .lst 3 (List.map GUse.lv p0.Uses), .bool p0.Withdrawn]), (3, .sptr [.I p1.ID, .lst 5 (List.map GItem.lv p1.Versions), .lst 1 (List.map LV.bool p1.Approved), .lst 3 (List.map GUse.lv p1.Uses), .bool p1.Withdrawn]), (7, .I n18)]) (ml := []) R R R R) (LH.seq (LH.block ?_))))
   obtain ⟨x20, hx20, h⟩ := bindS h
   obtain ⟨x21, hx21, h⟩ := bindS h
   refine LH.seqJM mixed [] [0, 0, 0, 0, 0, 0, 0, 0, 0, 0, 0] [(2, .sptr [.I p0.ID, .lst 5 (List.map GItem.lv p0.Versions), .lst 1 (List.map LV.bool p0.Approved), .lst 3 (List.map GUse.lv p0.Uses), .bool p0.Withdrawn]), (3, .sptr [.I p1.ID, .lst 5 (List.map GItem.lv p1.Versions), .lst 1 (List.map LV.bool p1.Approved), .lst 3 (List.map GUse.lv p1.Uses), .bool p1.Withdrawn]), (7, .I n18), (101, .bool (!(decide (x20 = x21))))] [] R R (by kernel_rfl) (mN0 (oFaS tf58_3 tk56 ts56 R R R ⟨R, mN0 (oLd R tk56 ta56 ⟨R, mMi R (mN0 (oIx (f := GUse.lv) te56 tk102 ts102 R R GUse.ok hx20 R ⟨R, mN0 (oLdA R tk102 ta102 ts102 R R ⟨R, mN0 (oFaS tf58_3 tk56 ts56 R R R ⟨R, mN0 (oLd R tk56 ta56 ⟨R, mMi R (mN0 (oIx (f := GUse.lv) te56 tk102 ts102 R R GUse.ok hx21 R ⟨R, mN0 (oLdA R tk102 ta102 ts102 R R ⟨R, mN0 (oNeA R R (ae102 x20 x21) ⟨R, zM⟩)⟩)⟩))⟩)⟩)⟩)⟩))⟩)⟩)) (LH.cond (t := (!(decide (x20 = x21)))) R (fun hc22 => ?_) (fun hc22 => ?_))
   ·replace h := iteT h hc22
    refine LH.seqT [(4, .bool false)] [] R (sAb R zS) (LH.ret (blockR (thenR (roundR (blockR (thenR ?_))))))
    obtain rfl := oI h
    exact retE (aT Try.results40) (lrT R (lr0 ⟨memN mN, R, prK R, Sub.rfl⟩))
   replace h := iteF h hc22
   refine LH.skip (blockN (thenN (LH.loneT [(2, .sptr [.I p0.ID, .lst 5 (List.map GItem.lv p0.Versions), .lst 1 (List.map LV.bool p0.Approved), .lst 3 (List.map GUse.lv p0.Uses), .bool p0.Withdrawn]), (3, .sptr [.I p1.ID, .lst 5 (List.map GItem.lv p1.Versions), .lst 1 (List.map LV.bool p1.Approved), .lst 3 (List.map GUse.lv p1.Uses), .bool p1.Withdrawn]), (7, .I (i64 (n18 + 1)))] [] R (sMi R (sN (oAdd R R (sAi R zS)))) ?_)))
   exact roundI ⟨(i64 (n18 + 1)), hrec3 ▸ h, R, R⟩ (Wk.eq R R R R)
  replace h := iteF h hc19
  refine LH.exit (thenX (roundX (blockH (thenN (LH.seqT [(4, .bool true)] [] R (sAb R zS) (LH.ret ?_))))))
  obtain rfl := oI h
  exact retE (aT Try.results40) (lrT R (lr0 ⟨memN mN, R, prK R, Sub.rfl⟩))

theorem q107q {F : Nat} {p0 : GBank} {p1 : GBank} {r : Bool} (h : q81q F p0 p1 = some r) : LCall Try.prog 19 [.agg [.lst 5 (List.map Gq2.lv p0.Records)], .agg [.lst 5 (List.map Gq2.lv p1.Records)]] (Mem.of []) (.bool r) (Mem.of []) := by
  unfold q81q at h
  refine bodyT Try.func19 R (nT Try.ntmps19 R) (LH.wk (Wk.eq (el := [(0, .agg [.lst 5 (List.map Gq2.lv p0.Records)]), (1, .agg [.lst 5 (List.map Gq2.lv p1.Records)])]) (ml := []) R R R R) (LH.seqT [(2, .sptr [.lst 5 (List.map Gq2.lv p0.Records)]), (3, .sptr [.lst 5 (List.map Gq2.lv p1.Records)])] [] R (sB (oBxR R R R R (sB (oBxR R R R R (sAb R zS))))) (LH.seq (LH.seqT [(2, .sptr [.lst 5 (List.map Gq2.lv p0.Records)]), (3, .sptr [.lst 5 (List.map Gq2.lv p1.Records)]), (12, .bool ((p0.Records.length : Int) != (p1.Records.length : Int)))] [] R (sN (oFaS tf47_0 tk45 ts45 R R R (sN (oLd R tk45 ta45 (sN (oLnL (f := Gq2.lv) te45 R (sN (oFaS tf47_0 tk45 ts45 R R R (sN (oLd R tk45 ta45 (sN (oLnL (f := Gq2.lv) te45 R (sN (oNe R R zS)))))))))))))) (LH.cond (t := ((p0.Records.length : Int) != (p1.Records.length : Int))) R (fun hc1 => ?_) (fun hc1 => ?_))))))
  ·replace h := iteT h hc1
   refine LH.seqT [(4, .bool false)] [] R (sAb R zS) (LH.ret (thenR ?_))
   obtain rfl := oI h
   exact retE (aT Try.results19) (lrT R (lr0 ⟨memN mN, R, prK R, Sub.rfl⟩))
  replace h := iteF h hc1
  refine LH.skip (thenN (LH.wk (Wk.eq (el := [(2, .sptr [.lst 5 (List.map Gq2.lv p0.Records)]), (3, .sptr [.lst 5 (List.map Gq2.lv p1.Records)])]) (ml := []) R R R R) (LH.seq (LH.seqT [(2, .sptr [.lst 5 (List.map Gq2.lv p0.Records)]), (3, .sptr [.lst 5 (List.map Gq2.lv p1.Records)]), (5, .I 0)] [] R (sAi R zS) (LH.block (LH.loop (fun n e m => ∃ (n2 : Int), q56q F p0 p1 n n2 = some r ∧ e = Env.of [(2, .sptr [.lst 5 (List.map Gq2.lv p0.Records)]), (3, .sptr [.lst 5 (List.map Gq2.lv p1.Records)]), (5, .I n2)] ∧ m = Mem.of []) F ⟨0, h, R, R⟩ ?_))))))
  clear h
  rintro n e m ⟨n2, h, rfl, rfl⟩
  rcases n with _ | n
  · cases (show Option.none = some _ from h)
  obtain ⟨rec1, hrec1⟩ : ∃ f, f = q56q F p0 p1 n := ⟨_, rfl⟩
  replace h : q62q F p0 p1 rec1 n2 = some r := hrec1 ▸ h
  unfold q62q at h
  refine LH.seq (LH.seqT [(2, .sptr [.lst 5 (List.map Gq2.lv p0.Records)]), (3, .sptr [.lst 5 (List.map Gq2.lv p1.Records)]), (5, .I n2), (17, .bool (decide (n2 < (p0.Records.length : Int))))] [] R (sMi R (sN (oFaS tf47_0 tk45 ts45 R R R (sN (oLd R tk45 ta45 (sN (oLnL (f := Gq2.lv) te45 R (sN (oLt R R zS))))))))) (LH.cond (t := (decide (n2 < (p0.Records.length : Int)))) R (fun hc3 => ?_) (fun hc3 => ?_)))
  ·replace h := iteT h hc3
   refine LH.skip (thenN (LH.wk (Wk.eq (el := [(2, .sptr [.lst 5 (List.map Gq2.lv p0.Records)]), (3, .sptr [.lst 5 (List.map Gq2.lv p1.Records)]), (5, .I n2)]) (ml := []) R R R R) (LH.seq (LH.block ?_))))
   obtain ⟨x4, hx4, h⟩ := bindS h
   obtain ⟨x5, hx5, h⟩ := bindS h
   obtain ⟨r6, hr6, h⟩ := bindS h
   refine LH.seqJM mixed [] [0, 0, 0, 0, 0, 0, 0, 0, 0, 0, 0, 0] [(2, .sptr [.lst 5 (List.map Gq2.lv p0.Records)]), (3, .sptr [.lst 5 (List.map Gq2.lv p1.Records)]), (5, .I n2), (31, .bool (!r6))] [] R R (by kernel_rfl) (mN0 (oFaS tf47_0 tk45 ts45 R R R ⟨R, mN0 (oLd R tk45 ta45 ⟨R, mMi R (mN0 (oIx (f := Gq2.lv) te45 tk58 ts58 R R Gq2.ok hx4 R ⟨R, mN0 (oLdA R tk58 ta58 ts58 R R ⟨R, mN0 (oFaS tf47_0 tk45 ts45 R R R ⟨R, mN0 (oLd R tk45 ta45 ⟨R, mMi R (mN0 (oIx (f := Gq2.lv) te45 tk58 ts58 R R Gq2.ok hx5 R ⟨R, mN0 (oLdA R tk58 ta58 ts58 R R ⟨R, mN0 (oCP (args := [.agg [.I x4.ID, .lst 5 (List.map GItem.lv x4.Versions), .lst 1 (List.map LV.bool x4.Approved), .lst 3 (List.map GUse.lv x4.Uses), .bool x4.Withdrawn], .agg [.I x5.ID, .lst 5 (List.map GItem.lv x5.Versions), .lst 1 (List.map LV.bool x5.Approved), .lst 3 (List.map GUse.lv x5.Uses), .bool x5.Withdrawn]]) R isF40 R (sbR (sbR sbN)) (q93q hr6) R ⟨R, mN0 (oNot R ⟨R, zM⟩)⟩)⟩)⟩))⟩)⟩)⟩)⟩))⟩)⟩)) (LH.cond (t := (!r6)) R (fun hc7 => ?_) (fun hc7 => ?_))
   ·replace h := iteT h hc7
    refine LH.seqT [(4, .bool false)] [] R (sAb R zS) (LH.ret (blockR (thenR (roundR (blockR (thenR ?_))))))
    obtain rfl := oI h
    exact retE (aT Try.results19) (lrT R (lr0 ⟨memN mN, R, prK R, Sub.rfl⟩))
   replace h := iteF h hc7
   refine LH.skip (blockN (thenN (LH.loneT [(2, .sptr [.lst 5 (List.map Gq2.lv p0.Records)]), (3, .sptr [.lst 5 (List.map Gq2.lv p1.Records)]), (5, .I (i64 (n2 + 1)))] [] R (sMi R (sN (oAdd R R (sAi R zS)))) ?_)))
   exact roundI ⟨(i64 (n2 + 1)), hrec1 ▸ h, R, R⟩ (Wk.eq R R R R)
  replace h := iteF h hc3
  refine LH.exit (thenX (roundX (blockH (thenN (LH.seqT [(4, .bool true)] [] R (sAb R zS) (LH.ret ?_))))))
  obtain rfl := oI h
  exact retE (aT Try.results19) (lrT R (lr0 ⟨memN mN, R, prK R, Sub.rfl⟩))

theorem q95q {F : Nat} {p0 : List Gq3} {p1 : List Gq3} {r : Bool} (h : q66q F p0 p1 = some r) : LCall Try.prog 20 [.lst 3 (List.map Gq3.lv p0), .lst 3 (List.map Gq3.lv p1)] (Mem.of []) (.bool r) (Mem.of []) := by
  unfold q66q at h
  refine bodyT Try.func20 R (nT Try.ntmps20 R) (LH.wk (Wk.eq (el := [(0, .lst 3 (List.map Gq3.lv p0)), (1, .lst 3 (List.map Gq3.lv p1))]) (ml := []) R R R R) (LH.seqT [(0, .lst 3 (List.map Gq3.lv p0)), (1, .lst 3 (List.map Gq3.lv p1))] [] R (sAb R zS) (LH.seq (LH.seqT [(0, .lst 3 (List.map Gq3.lv p0)), (1, .lst 3 (List.map Gq3.lv p1)), (10, .bool ((p0.length : Int) != (p1.length : Int)))] [] R (sMl R (sN (oLnL (f := Gq3.lv) te48 R (sMl R (sN (oLnL (f := Gq3.lv) te48 R (sN (oNe R R zS)))))))) (LH.cond (t := ((p0.length : Int) != (p1.length : Int))) R (fun hc1 => ?_) (fun hc1 => ?_))))))
  ·replace h := iteT h hc1
   refine LH.seqT [(4, .bool false)] [] R (sAb R zS) (LH.ret (thenR ?_))
   obtain rfl := oI h
   exact retE (aT Try.results20) (lrT R (lr0 ⟨memN mN, R, prK R, Sub.rfl⟩))
  replace h := iteF h hc1
  refine LH.skip (thenN (LH.wk (Wk.eq (el := [(0, .lst 3 (List.map Gq3.lv p0)), (1, .lst 3 (List.map Gq3.lv p1))]) (ml := []) R R R R) (LH.seq (LH.seqT [(0, .lst 3 (List.map Gq3.lv p0)), (1, .lst 3 (List.map Gq3.lv p1)), (5, .I 0)] [] R (sAi R zS) (LH.block (LH.loop (fun n e m => ∃ (n2 : Int), q35q p0 p1 n n2 = some r ∧ e = Env.of [(0, .lst 3 (List.map Gq3.lv p0)), (1, .lst 3 (List.map Gq3.lv p1)), (5, .I n2)] ∧ m = Mem.of []) F ⟨0, h, R, R⟩ ?_))))))
  clear h
  rintro n e m ⟨n2, h, rfl, rfl⟩
  rcases n with _ | n
  · cases (show Option.none = some _ from h)
  obtain ⟨rec1, hrec1⟩ : ∃ f, f = q35q p0 p1 n := ⟨_, rfl⟩
  replace h : q38q p0 p1 rec1 n2 = some r := hrec1 ▸ h
  unfold q38q at h
  refine LH.seq (LH.seqT [(0, .lst 3 (List.map Gq3.lv p0)), (1, .lst 3 (List.map Gq3.lv p1)), (5, .I n2), (14, .bool (decide (n2 < (p0.length : Int))))] [] R (sMi R (sMl R (sN (oLnL (f := Gq3.lv) te48 R (sN (oLt R R zS)))))) (LH.cond (t := (decide (n2 < (p0.length : Int)))) R (fun hc3 => ?_) (fun hc3 => ?_)))
  ·replace h := iteT h hc3
   refine LH.skip (thenN (LH.wk (Wk.eq (el := [(0, .lst 3 (List.map Gq3.lv p0)), (1, .lst 3 (List.map Gq3.lv p1)), (5, .I n2)]) (ml := []) R R R R) (LH.seq (LH.block ?_))))
   obtain ⟨x4, hx4, h⟩ := bindS h
   obtain ⟨x5, hx5, h⟩ := bindS h
   refine LH.seqJM mixed [] [0, 0, 0, 0, 0, 0, 0, 0, 0] [(0, .lst 3 (List.map Gq3.lv p0)), (1, .lst 3 (List.map Gq3.lv p1)), (5, .I n2), (25, .bool (!(decide (x4 = x5))))] [] R R (by kernel_rfl) (mMl R (mMi R (mN0 (oIx (f := Gq3.lv) te48 tk73 ts73 R R Gq3.ok hx4 R ⟨R, mN0 (oLdA R tk73 ta73 ts73 R R ⟨R, mMl R (mMi R (mN0 (oIx (f := Gq3.lv) te48 tk73 ts73 R R Gq3.ok hx5 R ⟨R, mN0 (oLdA R tk73 ta73 ts73 R R ⟨R, mN0 (oNeA R R (ae73 x4 x5) ⟨R, zM⟩)⟩)⟩)))⟩)⟩)))) (LH.cond (t := (!(decide (x4 = x5)))) R (fun hc6 => ?_) (fun hc6 => ?_))
   ·replace h := iteT h hc6
    refine LH.seqT [(4, .bool false)] [] R (sAb R zS) (LH.ret (blockR (thenR (roundR (blockR (thenR ?_))))))
    obtain rfl := oI h
    exact retE (aT Try.results20) (lrT R (lr0 ⟨memN mN, R, prK R, Sub.rfl⟩))
   replace h := iteF h hc6
   refine LH.skip (blockN (thenN (LH.loneT [(0, .lst 3 (List.map Gq3.lv p0)), (1, .lst 3 (List.map Gq3.lv p1)), (5, .I (i64 (n2 + 1)))] [] R (sMi R (sN (oAdd R R (sAi R zS)))) ?_)))
   exact roundI ⟨(i64 (n2 + 1)), hrec1 ▸ h, R, R⟩ (Wk.eq R R R R)
  replace h := iteF h hc3
  refine LH.exit (thenX (roundX (blockH (thenN (LH.seqT [(4, .bool true)] [] R (sAb R zS) (LH.ret ?_))))))
  obtain rfl := oI h
  exact retE (aT Try.results20) (lrT R (lr0 ⟨memN mN, R, prK R, Sub.rfl⟩))

theorem q89q {F : Nat} {p0 : List Int} {r : Bool} (h : q61q F p0 = some r) : LCall Try.prog 4 [.L p0] (Mem.of []) (.bool r) (Mem.of []) := by
  unfold q61q at h
  refine bodyT Try.func4 R (nT Try.ntmps4 R) (LH.wk (Wk.eq (el := [(0, .L p0)]) (ml := []) R R R R) (LH.seqT [(0, .L p0)] [] R (sAb R zS) ?_))
  obtain ⟨r1, hr1, h⟩ := bindS h
  refine LH.seqT [(3, .ptr 7 0)] [(7, .box [.L r1.L, .I r1.At])] R (sMl R (sN (oCM (args := [.L p0]) (ml := []) (ml' := [(7, .box [.L r1.L, .I r1.At])]) R isF8 R (sbR sbN) (q113q hr1) mN (newF R newN) R (sAp R zS)))) ?_
  obtain ⟨r2, hr2, h⟩ := bindS h
  refine LH.seqT [(3, .ptr 7 0), (4, .lst 12 (List.map Gq0.lv r2.1))] [(7, .box [.L r2.2.L, .I r2.2.At])] R (sMp R (sN (oCM (args := [.ptr 7 0, .I 10, .I 8]) (ml := [(7, .box [.L r1.L, .I r1.At])]) (ml' := [(7, .box [.L r2.2.L, .I r2.2.At])]) R isF9 R (sbR (sbR (sbR sbN))) (Gq11 hr2) (mC R mN) (newI R newN) R (sAl R zS)))) ?_
  obtain ⟨r3, hr3, h⟩ := bindS h
  refine LH.seqT [(4, .lst 12 (List.map Gq0.lv r2.1)), (5, .L r3.1)] [] R (sMp R (sMl R (sN (oLnL (f := Gq0.lv) te25 R (sN (oCM (args := [.ptr 7 0, .I (r2.1.length : Int)]) (ml := [(7, .box [.L r2.2.L, .I r2.2.At])]) (ml' := [(7, .box [.L r3.2.L, .I r3.2.At])]) R isF17 R (sbR (sbR sbN)) (Gq21 hr3) (mC R mN) (newI R newN) R (sAl R zS))))))) (LH.seqT [(4, .lst 12 (List.map Gq0.lv r2.1)), (5, .L r3.1), (6, .nil)] [] R (sAn R zS) (LH.seq (LH.seqT [(4, .lst 12 (List.map Gq0.lv r2.1)), (5, .L r3.1), (6, .nil), (7, .I 0)] [] R (sAi R zS) (LH.block (LH.wk ((Wk.trans (Wk.eq (el := [(4, .lst 12 (List.map Gq0.lv r2.1)), (5, .L r3.1), (6, .nil), (7, .I 0)]) (ml := []) R R R R) (Wk.trans (Wk.eq (el := [(4, .lst 12 (List.map Gq0.lv r2.1)), (5, .L r3.1), (6, .nil), (7, .I 0)]) (ml := []) R R R R) (Wk.trans (Wk.ownL (el' := [(4, .lst 12 (List.map Gq0.lv r2.1)), (5, .L r3.1), (6, .arr 137 (List.length ([] : List Gq0))), (7, .I 0)]) 137 38 12 R R (wK (wK (wO (wK wN))))) (Wk.eq (el := [(4, .lst 12 (List.map Gq0.lv r2.1)), (5, .L r3.1), (6, .arr 137 (List.length ([] : List Gq0))), (7, .I 0)]) (ml := [(137, .arr 38 12 (List.map Gq0.lv ([] : List Gq0)))]) R R R R))))) (LH.loop (fun n e m => ∃ (n4 : Int) (l5 : List Gq0), q16q F r2 r3 n n4 l5 = some r ∧ e = Env.of [(4, .lst 12 (List.map Gq0.lv r2.1)), (5, .L r3.1), (6, .arr 137 (List.length l5)), (7, .I n4)] ∧ m = Mem.of [(137, .arr 38 12 (List.map Gq0.lv l5))]) F ⟨0, ([] : List Gq0), h, R, R⟩ ?_))))))
  clear h
  rintro n e m ⟨n4, l5, h, rfl, rfl⟩
  rcases n with _ | n
  · cases (show Option.none = some _ from h)
  obtain ⟨rec1, hrec1⟩ : ∃ f, f = q16q F r2 r3 n := ⟨_, rfl⟩
  replace h : q22q F r2 r3 rec1 n4 l5 = some r := hrec1 ▸ h
  unfold q22q at h
  refine LH.seq (LH.seqT [(4, .lst 12 (List.map Gq0.lv r2.1)), (5, .L r3.1), (6, .arr 137 (List.length l5)), (7, .I n4), (25, .bool (decide (n4 < (r3.1.length : Int))))] [(137, .arr 38 12 (List.map Gq0.lv l5))] R (sMi R (sMl R (sN (oLnL (f := LV.I) te22 R (sN (oLt R R zS)))))) (LH.cond (t := (decide (n4 < (r3.1.length : Int)))) R (fun hc6 => ?_) (fun hc6 => ?_)))
  ·replace h := iteT h hc6
   refine LH.skip (thenN (LH.wk (Wk.eq (el := [(4, .lst 12 (List.map Gq0.lv r2.1)), (5, .L r3.1), (6, .arr 137 (List.length l5)), (7, .I n4)]) (ml := [(137, .arr 38 12 (List.map Gq0.lv l5))]) R R R R) (LH.seq (LH.block ?_))))
   obtain ⟨x7, hx7, h⟩ := bindS h
   obtain ⟨x8, hx8, h⟩ := bindS h
   obtain ⟨v9, hv9, h⟩ := bindS h
   refine LH.loneT [(4, .lst 12 (List.map Gq0.lv r2.1)), (5, .L r3.1), (6, .arr 137 (List.length v9)), (7, .I n4)] [(137, .arr 38 12 (List.map Gq0.lv v9))] R (sMa R (sMl R (sMl R (sMi R (sN (oIx (f := LV.I) te22 tk3 ts3 R R okI hx7 R (sN (oLd R tk3 ta3 (sN (oIx (f := Gq0.lv) te25 tk38 ts38 R R Gq0.ok hx8 R (sN (oLdA R tk38 ta38 ts38 R R (sN (oBS (f := Gq0.lv) (ys := [x8]) te25 tr38 ts38 R R R Gq0.ok (sN (oAp (f := Gq0.lv) te25 tr38 ts38 R R (prN R) R hv9 (sAa R zS))))))))))))))))) (blockN (thenN (LH.loneT [(4, .lst 12 (List.map Gq0.lv r2.1)), (5, .L r3.1), (6, .arr 137 (List.length v9)), (7, .I (i64 (n4 + 1)))] [(137, .arr 38 12 (List.map Gq0.lv v9))] R (sMi R (sN (oAdd R R (sAi R zS)))) ?_)))
   exact roundI ⟨(i64 (n4 + 1)), v9, hrec1 ▸ h, R, R⟩ (Wk.eq R R R R)
  replace h := iteF h hc6
  refine LH.exit (thenX (roundX (blockH (thenN (LH.wk ((Wk.trans (Wk.eq (el := [(4, .lst 12 (List.map Gq0.lv r2.1)), (6, .arr 137 (List.length l5))]) (ml := [(137, .arr 38 12 (List.map Gq0.lv l5))]) R R R R) (Wk.trans (Wk.frzL (f := Gq0.lv) (el' := [(4, .lst 12 (List.map Gq0.lv r2.1)), (6, .lst 12 (List.map Gq0.lv l5))]) 137 38 12 l5 R R (prN R) (fK R (fZ fN))) (Wk.eq (el := [(4, .lst 12 (List.map Gq0.lv r2.1)), (6, .lst 12 (List.map Gq0.lv l5))]) (ml := []) R R R R)))) ?_)))))
  obtain ⟨r10, hr10, h⟩ := bindS h
  refine LH.seqT [(6, .lst 12 (List.map Gq0.lv l5)), (8, .sptr [.lst 5 (List.map Gq2.lv r10.1.Records)]), (9, .lst 3 (List.map Gq3.lv r10.2.1)), (10, .I r10.2.2)] [] R (sMl R (sN (oCP (args := [.lst 12 (List.map Gq0.lv r2.1), .I 1000000]) R isF18 R (sbR (sbR sbN)) (bank_Fold_ok hr10) R (sMt R (sN (oEx R R (sN (oEx R R (sN (oEx R R (sN (oAl (id := 108) R tz47 R R (s_ (oSt R R R tk47 ts47 R R R (sAl R (sAi R (s0 ((Wk.trans (Wk.eq (el := [(6, .lst 12 (List.map Gq0.lv l5)), (8, .ptr 108 0), (9, .lst 3 (List.map Gq3.lv r10.2.1)), (10, .I r10.2.2)]) (ml := [(108, .box [.lst 5 (List.map Gq2.lv r10.1.Records)])]) R R R R) (Wk.trans (Wk.frzB 108 [.lst 5 (List.map Gq2.lv r10.1.Records)] R R R (prN R)) (Wk.eq R R R R))))))))))))))))))))) ?_
  obtain ⟨r11, hr11, h⟩ := bindS h
  refine LH.seqT [(8, .sptr [.lst 5 (List.map Gq2.lv r10.1.Records)]), (9, .lst 3 (List.map Gq3.lv r10.2.1)), (10, .I r10.2.2), (11, .sptr [.lst 5 (List.map Gq2.lv r11.1.Records)]), (12, .lst 3 (List.map Gq3.lv r11.2.1)), (13, .I r11.2.2)] [] R (sMl R (sN (oCP (args := [.lst 12 (List.map Gq0.lv l5), .I 1000000]) R isF18 R (sbR (sbR sbN)) (bank_Fold_ok hr11) R (sMt R (sN (oEx R R (sN (oEx R R (sN (oEx R R (sN (oAl (id := 111) R tz47 R R (s_ (oSt R R R tk47 ts47 R R R (sAl R (sAi R (s0 ((Wk.trans (Wk.eq (el := [(8, .sptr [.lst 5 (List.map Gq2.lv r10.1.Records)]), (9, .lst 3 (List.map Gq3.lv r10.2.1)), (10, .I r10.2.2), (11, .ptr 111 0), (12, .lst 3 (List.map Gq3.lv r11.2.1)), (13, .I r11.2.2)]) (ml := [(111, .box [.lst 5 (List.map Gq2.lv r11.1.Records)])]) R R R R) (Wk.trans (Wk.frzB 111 [.lst 5 (List.map Gq2.lv r11.1.Records)] R R R (prN R)) (Wk.eq R R R R))))))))))))))))))))) ?_
  obtain ⟨w13, hv, h⟩ := bindS h
  refine LH.seqT [(2, .bool w13)] [] R ?_ ?_
  ·refine sMi R (sN (oEq R R (sMb R ?_)))
   by_cases hb14 : (r10.2.2 == 0) = true
   ·replace hv := iteT hv hb14
    refine sT R (cB hb14) (oM (v := (.int _ _)) R (sT R (cB hb14) (oEq R R (sN (oPkT (cB hb14) (v := (.bool _)) R (sMb R ?_))))))
    by_cases hb15 : (r11.2.2 == 0) = true
    ·replace hv := iteT hv hb15
     refine sT R (cB hb15) (oLdA R tk47 ta47 ts47 R R (sT R (cB hb15) (oLdA R tk47 ta47 ts47 R R ?_)))
     obtain ⟨r16, hr16, hv⟩ := bindS hv
     refine sT R (cB hb15) (oCP (args := [.agg [.lst 5 (List.map Gq2.lv r10.1.Records)], .agg [.lst 5 (List.map Gq2.lv r11.1.Records)]]) R isF19 R (sbR (sbR sbN)) (q107q hr16) R (sN (oPkT (cB hb15) (v := (.bool _)) R (sMb R ?_))))
     by_cases hb17 : r16 = true
     ·replace hv := iteT hv hb17
      refine sT R (cB hb17) (oM (v := (.lst _ _)) R (sT R (cB hb17) (oM (v := (.lst _ _)) R ?_)))
      obtain ⟨r18, hr18, hv⟩ := bindS hv
      refine sT R (cB hb17) (oCP (args := [.lst 3 (List.map Gq3.lv r10.2.1), .lst 3 (List.map Gq3.lv r11.2.1)]) R isF20 R (sbR (sbR sbN)) (q95q hr18) R (sN (oPkT (cB hb17) (v := (.bool _)) R (sMb R ?_))))
      by_cases hb19 : r18 = true
      ·replace hv := iteT hv hb19
       obtain ⟨r20, hr20, hv⟩ := bindS hv
       refine sT R (cB hb19) (oCP (args := []) R isF16 R sbN (q103q hr20) R (sN (oPkT (cB hb19) (v := (.bool _)) R (sAb R ?_))))
       obtain rfl := oI hv
       exact zS
      ·replace hb19 := bF hb19
       replace hv := iteF hv hb19
       refine sF R R hb19 (sN (oPkF (cB hb19) (v := (.bool _)) R (sAb R ?_)))
       obtain rfl := oI hv
       exact zS
     ·replace hb17 := bF hb17
      replace hv := iteF hv hb17
      refine sF R R hb17 (sF R R hb17 (sF R R hb17 (sN (oPkF (cB hb17) (v := (.bool _)) R (sMb R (sF R R R (sN (oPkF R (v := (.bool _)) R (sAb R ?_)))))))))
      obtain rfl := oI hv
      exact zS
    ·replace hb15 := bF hb15
     replace hv := iteF hv hb15
     refine sF R R hb15 (sF R R hb15 (sF R R hb15 (sN (oPkF (cB hb15) (v := (.bool _)) R (sMb R (sF R R R (sF R R R (sF R R R (sN (oPkF R (v := (.bool _)) R (sMb R (sF R R R (sN (oPkF R (v := (.bool _)) R (sAb R ?_)))))))))))))))
     obtain rfl := oI hv
     exact zS
   ·replace hb14 := bF hb14
    replace hv := iteF hv hb14
    refine sF R R hb14 (sF R R hb14 (sN (oPkF (cB hb14) (v := (.bool _)) R (sMb R (sF R R R (sF R R R (sF R R R (sN (oPkF R (v := (.bool _)) R (sMb R (sF R R R (sF R R R (sF R R R (sN (oPkF R (v := (.bool _)) R (sMb R (sF R R R (sN (oPkF R (v := (.bool _)) R (sAb R ?_))))))))))))))))))))
    obtain rfl := oI hv
    exact zS
  clear hv
  refine LH.ret ?_
  obtain rfl := oI h
  exact retE (aT Try.results4) (lrT R (lr0 ⟨memN mN, R, prK R, Sub.rfl⟩))

end Go.Proofs.Ytmollikhdbaikaa
