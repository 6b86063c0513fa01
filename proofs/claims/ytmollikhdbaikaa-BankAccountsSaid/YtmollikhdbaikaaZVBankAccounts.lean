import Derived.Test.YtmollikhdbaikaaZW3
set_option linter.unusedVariables false
set_option linter.unusedSimpArgs false
set_option maxRecDepth 100000
set_option maxHeartbeats 1000000
namespace Go.Proofs.Ytmollikhdbaikaa
open Go.L Go.Sh
theorem q86q {F : Nat} {p0 : GItem} {p1 : GItem} {r : List Int} (h : q69q F p0 p1 = some r) : LCall Try.prog 42 [.agg [.I p0.ID, .I p0.Version, .str p0.Stem, .lst 6 (List.map GPart.lv p0.Parts), .L p0.Enemies], .agg [.I p1.ID, .I p1.Version, .str p1.Stem, .lst 6 (List.map GPart.lv p1.Parts), .L p1.Enemies]] (Mem.of []) (.L r) (Mem.of []) := by
  unfold q69q at h
  refine bodyT Try.func42 R (nT Try.ntmps42 R) (LH.wk (Wk.eq (el := [(0, .agg [.I p0.ID, .I p0.Version, .str p0.Stem, .lst 6 (List.map GPart.lv p0.Parts), .L p0.Enemies]), (1, .agg [.I p1.ID, .I p1.Version, .str p1.Stem, .lst 6 (List.map GPart.lv p1.Parts), .L p1.Enemies])]) (ml := []) R R R R) (LH.seqT [(2, .sptr [.I p0.ID, .I p0.Version, .str p0.Stem, .lst 6 (List.map GPart.lv p0.Parts), .L p0.Enemies]), (3, .sptr [.I p1.ID, .I p1.Version, .str p1.Stem, .lst 6 (List.map GPart.lv p1.Parts), .L p1.Enemies])] [] R (sB (oBxR R R R R (sB (oBxR R R R R (sAn R zS))))) (LH.seqT [(2, .sptr [.I p0.ID, .I p0.Version, .str p0.Stem, .lst 6 (List.map GPart.lv p0.Parts), .L p0.Enemies]), (3, .sptr [.I p1.ID, .I p1.Version, .str p1.Stem, .lst 6 (List.map GPart.lv p1.Parts), .L p1.Enemies]), (5, .nil)] [] R (sAn R zS) (LH.seq (LH.seqT [(2, .sptr [.I p0.ID, .I p0.Version, .str p0.Stem, .lst 6 (List.map GPart.lv p0.Parts), .L p0.Enemies]), (3, .sptr [.I p1.ID, .I p1.Version, .str p1.Stem, .lst 6 (List.map GPart.lv p1.Parts), .L p1.Enemies]), (5, .nil), (6, .I 0)] [] R (sAi R zS) (LH.block (LH.wk ((Wk.trans (Wk.eq (el := [(2, .sptr [.I p0.ID, .I p0.Version, .str p0.Stem, .lst 6 (List.map GPart.lv p0.Parts), .L p0.Enemies]), (3, .sptr [.I p1.ID, .I p1.Version, .str p1.Stem, .lst 6 (List.map GPart.lv p1.Parts), .L p1.Enemies]), (5, .nil), (6, .I 0)]) (ml := []) R R R R) (Wk.trans (Wk.eq (el := [(2, .sptr [.I p0.ID, .I p0.Version, .str p0.Stem, .lst 6 (List.map GPart.lv p0.Parts), .L p0.Enemies]), (3, .sptr [.I p1.ID, .I p1.Version, .str p1.Stem, .lst 6 (List.map GPart.lv p1.Parts), .L p1.Enemies]), (5, .nil), (6, .I 0)]) (ml := []) R R R R) (Wk.trans (Wk.ownL (el' := [(2, .sptr [.I p0.ID, .I p0.Version, .str p0.Stem, .lst 6 (List.map GPart.lv p0.Parts), .L p0.Enemies]), (3, .sptr [.I p1.ID, .I p1.Version, .str p1.Stem, .lst 6 (List.map GPart.lv p1.Parts), .L p1.Enemies]), (5, .arr 146 (List.length ([] : List Int))), (6, .I 0)]) 146 3 1 R R (wK (wK (wO (wK wN))))) (Wk.eq (el := [(2, .sptr [.I p0.ID, .I p0.Version, .str p0.Stem, .lst 6 (List.map GPart.lv p0.Parts), .L p0.Enemies]), (3, .sptr [.I p1.ID, .I p1.Version, .str p1.Stem, .lst 6 (List.map GPart.lv p1.Parts), .L p1.Enemies]), (5, .arr 146 (List.length ([] : List Int))), (6, .I 0)]) (ml := [(146, .arr 3 1 (List.map LV.I ([] : List Int)))]) R R R R))))) (LH.loop (fun n e m => ∃ (n1 : Int) (l2 : List Int), q23q p0 p1 n n1 l2 = some r ∧ e = Env.of [(2, .sptr [.I p0.ID, .I p0.Version, .str p0.Stem, .lst 6 (List.map GPart.lv p0.Parts), .L p0.Enemies]), (3, .sptr [.I p1.ID, .I p1.Version, .str p1.Stem, .lst 6 (List.map GPart.lv p1.Parts), .L p1.Enemies]), (5, .arr 146 (List.length l2)), (6, .I n1)] ∧ m = Mem.of [(146, .arr 3 1 (List.map LV.I l2))]) F ⟨0, ([] : List Int), h, R, R⟩ ?_))))))))
  clear h
  rintro n e m ⟨n1, l2, h, rfl, rfl⟩
  rcases n with _ | n
  · cases (show Option.none = some _ from h)
  obtain ⟨rec1, hrec1⟩ : ∃ f, f = q23q p0 p1 n := ⟨_, rfl⟩
  replace h : q37q p0 p1 rec1 n1 l2 = some r := hrec1 ▸ h
  unfold q37q at h
  refine LH.seq (LH.seqT [(2, .sptr [.I p0.ID, .I p0.Version, .str p0.Stem, .lst 6 (List.map GPart.lv p0.Parts), .L p0.Enemies]), (3, .sptr [.I p1.ID, .I p1.Version, .str p1.Stem, .lst 6 (List.map GPart.lv p1.Parts), .L p1.Enemies]), (5, .arr 146 (List.length l2)), (6, .I n1), (15, .bool (decide (n1 < (max (p0.Parts.length : Int) (p1.Parts.length : Int)))))] [(146, .arr 3 1 (List.map LV.I l2))] R (sMi R (sN (oFaS tf34_3 tk32 ts32 R R R (sN (oLd R tk32 ta32 (sN (oLnL (f := GPart.lv) te32 R (sN (oFaS tf34_3 tk32 ts32 R R R (sN (oLd R tk32 ta32 (sN (oLnL (f := GPart.lv) te32 R (sX ((ok_max R R).ok) (sN (oLt R R zS)))))))))))))))) (LH.cond (t := (decide (n1 < (max (p0.Parts.length : Int) (p1.Parts.length : Int))))) R (fun hc3 => ?_) (fun hc3 => ?_)))
  ·replace h := iteT h hc3
   refine LH.skip (thenN (LH.wk (Wk.eq (el := [(2, .sptr [.I p0.ID, .I p0.Version, .str p0.Stem, .lst 6 (List.map GPart.lv p0.Parts), .L p0.Enemies]), (3, .sptr [.I p1.ID, .I p1.Version, .str p1.Stem, .lst 6 (List.map GPart.lv p1.Parts), .L p1.Enemies]), (5, .arr 146 (List.length l2)), (6, .I n1)]) (ml := [(146, .arr 3 1 (List.map LV.I l2))]) R R R R) (LH.seq (LH.block ?_))))
   obtain ⟨w5, hv, h⟩ := bindS h
   refine LH.seqJM mixed [] [0, 0, 0, 0, 0, 0, 0, 0, 0, 0, 0, 0, 0, 0, 0, 0, 0, 0, 0, 0, 0, 0, 0, 0, 0] [(2, .sptr [.I p0.ID, .I p0.Version, .str p0.Stem, .lst 6 (List.map GPart.lv p0.Parts), .L p0.Enemies]), (3, .sptr [.I p1.ID, .I p1.Version, .str p1.Stem, .lst 6 (List.map GPart.lv p1.Parts), .L p1.Enemies]), (5, .arr 146 (List.length l2)), (6, .I n1), (42, .bool w5)] [(146, .arr 3 1 (List.map LV.I l2))] R R (by kernel_rfl) ?_ ?_
   ·refine mMi R (mN0 (oFaS tf34_3 tk32 ts32 R R R ⟨R, mN0 (oLd R tk32 ta32 ⟨R, mN0 (oLnL (f := GPart.lv) te32 R ⟨R, mN0 (oGe R R ⟨R, mMb R ?_⟩)⟩)⟩)⟩))
    by_cases hb6 : (decide (n1 ≥ (p0.Parts.length : Int))) = true
    ·replace hv := iteT hv hb6
     refine mF R R hb6 (mF R R hb6 (mF R R hb6 (mF R R hb6 (mF R R hb6 (mN0 (oPkT (cB hb6) (v := (.bool _)) R ⟨R, mMb R (mF R R R (mF R R R (mF R R R (mF R R R (mF R R R (mF R R R (mF R R R (mF R R R (mF R R R (mF R R R (mF R R R (mN0 (oPkT R (v := (.bool _)) R ⟨R, ?_⟩)))))))))))))⟩))))))
     obtain rfl := oI hv
     exact zM
    ·replace hb6 := bF hb6
     replace hv := iteF hv hb6
     refine mT R (cB hb6) (mMi R (mT R (cB hb6) (mN0 (oFaS tf34_3 tk32 ts32 R R R ⟨R, mT R (cB hb6) (mN0 (oLd R tk32 ta32 ⟨R, mT R (cB hb6) (mN0 (oLnL (f := GPart.lv) te32 R ⟨R, mT R (cB hb6) (mN0 (oGe R R ⟨R, mN0 (oPkF (cB hb6) (v := (.bool _)) R ⟨R, mMb R ?_⟩)⟩))⟩))⟩))⟩))))
     by_cases hb7 : (decide (n1 ≥ (p1.Parts.length : Int))) = true
     ·replace hv := iteT hv hb7
      refine mF R R hb7 (mF R R hb7 (mF R R hb7 (mF R R hb7 (mF R R hb7 (mF R R hb7 (mF R R hb7 (mF R R hb7 (mF R R hb7 (mF R R hb7 (mF R R hb7 (mN0 (oPkT (cB hb7) (v := (.bool _)) R ⟨R, ?_⟩))))))))))))
      obtain rfl := oI hv
      exact zM
     ·replace hb7 := bF hb7
      replace hv := iteF hv hb7
      refine mT R (cB hb7) (mN0 (oFaS tf34_3 tk32 ts32 R R R ⟨R, mT R (cB hb7) (mN0 (oLd R tk32 ta32 ⟨R, mT R (cB hb7) (mMi R ?_)⟩))⟩))
      obtain ⟨x8, hx8, hv⟩ := bindS hv
      refine mT R (cB hb7) (mN0 (oIx (f := GPart.lv) te32 tk89 ts89 R R GPart.ok hx8 R ⟨R, mT R (cB hb7) (mN0 (oLdA R tk89 ta89 ts89 R R ⟨R, mT R (cB hb7) (mN0 (oFaS tf34_3 tk32 ts32 R R R ⟨R, mT R (cB hb7) (mN0 (oLd R tk32 ta32 ⟨R, mT R (cB hb7) (mMi R ?_)⟩))⟩))⟩))⟩))
      obtain ⟨x9, hx9, hv⟩ := bindS hv
      refine mT R (cB hb7) (mN0 (oIx (f := GPart.lv) te32 tk89 ts89 R R GPart.ok hx9 R ⟨R, mT R (cB hb7) (mN0 (oLdA R tk89 ta89 ts89 R R ⟨R, mT R (cB hb7) (mN0 (oNeA R R (ae89 x8 x9) ⟨R, mN0 (oPkF (cB hb7) (v := (.bool _)) R ⟨R, ?_⟩)⟩))⟩))⟩))
      obtain rfl := oI hv
      exact zM
   clear hv
   refine LH.cond (t := w5) R (fun hc10 => ?_) (fun hc10 => ?_)
   ·replace h := iteT h hc10
    obtain ⟨v11, hv11, h⟩ := bindS h
    refine LH.loneT [(2, .sptr [.I p0.ID, .I p0.Version, .str p0.Stem, .lst 6 (List.map GPart.lv p0.Parts), .L p0.Enemies]), (3, .sptr [.I p1.ID, .I p1.Version, .str p1.Stem, .lst 6 (List.map GPart.lv p1.Parts), .L p1.Enemies]), (5, .arr 146 (List.length v11)), (6, .I n1)] [(146, .arr 3 1 (List.map LV.I v11))] R (sMa R (sMi R (sN (oBS (f := LV.I) (ys := [n1]) te22 tr3 ts3 R R R okI (sN (oAp (f := LV.I) te22 tr3 ts3 R R (prN R) R hv11 (sAa R zS))))))) (blockN (thenN (LH.loneT [(2, .sptr [.I p0.ID, .I p0.Version, .str p0.Stem, .lst 6 (List.map GPart.lv p0.Parts), .L p0.Enemies]), (3, .sptr [.I p1.ID, .I p1.Version, .str p1.Stem, .lst 6 (List.map GPart.lv p1.Parts), .L p1.Enemies]), (5, .arr 146 (List.length v11)), (6, .I (i64 (n1 + 1)))] [(146, .arr 3 1 (List.map LV.I v11))] R (sMi R (sN (oAdd R R (sAi R zS)))) ?_)))
    exact roundI ⟨(i64 (n1 + 1)), v11, hrec1 ▸ h, R, R⟩ (Wk.eq R R R R)
   replace h := iteF h hc10
   refine LH.skip (blockN (thenN (LH.loneT [(2, .sptr [.I p0.ID, .I p0.Version, .str p0.Stem, .lst 6 (List.map GPart.lv p0.Parts), .L p0.Enemies]), (3, .sptr [.I p1.ID, .I p1.Version, .str p1.Stem, .lst 6 (List.map GPart.lv p1.Parts), .L p1.Enemies]), (5, .arr 146 (List.length l2)), (6, .I (i64 (n1 + 1)))] [(146, .arr 3 1 (List.map LV.I l2))] R (sMi R (sN (oAdd R R (sAi R zS)))) ?_)))
   exact roundI ⟨(i64 (n1 + 1)), l2, hrec1 ▸ h, R, R⟩ (Wk.eq R R R R)
  replace h := iteF h hc3
  refine LH.exit (thenX (roundX (blockH (thenN (LH.wk ((Wk.trans (Wk.eq (el := [(5, .arr 146 (List.length l2))]) (ml := [(146, .arr 3 1 (List.map LV.I l2))]) R R R R) (Wk.trans (Wk.frzL (f := LV.I) (el' := [(5, .L l2)]) 146 3 1 l2 R R (prN R) (fZ fN)) (Wk.eq (el := [(5, .L l2)]) (ml := []) R R R R)))) (LH.seqT [(4, .L l2)] [] R (sMl R (sAl R zS)) (LH.ret ?_)))))))
  obtain rfl := oI h
  exact retE (aT Try.results42) (lrT R (lr0 ⟨memN mN, R, prK R, Sub.rfl⟩))

theorem q97q {F : Nat} {p0 : List Int} {p1 : List Int} {r : Bool} (h : q68q F p0 p1 = some r) : LCall Try.prog 43 [.L p0, .L p1] (Mem.of []) (.bool r) (Mem.of []) := by
  unfold q68q at h
  refine bodyT Try.func43 R (nT Try.ntmps43 R) (LH.wk (Wk.eq (el := [(0, .L p0), (1, .L p1)]) (ml := []) R R R R) (LH.seqT [(0, .L p0), (1, .L p1)] [] R (sAb R zS) (LH.seq (LH.seqT [(0, .L p0), (1, .L p1), (10, .bool ((p0.length : Int) != (p1.length : Int)))] [] R (sMl R (sN (oLnL (f := LV.I) te22 R (sMl R (sN (oLnL (f := LV.I) te22 R (sN (oNe R R zS)))))))) (LH.cond (t := ((p0.length : Int) != (p1.length : Int))) R (fun hc1 => ?_) (fun hc1 => ?_))))))
  ·replace h := iteT h hc1
   refine LH.seqT [(4, .bool false)] [] R (sAb R zS) (LH.ret (thenR ?_))
   obtain rfl := oI h
   exact retE (aT Try.results43) (lrT R (lr0 ⟨memN mN, R, prK R, Sub.rfl⟩))
  replace h := iteF h hc1
  refine LH.skip (thenN (LH.wk (Wk.eq (el := [(0, .L p0), (1, .L p1)]) (ml := []) R R R R) (LH.seq (LH.seqT [(0, .L p0), (1, .L p1), (5, .I 0)] [] R (sAi R zS) (LH.block (LH.loop (fun n e m => ∃ (n2 : Int), q51q p0 p1 n n2 = some r ∧ e = Env.of [(0, .L p0), (1, .L p1), (5, .I n2)] ∧ m = Mem.of []) F ⟨0, h, R, R⟩ ?_))))))
  clear h
  rintro n e m ⟨n2, h, rfl, rfl⟩
  rcases n with _ | n
  · cases (show Option.none = some _ from h)
  obtain ⟨rec1, hrec1⟩ : ∃ f, f = q51q p0 p1 n := ⟨_, rfl⟩
  replace h : q65q p0 p1 rec1 n2 = some r := hrec1 ▸ h
  unfold q65q at h
  refine LH.seq (LH.seqT [(0, .L p0), (1, .L p1), (5, .I n2), (14, .bool (decide (n2 < (p0.length : Int))))] [] R (sMi R (sMl R (sN (oLnL (f := LV.I) te22 R (sN (oLt R R zS)))))) (LH.cond (t := (decide (n2 < (p0.length : Int)))) R (fun hc3 => ?_) (fun hc3 => ?_)))
  ·replace h := iteT h hc3
   refine LH.skip (thenN (LH.wk (Wk.eq (el := [(0, .L p0), (1, .L p1), (5, .I n2)]) (ml := []) R R R R) (LH.seq (LH.block ?_))))
   obtain ⟨x4, hx4, h⟩ := bindS h
   obtain ⟨x5, hx5, h⟩ := bindS h
   refine LH.seqJM mixed [] [0, 0, 0, 0, 0, 0, 0, 0, 0] [(0, .L p0), (1, .L p1), (5, .I n2), (25, .bool (x4 != x5))] [] R R (by kernel_rfl) (mMl R (mMi R (mN0 (oIx (f := LV.I) te22 tk3 ts3 R R okI hx4 R ⟨R, mN0 (oLd R tk3 ta3 ⟨R, mMl R (mMi R (mN0 (oIx (f := LV.I) te22 tk3 ts3 R R okI hx5 R ⟨R, mN0 (oLd R tk3 ta3 ⟨R, mN0 (oNe R R ⟨R, zM⟩)⟩)⟩)))⟩)⟩)))) (LH.cond (t := (x4 != x5)) R (fun hc6 => ?_) (fun hc6 => ?_))
   ·replace h := iteT h hc6
    refine LH.seqT [(4, .bool false)] [] R (sAb R zS) (LH.ret (blockR (thenR (roundR (blockR (thenR ?_))))))
    obtain rfl := oI h
    exact retE (aT Try.results43) (lrT R (lr0 ⟨memN mN, R, prK R, Sub.rfl⟩))
   replace h := iteF h hc6
   refine LH.skip (blockN (thenN (LH.loneT [(0, .L p0), (1, .L p1), (5, .I (i64 (n2 + 1)))] [] R (sMi R (sN (oAdd R R (sAi R zS)))) ?_)))
   exact roundI ⟨(i64 (n2 + 1)), hrec1 ▸ h, R, R⟩ (Wk.eq R R R R)
  replace h := iteF h hc3
  refine LH.exit (thenX (roundX (blockH (thenN (LH.seqT [(4, .bool true)] [] R (sAb R zS) (LH.ret ?_))))))
  obtain rfl := oI h
  exact retE (aT Try.results43) (lrT R (lr0 ⟨memN mN, R, prK R, Sub.rfl⟩))

theorem q98q {F : Nat} {p0 : GItem} {p1 : GItem} {r : Bool} (h : q74q F p0 p1 = some r) : LCall Try.prog 23 [.agg [.I p0.ID, .I p0.Version, .str p0.Stem, .lst 6 (List.map GPart.lv p0.Parts), .L p0.Enemies], .agg [.I p1.ID, .I p1.Version, .str p1.Stem, .lst 6 (List.map GPart.lv p1.Parts), .L p1.Enemies]] (Mem.of []) (.bool r) (Mem.of []) := by
  unfold q74q at h
  refine bodyT Try.func23 R (nT Try.ntmps23 R) (LH.wk (Wk.eq (el := [(0, .agg [.I p0.ID, .I p0.Version, .str p0.Stem, .lst 6 (List.map GPart.lv p0.Parts), .L p0.Enemies]), (1, .agg [.I p1.ID, .I p1.Version, .str p1.Stem, .lst 6 (List.map GPart.lv p1.Parts), .L p1.Enemies])]) (ml := []) R R R R) (LH.seqT [(2, .sptr [.I p0.ID, .I p0.Version, .str p0.Stem, .lst 6 (List.map GPart.lv p0.Parts), .L p0.Enemies]), (3, .sptr [.I p1.ID, .I p1.Version, .str p1.Stem, .lst 6 (List.map GPart.lv p1.Parts), .L p1.Enemies])] [] R (sB (oBxR R R R R (sB (oBxR R R R R (sAb R zS))))) ?_))
  obtain ⟨w2, hv, h⟩ := bindS h
  refine LH.seqT [(4, .bool w2)] [] R ?_ ?_
  ·refine sN (oFaS tf34_0 tk3 ts3 R R R (sN (oLd R tk3 ta3 (sN (oFaS tf34_0 tk3 ts3 R R R (sN (oLd R tk3 ta3 (sN (oEq R R (sMb R ?_))))))))))
   by_cases hb3 : (p0.ID == p1.ID) = true
   ·replace hv := iteT hv hb3
    refine sT R (cB hb3) (oFaS tf34_1 tk3 ts3 R R R (sT R (cB hb3) (oLd R tk3 ta3 (sT R (cB hb3) (oFaS tf34_1 tk3 ts3 R R R (sT R (cB hb3) (oLd R tk3 ta3 (sT R (cB hb3) (oEq R R (sN (oPkT (cB hb3) (v := (.bool _)) R (sMb R ?_))))))))))))
    by_cases hb4 : (p0.Version == p1.Version) = true
    ·replace hv := iteT hv hb4
     refine sT R (cB hb4) (oFaS tf34_2 tk9 ts9 R R R (sT R (cB hb4) (oLd R tk9 ta9 (sT R (cB hb4) (oFaS tf34_2 tk9 ts9 R R R (sT R (cB hb4) (oLd R tk9 ta9 (sXT R (cB hb4) ((ok_sEq R R).ok) (sN (oPkT (cB hb4) (v := (.bool _)) R (sMb R ?_)))))))))))
     by_cases hb5 : (decide (p0.Stem = p1.Stem)) = true
     ·replace hv := iteT hv hb5
      refine sT R (cB hb5) (oFaS tf34_3 tk32 ts32 R R R (sT R (cB hb5) (oLd R tk32 ta32 (sT R (cB hb5) (oLnL (f := GPart.lv) te32 R (sT R (cB hb5) (oFaS tf34_3 tk32 ts32 R R R (sT R (cB hb5) (oLd R tk32 ta32 (sT R (cB hb5) (oLnL (f := GPart.lv) te32 R (sT R (cB hb5) (oEq R R (sN (oPkT (cB hb5) (v := (.bool _)) R (sMb R ?_))))))))))))))))
      by_cases hb6 : ((p0.Parts.length : Int) == (p1.Parts.length : Int)) = true
      ·replace hv := iteT hv hb6
       refine sT R (cB hb6) (oLdA R tk34 ta34 ts34 R R (sT R (cB hb6) (oLdA R tk34 ta34 ts34 R R ?_)))
       obtain ⟨r7, hr7, hv⟩ := bindS hv
       refine sT R (cB hb6) (oCP (args := [.agg [.I p0.ID, .I p0.Version, .str p0.Stem, .lst 6 (List.map GPart.lv p0.Parts), .L p0.Enemies], .agg [.I p1.ID, .I p1.Version, .str p1.Stem, .lst 6 (List.map GPart.lv p1.Parts), .L p1.Enemies]]) R isF42 R (sbR (sbR sbN)) (q86q hr7) R (sT R (cB hb6) (oLnL (f := LV.I) te22 R (sT R (cB hb6) (oEq R R (sN (oPkT (cB hb6) (v := (.bool _)) R (sMb R ?_))))))))
       by_cases hb8 : ((r7.length : Int) == 0) = true
       ·replace hv := iteT hv hb8
        refine sT R (cB hb8) (oFaS tf34_4 tk22 ts22 R R R (sT R (cB hb8) (oLd R tk22 ta22 (sT R (cB hb8) (oFaS tf34_4 tk22 ts22 R R R (sT R (cB hb8) (oLd R tk22 ta22 ?_)))))))
        obtain ⟨r9, hr9, hv⟩ := bindS hv
        refine sT R (cB hb8) (oCP (args := [.L p0.Enemies, .L p1.Enemies]) R isF43 R (sbR (sbR sbN)) (q97q hr9) R (sN (oPkT (cB hb8) (v := (.bool _)) R (sAb R ?_))))
        obtain rfl := oI hv
        exact zS
       ·replace hb8 := bF hb8
        replace hv := iteF hv hb8
        refine sF R R hb8 (sF R R hb8 (sF R R hb8 (sF R R hb8 (sF R R hb8 (sN (oPkF (cB hb8) (v := (.bool _)) R (sAb R ?_)))))))
        obtain rfl := oI hv
        exact zS
      ·replace hb6 := bF hb6
       replace hv := iteF hv hb6
       refine sF R R hb6 (sF R R hb6 (sF R R hb6 (sF R R hb6 (sF R R hb6 (sN (oPkF (cB hb6) (v := (.bool _)) R (sMb R (sF R R R (sF R R R (sF R R R (sF R R R (sF R R R (sN (oPkF R (v := (.bool _)) R (sAb R ?_)))))))))))))))
       obtain rfl := oI hv
       exact zS
     ·replace hb5 := bF hb5
      replace hv := iteF hv hb5
      refine sF R R hb5 (sF R R hb5 (sF R R hb5 (sF R R hb5 (sF R R hb5 (sF R R hb5 (sF R R hb5 (sN (oPkF (cB hb5) (v := (.bool _)) R (sMb R (sF R R R (sF R R R (sF R R R (sF R R R (sF R R R (sN (oPkF R (v := (.bool _)) R (sMb R (sF R R R (sF R R R (sF R R R (sF R R R (sF R R R (sN (oPkF R (v := (.bool _)) R (sAb R ?_)))))))))))))))))))))))))
      obtain rfl := oI hv
      exact zS
    ·replace hb4 := bF hb4
     replace hv := iteF hv hb4
     refine sF R R hb4 (sF R R hb4 (sF R R hb4 (sF R R hb4 (sF R R hb4 (sN (oPkF (cB hb4) (v := (.bool _)) R (sMb R (sF R R R (sF R R R (sF R R R (sF R R R (sF R R R (sF R R R (sF R R R (sN (oPkF R (v := (.bool _)) R (sMb R (sF R R R (sF R R R (sF R R R (sF R R R (sF R R R (sN (oPkF R (v := (.bool _)) R (sMb R (sF R R R (sF R R R (sF R R R (sF R R R (sF R R R (sN (oPkF R (v := (.bool _)) R (sAb R ?_)))))))))))))))))))))))))))))))))
     obtain rfl := oI hv
     exact zS
   ·replace hb3 := bF hb3
    replace hv := iteF hv hb3
    refine sF R R hb3 (sF R R hb3 (sF R R hb3 (sF R R hb3 (sF R R hb3 (sN (oPkF (cB hb3) (v := (.bool _)) R (sMb R (sF R R R (sF R R R (sF R R R (sF R R R (sF R R R (sN (oPkF R (v := (.bool _)) R (sMb R (sF R R R (sF R R R (sF R R R (sF R R R (sF R R R (sF R R R (sF R R R (sN (oPkF R (v := (.bool _)) R (sMb R (sF R R R (sF R R R (sF R R R (sF R R R (sF R R R (sN (oPkF R (v := (.bool _)) R (sMb R (sF R R R (sF R R R (sF R R R (sF R R R (sF R R R (sN (oPkF R (v := (.bool _)) R (sAb R ?_)))))))))))))))))))))))))))))))))))))))))
    obtain rfl := oI hv
    exact zS
  clear hv
  refine LH.ret ?_
  obtain rfl := oI h
  exact retE (aT Try.results23) (lrT R (lr0 ⟨memN mN, R, prK R, Sub.rfl⟩))

set_option maxHeartbeats 4000000 in
theorem q84q {F : Nat} {p0 : Gq2} {p1 : Gq2} {r : Bool} (h : q46q F p0 p1 = some r) : LCall Try.prog 40 [.agg [.I p0.ID, .lst 5 (List.map GItem.lv p0.Versions), .lst 1 (List.map LV.bool p0.Approved), .lst 3 (List.map GUse.lv p0.Uses), .bool p0.Withdrawn], .agg [.I p1.ID, .lst 5 (List.map GItem.lv p1.Versions), .lst 1 (List.map LV.bool p1.Approved), .lst 3 (List.map GUse.lv p1.Uses), .bool p1.Withdrawn]] (Mem.of []) (.bool r) (Mem.of []) := by
  unfold q46q at h
  refine bodyT Try.func40 R (nT Try.ntmps40 R) (LH.wk (Wk.eq (el := [(0, .agg [.I p0.ID, .lst 5 (List.map GItem.lv p0.Versions), .lst 1 (List.map LV.bool p0.Approved), .lst 3 (List.map GUse.lv p0.Uses), .bool p0.Withdrawn]), (1, .agg [.I p1.ID, .lst 5 (List.map GItem.lv p1.Versions), .lst 1 (List.map LV.bool p1.Approved), .lst 3 (List.map GUse.lv p1.Uses), .bool p1.Withdrawn])]) (ml := []) R R R R) (LH.seqT [(2, .sptr [.I p0.ID, .lst 5 (List.map GItem.lv p0.Versions), .lst 1 (List.map LV.bool p0.Approved), .lst 3 (List.map GUse.lv p0.Uses), .bool p0.Withdrawn]), (3, .sptr [.I p1.ID, .lst 5 (List.map GItem.lv p1.Versions), .lst 1 (List.map LV.bool p1.Approved), .lst 3 (List.map GUse.lv p1.Uses), .bool p1.Withdrawn])] [] R (sB (oBxR R R R R (sB (oBxR R R R R (sAb R zS))))) (LH.seq (LH.seqT [(2, .sptr [.I p0.ID, .lst 5 (List.map GItem.lv p0.Versions), .lst 1 (List.map LV.bool p0.Approved), .lst 3 (List.map GUse.lv p0.Uses), .bool p0.Withdrawn]), (3, .sptr [.I p1.ID, .lst 5 (List.map GItem.lv p1.Versions), .lst 1 (List.map LV.bool p1.Approved), .lst 3 (List.map GUse.lv p1.Uses), .bool p1.Withdrawn]), (46, .bool ((p0.ID != p1.ID) || ((!(p0.Withdrawn == p1.Withdrawn)) || (((p0.Versions.length : Int) != (p1.Versions.length : Int)) || (((p0.Approved.length : Int) != (p1.Approved.length : Int)) || ((p0.Uses.length : Int) != (p1.Uses.length : Int)))))))] [] R ?_ ?_))))
  ·refine sN (oFaS tf58_0 tk3 ts3 R R R (sN (oLd R tk3 ta3 (sN (oFaS tf58_0 tk3 ts3 R R R (sN (oLd R tk3 ta3 (sN (oNe R R (sMb R ?_))))))))))
   by_cases hb2 : (p0.ID != p1.ID) = true
   ·exact sF R R hb2 (sF R R hb2 (sF R R hb2 (sF R R hb2 (sF R R hb2 (sN (oPkT (cB hb2) (v := (.bool _)) R (sMb R (sF R R R (sF R R R (sF R R R (sF R R R (sF R R R (sF R R R (sF R R R (sN (oPkT R (v := (.bool _)) R (sMb R (sF R R R (sF R R R (sF R R R (sF R R R (sF R R R (sF R R R (sF R R R (sN (oPkT R (v := (.bool _)) R (sMb R (sF R R R (sF R R R (sF R R R (sF R R R (sF R R R (sF R R R (sF R R R (sN (oPkT R (v := (.bool _)) R (s0 (Wk.to (eC R (eC R (eC (cB (orT hb2)) eN))) mN R (prK R)))))))))))))))))))))))))))))))))))))))
   ·replace hb2 := bF hb2
    refine sT R (cB hb2) (oFaS tf58_4 tk4 ts4 R R R (sT R (cB hb2) (oLd R tk4 ta4 (sT R (cB hb2) (oFaS tf58_4 tk4 ts4 R R R (sT R (cB hb2) (oLd R tk4 ta4 (sT R (cB hb2) (oNeB R R tb4 (sN (oPkF (cB hb2) (v := (.bool _)) R (sMb R ?_))))))))))))
    by_cases hb3 : (!(p0.Withdrawn == p1.Withdrawn)) = true
    ·exact sF R R hb3 (sF R R hb3 (sF R R hb3 (sF R R hb3 (sF R R hb3 (sF R R hb3 (sF R R hb3 (sN (oPkT (cB hb3) (v := (.bool _)) R (sMb R (sF R R R (sF R R R (sF R R R (sF R R R (sF R R R (sF R R R (sF R R R (sN (oPkT R (v := (.bool _)) R (sMb R (sF R R R (sF R R R (sF R R R (sF R R R (sF R R R (sF R R R (sF R R R (sN (oPkT R (v := (.bool _)) R (s0 (Wk.to (eC R (eC R (eC (cB (Eq.trans (orT hb3) (orF hb2))) eN))) mN R (prK R)))))))))))))))))))))))))))))))
    ·replace hb3 := bF hb3
     refine sT R (cB hb3) (oFaS tf58_1 tk54 ts54 R R R (sT R (cB hb3) (oLd R tk54 ta54 (sT R (cB hb3) (oLnL (f := GItem.lv) te54 R (sT R (cB hb3) (oFaS tf58_1 tk54 ts54 R R R (sT R (cB hb3) (oLd R tk54 ta54 (sT R (cB hb3) (oLnL (f := GItem.lv) te54 R (sT R (cB hb3) (oNe R R (sN (oPkF (cB hb3) (v := (.bool _)) R (sMb R ?_))))))))))))))))
     by_cases hb4 : ((p0.Versions.length : Int) != (p1.Versions.length : Int)) = true
     ·exact sF R R hb4 (sF R R hb4 (sF R R hb4 (sF R R hb4 (sF R R hb4 (sF R R hb4 (sF R R hb4 (sN (oPkT (cB hb4) (v := (.bool _)) R (sMb R (sF R R R (sF R R R (sF R R R (sF R R R (sF R R R (sF R R R (sF R R R (sN (oPkT R (v := (.bool _)) R (s0 (Wk.to (eC R (eC R (eC (cB (Eq.trans (Eq.trans (orT hb4) (orF hb3)) (orF hb2))) eN))) mN R (prK R)))))))))))))))))))))
     ·replace hb4 := bF hb4
      refine sT R (cB hb4) (oFaS tf58_2 tk55 ts55 R R R (sT R (cB hb4) (oLd R tk55 ta55 (sT R (cB hb4) (oLnL (f := LV.bool) te55 R (sT R (cB hb4) (oFaS tf58_2 tk55 ts55 R R R (sT R (cB hb4) (oLd R tk55 ta55 (sT R (cB hb4) (oLnL (f := LV.bool) te55 R (sT R (cB hb4) (oNe R R (sN (oPkF (cB hb4) (v := (.bool _)) R (sMb R ?_))))))))))))))))
      by_cases hb5 : ((p0.Approved.length : Int) != (p1.Approved.length : Int)) = true
      ·exact sF R R hb5 (sF R R hb5 (sF R R hb5 (sF R R hb5 (sF R R hb5 (sF R R hb5 (sF R R hb5 (sN (oPkT (cB hb5) (v := (.bool _)) R (s0 (Wk.to (eC R (eC R (eC (cB (Eq.trans (Eq.trans (Eq.trans (orT hb5) (orF hb4)) (orF hb3)) (orF hb2))) eN))) mN R (prK R)))))))))))
      ·replace hb5 := bF hb5
       exact sT R (cB hb5) (oFaS tf58_3 tk56 ts56 R R R (sT R (cB hb5) (oLd R tk56 ta56 (sT R (cB hb5) (oLnL (f := GUse.lv) te56 R (sT R (cB hb5) (oFaS tf58_3 tk56 ts56 R R R (sT R (cB hb5) (oLd R tk56 ta56 (sT R (cB hb5) (oLnL (f := GUse.lv) te56 R (sT R (cB hb5) (oNe R R (sN (oPkF (cB hb5) (v := (.bool _)) R (s0 (Wk.to (eC R (eC R (eC (cB (Eq.trans (Eq.trans (Eq.trans (orF hb5) (orF hb4)) (orF hb3)) (orF hb2))) eN))) mN R (prK R))))))))))))))))))
  refine LH.cond (t := ((p0.ID != p1.ID) || ((!(p0.Withdrawn == p1.Withdrawn)) || (((p0.Versions.length : Int) != (p1.Versions.length : Int)) || (((p0.Approved.length : Int) != (p1.Approved.length : Int)) || ((p0.Uses.length : Int) != (p1.Uses.length : Int))))))) R (fun hc6 => ?_) (fun hc6 => ?_)
  ·replace h := iteT h hc6
   refine LH.seqT [(4, .bool false)] [] R (sAb R zS) (LH.ret (thenR ?_))
   obtain rfl := oI h
   exact retE (aT Try.results40) (lrT R (lr0 ⟨memN mN, R, prK R, Sub.rfl⟩))
  replace h := iteF h hc6
  refine LH.skip (thenN (LH.wk (Wk.eq (el := [(2, .sptr [.I p0.ID, .lst 5 (List.map GItem.lv p0.Versions), .lst 1 (List.map LV.bool p0.Approved), .lst 3 (List.map GUse.lv p0.Uses), .bool p0.Withdrawn]), (3, .sptr [.I p1.ID, .lst 5 (List.map GItem.lv p1.Versions), .lst 1 (List.map LV.bool p1.Approved), .lst 3 (List.map GUse.lv p1.Uses), .bool p1.Withdrawn])]) (ml := []) R R R R) (LH.seq (LH.seqT [(2, .sptr [.I p0.ID, .lst 5 (List.map GItem.lv p0.Versions), .lst 1 (List.map LV.bool p0.Approved), .lst 3 (List.map GUse.lv p0.Uses), .bool p0.Withdrawn]), (3, .sptr [.I p1.ID, .lst 5 (List.map GItem.lv p1.Versions), .lst 1 (List.map LV.bool p1.Approved), .lst 3 (List.map GUse.lv p1.Uses), .bool p1.Withdrawn]), (5, .I 0)] [] R (sAi R zS) (LH.block (LH.loop (fun n e m => ∃ (n7 : Int), q19q F p0 p1 n n7 = some r ∧ e = Env.of [(2, .sptr [.I p0.ID, .lst 5 (List.map GItem.lv p0.Versions), .lst 1 (List.map LV.bool p0.Approved), .lst 3 (List.map GUse.lv p0.Uses), .bool p0.Withdrawn]), (3, .sptr [.I p1.ID, .lst 5 (List.map GItem.lv p1.Versions), .lst 1 (List.map LV.bool p1.Approved), .lst 3 (List.map GUse.lv p1.Uses), .bool p1.Withdrawn]), (5, .I n7)] ∧ m = Mem.of []) F ⟨0, h, R, R⟩ ?_))))))
  clear h
  rintro n e m ⟨n7, h, rfl, rfl⟩
  rcases n with _ | n
  · cases (show Option.none = some _ from h)
  obtain ⟨rec1, hrec1⟩ : ∃ f, f = q19q F p0 p1 n := ⟨_, rfl⟩
  replace h : q28q F p0 p1 rec1 n7 = some r := hrec1 ▸ h
  unfold q28q at h
  refine LH.seq (LH.seqT [(2, .sptr [.I p0.ID, .lst 5 (List.map GItem.lv p0.Versions), .lst 1 (List.map LV.bool p0.Approved), .lst 3 (List.map GUse.lv p0.Uses), .bool p0.Withdrawn]), (3, .sptr [.I p1.ID, .lst 5 (List.map GItem.lv p1.Versions), .lst 1 (List.map LV.bool p1.Approved), .lst 3 (List.map GUse.lv p1.Uses), .bool p1.Withdrawn]), (5, .I n7), (51, .bool (decide (n7 < (p0.Versions.length : Int))))] [] R (sMi R (sN (oFaS tf58_1 tk54 ts54 R R R (sN (oLd R tk54 ta54 (sN (oLnL (f := GItem.lv) te54 R (sN (oLt R R zS))))))))) (LH.cond (t := (decide (n7 < (p0.Versions.length : Int)))) R (fun hc8 => ?_) (fun hc8 => ?_)))
  ·replace h := iteT h hc8
   refine LH.skip (thenN (LH.wk (Wk.eq (el := [(2, .sptr [.I p0.ID, .lst 5 (List.map GItem.lv p0.Versions), .lst 1 (List.map LV.bool p0.Approved), .lst 3 (List.map GUse.lv p0.Uses), .bool p0.Withdrawn]), (3, .sptr [.I p1.ID, .lst 5 (List.map GItem.lv p1.Versions), .lst 1 (List.map LV.bool p1.Approved), .lst 3 (List.map GUse.lv p1.Uses), .bool p1.Withdrawn]), (5, .I n7)]) (ml := []) R R R R) (LH.seq (LH.block ?_))))
   obtain ⟨x9, hx9, h⟩ := bindS h
   obtain ⟨x10, hx10, h⟩ := bindS h
   obtain ⟨r11, hr11, h⟩ := bindS h
   refine LH.seqJM mixed [] [0, 0, 0, 0, 0, 0, 0, 0, 0, 0, 0, 0] [(2, .sptr [.I p0.ID, .lst 5 (List.map GItem.lv p0.Versions), .lst 1 (List.map LV.bool p0.Approved), .lst 3 (List.map GUse.lv p0.Uses), .bool p0.Withdrawn]), (3, .sptr [.I p1.ID, .lst 5 (List.map GItem.lv p1.Versions), .lst 1 (List.map LV.bool p1.Approved), .lst 3 (List.map GUse.lv p1.Uses), .bool p1.Withdrawn]), (5, .I n7), (65, .bool (!r11))] [] R R (by kernel_rfl) (mN0 (oFaS tf58_1 tk54 ts54 R R R ⟨R, mN0 (oLd R tk54 ta54 ⟨R, mMi R (mN0 (oIx (f := GItem.lv) te54 tk34 ts34 R R GItem.ok hx9 R ⟨R, mN0 (oLdA R tk34 ta34 ts34 R R ⟨R, mN0 (oFaS tf58_1 tk54 ts54 R R R ⟨R, mN0 (oLd R tk54 ta54 ⟨R, mMi R (mN0 (oIx (f := GItem.lv) te54 tk34 ts34 R R GItem.ok hx10 R ⟨R, mN0 (oLdA R tk34 ta34 ts34 R R ⟨R, mN0 (oCP (args := [.agg [.I x9.ID, .I x9.Version, .str x9.Stem, .lst 6 (List.map GPart.lv x9.Parts), .L x9.Enemies], .agg [.I x10.ID, .I x10.Version, .str x10.Stem, .lst 6 (List.map GPart.lv x10.Parts), .L x10.Enemies]]) R isF23 R (sbR (sbR sbN)) (q98q hr11) R ⟨R, mN0 (oNot R ⟨R, zM⟩)⟩)⟩)⟩))⟩)⟩)⟩)⟩))⟩)⟩)) (LH.cond (t := (!r11)) R (fun hc12 => ?_) (fun hc12 => ?_))
   ·replace h := iteT h hc12
    refine LH.seqT [(4, .bool false)] [] R (sAb R zS) (LH.ret (blockR (thenR (roundR (blockR (thenR ?_))))))
    obtain rfl := oI h
    exact retE (aT Try.results40) (lrT R (lr0 ⟨memN mN, R, prK R, Sub.rfl⟩))
   replace h := iteF h hc12
   refine LH.skip (blockN (thenN (LH.loneT [(2, .sptr [.I p0.ID, .lst 5 (List.map GItem.lv p0.Versions), .lst 1 (List.map LV.bool p0.Approved), .lst 3 (List.map GUse.lv p0.Uses), .bool p0.Withdrawn]), (3, .sptr [.I p1.ID, .lst 5 (List.map GItem.lv p1.Versions), .lst 1 (List.map LV.bool p1.Approved), .lst 3 (List.map GUse.lv p1.Uses), .bool p1.Withdrawn]), (5, .I (i64 (n7 + 1)))] [] R (sMi R (sN (oAdd R R (sAi R zS)))) ?_)))
   exact roundI ⟨(i64 (n7 + 1)), hrec1 ▸ h, R, R⟩ (Wk.eq R R R R)
  replace h := iteF h hc8
  refine LH.exit (thenX (roundX (blockH (thenN (LH.wk (Wk.eq (el := [(2, .sptr [.I p0.ID, .lst 5 (List.map GItem.lv p0.Versions), .lst 1 (List.map LV.bool p0.Approved), .lst 3 (List.map GUse.lv p0.Uses), .bool p0.Withdrawn]), (3, .sptr [.I p1.ID, .lst 5 (List.map GItem.lv p1.Versions), .lst 1 (List.map LV.bool p1.Approved), .lst 3 (List.map GUse.lv p1.Uses), .bool p1.Withdrawn])]) (ml := []) R R R R) (LH.seq (LH.seqT [(2, .sptr [.I p0.ID, .lst 5 (List.map GItem.lv p0.Versions), .lst 1 (List.map LV.bool p0.Approved), .lst 3 (List.map GUse.lv p0.Uses), .bool p0.Withdrawn]), (3, .sptr [.I p1.ID, .lst 5 (List.map GItem.lv p1.Versions), .lst 1 (List.map LV.bool p1.Approved), .lst 3 (List.map GUse.lv p1.Uses), .bool p1.Withdrawn]), (6, .I 0)] [] R (sAi R zS) (LH.block (LH.loop (fun n e m => ∃ (n13 : Int), q15q F p0 p1 n n13 = some r ∧ e = Env.of [(2, .sptr [.I p0.ID, .lst 5 (List.map GItem.lv p0.Versions), .lst 1 (List.map LV.bool p0.Approved), .lst 3 (List.map GUse.lv p0.Uses), .bool p0.Withdrawn]), (3, .sptr [.I p1.ID, .lst 5 (List.map GItem.lv p1.Versions), .lst 1 (List.map LV.bool p1.Approved), .lst 3 (List.map GUse.lv p1.Uses), .bool p1.Withdrawn]), (6, .I n13)] ∧ m = Mem.of []) F ⟨0, h, R, R⟩ ?_)))))))))
  clear h
  rintro n e m ⟨n13, h, rfl, rfl⟩
  rcases n with _ | n
  · cases (show Option.none = some _ from h)
  obtain ⟨rec2, hrec2⟩ : ∃ f, f = q15q F p0 p1 n := ⟨_, rfl⟩
  replace h : q29q F p0 p1 rec2 n13 = some r := hrec2 ▸ h
  unfold q29q at h
  refine LH.seq (LH.seqT [(2, .sptr [.I p0.ID, .lst 5 (List.map GItem.lv p0.Versions), .lst 1 (List.map LV.bool p0.Approved), .lst 3 (List.map GUse.lv p0.Uses), .bool p0.Withdrawn]), (3, .sptr [.I p1.ID, .lst 5 (List.map GItem.lv p1.Versions), .lst 1 (List.map LV.bool p1.Approved), .lst 3 (List.map GUse.lv p1.Uses), .bool p1.Withdrawn]), (6, .I n13), (70, .bool (decide (n13 < (p0.Approved.length : Int))))] [] R (sMi R (sN (oFaS tf58_2 tk55 ts55 R R R (sN (oLd R tk55 ta55 (sN (oLnL (f := LV.bool) te55 R (sN (oLt R R zS))))))))) (LH.cond (t := (decide (n13 < (p0.Approved.length : Int)))) R (fun hc14 => ?_) (fun hc14 => ?_)))
  ·replace h := iteT h hc14
   refine LH.skip (thenN (LH.wk (Wk.eq (el := [(2, .sptr [.I p0.ID, .lst 5 (List.map GItem.lv p0.Versions), .lst 1 (List.map LV.bool p0.Approved), .lst 3 (List.map GUse.lv p0.Uses), .bool p0.Withdrawn]), (3, .sptr [.I p1.ID, .lst 5 (List.map GItem.lv p1.Versions), .lst 1 (List.map LV.bool p1.Approved), .lst 3 (List.map GUse.lv p1.Uses), .bool p1.Withdrawn]), (6, .I n13)]) (ml := []) R R R R) (LH.seq (LH.block ?_))))
   obtain ⟨x15, hx15, h⟩ := bindS h
   obtain ⟨x16, hx16, h⟩ := bindS h
   refine LH.seqJM mixed [] [0, 0, 0, 0, 0, 0, 0, 0, 0, 0, 0] [(2, .sptr [.I p0.ID, .lst 5 (List.map GItem.lv p0.Versions), .lst 1 (List.map LV.bool p0.Approved), .lst 3 (List.map GUse.lv p0.Uses), .bool p0.Withdrawn]), (3, .sptr [.I p1.ID, .lst 5 (List.map GItem.lv p1.Versions), .lst 1 (List.map LV.bool p1.Approved), .lst 3 (List.map GUse.lv p1.Uses), .bool p1.Withdrawn]), (6, .I n13), (83, .bool (!(x15 == x16)))] [] R R (by kernel_rfl) (mN0 (oFaS tf58_2 tk55 ts55 R R R ⟨R, mN0 (oLd R tk55 ta55 ⟨R, mMi R (mN0 (oIx (f := LV.bool) te55 tk4 ts4 R R okB hx15 R ⟨R, mN0 (oLd R tk4 ta4 ⟨R, mN0 (oFaS tf58_2 tk55 ts55 R R R ⟨R, mN0 (oLd R tk55 ta55 ⟨R, mMi R (mN0 (oIx (f := LV.bool) te55 tk4 ts4 R R okB hx16 R ⟨R, mN0 (oLd R tk4 ta4 ⟨R, mN0 (oNeB R R tb4 ⟨R, zM⟩)⟩)⟩))⟩)⟩)⟩)⟩))⟩)⟩)) (LH.cond (t := (!(x15 == x16))) R (fun hc17 => ?_) (fun hc17 => ?_))
   ·replace h := iteT h hc17
    refine LH.seqT [(4, .bool false)] [] R (sAb R zS) (LH.ret (blockR (thenR (roundR (blockR (thenR ?_))))))
    obtain rfl := oI h
    exact retE (aT Try.results40) (lrT R (lr0 ⟨memN mN, R, prK R, Sub.rfl⟩))
   replace h := iteF h hc17
   refine LH.skip (blockN (thenN (LH.loneT [(2, .sptr [.I p0.ID, .lst 5 (List.map GItem.lv p0.Versions), .lst 1 (List.map LV.bool p0.Approved), .lst 3 (List.map GUse.lv p0.Uses), .bool p0.Withdrawn]), (3, .sptr [.I p1.ID, .lst 5 (List.map GItem.lv p1.Versions), .lst 1 (List.map LV.bool p1.Approved), .lst 3 (List.map GUse.lv p1.Uses), .bool p1.Withdrawn]), (6, .I (i64 (n13 + 1)))] [] R (sMi R (sN (oAdd R R (sAi R zS)))) ?_)))
   exact roundI ⟨(i64 (n13 + 1)), hrec2 ▸ h, R, R⟩ (Wk.eq R R R R)
  replace h := iteF h hc14
  refine LH.exit (thenX (roundX (blockH (thenN (LH.wk (Wk.eq (el := [(2, .sptr [.I p0.ID, .lst 5 (List.map GItem.lv p0.Versions), .lst 1 (List.map LV.bool p0.Approved), .lst 3 (List.map GUse.lv p0.Uses), .bool p0.Withdrawn]), (3, .sptr [.I p1.ID, .lst 5 (List.map GItem.lv p1.Versions), .lst 1 (List.map LV.bool p1.Approved), .lst 3 (List.map GUse.lv p1.Uses), .bool p1.Withdrawn])]) (ml := []) R R R R) (LH.seq (LH.seqT [(2, .sptr [.I p0.ID, .lst 5 (List.map GItem.lv p0.Versions), .lst 1 (List.map LV.bool p0.Approved), .lst 3 (List.map GUse.lv p0.Uses), .bool p0.Withdrawn]), (3, .sptr [.I p1.ID, .lst 5 (List.map GItem.lv p1.Versions), .lst 1 (List.map LV.bool p1.Approved), .lst 3 (List.map GUse.lv p1.Uses), .bool p1.Withdrawn]), (7, .I 0)] [] R (sAi R zS) (LH.block (LH.loop (fun n e m => ∃ (n18 : Int), q20q p0 p1 n n18 = some r ∧ e = Env.of [(2, .sptr [.I p0.ID, .lst 5 (List.map GItem.lv p0.Versions), .lst 1 (List.map LV.bool p0.Approved), .lst 3 (List.map GUse.lv p0.Uses), .bool p0.Withdrawn]), (3, .sptr [.I p1.ID, .lst 5 (List.map GItem.lv p1.Versions), .lst 1 (List.map LV.bool p1.Approved), .lst 3 (List.map GUse.lv p1.Uses), .bool p1.Withdrawn]), (7, .I n18)] ∧ m = Mem.of []) F ⟨0, h, R, R⟩ ?_)))))))))
  clear h
  rintro n e m ⟨n18, h, rfl, rfl⟩
  rcases n with _ | n
  · cases (show Option.none = some _ from h)
  obtain ⟨rec3, hrec3⟩ : ∃ f, f = q20q p0 p1 n := ⟨_, rfl⟩
  replace h : q30q p0 p1 rec3 n18 = some r := hrec3 ▸ h
  unfold q30q at h
  refine LH.seq (LH.seqT [(2, .sptr [.I p0.ID, .lst 5 (List.map GItem.lv p0.Versions), .lst 1 (List.map LV.bool p0.Approved), .lst 3 (List.map GUse.lv p0.Uses), .bool p0.Withdrawn]), (3, .sptr [.I p1.ID, .lst 5 (List.map GItem.lv p1.Versions), .lst 1 (List.map LV.bool p1.Approved), .lst 3 (List.map GUse.lv p1.Uses), .bool p1.Withdrawn]), (7, .I n18), (88, .bool (decide (n18 < (p0.Uses.length : Int))))] [] R (sMi R (sN (oFaS tf58_3 tk56 ts56 R R R (sN (oLd R tk56 ta56 (sN (oLnL (f := GUse.lv) te56 R (sN (oLt R R zS))))))))) (LH.cond (t := (decide (n18 < (p0.Uses.length : Int)))) R (fun hc19 => ?_) (fun hc19 => ?_)))
  ·replace h := iteT h hc19
   refine LH.skip (thenN (LH.wk (Wk.eq (el := [(2, .sptr [.I p0.ID, .lst 5 (List.map GItem.lv p0.Versions), .lst 1 (List.map LV.bool p0.Approved), .lst 3 (List.map GUse.lv p0.Uses), .bool p0.Withdrawn]), (3, .sptr [.I p1.ID, .lst 5 (List.map GItem.lv p1.Versions), .lst 1 (List.map LV.bool p1.Approved), .lst 3 (List.map GUse.lv p1.Uses), .bool p1.Withdrawn]), (7, .I n18)]) (ml := []) R R R R) (LH.seq (LH.block ?_))))
   obtain ⟨x20, hx20, h⟩ := bindS h
   obtain ⟨x21, hx21, h⟩ := bindS h
   refine LH.seqJM mixed [] [0, 0, 0, 0, 0, 0, 0, 0, 0, 0, 0] [(2, .sptr [.I p0.ID, .lst 5 (List.map GItem.lv p0.Versions), .lst 1 (List.map LV.bool p0.Approved), .lst 3 (List.map GUse.lv p0.Uses), .bool p0.Withdrawn]), (3, .sptr [.I p1.ID, .lst 5 (List.map GItem.lv p1.Versions), .lst 1 (List.map LV.bool p1.Approved), .lst 3 (List.map GUse.lv p1.Uses), .bool p1.Withdrawn]), (7, .I n18), (101, .bool (!(decide (x20 = x21))))] [] R R (by kernel_rfl) (mN0 (oFaS tf58_3 tk56 ts56 R R R ⟨R, mN0 (oLd R tk56 ta56 ⟨R, mMi R (mN0 (oIx (f := GUse.lv) te56 tk102 ts102 R R GUse.ok hx20 R ⟨R, mN0 (oLdA R tk102 ta102 ts102 R R ⟨R, mN0 (oFaS tf58_3 tk56 ts56 R R R ⟨R, mN0 (oLd R tk56 ta56 ⟨R, mMi R (mN0 (oIx (f := GUse.lv) te56 tk102 ts102 R R GUse.ok hx21 R ⟨R, mN0 (oLdA R tk102 ta102 ts102 R R ⟨R, mN0 (oNeA R R (ae102 x20 x21) ⟨R, zM⟩)⟩)⟩))⟩)⟩)⟩)⟩))⟩)⟩)) (LH.cond (t := (!(decide (x20 = x21)))) R (fun hc22 => ?_) (fun hc22 => ?_))
   ·replace h := iteT h hc22
    refine LH.seqT [(4, .bool false)] [] R (sAb R zS) (LH.ret (blockR (thenR (roundR (blockR (thenR ?_))))))
    obtain rfl := oI h
    exact retE (aT Try.results40) (lrT R (lr0 ⟨memN mN, R, prK R, Sub.rfl⟩))
   replace h := iteF h hc22
   refine LH.skip (blockN (thenN (LH.loneT [(2, .sptr [.I p0.ID, .lst 5 (List.map GItem.lv p0.Versions), .lst 1 (List.map LV.bool p0.Approved), .lst 3 (List.map GUse.lv p0.Uses), .bool p0.Withdrawn]), (3, .sptr [.I p1.ID, .lst 5 (List.map GItem.lv p1.Versions), .lst 1 (List.map LV.bool p1.Approved), .lst 3 (List.map GUse.lv p1.Uses), .bool p1.Withdrawn]), (7, .I (i64 (n18 + 1)))] [] R (sMi R (sN (oAdd R R (sAi R zS)))) ?_)))
   exact roundI ⟨(i64 (n18 + 1)), hrec3 ▸ h, R, R⟩ (Wk.eq R R R R)
  replace h := iteF h hc19
  refine LH.exit (thenX (roundX (blockH (thenN (LH.seqT [(4, .bool true)] [] R (sAb R zS) (LH.ret ?_))))))
  obtain rfl := oI h
  exact retE (aT Try.results40) (lrT R (lr0 ⟨memN mN, R, prK R, Sub.rfl⟩))

theorem q96q {F : Nat} {p0 : GBank} {p1 : GBank} {r : Bool} (h : q73q F p0 p1 = some r) : LCall Try.prog 19 [.agg [.lst 5 (List.map Gq2.lv p0.Records)], .agg [.lst 5 (List.map Gq2.lv p1.Records)]] (Mem.of []) (.bool r) (Mem.of []) := by
  unfold q73q at h
  refine bodyT Try.func19 R (nT Try.ntmps19 R) (LH.wk (Wk.eq (el := [(0, .agg [.lst 5 (List.map Gq2.lv p0.Records)]), (1, .agg [.lst 5 (List.map Gq2.lv p1.Records)])]) (ml := []) R R R R) (LH.seqT [(2, .sptr [.lst 5 (List.map Gq2.lv p0.Records)]), (3, .sptr [.lst 5 (List.map Gq2.lv p1.Records)])] [] R (sB (oBxR R R R R (sB (oBxR R R R R (sAb R zS))))) (LH.seq (LH.seqT [(2, .sptr [.lst 5 (List.map Gq2.lv p0.Records)]), (3, .sptr [.lst 5 (List.map Gq2.lv p1.Records)]), (12, .bool ((p0.Records.length : Int) != (p1.Records.length : Int)))] [] R (sN (oFaS tf47_0 tk45 ts45 R R R (sN (oLd R tk45 ta45 (sN (oLnL (f := Gq2.lv) te45 R (sN (oFaS tf47_0 tk45 ts45 R R R (sN (oLd R tk45 ta45 (sN (oLnL (f := Gq2.lv) te45 R (sN (oNe R R zS)))))))))))))) (LH.cond (t := ((p0.Records.length : Int) != (p1.Records.length : Int))) R (fun hc1 => ?_) (fun hc1 => ?_))))))
  ·replace h := iteT h hc1
   refine LH.seqT [(4, .bool false)] [] R (sAb R zS) (LH.ret (thenR ?_))
   obtain rfl := oI h
   exact retE (aT Try.results19) (lrT R (lr0 ⟨memN mN, R, prK R, Sub.rfl⟩))
  replace h := iteF h hc1
  refine LH.skip (thenN (LH.wk (Wk.eq (el := [(2, .sptr [.lst 5 (List.map Gq2.lv p0.Records)]), (3, .sptr [.lst 5 (List.map Gq2.lv p1.Records)])]) (ml := []) R R R R) (LH.seq (LH.seqT [(2, .sptr [.lst 5 (List.map Gq2.lv p0.Records)]), (3, .sptr [.lst 5 (List.map Gq2.lv p1.Records)]), (5, .I 0)] [] R (sAi R zS) (LH.block (LH.loop (fun n e m => ∃ (n2 : Int), q50q F p0 p1 n n2 = some r ∧ e = Env.of [(2, .sptr [.lst 5 (List.map Gq2.lv p0.Records)]), (3, .sptr [.lst 5 (List.map Gq2.lv p1.Records)]), (5, .I n2)] ∧ m = Mem.of []) F ⟨0, h, R, R⟩ ?_))))))
  clear h
  rintro n e m ⟨n2, h, rfl, rfl⟩
  rcases n with _ | n
  · cases (show Option.none = some _ from h)
  obtain ⟨rec1, hrec1⟩ : ∃ f, f = q50q F p0 p1 n := ⟨_, rfl⟩
  replace h : q56q F p0 p1 rec1 n2 = some r := hrec1 ▸ h
  unfold q56q at h
  refine LH.seq (LH.seqT [(2, .sptr [.lst 5 (List.map Gq2.lv p0.Records)]), (3, .sptr [.lst 5 (List.map Gq2.lv p1.Records)]), (5, .I n2), (17, .bool (decide (n2 < (p0.Records.length : Int))))] [] R (sMi R (sN (oFaS tf47_0 tk45 ts45 R R R (sN (oLd R tk45 ta45 (sN (oLnL (f := Gq2.lv) te45 R (sN (oLt R R zS))))))))) (LH.cond (t := (decide (n2 < (p0.Records.length : Int)))) R (fun hc3 => ?_) (fun hc3 => ?_)))
  ·replace h := iteT h hc3
   refine LH.skip (thenN (LH.wk (Wk.eq (el := [(2, .sptr [.lst 5 (List.map Gq2.lv p0.Records)]), (3, .sptr [.lst 5 (List.map Gq2.lv p1.Records)]), (5, .I n2)]) (ml := []) R R R R) (LH.seq (LH.block ?_))))
   obtain ⟨x4, hx4, h⟩ := bindS h
   obtain ⟨x5, hx5, h⟩ := bindS h
   obtain ⟨r6, hr6, h⟩ := bindS h
   refine LH.seqJM mixed [] [0, 0, 0, 0, 0, 0, 0, 0, 0, 0, 0, 0] [(2, .sptr [.lst 5 (List.map Gq2.lv p0.Records)]), (3, .sptr [.lst 5 (List.map Gq2.lv p1.Records)]), (5, .I n2), (31, .bool (!r6))] [] R R (by kernel_rfl) (mN0 (oFaS tf47_0 tk45 ts45 R R R ⟨R, mN0 (oLd R tk45 ta45 ⟨R, mMi R (mN0 (oIx (f := Gq2.lv) te45 tk58 ts58 R R Gq2.ok hx4 R ⟨R, mN0 (oLdA R tk58 ta58 ts58 R R ⟨R, mN0 (oFaS tf47_0 tk45 ts45 R R R ⟨R, mN0 (oLd R tk45 ta45 ⟨R, mMi R (mN0 (oIx (f := Gq2.lv) te45 tk58 ts58 R R Gq2.ok hx5 R ⟨R, mN0 (oLdA R tk58 ta58 ts58 R R ⟨R, mN0 (oCP (args := [.agg [.I x4.ID, .lst 5 (List.map GItem.lv x4.Versions), .lst 1 (List.map LV.bool x4.Approved), .lst 3 (List.map GUse.lv x4.Uses), .bool x4.Withdrawn], .agg [.I x5.ID, .lst 5 (List.map GItem.lv x5.Versions), .lst 1 (List.map LV.bool x5.Approved), .lst 3 (List.map GUse.lv x5.Uses), .bool x5.Withdrawn]]) R isF40 R (sbR (sbR sbN)) (q84q hr6) R ⟨R, mN0 (oNot R ⟨R, zM⟩)⟩)⟩)⟩))⟩)⟩)⟩)⟩))⟩)⟩)) (LH.cond (t := (!r6)) R (fun hc7 => ?_) (fun hc7 => ?_))
   ·replace h := iteT h hc7
    refine LH.seqT [(4, .bool false)] [] R (sAb R zS) (LH.ret (blockR (thenR (roundR (blockR (thenR ?_))))))
    obtain rfl := oI h
    exact retE (aT Try.results19) (lrT R (lr0 ⟨memN mN, R, prK R, Sub.rfl⟩))
   replace h := iteF h hc7
   refine LH.skip (blockN (thenN (LH.loneT [(2, .sptr [.lst 5 (List.map Gq2.lv p0.Records)]), (3, .sptr [.lst 5 (List.map Gq2.lv p1.Records)]), (5, .I (i64 (n2 + 1)))] [] R (sMi R (sN (oAdd R R (sAi R zS)))) ?_)))
   exact roundI ⟨(i64 (n2 + 1)), hrec1 ▸ h, R, R⟩ (Wk.eq R R R R)
  replace h := iteF h hc3
  refine LH.exit (thenX (roundX (blockH (thenN (LH.seqT [(4, .bool true)] [] R (sAb R zS) (LH.ret ?_))))))
  obtain rfl := oI h
  exact retE (aT Try.results19) (lrT R (lr0 ⟨memN mN, R, prK R, Sub.rfl⟩))

theorem bank_cloneRecord_ok {F : Nat} {p0 : Gq2} {r : Gq2} (h : bank_cloneRecord F p0 = some r) : LCall Try.prog 41 [.agg [.I p0.ID, .lst 5 (List.map GItem.lv p0.Versions), .lst 1 (List.map LV.bool p0.Approved), .lst 3 (List.map GUse.lv p0.Uses), .bool p0.Withdrawn]] (Mem.of []) (.agg [.I r.ID, .arr 109 (List.length r.Versions), .arr 128 (List.length r.Approved), .arr 132 (List.length r.Uses), .bool r.Withdrawn]) (Mem.of [(109, .arr 34 5 (List.map GItem.lv r.Versions)), (128, .arr 4 1 (List.map LV.bool r.Approved)), (132, .arr 102 3 (List.map GUse.lv r.Uses))]) := by
  unfold bank_cloneRecord at h
  refine bodyT Try.func41 R (nT Try.ntmps41 R) (LH.wk (Wk.eq (el := [(0, .agg [.I p0.ID, .lst 5 (List.map GItem.lv p0.Versions), .lst 1 (List.map LV.bool p0.Approved), .lst 3 (List.map GUse.lv p0.Uses), .bool p0.Withdrawn])]) (ml := []) R R R R) (LH.seqT [(1, .ptr 101 0), (2, .ptr 102 0)] [(101, .box [.I p0.ID, .lst 5 (List.map GItem.lv p0.Versions), .lst 1 (List.map LV.bool p0.Approved), .lst 3 (List.map GUse.lv p0.Uses), .bool p0.Withdrawn]), (102, .box [.I 0, .nil, .nil, .nil, .bool false])] R (sN (oBx (id := 101) R R R R R R (sN (oAl (id := 102) R tz58 R R zS)))) ?_))
  obtain ⟨v1, hv1, h⟩ := bindS h
  refine LH.seqT [(1, .ptr 101 0), (2, .ptr 102 0), (3, .arr 109 (List.length v1))] [(101, .box [.I p0.ID, .lst 5 (List.map GItem.lv p0.Versions), .lst 1 (List.map LV.bool p0.Approved), .lst 3 (List.map GUse.lv p0.Uses), .bool p0.Withdrawn]), (102, .box [.I 0, .nil, .nil, .nil, .bool false]), (109, .arr 34 5 (List.map GItem.lv v1))] R (sN (oFa tf58_1 tk54 ts54 R R (sN (oLdP R R R R tk54 ta54 (sN (oLnL (f := GItem.lv) te54 R (sX (ok_mkS (f := GItem.lv) (z := (GItem.mk 0 0 (ByteArray.mk #[]) [] [])) (id := 109) R te54 tz34 tr34 ts34 R R R (Sub.agg (sbR (sbR (sbR (sbL (sbL sbN)))))) GItem.ok hv1 R) (sAa R zS)))))))) (LH.seq (LH.seqT [(1, .ptr 101 0), (2, .ptr 102 0), (3, .arr 109 (List.length v1)), (11, .lst 5 (List.map GItem.lv p0.Versions)), (12, .I (p0.Versions.length : Int)), (13, .I 0)] [(101, .box [.I p0.ID, .lst 5 (List.map GItem.lv p0.Versions), .lst 1 (List.map LV.bool p0.Approved), .lst 3 (List.map GUse.lv p0.Uses), .bool p0.Withdrawn]), (102, .box [.I 0, .nil, .nil, .nil, .bool false]), (109, .arr 34 5 (List.map GItem.lv v1))] R (sN (oFa tf58_1 tk54 ts54 R R (sN (oLdP R R R R tk54 ta54 (sN (oLnL (f := GItem.lv) te54 R (sMi R zS))))))) (LH.block (LH.loop (fun n e m => ∃ (n2 : Int) (l3 : List GItem), bank_cloneRecord_L1 p0 n n2 l3 = some r ∧ e = Env.of [(1, .ptr 101 0), (2, .ptr 102 0), (3, .arr 109 (List.length l3)), (11, .lst 5 (List.map GItem.lv p0.Versions)), (12, .I (p0.Versions.length : Int)), (13, .I n2)] ∧ m = Mem.of [(101, .box [.I p0.ID, .lst 5 (List.map GItem.lv p0.Versions), .lst 1 (List.map LV.bool p0.Approved), .lst 3 (List.map GUse.lv p0.Uses), .bool p0.Withdrawn]), (102, .box [.I 0, .nil, .nil, .nil, .bool false]), (109, .arr 34 5 (List.map GItem.lv l3))]) F ⟨0, v1, h, R, R⟩ ?_))))
  clear h
  rintro n e m ⟨n2, l3, h, rfl, rfl⟩
  rcases n with _ | n
  · cases (show Option.none = some _ from h)
  obtain ⟨rec1, hrec1⟩ : ∃ f, f = bank_cloneRecord_L1 p0 n := ⟨_, rfl⟩
  replace h : bank_cloneRecord_L1_B p0 rec1 n2 l3 = some r := hrec1 ▸ h
  unfold bank_cloneRecord_L1_B at h
  refine LH.seqT [(1, .ptr 101 0), (2, .ptr 102 0), (3, .arr 109 (List.length l3)), (11, .lst 5 (List.map GItem.lv p0.Versions)), (12, .I (p0.Versions.length : Int)), (13, .I n2), (14, .bool (decide (n2 < (p0.Versions.length : Int))))] [(101, .box [.I p0.ID, .lst 5 (List.map GItem.lv p0.Versions), .lst 1 (List.map LV.bool p0.Approved), .lst 3 (List.map GUse.lv p0.Uses), .bool p0.Withdrawn]), (102, .box [.I 0, .nil, .nil, .nil, .bool false]), (109, .arr 34 5 (List.map GItem.lv l3))] R (sN (oLt R R zS)) (LH.seq (LH.cond (t := (decide (n2 < (p0.Versions.length : Int)))) R (fun hc4 => ?_) (fun hc4 => ?_)))
  ·replace h := iteT h hc4
   refine LH.skip (thenN (LH.wk (Wk.eq (el := [(1, .ptr 101 0), (2, .ptr 102 0), (3, .arr 109 (List.length l3)), (11, .lst 5 (List.map GItem.lv p0.Versions)), (12, .I (p0.Versions.length : Int)), (13, .I n2)]) (ml := [(101, .box [.I p0.ID, .lst 5 (List.map GItem.lv p0.Versions), .lst 1 (List.map LV.bool p0.Approved), .lst 3 (List.map GUse.lv p0.Uses), .bool p0.Withdrawn]), (102, .box [.I 0, .nil, .nil, .nil, .bool false]), (109, .arr 34 5 (List.map GItem.lv l3))]) R R R R) (LH.seq (LH.block ?_))))
   obtain ⟨x5, hx5, h⟩ := bindS h
   refine LH.seqT [(1, .ptr 101 0), (2, .ptr 102 0), (3, .arr 109 (List.length l3)), (4, .I n2), (5, .sptr [.I x5.ID, .I x5.Version, .str x5.Stem, .lst 6 (List.map GPart.lv x5.Parts), .L x5.Enemies]), (11, .lst 5 (List.map GItem.lv p0.Versions)), (12, .I (p0.Versions.length : Int)), (13, .I n2)] [(101, .box [.I p0.ID, .lst 5 (List.map GItem.lv p0.Versions), .lst 1 (List.map LV.bool p0.Approved), .lst 3 (List.map GUse.lv p0.Uses), .bool p0.Withdrawn]), (102, .box [.I 0, .nil, .nil, .nil, .bool false]), (109, .arr 34 5 (List.map GItem.lv l3))] R (sMi R (sN (oIx (f := GItem.lv) te54 tk34 ts34 R R GItem.ok hx5 R (sN (oLdA R tk34 ta34 ts34 R R (sN (oAl (id := 105) R tz34 R R (sAi R (s_ (oSt R R R tk34 ts34 R R R (s0 ((Wk.trans (Wk.eq (el := [(1, .ptr 101 0), (2, .ptr 102 0), (3, .arr 109 (List.length l3)), (4, .I n2), (5, .ptr 105 0), (11, .lst 5 (List.map GItem.lv p0.Versions)), (12, .I (p0.Versions.length : Int)), (13, .I n2)]) (ml := [(101, .box [.I p0.ID, .lst 5 (List.map GItem.lv p0.Versions), .lst 1 (List.map LV.bool p0.Approved), .lst 3 (List.map GUse.lv p0.Uses), .bool p0.Withdrawn]), (102, .box [.I 0, .nil, .nil, .nil, .bool false]), (105, .box [.I x5.ID, .I x5.Version, .str x5.Stem, .lst 6 (List.map GPart.lv x5.Parts), .L x5.Enemies]), (109, .arr 34 5 (List.map GItem.lv l3))]) R R R R) (Wk.trans (Wk.frzB 105 [.I x5.ID, .I x5.Version, .str x5.Stem, .lst 6 (List.map GPart.lv x5.Parts), .L x5.Enemies] R R R (prN R)) (Wk.eq R R R R))))))))))))))) ?_
   obtain ⟨r6, hr6, h⟩ := bindS h
   obtain ⟨x7, hx7, h⟩ := bindS h
   refine LH.loneT [(1, .ptr 101 0), (2, .ptr 102 0), (3, .arr 109 (List.length (l3.set n2.toNat r6))), (11, .lst 5 (List.map GItem.lv p0.Versions)), (12, .I (p0.Versions.length : Int)), (13, .I n2)] [(101, .box [.I p0.ID, .lst 5 (List.map GItem.lv p0.Versions), .lst 1 (List.map LV.bool p0.Approved), .lst 3 (List.map GUse.lv p0.Uses), .bool p0.Withdrawn]), (102, .box [.I 0, .nil, .nil, .nil, .bool false]), (109, .arr 34 5 (List.map GItem.lv (l3.set n2.toNat r6)))] R (sMa R (sMi R (sN (oLdA R tk34 ta34 ts34 R R (sN (oCP (args := [.agg [.I x5.ID, .I x5.Version, .str x5.Stem, .lst 6 (List.map GPart.lv x5.Parts), .L x5.Enemies]]) R isF34 R (sbR sbN) (bank_cloneItem_ok hr6) R (sN (oIxA (f := GItem.lv) te54 tk34 ts34 R R R hx7 (s_ (oStE (f := GItem.lv) (z' := r6) R R R R tk34 ts34 R (idxOk hx7).2 R (s0 (Wk.to (eC R (eC R (eC (congrArg (LV.arr 109) (by simp)) (eC R (eC R (eC R eN)))))) ⟨R, R, R, trivial⟩ R (prK R))))))))))))) (blockN (thenN (LH.loneT [(1, .ptr 101 0), (2, .ptr 102 0), (3, .arr 109 (List.length (l3.set n2.toNat r6))), (11, .lst 5 (List.map GItem.lv p0.Versions)), (12, .I (p0.Versions.length : Int)), (13, .I (i64 (n2 + 1)))] [(101, .box [.I p0.ID, .lst 5 (List.map GItem.lv p0.Versions), .lst 1 (List.map LV.bool p0.Approved), .lst 3 (List.map GUse.lv p0.Uses), .bool p0.Withdrawn]), (102, .box [.I 0, .nil, .nil, .nil, .bool false]), (109, .arr 34 5 (List.map GItem.lv (l3.set n2.toNat r6)))] R (sN (oAdd R R (sMi R zS))) ?_)))
   exact roundI ⟨(i64 (n2 + 1)), (l3.set n2.toNat r6), hrec1 ▸ h, R, R⟩ (Wk.eq R R R R)
  replace h := iteF h hc4
  refine LH.exit (thenX (roundX (blockH (thenN (LH.seqT [(1, .ptr 101 0), (2, .ptr 102 0)] [(101, .box [.I p0.ID, .arr 109 (List.length l3), .lst 1 (List.map LV.bool p0.Approved), .lst 3 (List.map GUse.lv p0.Uses), .bool p0.Withdrawn]), (102, .box [.I 0, .nil, .nil, .nil, .bool false]), (109, .arr 34 5 (List.map GItem.lv l3))] R (sMa R (sN (oFa tf58_1 tk54 ts54 R R (s_ (oSt R R R tk54 ts54 R R R zS))))) ?_)))))
  obtain ⟨v8, hv8, h⟩ := bindS h
  refine LH.seqT [(1, .ptr 101 0), (2, .ptr 102 0)] [(101, .box [.I p0.ID, .arr 109 (List.length l3), .arr 128 (List.length v8), .lst 3 (List.map GUse.lv p0.Uses), .bool p0.Withdrawn]), (102, .box [.I 0, .nil, .nil, .nil, .bool false]), (109, .arr 34 5 (List.map GItem.lv l3)), (128, .arr 4 1 (List.map LV.bool v8))] R (sN (oFa tf58_2 tk55 ts55 R R (sN (oLdP R R R R tk55 ta55 (sN (oCM (args := [.lst 1 (List.map LV.bool p0.Approved)]) (ml := []) (ml' := [(128, .arr 4 1 (List.map LV.bool v8))]) R isF64 R (sbR sbN) (clone_ok (g := LV.bool) cloneW64 R 128 hv8) mN (newF R newN) R (sN (oFa tf58_2 tk55 ts55 R R (s_ (oSt R R R tk55 ts55 R R R zS)))))))))) ?_
  obtain ⟨v9, hv9, h⟩ := bindS h
  refine LH.seqT [(1, .ptr 101 0), (2, .ptr 102 0)] [(101, .box [.I p0.ID, .arr 109 (List.length l3), .arr 128 (List.length v8), .arr 132 (List.length v9), .bool p0.Withdrawn]), (102, .box [.I 0, .nil, .nil, .nil, .bool false]), (109, .arr 34 5 (List.map GItem.lv l3)), (128, .arr 4 1 (List.map LV.bool v8)), (132, .arr 102 3 (List.map GUse.lv v9))] R (sN (oFa tf58_3 tk56 ts56 R R (sN (oLdP R R R R tk56 ta56 (sN (oCM (args := [.lst 3 (List.map GUse.lv p0.Uses)]) (ml := []) (ml' := [(132, .arr 102 3 (List.map GUse.lv v9))]) R isF65 R (sbR sbN) (clone_ok (g := GUse.lv) cloneW65 R 132 hv9) mN (newF R newN) R (sN (oFa tf58_3 tk56 ts56 R R (s_ (oSt R R R tk56 ts56 R R R zS)))))))))) (LH.seqT [(2, .ptr 102 0)] [(102, .box [.I p0.ID, .arr 109 (List.length l3), .arr 128 (List.length v8), .arr 132 (List.length v9), .bool p0.Withdrawn]), (109, .arr 34 5 (List.map GItem.lv l3)), (128, .arr 4 1 (List.map LV.bool v8)), (132, .arr 102 3 (List.map GUse.lv v9))] R (sN (oLdPA R R R tk58 ta58 ts58 R R (s_ (oSt R R R tk58 ts58 R R R zS)))) (LH.ret ?_))
  obtain rfl := oI h
  exact retE (aT Try.results41) (lrCA R R R tk58 ta58 ts58 R R (lr0 ⟨memN (mC R (mC R (mC R mN))), R, prK R, Sub.rfl⟩))

theorem bank_cloneBank_ok {F : Nat} {p0 : GBank} {r : GBank} (h : bank_cloneBank F p0 = some r) : LCall Try.prog 47 [.agg [.lst 5 (List.map Gq2.lv p0.Records)]] (Mem.of []) (.agg [.arr 812 (List.length r.Records)]) (Mem.of [(812, .nest 58 5 [(1, 34, 5), (2, 4, 1), (3, 102, 3)] (List.map Gq2.lv r.Records))]) := by
  unfold bank_cloneBank at h
  refine bodyT Try.func47 R (nT Try.ntmps47 R) (LH.wk (Wk.eq (el := [(0, .agg [.lst 5 (List.map Gq2.lv p0.Records)])]) (ml := []) R R R R) (LH.seqT [(1, .sptr [.lst 5 (List.map Gq2.lv p0.Records)]), (2, .ptr 102 0)] [(102, .box [.nil])] R (sB (oBxR R R R R (sN (oAl (id := 102) R tz47 R R zS)))) ?_))
  obtain ⟨v1, hv1, h⟩ := bindS h
  refine LH.seqT [(1, .sptr [.lst 5 (List.map Gq2.lv p0.Records)]), (2, .ptr 102 0), (3, .arr 812 (List.length v1))] [(102, .box [.nil]), (812, .nest 58 5 [(1, 34, 5), (2, 4, 1), (3, 102, 3)] (List.map Gq2.lv v1))] R (sN (oFaS tf47_0 tk45 ts45 R R R (sN (oLd R tk45 ta45 (sN (oLnL (f := Gq2.lv) te45 R (sX ((ok_mkF (f := Gq2.lv) (z' := (Gq2.mk 0 [] [] [] false)) (v := v1) (id := 812) (os := [(1, 34, 5), (2, 4, 1), (3, 102, 3)]) te45 tz58 tr58 ts58 R R hv1 R R R).ok) (sAa R zS)))))))) (LH.seq (LH.seqT [(2, .ptr 102 0), (3, .arr 812 (List.length v1)), (11, .lst 5 (List.map Gq2.lv p0.Records)), (12, .I (p0.Records.length : Int)), (13, .I 0)] [(102, .box [.nil]), (812, .nest 58 5 [(1, 34, 5), (2, 4, 1), (3, 102, 3)] (List.map Gq2.lv v1))] R (sN (oFaS tf47_0 tk45 ts45 R R R (sN (oLd R tk45 ta45 (sN (oLnL (f := Gq2.lv) te45 R (sMi R zS))))))) (LH.block (LH.loop (fun n e m => ∃ (n2 : Int) (l3 : List Gq2), bank_cloneBank_L1 F p0 n n2 l3 = some r ∧ e = Env.of [(2, .ptr 102 0), (3, .arr 812 (List.length l3)), (11, .lst 5 (List.map Gq2.lv p0.Records)), (12, .I (p0.Records.length : Int)), (13, .I n2)] ∧ m = Mem.of [(102, .box [.nil]), (812, .nest 58 5 [(1, 34, 5), (2, 4, 1), (3, 102, 3)] (List.map Gq2.lv l3))]) F ⟨0, v1, h, R, R⟩ ?_))))
  clear h
  rintro n e m ⟨n2, l3, h, rfl, rfl⟩
  rcases n with _ | n
  · cases (show Option.none = some _ from h)
  obtain ⟨rec1, hrec1⟩ : ∃ f, f = bank_cloneBank_L1 F p0 n := ⟨_, rfl⟩
  replace h : bank_cloneBank_L1_B F p0 rec1 n2 l3 = some r := hrec1 ▸ h
  unfold bank_cloneBank_L1_B at h
  refine LH.seqT [(2, .ptr 102 0), (3, .arr 812 (List.length l3)), (11, .lst 5 (List.map Gq2.lv p0.Records)), (12, .I (p0.Records.length : Int)), (13, .I n2), (14, .bool (decide (n2 < (p0.Records.length : Int))))] [(102, .box [.nil]), (812, .nest 58 5 [(1, 34, 5), (2, 4, 1), (3, 102, 3)] (List.map Gq2.lv l3))] R (sN (oLt R R zS)) (LH.seq (LH.cond (t := (decide (n2 < (p0.Records.length : Int)))) R (fun hc4 => ?_) (fun hc4 => ?_)))
  ·replace h := iteT h hc4
   refine LH.skip (thenN (LH.wk (Wk.eq (el := [(2, .ptr 102 0), (3, .arr 812 (List.length l3)), (11, .lst 5 (List.map Gq2.lv p0.Records)), (12, .I (p0.Records.length : Int)), (13, .I n2)]) (ml := [(102, .box [.nil]), (812, .nest 58 5 [(1, 34, 5), (2, 4, 1), (3, 102, 3)] (List.map Gq2.lv l3))]) R R R R) (LH.seq (LH.block ?_))))
   obtain ⟨x5, hx5, h⟩ := bindS h
   refine LH.seqT [(2, .ptr 102 0), (3, .arr 812 (List.length l3)), (4, .I n2), (5, .sptr [.I x5.ID, .lst 5 (List.map GItem.lv x5.Versions), .lst 1 (List.map LV.bool x5.Approved), .lst 3 (List.map GUse.lv x5.Uses), .bool x5.Withdrawn]), (11, .lst 5 (List.map Gq2.lv p0.Records)), (12, .I (p0.Records.length : Int)), (13, .I n2)] [(102, .box [.nil]), (812, .nest 58 5 [(1, 34, 5), (2, 4, 1), (3, 102, 3)] (List.map Gq2.lv l3))] R (sMi R (sN (oIx (f := Gq2.lv) te45 tk58 ts58 R R Gq2.ok hx5 R (sN (oLdA R tk58 ta58 ts58 R R (sN (oAl (id := 105) R tz58 R R (sAi R (s_ (oSt R R R tk58 ts58 R R R (s0 ((Wk.trans (Wk.eq (el := [(2, .ptr 102 0), (3, .arr 812 (List.length l3)), (4, .I n2), (5, .ptr 105 0), (11, .lst 5 (List.map Gq2.lv p0.Records)), (12, .I (p0.Records.length : Int)), (13, .I n2)]) (ml := [(102, .box [.nil]), (105, .box [.I x5.ID, .lst 5 (List.map GItem.lv x5.Versions), .lst 1 (List.map LV.bool x5.Approved), .lst 3 (List.map GUse.lv x5.Uses), .bool x5.Withdrawn]), (812, .nest 58 5 [(1, 34, 5), (2, 4, 1), (3, 102, 3)] (List.map Gq2.lv l3))]) R R R R) (Wk.trans (Wk.frzB 105 [.I x5.ID, .lst 5 (List.map GItem.lv x5.Versions), .lst 1 (List.map LV.bool x5.Approved), .lst 3 (List.map GUse.lv x5.Uses), .bool x5.Withdrawn] R R R (prN R)) (Wk.eq R R R R))))))))))))))) ?_
   obtain ⟨r6, hr6, h⟩ := bindS h
   obtain ⟨x7, hx7, h⟩ := bindS h
   refine LH.loneT [(2, .ptr 102 0), (3, .arr 812 (List.length (l3.set (n2).toNat r6))), (11, .lst 5 (List.map Gq2.lv p0.Records)), (12, .I (p0.Records.length : Int)), (13, .I n2)] [(102, .box [.nil]), (812, .nest 58 5 [(1, 34, 5), (2, 4, 1), (3, 102, 3)] (List.map Gq2.lv (l3.set (n2).toNat r6)))] R (sMa R (sMi R (sN (oLdA R tk58 ta58 ts58 R R (sN (oCM (args := [.agg [.I x5.ID, .lst 5 (List.map GItem.lv x5.Versions), .lst 1 (List.map LV.bool x5.Approved), .lst 3 (List.map GUse.lv x5.Uses), .bool x5.Withdrawn]]) (ml := []) (ml' := [(109, .arr 34 5 (List.map GItem.lv r6.Versions)), (128, .arr 4 1 (List.map LV.bool r6.Approved)), (132, .arr 102 3 (List.map GUse.lv r6.Uses))]) R isF41 R (sbR sbN) (bank_cloneRecord_ok hr6) mN (newF R (newF R (newF R newN))) R (sX ((ok_ixF (f := Gq2.lv) (xs := l3) te45 tk58 ts58 R R R R hx7).ok) (sX_ ((ok_stA (f := Gq2.lv) (xs := l3) (z' := r6) R R R hx7 R tk58 ts58 R R (abP R R (abA (g := GItem.lv) (ys := r6.Versions) R R (abA (g := LV.bool) (ys := r6.Approved) R R (abA (g := GUse.lv) (ys := r6.Uses) R R (abP R R abN))))) (by decide) (fnC (prN R) (fnC (prN R) (fnC (prN R) fnN))) R).ok) (s0 (Wk.to (eC R (eC (congrArg (LV.arr 812) (by simp)) (eC R (eC R (eC R eN))))) ⟨R, R, trivial⟩ R (prK R))))))))))) (blockN (thenN (LH.loneT [(2, .ptr 102 0), (3, .arr 812 (List.length (l3.set (n2).toNat r6))), (11, .lst 5 (List.map Gq2.lv p0.Records)), (12, .I (p0.Records.length : Int)), (13, .I (i64 (n2 + 1)))] [(102, .box [.nil]), (812, .nest 58 5 [(1, 34, 5), (2, 4, 1), (3, 102, 3)] (List.map Gq2.lv (l3.set (n2).toNat r6)))] R (sN (oAdd R R (sMi R zS))) ?_)))
   exact roundI ⟨(i64 (n2 + 1)), (l3.set (n2).toNat r6), hrec1 ▸ h, R, R⟩ (Wk.eq R R R R)
  replace h := iteF h hc4
  refine LH.exit (thenX (roundX (blockH (thenN (LH.seqT [(2, .ptr 102 0)] [(102, .box [.arr 812 (List.length l3)]), (812, .nest 58 5 [(1, 34, 5), (2, 4, 1), (3, 102, 3)] (List.map Gq2.lv l3))] R (sMa R (sN (oBd (vs := [(0, .arr 812 (List.length l3))]) tu47 tz47 R (lf tf47_0 ts45 tk45 R R R lf0) (s_ (oSt R R R tk47 ts47 R R R zS))))) (LH.ret ?_))))))
  obtain rfl := oI h
  exact retE (aT Try.results47) (lrCA R R R tk47 ta47 ts47 R R (lr0 ⟨memN (mC R mN), R, prK R, Sub.rfl⟩))

set_option maxHeartbeats 4000000 in
theorem bank_Apply_ok {F : Nat} {p0 : GBank} {p1 : Gq0} {r : GBank × Int} (h : bank_Apply F p0 p1 = some r) : LCall Try.prog 26 [.agg [.lst 5 (List.map Gq2.lv p0.Records)], .agg [.I p1.Stamp.Time, .I p1.Stamp.Source, .I p1.Stamp.Seq, .I p1.Kind, .I p1.Item.ID, .I p1.Item.Version, .str p1.Item.Stem, .lst 6 (List.map GPart.lv p1.Item.Parts), .L p1.Item.Enemies, .I p1.Ref.ID, .I p1.Ref.Version, .I p1.Form]] (Mem.of []) (.tup [.agg [.lst 5 (List.map Gq2.lv r.1.Records)], .I r.2]) (Mem.of []) := by
  unfold bank_Apply at h
  refine bodyT Try.func26 R (nT Try.ntmps26 R) (LH.wk (Wk.eq (el := [(0, .agg [.lst 5 (List.map Gq2.lv p0.Records)]), (1, .agg [.I p1.Stamp.Time, .I p1.Stamp.Source, .I p1.Stamp.Seq, .I p1.Kind, .I p1.Item.ID, .I p1.Item.Version, .str p1.Item.Stem, .lst 6 (List.map GPart.lv p1.Item.Parts), .L p1.Item.Enemies, .I p1.Ref.ID, .I p1.Ref.Version, .I p1.Form])]) (ml := []) R R R R) (LH.seqT [(2, .sptr [.lst 5 (List.map Gq2.lv p0.Records)]), (3, .sptr [.I p1.Stamp.Time, .I p1.Stamp.Source, .I p1.Stamp.Seq, .I p1.Kind, .I p1.Item.ID, .I p1.Item.Version, .str p1.Item.Stem, .lst 6 (List.map GPart.lv p1.Item.Parts), .L p1.Item.Enemies, .I p1.Ref.ID, .I p1.Ref.Version, .I p1.Form]), (4, .ptr 104 0)] [(104, .box [.nil])] R (sB (oBxR R R R R (sB (oBxR R R R R (sN (oAl (id := 104) R tz47 R R (sAi R zS))))))) (LH.seq ?_)))
  obtain ⟨r1, hr1, h⟩ := bindS h
  refine LH.seqT [(2, .sptr [.lst 5 (List.map Gq2.lv p0.Records)]), (3, .sptr [.I p1.Stamp.Time, .I p1.Stamp.Source, .I p1.Stamp.Seq, .I p1.Kind, .I p1.Item.ID, .I p1.Item.Version, .str p1.Item.Stem, .lst 6 (List.map GPart.lv p1.Item.Parts), .L p1.Item.Enemies, .I p1.Ref.ID, .I p1.Ref.Version, .I p1.Form]), (4, .ptr 104 0), (12, .bool (!r1))] [(104, .box [.nil])] R (sN (oLdA R tk47 ta47 ts47 R R (sN (oCP (args := [.agg [.lst 5 (List.map Gq2.lv p0.Records)]]) R isF44 R (sbR sbN) (bank_valid_ok hr1) R (sN (oNot R zS)))))) (LH.cond (t := (!r1)) R (fun hc2 => ?_) (fun hc2 => ?_))
  ·replace h := iteT h hc2
   refine LH.seqT [(4, .sptr [.nil]), (5, .I 1)] [] R (sN (oBd (vs := []) tu47 tz47 R lf0 (s_ (oSt R R R tk47 ts47 R R R (sAi R (s0 ((Wk.trans (Wk.eq (el := [(4, .ptr 104 0), (5, .I 1)]) (ml := [(104, .box [.nil])]) R R R R) (Wk.trans (Wk.frzB 104 [.nil] R R R (prN R)) (Wk.eq R R R R)))))))))) (LH.ret (thenR ?_))
   obtain rfl := oI h
   exact retE (aT Try.results26) (lrSA R tk47 ta47 ts47 R R (lrT R (lr0 ⟨memN mN, R, prK R, (Sub.tup (sbS (Sub.agg (sbL sbN)) (sbR sbN)))⟩)))
  replace h := iteF h hc2
  refine LH.skip (thenN ?_)
  by_cases hk3 : (p1.Kind == 1) = true
  ·replace h := iteT h hk3
   refine LH.seqJM mixed [] [2, 0, 0, 3, 0, 0, 0, 0, 0] [(2, .sptr [.lst 5 (List.map Gq2.lv p0.Records)]), (3, .sptr [.I p1.Stamp.Time, .I p1.Stamp.Source, .I p1.Stamp.Seq, .I p1.Kind, .I p1.Item.ID, .I p1.Item.Version, .str p1.Item.Stem, .lst 6 (List.map GPart.lv p1.Item.Parts), .L p1.Item.Enemies, .I p1.Ref.ID, .I p1.Ref.Version, .I p1.Form]), (4, .ptr 104 0), (6, .fn 59 []), (7, .bool true)] [(104, .box [.nil])] R R (by kernel_rfl) (mN2 (oCM (args := []) (ml := []) (ml' := [(10901, .map 3 92 (mlv LV.I bankH bankHs))]) R isF39 R sbN (bank_handlers_ok (F := F) (r := bankHs) R) mN (newF R newN) R (mN0 (oFaS tf38_1 tk3 ts3 R R R ⟨R, mN0 (oLd R tk3 ta3 ⟨R, mX (ok_lookK (f := LV.I) (g := bankH) (xs := bankHs) (key := 1) (z := 0) (o := some 1) tm90 kok3 kf3 R R (congrArg LV.I (eq_of_beq hk3)) tz92 R) (mMt R (mN0 (oEx R R ⟨R, mN0 (oEx R R ⟨R, mAf R (mAb R zM)⟩)⟩)))⟩)⟩)))) (LH.seq (LH.seqT [(2, .sptr [.lst 5 (List.map Gq2.lv p0.Records)]), (3, .sptr [.I p1.Stamp.Time, .I p1.Stamp.Source, .I p1.Stamp.Seq, .I p1.Kind, .I p1.Item.ID, .I p1.Item.Version, .str p1.Item.Stem, .lst 6 (List.map GPart.lv p1.Item.Parts), .L p1.Item.Enemies, .I p1.Ref.ID, .I p1.Ref.Version, .I p1.Form]), (4, .ptr 104 0), (6, .fn 59 []), (22, .bool false)] [(104, .box [.nil])] R (sMb R (sN (oNot R zS))) (LH.cond (t := false) R (fun hc4 => ?_) (fun hc4 => ?_))))
   ·cases hc4
   refine LH.skip (thenN ?_)
   obtain ⟨r5, hr5, h⟩ := bindS h
   refine LH.seqT [(3, .sptr [.I p1.Stamp.Time, .I p1.Stamp.Source, .I p1.Stamp.Seq, .I p1.Kind, .I p1.Item.ID, .I p1.Item.Version, .str p1.Item.Stem, .lst 6 (List.map GPart.lv p1.Item.Parts), .L p1.Item.Enemies, .I p1.Ref.ID, .I p1.Ref.Version, .I p1.Form]), (4, .ptr 104 0), (6, .fn 59 []), (8, .ptr 811 0)] [(104, .box [.nil]), (811, .box [.arr 812 (List.length r5.Records)]), (812, .nest 58 5 [(1, 34, 5), (2, 4, 1), (3, 102, 3)] (List.map Gq2.lv r5.Records))] R (sN (oLdA R tk47 ta47 ts47 R R (sN (oCM (args := [.agg [.lst 5 (List.map Gq2.lv p0.Records)]]) (ml := []) (ml' := [(812, .nest 58 5 [(1, 34, 5), (2, 4, 1), (3, 102, 3)] (List.map Gq2.lv r5.Records))]) R isF47 R (sbR sbN) (bank_cloneBank_ok hr5) mN (newF R newN) R (sX (ok_alI 711 R tz47 R R) (s_ (oSt R R R tk47 ts47 R R R zS))))))) (LH.seq ?_)
   obtain ⟨r6, hr6, h⟩ := bindS h
   refine LH.seqT [(4, .ptr 104 0), (8, .ptr 811 0), (9, .I r6.1)] [(104, .box [.nil]), (811, .box [.arr 812 (List.length r6.2.Records)]), (812, .nest 58 5 [(1, 34, 5), (2, 4, 1), (3, 102, 3)] (List.map Gq2.lv r6.2.Records))] R (sN (oM (v := (.fn _ _)) R (sN (oLdA R tk38 ta38 ts38 R R (sN (oCM (args := [.ptr 811 0, .agg [.I p1.Stamp.Time, .I p1.Stamp.Source, .I p1.Stamp.Seq, .I p1.Kind, .I p1.Item.ID, .I p1.Item.Version, .str p1.Item.Stem, .lst 6 (List.map GPart.lv p1.Item.Parts), .L p1.Item.Enemies, .I p1.Ref.ID, .I p1.Ref.Version, .I p1.Form]]) (ml := [(811, .box [.arr 812 (List.length r5.Records)]), (812, .nest 58 5 [(1, 34, 5), (2, 4, 1), (3, 102, 3)] (List.map Gq2.lv r5.Records))]) (ml' := [(811, .box [.arr 812 (List.length r6.2.Records)]), (812, .nest 58 5 [(1, 34, 5), (2, 4, 1), (3, 102, 3)] (List.map Gq2.lv r6.2.Records))]) R isF59 R (sbR (sbR sbN)) (bank_draft_ok hr6) ⟨R, R, trivial⟩ (newI R (newI R newN)) R (sAi R zS))))))) (LH.seqT [(4, .ptr 104 0), (8, .ptr 811 0), (9, .I r6.1), (30, .bool (r6.1 != 0))] [(104, .box [.nil]), (811, .box [.arr 812 (List.length r6.2.Records)]), (812, .nest 58 5 [(1, 34, 5), (2, 4, 1), (3, 102, 3)] (List.map Gq2.lv r6.2.Records))] R (sMi R (sN (oNe R R zS))) (LH.cond (t := (r6.1 != 0)) R (fun hc7 => ?_) (fun hc7 => ?_)))
   ·replace h := iteT h hc7
    refine LH.seqT [(4, .sptr [.nil]), (5, .I r6.1)] [] R (sN (oBd (vs := []) tu47 tz47 R lf0 (sMi R (s_ (oSt R R R tk47 ts47 R R R (sAi R (s0 ((Wk.trans (Wk.eq (el := [(4, .ptr 104 0), (5, .I r6.1)]) (ml := [(104, .box [.nil])]) R R R R) (Wk.trans (Wk.frzB 104 [.nil] R R R (prN R)) (Wk.eq R R R R))))))))))) (LH.ret (thenR ?_))
    obtain rfl := oI h
    exact retE (aT Try.results26) (lrSA R tk47 ta47 ts47 R R (lrT R (lr0 ⟨memN mN, R, prK R, (Sub.tup (sbS (Sub.agg (sbL sbN)) (sbR sbN)))⟩)))
   replace h := iteF h hc7
   refine LH.skip (thenN (LH.seqT [(4, .sptr [.lst 5 (List.map Gq2.lv r6.2.Records)]), (5, .I 0)] [] R (SOps.wk (Wk.eq (el := [(4, .ptr 104 0), (8, .ptr 811 0)]) (ml := [(104, .box [.nil]), (811, .box [.arr 812 (List.length r6.2.Records)]), (812, .nest 58 5 [(1, 34, 5), (2, 4, 1), (3, 102, 3)] (List.map Gq2.lv r6.2.Records))]) R R R R) (SOps.wk (Wk.trans (Wk.trans (Wk.unnest (f := Gq2.lv) 812 58 5 [(1, 34, 5), (2, 4, 1), (3, 102, 3)] r6.2.Records R Gq2.ok) (Wk.eq (el := [(4, .ptr 104 0), (8, .ptr 811 0)]) (ml := [(104, .box [.nil]), (811, .box [.arr 812 (List.length r6.2.Records)]), (812, .arr 58 5 (List.map Gq2.lv r6.2.Records))]) R R R R)) (Wk.trans (Wk.frzBx (f := Gq2.lv) 812 58 5 r6.2.Records 811 R R R (frAZ frA0) R R (prN R)) (Wk.eq (el := [(4, .ptr 104 0), (8, .ptr 811 0)]) (ml := [(104, .box [.nil]), (811, .box [.lst 5 (List.map Gq2.lv r6.2.Records)])]) R R R R))) (sN (oLdPA R R R tk47 ta47 ts47 R R (s_ (oSt R R R tk47 ts47 R R R (sAi R (s0 ((Wk.trans (Wk.eq (el := [(4, .ptr 104 0), (5, .I 0)]) (ml := [(104, .box [.lst 5 (List.map Gq2.lv r6.2.Records)])]) R R R R) (Wk.trans (Wk.frzB 104 [.lst 5 (List.map Gq2.lv r6.2.Records)] R R R (prN R)) (Wk.eq R R R R)))))))))))) (LH.ret ?_)))
   obtain rfl := oI h
   exact retE (aT Try.results26) (lrSA R tk47 ta47 ts47 R R (lrT R (lr0 ⟨memN mN, R, prK R, (Sub.tup (sbR (sbR sbN)))⟩)))
  replace hk3 := bF hk3
  replace h := iteF h hk3
  by_cases hk8 : (p1.Kind == 2) = true
  ·replace h := iteT h hk8
   refine LH.seqJM mixed [] [2, 0, 0, 3, 0, 0, 0, 0, 0] [(2, .sptr [.lst 5 (List.map Gq2.lv p0.Records)]), (3, .sptr [.I p1.Stamp.Time, .I p1.Stamp.Source, .I p1.Stamp.Seq, .I p1.Kind, .I p1.Item.ID, .I p1.Item.Version, .str p1.Item.Stem, .lst 6 (List.map GPart.lv p1.Item.Parts), .L p1.Item.Enemies, .I p1.Ref.ID, .I p1.Ref.Version, .I p1.Form]), (4, .ptr 104 0), (6, .fn 60 []), (7, .bool true)] [(104, .box [.nil])] R R (by kernel_rfl) (mN2 (oCM (args := []) (ml := []) (ml' := [(10901, .map 3 92 (mlv LV.I bankH bankHs))]) R isF39 R sbN (bank_handlers_ok (F := F) (r := bankHs) R) mN (newF R newN) R (mN0 (oFaS tf38_1 tk3 ts3 R R R ⟨R, mN0 (oLd R tk3 ta3 ⟨R, mX (ok_lookK (f := LV.I) (g := bankH) (xs := bankHs) (key := 2) (z := 0) (o := some 2) tm90 kok3 kf3 R R (congrArg LV.I (eq_of_beq hk8)) tz92 R) (mMt R (mN0 (oEx R R ⟨R, mN0 (oEx R R ⟨R, mAf R (mAb R zM)⟩)⟩)))⟩)⟩)))) (LH.seq (LH.seqT [(2, .sptr [.lst 5 (List.map Gq2.lv p0.Records)]), (3, .sptr [.I p1.Stamp.Time, .I p1.Stamp.Source, .I p1.Stamp.Seq, .I p1.Kind, .I p1.Item.ID, .I p1.Item.Version, .str p1.Item.Stem, .lst 6 (List.map GPart.lv p1.Item.Parts), .L p1.Item.Enemies, .I p1.Ref.ID, .I p1.Ref.Version, .I p1.Form]), (4, .ptr 104 0), (6, .fn 60 []), (22, .bool false)] [(104, .box [.nil])] R (sMb R (sN (oNot R zS))) (LH.cond (t := false) R (fun hc9 => ?_) (fun hc9 => ?_))))
   ·cases hc9
   refine LH.skip (thenN ?_)
   obtain ⟨r10, hr10, h⟩ := bindS h
   refine LH.seqT [(3, .sptr [.I p1.Stamp.Time, .I p1.Stamp.Source, .I p1.Stamp.Seq, .I p1.Kind, .I p1.Item.ID, .I p1.Item.Version, .str p1.Item.Stem, .lst 6 (List.map GPart.lv p1.Item.Parts), .L p1.Item.Enemies, .I p1.Ref.ID, .I p1.Ref.Version, .I p1.Form]), (4, .ptr 104 0), (6, .fn 60 []), (8, .ptr 811 0)] [(104, .box [.nil]), (811, .box [.arr 812 (List.length r10.Records)]), (812, .nest 58 5 [(1, 34, 5), (2, 4, 1), (3, 102, 3)] (List.map Gq2.lv r10.Records))] R (sN (oLdA R tk47 ta47 ts47 R R (sN (oCM (args := [.agg [.lst 5 (List.map Gq2.lv p0.Records)]]) (ml := []) (ml' := [(812, .nest 58 5 [(1, 34, 5), (2, 4, 1), (3, 102, 3)] (List.map Gq2.lv r10.Records))]) R isF47 R (sbR sbN) (bank_cloneBank_ok hr10) mN (newF R newN) R (sX (ok_alI 711 R tz47 R R) (s_ (oSt R R R tk47 ts47 R R R zS))))))) (LH.seq ?_)
   obtain ⟨r11, hr11, h⟩ := bindS h
   refine LH.seqT [(4, .ptr 104 0), (8, .ptr 811 0), (9, .I r11.1)] [(104, .box [.nil]), (811, .box [.arr 812 (List.length r11.2.Records)]), (812, .nest 58 5 [(1, 34, 5), (2, 4, 1), (3, 102, 3)] (List.map Gq2.lv r11.2.Records))] R (sN (oM (v := (.fn _ _)) R (sN (oLdA R tk38 ta38 ts38 R R (sN (oCM (args := [.ptr 811 0, .agg [.I p1.Stamp.Time, .I p1.Stamp.Source, .I p1.Stamp.Seq, .I p1.Kind, .I p1.Item.ID, .I p1.Item.Version, .str p1.Item.Stem, .lst 6 (List.map GPart.lv p1.Item.Parts), .L p1.Item.Enemies, .I p1.Ref.ID, .I p1.Ref.Version, .I p1.Form]]) (ml := [(811, .box [.arr 812 (List.length r10.Records)]), (812, .nest 58 5 [(1, 34, 5), (2, 4, 1), (3, 102, 3)] (List.map Gq2.lv r10.Records))]) (ml' := [(811, .box [.arr 812 (List.length r11.2.Records)]), (812, .nest 58 5 [(1, 34, 5), (2, 4, 1), (3, 102, 3)] (List.map Gq2.lv r11.2.Records))]) R isF60 R (sbR (sbR sbN)) (bank_revise_ok hr11) ⟨R, R, trivial⟩ (newI R (newI R newN)) R (sAi R zS))))))) (LH.seqT [(4, .ptr 104 0), (8, .ptr 811 0), (9, .I r11.1), (30, .bool (r11.1 != 0))] [(104, .box [.nil]), (811, .box [.arr 812 (List.length r11.2.Records)]), (812, .nest 58 5 [(1, 34, 5), (2, 4, 1), (3, 102, 3)] (List.map Gq2.lv r11.2.Records))] R (sMi R (sN (oNe R R zS))) (LH.cond (t := (r11.1 != 0)) R (fun hc12 => ?_) (fun hc12 => ?_)))
   ·replace h := iteT h hc12
    refine LH.seqT [(4, .sptr [.nil]), (5, .I r11.1)] [] R (sN (oBd (vs := []) tu47 tz47 R lf0 (sMi R (s_ (oSt R R R tk47 ts47 R R R (sAi R (s0 ((Wk.trans (Wk.eq (el := [(4, .ptr 104 0), (5, .I r11.1)]) (ml := [(104, .box [.nil])]) R R R R) (Wk.trans (Wk.frzB 104 [.nil] R R R (prN R)) (Wk.eq R R R R))))))))))) (LH.ret (thenR ?_))
    obtain rfl := oI h
    exact retE (aT Try.results26) (lrSA R tk47 ta47 ts47 R R (lrT R (lr0 ⟨memN mN, R, prK R, (Sub.tup (sbS (Sub.agg (sbL sbN)) (sbR sbN)))⟩)))
   replace h := iteF h hc12
   refine LH.skip (thenN (LH.seqT [(4, .sptr [.lst 5 (List.map Gq2.lv r11.2.Records)]), (5, .I 0)] [] R (SOps.wk (Wk.eq (el := [(4, .ptr 104 0), (8, .ptr 811 0)]) (ml := [(104, .box [.nil]), (811, .box [.arr 812 (List.length r11.2.Records)]), (812, .nest 58 5 [(1, 34, 5), (2, 4, 1), (3, 102, 3)] (List.map Gq2.lv r11.2.Records))]) R R R R) (SOps.wk (Wk.trans (Wk.trans (Wk.unnest (f := Gq2.lv) 812 58 5 [(1, 34, 5), (2, 4, 1), (3, 102, 3)] r11.2.Records R Gq2.ok) (Wk.eq (el := [(4, .ptr 104 0), (8, .ptr 811 0)]) (ml := [(104, .box [.nil]), (811, .box [.arr 812 (List.length r11.2.Records)]), (812, .arr 58 5 (List.map Gq2.lv r11.2.Records))]) R R R R)) (Wk.trans (Wk.frzBx (f := Gq2.lv) 812 58 5 r11.2.Records 811 R R R (frAZ frA0) R R (prN R)) (Wk.eq (el := [(4, .ptr 104 0), (8, .ptr 811 0)]) (ml := [(104, .box [.nil]), (811, .box [.lst 5 (List.map Gq2.lv r11.2.Records)])]) R R R R))) (sN (oLdPA R R R tk47 ta47 ts47 R R (s_ (oSt R R R tk47 ts47 R R R (sAi R (s0 ((Wk.trans (Wk.eq (el := [(4, .ptr 104 0), (5, .I 0)]) (ml := [(104, .box [.lst 5 (List.map Gq2.lv r11.2.Records)])]) R R R R) (Wk.trans (Wk.frzB 104 [.lst 5 (List.map Gq2.lv r11.2.Records)] R R R (prN R)) (Wk.eq R R R R)))))))))))) (LH.ret ?_)))
   obtain rfl := oI h
   exact retE (aT Try.results26) (lrSA R tk47 ta47 ts47 R R (lrT R (lr0 ⟨memN mN, R, prK R, (Sub.tup (sbR (sbR sbN)))⟩)))
  replace hk8 := bF hk8
  replace h := iteF h hk8
  by_cases hk13 : (p1.Kind == 3) = true
  ·replace h := iteT h hk13
   refine LH.seqJM mixed [] [2, 0, 0, 3, 0, 0, 0, 0, 0] [(2, .sptr [.lst 5 (List.map Gq2.lv p0.Records)]), (3, .sptr [.I p1.Stamp.Time, .I p1.Stamp.Source, .I p1.Stamp.Seq, .I p1.Kind, .I p1.Item.ID, .I p1.Item.Version, .str p1.Item.Stem, .lst 6 (List.map GPart.lv p1.Item.Parts), .L p1.Item.Enemies, .I p1.Ref.ID, .I p1.Ref.Version, .I p1.Form]), (4, .ptr 104 0), (6, .fn 61 []), (7, .bool true)] [(104, .box [.nil])] R R (by kernel_rfl) (mN2 (oCM (args := []) (ml := []) (ml' := [(10901, .map 3 92 (mlv LV.I bankH bankHs))]) R isF39 R sbN (bank_handlers_ok (F := F) (r := bankHs) R) mN (newF R newN) R (mN0 (oFaS tf38_1 tk3 ts3 R R R ⟨R, mN0 (oLd R tk3 ta3 ⟨R, mX (ok_lookK (f := LV.I) (g := bankH) (xs := bankHs) (key := 3) (z := 0) (o := some 3) tm90 kok3 kf3 R R (congrArg LV.I (eq_of_beq hk13)) tz92 R) (mMt R (mN0 (oEx R R ⟨R, mN0 (oEx R R ⟨R, mAf R (mAb R zM)⟩)⟩)))⟩)⟩)))) (LH.seq (LH.seqT [(2, .sptr [.lst 5 (List.map Gq2.lv p0.Records)]), (3, .sptr [.I p1.Stamp.Time, .I p1.Stamp.Source, .I p1.Stamp.Seq, .I p1.Kind, .I p1.Item.ID, .I p1.Item.Version, .str p1.Item.Stem, .lst 6 (List.map GPart.lv p1.Item.Parts), .L p1.Item.Enemies, .I p1.Ref.ID, .I p1.Ref.Version, .I p1.Form]), (4, .ptr 104 0), (6, .fn 61 []), (22, .bool false)] [(104, .box [.nil])] R (sMb R (sN (oNot R zS))) (LH.cond (t := false) R (fun hc14 => ?_) (fun hc14 => ?_))))
   ·cases hc14
   refine LH.skip (thenN ?_)
   obtain ⟨r15, hr15, h⟩ := bindS h
   refine LH.seqT [(3, .sptr [.I p1.Stamp.Time, .I p1.Stamp.Source, .I p1.Stamp.Seq, .I p1.Kind, .I p1.Item.ID, .I p1.Item.Version, .str p1.Item.Stem, .lst 6 (List.map GPart.lv p1.Item.Parts), .L p1.Item.Enemies, .I p1.Ref.ID, .I p1.Ref.Version, .I p1.Form]), (4, .ptr 104 0), (6, .fn 61 []), (8, .ptr 811 0)] [(104, .box [.nil]), (811, .box [.arr 812 (List.length r15.Records)]), (812, .nest 58 5 [(1, 34, 5), (2, 4, 1), (3, 102, 3)] (List.map Gq2.lv r15.Records))] R (sN (oLdA R tk47 ta47 ts47 R R (sN (oCM (args := [.agg [.lst 5 (List.map Gq2.lv p0.Records)]]) (ml := []) (ml' := [(812, .nest 58 5 [(1, 34, 5), (2, 4, 1), (3, 102, 3)] (List.map Gq2.lv r15.Records))]) R isF47 R (sbR sbN) (bank_cloneBank_ok hr15) mN (newF R newN) R (sX (ok_alI 711 R tz47 R R) (s_ (oSt R R R tk47 ts47 R R R zS))))))) (LH.seq ?_)
   obtain ⟨r16, hr16, h⟩ := bindS h
   refine LH.seqT [(4, .ptr 104 0), (8, .ptr 811 0), (9, .I r16.1)] [(104, .box [.nil]), (811, .box [.arr 812 (List.length r16.2.Records)]), (812, .nest 58 5 [(1, 34, 5), (2, 4, 1), (3, 102, 3)] (List.map Gq2.lv r16.2.Records))] R (sN (oM (v := (.fn _ _)) R (sN (oLdA R tk38 ta38 ts38 R R (sN (oCM (args := [.ptr 811 0, .agg [.I p1.Stamp.Time, .I p1.Stamp.Source, .I p1.Stamp.Seq, .I p1.Kind, .I p1.Item.ID, .I p1.Item.Version, .str p1.Item.Stem, .lst 6 (List.map GPart.lv p1.Item.Parts), .L p1.Item.Enemies, .I p1.Ref.ID, .I p1.Ref.Version, .I p1.Form]]) (ml := [(811, .box [.arr 812 (List.length r15.Records)]), (812, .nest 58 5 [(1, 34, 5), (2, 4, 1), (3, 102, 3)] (List.map Gq2.lv r15.Records))]) (ml' := [(811, .box [.arr 812 (List.length r16.2.Records)]), (812, .nest 58 5 [(1, 34, 5), (2, 4, 1), (3, 102, 3)] (List.map Gq2.lv r16.2.Records))]) R isF61 R (sbR (sbR sbN)) (bank_approve_ok hr16) ⟨R, R, trivial⟩ (newI R (newI R newN)) R (sAi R zS))))))) (LH.seqT [(4, .ptr 104 0), (8, .ptr 811 0), (9, .I r16.1), (30, .bool (r16.1 != 0))] [(104, .box [.nil]), (811, .box [.arr 812 (List.length r16.2.Records)]), (812, .nest 58 5 [(1, 34, 5), (2, 4, 1), (3, 102, 3)] (List.map Gq2.lv r16.2.Records))] R (sMi R (sN (oNe R R zS))) (LH.cond (t := (r16.1 != 0)) R (fun hc17 => ?_) (fun hc17 => ?_)))
   ·replace h := iteT h hc17
    refine LH.seqT [(4, .sptr [.nil]), (5, .I r16.1)] [] R (sN (oBd (vs := []) tu47 tz47 R lf0 (sMi R (s_ (oSt R R R tk47 ts47 R R R (sAi R (s0 ((Wk.trans (Wk.eq (el := [(4, .ptr 104 0), (5, .I r16.1)]) (ml := [(104, .box [.nil])]) R R R R) (Wk.trans (Wk.frzB 104 [.nil] R R R (prN R)) (Wk.eq R R R R))))))))))) (LH.ret (thenR ?_))
    obtain rfl := oI h
    exact retE (aT Try.results26) (lrSA R tk47 ta47 ts47 R R (lrT R (lr0 ⟨memN mN, R, prK R, (Sub.tup (sbS (Sub.agg (sbL sbN)) (sbR sbN)))⟩)))
   replace h := iteF h hc17
   refine LH.skip (thenN (LH.seqT [(4, .sptr [.lst 5 (List.map Gq2.lv r16.2.Records)]), (5, .I 0)] [] R (SOps.wk (Wk.eq (el := [(4, .ptr 104 0), (8, .ptr 811 0)]) (ml := [(104, .box [.nil]), (811, .box [.arr 812 (List.length r16.2.Records)]), (812, .nest 58 5 [(1, 34, 5), (2, 4, 1), (3, 102, 3)] (List.map Gq2.lv r16.2.Records))]) R R R R) (SOps.wk (Wk.trans (Wk.trans (Wk.unnest (f := Gq2.lv) 812 58 5 [(1, 34, 5), (2, 4, 1), (3, 102, 3)] r16.2.Records R Gq2.ok) (Wk.eq (el := [(4, .ptr 104 0), (8, .ptr 811 0)]) (ml := [(104, .box [.nil]), (811, .box [.arr 812 (List.length r16.2.Records)]), (812, .arr 58 5 (List.map Gq2.lv r16.2.Records))]) R R R R)) (Wk.trans (Wk.frzBx (f := Gq2.lv) 812 58 5 r16.2.Records 811 R R R (frAZ frA0) R R (prN R)) (Wk.eq (el := [(4, .ptr 104 0), (8, .ptr 811 0)]) (ml := [(104, .box [.nil]), (811, .box [.lst 5 (List.map Gq2.lv r16.2.Records)])]) R R R R))) (sN (oLdPA R R R tk47 ta47 ts47 R R (s_ (oSt R R R tk47 ts47 R R R (sAi R (s0 ((Wk.trans (Wk.eq (el := [(4, .ptr 104 0), (5, .I 0)]) (ml := [(104, .box [.lst 5 (List.map Gq2.lv r16.2.Records)])]) R R R R) (Wk.trans (Wk.frzB 104 [.lst 5 (List.map Gq2.lv r16.2.Records)] R R R (prN R)) (Wk.eq R R R R)))))))))))) (LH.ret ?_)))
   obtain rfl := oI h
   exact retE (aT Try.results26) (lrSA R tk47 ta47 ts47 R R (lrT R (lr0 ⟨memN mN, R, prK R, (Sub.tup (sbR (sbR sbN)))⟩)))
  replace hk13 := bF hk13
  replace h := iteF h hk13
  by_cases hk18 : (p1.Kind == 4) = true
  ·replace h := iteT h hk18
   refine LH.seqJM mixed [] [2, 0, 0, 3, 0, 0, 0, 0, 0] [(2, .sptr [.lst 5 (List.map Gq2.lv p0.Records)]), (3, .sptr [.I p1.Stamp.Time, .I p1.Stamp.Source, .I p1.Stamp.Seq, .I p1.Kind, .I p1.Item.ID, .I p1.Item.Version, .str p1.Item.Stem, .lst 6 (List.map GPart.lv p1.Item.Parts), .L p1.Item.Enemies, .I p1.Ref.ID, .I p1.Ref.Version, .I p1.Form]), (4, .ptr 104 0), (6, .fn 62 []), (7, .bool true)] [(104, .box [.nil])] R R (by kernel_rfl) (mN2 (oCM (args := []) (ml := []) (ml' := [(10901, .map 3 92 (mlv LV.I bankH bankHs))]) R isF39 R sbN (bank_handlers_ok (F := F) (r := bankHs) R) mN (newF R newN) R (mN0 (oFaS tf38_1 tk3 ts3 R R R ⟨R, mN0 (oLd R tk3 ta3 ⟨R, mX (ok_lookK (f := LV.I) (g := bankH) (xs := bankHs) (key := 4) (z := 0) (o := some 4) tm90 kok3 kf3 R R (congrArg LV.I (eq_of_beq hk18)) tz92 R) (mMt R (mN0 (oEx R R ⟨R, mN0 (oEx R R ⟨R, mAf R (mAb R zM)⟩)⟩)))⟩)⟩)))) (LH.seq (LH.seqT [(2, .sptr [.lst 5 (List.map Gq2.lv p0.Records)]), (3, .sptr [.I p1.Stamp.Time, .I p1.Stamp.Source, .I p1.Stamp.Seq, .I p1.Kind, .I p1.Item.ID, .I p1.Item.Version, .str p1.Item.Stem, .lst 6 (List.map GPart.lv p1.Item.Parts), .L p1.Item.Enemies, .I p1.Ref.ID, .I p1.Ref.Version, .I p1.Form]), (4, .ptr 104 0), (6, .fn 62 []), (22, .bool false)] [(104, .box [.nil])] R (sMb R (sN (oNot R zS))) (LH.cond (t := false) R (fun hc19 => ?_) (fun hc19 => ?_))))
   ·cases hc19
   refine LH.skip (thenN ?_)
   obtain ⟨r20, hr20, h⟩ := bindS h
   refine LH.seqT [(3, .sptr [.I p1.Stamp.Time, .I p1.Stamp.Source, .I p1.Stamp.Seq, .I p1.Kind, .I p1.Item.ID, .I p1.Item.Version, .str p1.Item.Stem, .lst 6 (List.map GPart.lv p1.Item.Parts), .L p1.Item.Enemies, .I p1.Ref.ID, .I p1.Ref.Version, .I p1.Form]), (4, .ptr 104 0), (6, .fn 62 []), (8, .ptr 811 0)] [(104, .box [.nil]), (811, .box [.arr 812 (List.length r20.Records)]), (812, .nest 58 5 [(1, 34, 5), (2, 4, 1), (3, 102, 3)] (List.map Gq2.lv r20.Records))] R (sN (oLdA R tk47 ta47 ts47 R R (sN (oCM (args := [.agg [.lst 5 (List.map Gq2.lv p0.Records)]]) (ml := []) (ml' := [(812, .nest 58 5 [(1, 34, 5), (2, 4, 1), (3, 102, 3)] (List.map Gq2.lv r20.Records))]) R isF47 R (sbR sbN) (bank_cloneBank_ok hr20) mN (newF R newN) R (sX (ok_alI 711 R tz47 R R) (s_ (oSt R R R tk47 ts47 R R R zS))))))) (LH.seq ?_)
   obtain ⟨r21, hr21, h⟩ := bindS h
   refine LH.seqT [(4, .ptr 104 0), (8, .ptr 811 0), (9, .I r21.1)] [(104, .box [.nil]), (811, .box [.arr 812 (List.length r21.2.Records)]), (812, .nest 58 5 [(1, 34, 5), (2, 4, 1), (3, 102, 3)] (List.map Gq2.lv r21.2.Records))] R (sN (oM (v := (.fn _ _)) R (sN (oLdA R tk38 ta38 ts38 R R (sN (oCM (args := [.ptr 811 0, .agg [.I p1.Stamp.Time, .I p1.Stamp.Source, .I p1.Stamp.Seq, .I p1.Kind, .I p1.Item.ID, .I p1.Item.Version, .str p1.Item.Stem, .lst 6 (List.map GPart.lv p1.Item.Parts), .L p1.Item.Enemies, .I p1.Ref.ID, .I p1.Ref.Version, .I p1.Form]]) (ml := [(811, .box [.arr 812 (List.length r20.Records)]), (812, .nest 58 5 [(1, 34, 5), (2, 4, 1), (3, 102, 3)] (List.map Gq2.lv r20.Records))]) (ml' := [(811, .box [.arr 812 (List.length r21.2.Records)]), (812, .nest 58 5 [(1, 34, 5), (2, 4, 1), (3, 102, 3)] (List.map Gq2.lv r21.2.Records))]) R isF62 R (sbR (sbR sbN)) (bank_use_ok hr21) ⟨R, R, trivial⟩ (newI R (newI R newN)) R (sAi R zS))))))) (LH.seqT [(4, .ptr 104 0), (8, .ptr 811 0), (9, .I r21.1), (30, .bool (r21.1 != 0))] [(104, .box [.nil]), (811, .box [.arr 812 (List.length r21.2.Records)]), (812, .nest 58 5 [(1, 34, 5), (2, 4, 1), (3, 102, 3)] (List.map Gq2.lv r21.2.Records))] R (sMi R (sN (oNe R R zS))) (LH.cond (t := (r21.1 != 0)) R (fun hc22 => ?_) (fun hc22 => ?_)))
   ·replace h := iteT h hc22
    refine LH.seqT [(4, .sptr [.nil]), (5, .I r21.1)] [] R (sN (oBd (vs := []) tu47 tz47 R lf0 (sMi R (s_ (oSt R R R tk47 ts47 R R R (sAi R (s0 ((Wk.trans (Wk.eq (el := [(4, .ptr 104 0), (5, .I r21.1)]) (ml := [(104, .box [.nil])]) R R R R) (Wk.trans (Wk.frzB 104 [.nil] R R R (prN R)) (Wk.eq R R R R))))))))))) (LH.ret (thenR ?_))
    obtain rfl := oI h
    exact retE (aT Try.results26) (lrSA R tk47 ta47 ts47 R R (lrT R (lr0 ⟨memN mN, R, prK R, (Sub.tup (sbS (Sub.agg (sbL sbN)) (sbR sbN)))⟩)))
   replace h := iteF h hc22
   refine LH.skip (thenN (LH.seqT [(4, .sptr [.lst 5 (List.map Gq2.lv r21.2.Records)]), (5, .I 0)] [] R (SOps.wk (Wk.eq (el := [(4, .ptr 104 0), (8, .ptr 811 0)]) (ml := [(104, .box [.nil]), (811, .box [.arr 812 (List.length r21.2.Records)]), (812, .nest 58 5 [(1, 34, 5), (2, 4, 1), (3, 102, 3)] (List.map Gq2.lv r21.2.Records))]) R R R R) (SOps.wk (Wk.trans (Wk.trans (Wk.unnest (f := Gq2.lv) 812 58 5 [(1, 34, 5), (2, 4, 1), (3, 102, 3)] r21.2.Records R Gq2.ok) (Wk.eq (el := [(4, .ptr 104 0), (8, .ptr 811 0)]) (ml := [(104, .box [.nil]), (811, .box [.arr 812 (List.length r21.2.Records)]), (812, .arr 58 5 (List.map Gq2.lv r21.2.Records))]) R R R R)) (Wk.trans (Wk.frzBx (f := Gq2.lv) 812 58 5 r21.2.Records 811 R R R (frAZ frA0) R R (prN R)) (Wk.eq (el := [(4, .ptr 104 0), (8, .ptr 811 0)]) (ml := [(104, .box [.nil]), (811, .box [.lst 5 (List.map Gq2.lv r21.2.Records)])]) R R R R))) (sN (oLdPA R R R tk47 ta47 ts47 R R (s_ (oSt R R R tk47 ts47 R R R (sAi R (s0 ((Wk.trans (Wk.eq (el := [(4, .ptr 104 0), (5, .I 0)]) (ml := [(104, .box [.lst 5 (List.map Gq2.lv r21.2.Records)])]) R R R R) (Wk.trans (Wk.frzB 104 [.lst 5 (List.map Gq2.lv r21.2.Records)] R R R (prN R)) (Wk.eq R R R R)))))))))))) (LH.ret ?_)))
   obtain rfl := oI h
   exact retE (aT Try.results26) (lrSA R tk47 ta47 ts47 R R (lrT R (lr0 ⟨memN mN, R, prK R, (Sub.tup (sbR (sbR sbN)))⟩)))
  replace hk18 := bF hk18
  replace h := iteF h hk18
  by_cases hk23 : (p1.Kind == 5) = true
  ·replace h := iteT h hk23
   refine LH.seqJM mixed [] [2, 0, 0, 3, 0, 0, 0, 0, 0] [(2, .sptr [.lst 5 (List.map Gq2.lv p0.Records)]), (3, .sptr [.I p1.Stamp.Time, .I p1.Stamp.Source, .I p1.Stamp.Seq, .I p1.Kind, .I p1.Item.ID, .I p1.Item.Version, .str p1.Item.Stem, .lst 6 (List.map GPart.lv p1.Item.Parts), .L p1.Item.Enemies, .I p1.Ref.ID, .I p1.Ref.Version, .I p1.Form]), (4, .ptr 104 0), (6, .fn 81 [.sptr [.bool true]]), (7, .bool true)] [(104, .box [.nil])] R R (by kernel_rfl) (mN2 (oCM (args := []) (ml := []) (ml' := [(10901, .map 3 92 (mlv LV.I bankH bankHs))]) R isF39 R sbN (bank_handlers_ok (F := F) (r := bankHs) R) mN (newF R newN) R (mN0 (oFaS tf38_1 tk3 ts3 R R R ⟨R, mN0 (oLd R tk3 ta3 ⟨R, mX (ok_lookK (f := LV.I) (g := bankH) (xs := bankHs) (key := 5) (z := 0) (o := some 5) tm90 kok3 kf3 R R (congrArg LV.I (eq_of_beq hk23)) tz92 R) (mMt R (mN0 (oEx R R ⟨R, mN0 (oEx R R ⟨R, mAf R (mAb R zM)⟩)⟩)))⟩)⟩)))) (LH.seq (LH.seqT [(2, .sptr [.lst 5 (List.map Gq2.lv p0.Records)]), (3, .sptr [.I p1.Stamp.Time, .I p1.Stamp.Source, .I p1.Stamp.Seq, .I p1.Kind, .I p1.Item.ID, .I p1.Item.Version, .str p1.Item.Stem, .lst 6 (List.map GPart.lv p1.Item.Parts), .L p1.Item.Enemies, .I p1.Ref.ID, .I p1.Ref.Version, .I p1.Form]), (4, .ptr 104 0), (6, .fn 81 [.sptr [.bool true]]), (22, .bool false)] [(104, .box [.nil])] R (sMb R (sN (oNot R zS))) (LH.cond (t := false) R (fun hc24 => ?_) (fun hc24 => ?_))))
   ·cases hc24
   refine LH.skip (thenN ?_)
   obtain ⟨r25, hr25, h⟩ := bindS h
   refine LH.seqT [(3, .sptr [.I p1.Stamp.Time, .I p1.Stamp.Source, .I p1.Stamp.Seq, .I p1.Kind, .I p1.Item.ID, .I p1.Item.Version, .str p1.Item.Stem, .lst 6 (List.map GPart.lv p1.Item.Parts), .L p1.Item.Enemies, .I p1.Ref.ID, .I p1.Ref.Version, .I p1.Form]), (4, .ptr 104 0), (6, .fn 81 [.sptr [.bool true]]), (8, .ptr 811 0)] [(104, .box [.nil]), (811, .box [.arr 812 (List.length r25.Records)]), (812, .nest 58 5 [(1, 34, 5), (2, 4, 1), (3, 102, 3)] (List.map Gq2.lv r25.Records))] R (sN (oLdA R tk47 ta47 ts47 R R (sN (oCM (args := [.agg [.lst 5 (List.map Gq2.lv p0.Records)]]) (ml := []) (ml' := [(812, .nest 58 5 [(1, 34, 5), (2, 4, 1), (3, 102, 3)] (List.map Gq2.lv r25.Records))]) R isF47 R (sbR sbN) (bank_cloneBank_ok hr25) mN (newF R newN) R (sX (ok_alI 711 R tz47 R R) (s_ (oSt R R R tk47 ts47 R R R zS))))))) (LH.seq ?_)
   obtain ⟨r26, hr26, h⟩ := bindS h
   refine LH.seqT [(4, .ptr 104 0), (8, .ptr 811 0), (9, .I r26.1)] [(104, .box [.nil]), (811, .box [.arr 812 (List.length r26.2.Records)]), (812, .nest 58 5 [(1, 34, 5), (2, 4, 1), (3, 102, 3)] (List.map Gq2.lv r26.2.Records))] R (sN (oM (v := (.fn _ _)) R (sN (oLdA R tk38 ta38 ts38 R R (sN (oCM (args := [.ptr 811 0, .agg [.I p1.Stamp.Time, .I p1.Stamp.Source, .I p1.Stamp.Seq, .I p1.Kind, .I p1.Item.ID, .I p1.Item.Version, .str p1.Item.Stem, .lst 6 (List.map GPart.lv p1.Item.Parts), .L p1.Item.Enemies, .I p1.Ref.ID, .I p1.Ref.Version, .I p1.Form], .sptr [.bool true]]) (ml := [(811, .box [.arr 812 (List.length r25.Records)]), (812, .nest 58 5 [(1, 34, 5), (2, 4, 1), (3, 102, 3)] (List.map Gq2.lv r25.Records))]) (ml' := [(811, .box [.arr 812 (List.length r26.2.Records)]), (812, .nest 58 5 [(1, 34, 5), (2, 4, 1), (3, 102, 3)] (List.map Gq2.lv r26.2.Records))]) R isF81 R (sbR (sbR (sbR sbN))) (bank_setWithdrawn_1_ok hr26) ⟨R, R, trivial⟩ (newI R (newI R newN)) R (sAi R zS))))))) (LH.seqT [(4, .ptr 104 0), (8, .ptr 811 0), (9, .I r26.1), (30, .bool (r26.1 != 0))] [(104, .box [.nil]), (811, .box [.arr 812 (List.length r26.2.Records)]), (812, .nest 58 5 [(1, 34, 5), (2, 4, 1), (3, 102, 3)] (List.map Gq2.lv r26.2.Records))] R (sMi R (sN (oNe R R zS))) (LH.cond (t := (r26.1 != 0)) R (fun hc27 => ?_) (fun hc27 => ?_)))
   ·replace h := iteT h hc27
    refine LH.seqT [(4, .sptr [.nil]), (5, .I r26.1)] [] R (sN (oBd (vs := []) tu47 tz47 R lf0 (sMi R (s_ (oSt R R R tk47 ts47 R R R (sAi R (s0 ((Wk.trans (Wk.eq (el := [(4, .ptr 104 0), (5, .I r26.1)]) (ml := [(104, .box [.nil])]) R R R R) (Wk.trans (Wk.frzB 104 [.nil] R R R (prN R)) (Wk.eq R R R R))))))))))) (LH.ret (thenR ?_))
    obtain rfl := oI h
    exact retE (aT Try.results26) (lrSA R tk47 ta47 ts47 R R (lrT R (lr0 ⟨memN mN, R, prK R, (Sub.tup (sbS (Sub.agg (sbL sbN)) (sbR sbN)))⟩)))
   replace h := iteF h hc27
   refine LH.skip (thenN (LH.seqT [(4, .sptr [.lst 5 (List.map Gq2.lv r26.2.Records)]), (5, .I 0)] [] R (SOps.wk (Wk.eq (el := [(4, .ptr 104 0), (8, .ptr 811 0)]) (ml := [(104, .box [.nil]), (811, .box [.arr 812 (List.length r26.2.Records)]), (812, .nest 58 5 [(1, 34, 5), (2, 4, 1), (3, 102, 3)] (List.map Gq2.lv r26.2.Records))]) R R R R) (SOps.wk (Wk.trans (Wk.trans (Wk.unnest (f := Gq2.lv) 812 58 5 [(1, 34, 5), (2, 4, 1), (3, 102, 3)] r26.2.Records R Gq2.ok) (Wk.eq (el := [(4, .ptr 104 0), (8, .ptr 811 0)]) (ml := [(104, .box [.nil]), (811, .box [.arr 812 (List.length r26.2.Records)]), (812, .arr 58 5 (List.map Gq2.lv r26.2.Records))]) R R R R)) (Wk.trans (Wk.frzBx (f := Gq2.lv) 812 58 5 r26.2.Records 811 R R R (frAZ frA0) R R (prN R)) (Wk.eq (el := [(4, .ptr 104 0), (8, .ptr 811 0)]) (ml := [(104, .box [.nil]), (811, .box [.lst 5 (List.map Gq2.lv r26.2.Records)])]) R R R R))) (sN (oLdPA R R R tk47 ta47 ts47 R R (s_ (oSt R R R tk47 ts47 R R R (sAi R (s0 ((Wk.trans (Wk.eq (el := [(4, .ptr 104 0), (5, .I 0)]) (ml := [(104, .box [.lst 5 (List.map Gq2.lv r26.2.Records)])]) R R R R) (Wk.trans (Wk.frzB 104 [.lst 5 (List.map Gq2.lv r26.2.Records)] R R R (prN R)) (Wk.eq R R R R)))))))))))) (LH.ret ?_)))
   obtain rfl := oI h
   exact retE (aT Try.results26) (lrSA R tk47 ta47 ts47 R R (lrT R (lr0 ⟨memN mN, R, prK R, (Sub.tup (sbR (sbR sbN)))⟩)))
  replace hk23 := bF hk23
  replace h := iteF h hk23
  by_cases hk28 : (p1.Kind == 6) = true
  ·replace h := iteT h hk28
   refine LH.seqJM mixed [] [2, 0, 0, 3, 0, 0, 0, 0, 0] [(2, .sptr [.lst 5 (List.map Gq2.lv p0.Records)]), (3, .sptr [.I p1.Stamp.Time, .I p1.Stamp.Source, .I p1.Stamp.Seq, .I p1.Kind, .I p1.Item.ID, .I p1.Item.Version, .str p1.Item.Stem, .lst 6 (List.map GPart.lv p1.Item.Parts), .L p1.Item.Enemies, .I p1.Ref.ID, .I p1.Ref.Version, .I p1.Form]), (4, .ptr 104 0), (6, .fn 81 [.sptr [.bool false]]), (7, .bool true)] [(104, .box [.nil])] R R (by kernel_rfl) (mN2 (oCM (args := []) (ml := []) (ml' := [(10901, .map 3 92 (mlv LV.I bankH bankHs))]) R isF39 R sbN (bank_handlers_ok (F := F) (r := bankHs) R) mN (newF R newN) R (mN0 (oFaS tf38_1 tk3 ts3 R R R ⟨R, mN0 (oLd R tk3 ta3 ⟨R, mX (ok_lookK (f := LV.I) (g := bankH) (xs := bankHs) (key := 6) (z := 0) (o := some 6) tm90 kok3 kf3 R R (congrArg LV.I (eq_of_beq hk28)) tz92 R) (mMt R (mN0 (oEx R R ⟨R, mN0 (oEx R R ⟨R, mAf R (mAb R zM)⟩)⟩)))⟩)⟩)))) (LH.seq (LH.seqT [(2, .sptr [.lst 5 (List.map Gq2.lv p0.Records)]), (3, .sptr [.I p1.Stamp.Time, .I p1.Stamp.Source, .I p1.Stamp.Seq, .I p1.Kind, .I p1.Item.ID, .I p1.Item.Version, .str p1.Item.Stem, .lst 6 (List.map GPart.lv p1.Item.Parts), .L p1.Item.Enemies, .I p1.Ref.ID, .I p1.Ref.Version, .I p1.Form]), (4, .ptr 104 0), (6, .fn 81 [.sptr [.bool false]]), (22, .bool false)] [(104, .box [.nil])] R (sMb R (sN (oNot R zS))) (LH.cond (t := false) R (fun hc29 => ?_) (fun hc29 => ?_))))
   ·cases hc29
   refine LH.skip (thenN ?_)
   obtain ⟨r30, hr30, h⟩ := bindS h
   refine LH.seqT [(3, .sptr [.I p1.Stamp.Time, .I p1.Stamp.Source, .I p1.Stamp.Seq, .I p1.Kind, .I p1.Item.ID, .I p1.Item.Version, .str p1.Item.Stem, .lst 6 (List.map GPart.lv p1.Item.Parts), .L p1.Item.Enemies, .I p1.Ref.ID, .I p1.Ref.Version, .I p1.Form]), (4, .ptr 104 0), (6, .fn 81 [.sptr [.bool false]]), (8, .ptr 811 0)] [(104, .box [.nil]), (811, .box [.arr 812 (List.length r30.Records)]), (812, .nest 58 5 [(1, 34, 5), (2, 4, 1), (3, 102, 3)] (List.map Gq2.lv r30.Records))] R (sN (oLdA R tk47 ta47 ts47 R R (sN (oCM (args := [.agg [.lst 5 (List.map Gq2.lv p0.Records)]]) (ml := []) (ml' := [(812, .nest 58 5 [(1, 34, 5), (2, 4, 1), (3, 102, 3)] (List.map Gq2.lv r30.Records))]) R isF47 R (sbR sbN) (bank_cloneBank_ok hr30) mN (newF R newN) R (sX (ok_alI 711 R tz47 R R) (s_ (oSt R R R tk47 ts47 R R R zS))))))) (LH.seq ?_)
   obtain ⟨r31, hr31, h⟩ := bindS h
   refine LH.seqT [(4, .ptr 104 0), (8, .ptr 811 0), (9, .I r31.1)] [(104, .box [.nil]), (811, .box [.arr 812 (List.length r31.2.Records)]), (812, .nest 58 5 [(1, 34, 5), (2, 4, 1), (3, 102, 3)] (List.map Gq2.lv r31.2.Records))] R (sN (oM (v := (.fn _ _)) R (sN (oLdA R tk38 ta38 ts38 R R (sN (oCM (args := [.ptr 811 0, .agg [.I p1.Stamp.Time, .I p1.Stamp.Source, .I p1.Stamp.Seq, .I p1.Kind, .I p1.Item.ID, .I p1.Item.Version, .str p1.Item.Stem, .lst 6 (List.map GPart.lv p1.Item.Parts), .L p1.Item.Enemies, .I p1.Ref.ID, .I p1.Ref.Version, .I p1.Form], .sptr [.bool false]]) (ml := [(811, .box [.arr 812 (List.length r30.Records)]), (812, .nest 58 5 [(1, 34, 5), (2, 4, 1), (3, 102, 3)] (List.map Gq2.lv r30.Records))]) (ml' := [(811, .box [.arr 812 (List.length r31.2.Records)]), (812, .nest 58 5 [(1, 34, 5), (2, 4, 1), (3, 102, 3)] (List.map Gq2.lv r31.2.Records))]) R isF81 R (sbR (sbR (sbR sbN))) (bank_setWithdrawn_1_ok hr31) ⟨R, R, trivial⟩ (newI R (newI R newN)) R (sAi R zS))))))) (LH.seqT [(4, .ptr 104 0), (8, .ptr 811 0), (9, .I r31.1), (30, .bool (r31.1 != 0))] [(104, .box [.nil]), (811, .box [.arr 812 (List.length r31.2.Records)]), (812, .nest 58 5 [(1, 34, 5), (2, 4, 1), (3, 102, 3)] (List.map Gq2.lv r31.2.Records))] R (sMi R (sN (oNe R R zS))) (LH.cond (t := (r31.1 != 0)) R (fun hc32 => ?_) (fun hc32 => ?_)))
   ·replace h := iteT h hc32
    refine LH.seqT [(4, .sptr [.nil]), (5, .I r31.1)] [] R (sN (oBd (vs := []) tu47 tz47 R lf0 (sMi R (s_ (oSt R R R tk47 ts47 R R R (sAi R (s0 ((Wk.trans (Wk.eq (el := [(4, .ptr 104 0), (5, .I r31.1)]) (ml := [(104, .box [.nil])]) R R R R) (Wk.trans (Wk.frzB 104 [.nil] R R R (prN R)) (Wk.eq R R R R))))))))))) (LH.ret (thenR ?_))
    obtain rfl := oI h
    exact retE (aT Try.results26) (lrSA R tk47 ta47 ts47 R R (lrT R (lr0 ⟨memN mN, R, prK R, (Sub.tup (sbS (Sub.agg (sbL sbN)) (sbR sbN)))⟩)))
   replace h := iteF h hc32
   refine LH.skip (thenN (LH.seqT [(4, .sptr [.lst 5 (List.map Gq2.lv r31.2.Records)]), (5, .I 0)] [] R (SOps.wk (Wk.eq (el := [(4, .ptr 104 0), (8, .ptr 811 0)]) (ml := [(104, .box [.nil]), (811, .box [.arr 812 (List.length r31.2.Records)]), (812, .nest 58 5 [(1, 34, 5), (2, 4, 1), (3, 102, 3)] (List.map Gq2.lv r31.2.Records))]) R R R R) (SOps.wk (Wk.trans (Wk.trans (Wk.unnest (f := Gq2.lv) 812 58 5 [(1, 34, 5), (2, 4, 1), (3, 102, 3)] r31.2.Records R Gq2.ok) (Wk.eq (el := [(4, .ptr 104 0), (8, .ptr 811 0)]) (ml := [(104, .box [.nil]), (811, .box [.arr 812 (List.length r31.2.Records)]), (812, .arr 58 5 (List.map Gq2.lv r31.2.Records))]) R R R R)) (Wk.trans (Wk.frzBx (f := Gq2.lv) 812 58 5 r31.2.Records 811 R R R (frAZ frA0) R R (prN R)) (Wk.eq (el := [(4, .ptr 104 0), (8, .ptr 811 0)]) (ml := [(104, .box [.nil]), (811, .box [.lst 5 (List.map Gq2.lv r31.2.Records)])]) R R R R))) (sN (oLdPA R R R tk47 ta47 ts47 R R (s_ (oSt R R R tk47 ts47 R R R (sAi R (s0 ((Wk.trans (Wk.eq (el := [(4, .ptr 104 0), (5, .I 0)]) (ml := [(104, .box [.lst 5 (List.map Gq2.lv r31.2.Records)])]) R R R R) (Wk.trans (Wk.frzB 104 [.lst 5 (List.map Gq2.lv r31.2.Records)] R R R (prN R)) (Wk.eq R R R R)))))))))))) (LH.ret ?_)))
   obtain rfl := oI h
   exact retE (aT Try.results26) (lrSA R tk47 ta47 ts47 R R (lrT R (lr0 ⟨memN mN, R, prK R, (Sub.tup (sbR (sbR sbN)))⟩)))
  replace hk28 := bF hk28
  replace h := iteF h hk28
  refine LH.seqJM mixed [] [2, 0, 0, 3, 0, 0, 0, 0, 0] [(2, .sptr [.lst 5 (List.map Gq2.lv p0.Records)]), (3, .sptr [.I p1.Stamp.Time, .I p1.Stamp.Source, .I p1.Stamp.Seq, .I p1.Kind, .I p1.Item.ID, .I p1.Item.Version, .str p1.Item.Stem, .lst 6 (List.map GPart.lv p1.Item.Parts), .L p1.Item.Enemies, .I p1.Ref.ID, .I p1.Ref.Version, .I p1.Form]), (4, .ptr 104 0), (6, .nilf), (7, .bool false)] [(104, .box [.nil])] R R (by kernel_rfl) (mN2 (oCM (args := []) (ml := []) (ml' := [(10901, .map 3 92 (mlv LV.I bankH bankHs))]) R isF39 R sbN (bank_handlers_ok (F := F) (r := bankHs) R) mN (newF R newN) R (mN0 (oFaS tf38_1 tk3 ts3 R R R ⟨R, mN0 (oLd R tk3 ta3 ⟨R, mX (ok_lookK (f := LV.I) (g := bankH) (xs := bankHs) (key := p1.Kind) (z := 0) (o := none) tm90 kok3 kf3 R R R tz92 (mgN hk3 (mgN hk8 (mgN hk13 (mgN hk18 (mgN hk23 (mgN hk28 R))))))) (mMt R (mN0 (oEx R R ⟨R, mN0 (oEx R R ⟨R, mN0 (oA (v := .nilf) R ⟨R, mAb R zM⟩)⟩)⟩)))⟩)⟩)))) (LH.seq (LH.seqT [(2, .sptr [.lst 5 (List.map Gq2.lv p0.Records)]), (3, .sptr [.I p1.Stamp.Time, .I p1.Stamp.Source, .I p1.Stamp.Seq, .I p1.Kind, .I p1.Item.ID, .I p1.Item.Version, .str p1.Item.Stem, .lst 6 (List.map GPart.lv p1.Item.Parts), .L p1.Item.Enemies, .I p1.Ref.ID, .I p1.Ref.Version, .I p1.Form]), (4, .ptr 104 0), (6, .nilf), (22, .bool true)] [(104, .box [.nil])] R (sMb R (sN (oNot R zS))) (LH.cond (t := true) R (fun hc33 => ?_) (fun hc33 => ?_))))
  ·refine LH.seqT [(4, .sptr [.nil]), (5, .I 2)] [] R (sN (oBd (vs := []) tu47 tz47 R lf0 (s_ (oSt R R R tk47 ts47 R R R (sAi R (s0 ((Wk.trans (Wk.eq (el := [(4, .ptr 104 0), (5, .I 2)]) (ml := [(104, .box [.nil])]) R R R R) (Wk.trans (Wk.frzB 104 [.nil] R R R (prN R)) (Wk.eq R R R R)))))))))) (LH.ret (thenR ?_))
   obtain rfl := oI h
   exact retE (aT Try.results26) (lrSA R tk47 ta47 ts47 R R (lrT R (lr0 ⟨memN mN, R, prK R, (Sub.tup (sbS (Sub.agg (sbL sbN)) (sbR sbN)))⟩)))
  ·cases hc33

theorem q80q {F : Nat} {p0 : List Int} {p1 : Int} {r : Bool} (h : q55q F p0 p1 = some r) : LCall Try.prog 7 [.L p0, .I p1] (Mem.of []) (.bool r) (Mem.of []) := by
  unfold q55q at h
  refine bodyT Try.func7 R (nT Try.ntmps7 R) (LH.wk (Wk.eq (el := [(0, .L p0), (1, .I p1)]) (ml := []) R R R R) (LH.seqT [(0, .L p0), (1, .I p1)] [] R (sAb R zS) ?_))
  obtain ⟨r1, hr1, h⟩ := bindS h
  refine LH.seqT [(1, .I p1), (5, .ptr 7 0)] [(7, .box [.L r1.L, .I r1.At])] R (sMl R (sN (oCM (args := [.L p0]) (ml := []) (ml' := [(7, .box [.L r1.L, .I r1.At])]) R isF8 R (sbR sbN) (q101q hr1) mN (newF R newN) R (sAp R zS)))) ?_
  obtain ⟨r2, hr2, h⟩ := bindS h
  refine LH.seqT [(1, .I p1), (6, .lst 12 (List.map Gq0.lv r2.1))] [] R (sMp R (sN (oCM (args := [.ptr 7 0, .I 12, .I 5]) (ml := [(7, .box [.L r1.L, .I r1.At])]) (ml' := [(7, .box [.L r2.2.L, .I r2.2.At])]) R isF9 R (sbR (sbR (sbR sbN))) (Gq11 hr2) (mC R mN) (newI R newN) R (sAl R zS)))) ?_
  obtain ⟨r3, hr3, h⟩ := bindS h
  refine LH.seqT [(1, .I r3), (6, .lst 12 (List.map Gq0.lv r2.1))] [] R (sMi R (sN (oCP (args := [.I p1, .I 30]) R isF21 R (sbR (sbR sbN)) (q88q hr3) R (sAi R zS)))) ?_
  obtain ⟨r4, hr4, h⟩ := bindS h
  refine LH.seqT [(1, .I r3), (6, .lst 12 (List.map Gq0.lv r2.1)), (7, .lst 12 (List.map Gq0.lv r4.1)), (8, .I r4.2)] [] R (sMl R (sN (oCP (args := [.lst 12 (List.map Gq0.lv r2.1)]) R isF10 R (sbR sbN) (bank_Canonical_ok hr4) R (sMt R (sN (oEx R R (sN (oEx R R (sAl R (sAi R zS)))))))))) ?_
  obtain ⟨r5, hr5, h⟩ := bindS h
  refine LH.seqT [(1, .I r3), (7, .lst 12 (List.map Gq0.lv r4.1)), (8, .I r4.2), (9, .sptr [.lst 5 (List.map Gq2.lv r5.1.Records)]), (10, .lst 3 (List.map Gq3.lv r5.2.1)), (11, .I r5.2.2)] [] R (sMl R (sMi R (sN (oCP (args := [.lst 12 (List.map Gq0.lv r2.1), .I r3]) R isF18 R (sbR (sbR sbN)) (bank_Fold_ok hr5) R (sMt R (sN (oEx R R (sN (oEx R R (sN (oEx R R (sN (oAl (id := 109) R tz47 R R (s_ (oSt R R R tk47 ts47 R R R (sAl R (sAi R (s0 ((Wk.trans (Wk.eq (el := [(1, .I r3), (7, .lst 12 (List.map Gq0.lv r4.1)), (8, .I r4.2), (9, .ptr 109 0), (10, .lst 3 (List.map Gq3.lv r5.2.1)), (11, .I r5.2.2)]) (ml := [(109, .box [.lst 5 (List.map Gq2.lv r5.1.Records)])]) R R R R) (Wk.trans (Wk.frzB 109 [.lst 5 (List.map Gq2.lv r5.1.Records)] R R R (prN R)) (Wk.eq R R R R)))))))))))))))))))))) (LH.seq (LH.seqT [(1, .I r3), (7, .lst 12 (List.map Gq0.lv r4.1)), (9, .sptr [.lst 5 (List.map Gq2.lv r5.1.Records)]), (10, .lst 3 (List.map Gq3.lv r5.2.1)), (40, .bool ((r4.2 != 0) || (r5.2.2 != 0)))] [] R ?_ ?_))
  ·refine sMi R (sN (oNe R R (sMb R ?_)))
   by_cases hb7 : (r4.2 != 0) = true
   ·exact sF R R hb7 (sF R R hb7 (sN (oPkT (cB hb7) (v := (.bool _)) R (s0 (Wk.to (eC R (eC R (eC R (eC R (eC (cB (orT hb7)) eN))))) mN R (prK R))))))
   ·replace hb7 := bF hb7
    exact sT R (cB hb7) (oM (v := (.int _ _)) R (sT R (cB hb7) (oNe R R (sN (oPkF (cB hb7) (v := (.bool _)) R (s0 (Wk.to (eC R (eC R (eC R (eC R (eC (cB (orF hb7)) eN))))) mN R (prK R))))))))
  refine LH.cond (t := ((r4.2 != 0) || (r5.2.2 != 0))) R (fun hc8 => ?_) (fun hc8 => ?_)
  ·replace h := iteT h hc8
   refine LH.seqT [(4, .bool false)] [] R (sAb R zS) (LH.ret (thenR ?_))
   obtain rfl := oI h
   exact retE (aT Try.results7) (lrT R (lr0 ⟨memN mN, R, prK R, Sub.rfl⟩))
  replace h := iteF h hc8
  refine LH.skip (thenN (LH.seqT [(1, .I r3), (7, .lst 12 (List.map Gq0.lv r4.1)), (9, .sptr [.lst 5 (List.map Gq2.lv r5.1.Records)]), (10, .lst 3 (List.map Gq3.lv r5.2.1)), (12, .ptr 112 0)] [(112, .box [.nil])] R (sN (oAl (id := 112) R tz47 R R zS)) (LH.seqT [(1, .I r3), (7, .lst 12 (List.map Gq0.lv r4.1)), (9, .sptr [.lst 5 (List.map Gq2.lv r5.1.Records)]), (10, .lst 3 (List.map Gq3.lv r5.2.1)), (12, .ptr 112 0), (13, .I 0)] [(112, .box [.nil])] R (sAi R zS) (LH.seq (LH.seqT [(1, .I r3), (7, .lst 12 (List.map Gq0.lv r4.1)), (9, .sptr [.lst 5 (List.map Gq2.lv r5.1.Records)]), (10, .lst 3 (List.map Gq3.lv r5.2.1)), (12, .ptr 112 0), (13, .I 0), (14, .I 0)] [(112, .box [.nil])] R (sAi R zS) (LH.block (LH.wk ((Wk.trans (Wk.eq (el := [(1, .I r3), (7, .lst 12 (List.map Gq0.lv r4.1)), (9, .sptr [.lst 5 (List.map Gq2.lv r5.1.Records)]), (10, .lst 3 (List.map Gq3.lv r5.2.1)), (12, .ptr 112 0), (13, .I 0), (14, .I 0)]) (ml := [(112, .box [.nil])]) R R R R) (Wk.trans (Wk.eq (el := [(1, .I r3), (7, .lst 12 (List.map Gq0.lv r4.1)), (9, .sptr [.lst 5 (List.map Gq2.lv r5.1.Records)]), (10, .lst 3 (List.map Gq3.lv r5.2.1)), (12, .ptr 112 0), (13, .I 0), (14, .I 0)]) (ml := [(112, .box [.nil])]) R R R R) (Wk.trans (Wk.ownBx 10120 58 5 112 0 R R R R R (prN R)) (Wk.trans (Wk.eq (el := [(1, .I r3), (7, .lst 12 (List.map Gq0.lv r4.1)), (9, .sptr [.lst 5 (List.map Gq2.lv r5.1.Records)]), (10, .lst 3 (List.map Gq3.lv r5.2.1)), (12, .ptr 112 0), (13, .I 0), (14, .I 0)]) (ml := [(112, .box [.arr 10120 (List.length ([] : List Gq2))]), (10120, .arr 58 5 (List.map Gq2.lv ([] : List Gq2)))]) R R R R) (Wk.trans (Wk.trans (Wk.frzBx (f := Gq2.lv) 10120 58 5 ([] : List Gq2) 112 R R R (frAZ frA0) R R (prN R)) (Wk.eq (el := [(1, .I r3), (7, .lst 12 (List.map Gq0.lv r4.1)), (9, .sptr [.lst 5 (List.map Gq2.lv r5.1.Records)]), (10, .lst 3 (List.map Gq3.lv r5.2.1)), (12, .ptr 112 0), (13, .I 0), (14, .I 0)]) (ml := [(112, .box [.lst 5 (List.map Gq2.lv ([] : List Gq2))])]) R R R R)) (Wk.eq (el := [(1, .I r3), (7, .lst 12 (List.map Gq0.lv r4.1)), (9, .sptr [.lst 5 (List.map Gq2.lv r5.1.Records)]), (10, .lst 3 (List.map Gq3.lv r5.2.1)), (12, .ptr 112 0), (13, .I 0), (14, .I 0)]) (ml := [(112, .box [.lst 5 (List.map Gq2.lv ([] : List Gq2))])]) R R R R))))))) (LH.loop (fun n e m => ∃ (n9 : Int) (n10 : Int) (l11 : List Gq2), q16q F r3 r4 r5 n n9 n10 l11 = some r ∧ e = Env.of [(1, .I r3), (7, .lst 12 (List.map Gq0.lv r4.1)), (9, .sptr [.lst 5 (List.map Gq2.lv r5.1.Records)]), (10, .lst 3 (List.map Gq3.lv r5.2.1)), (12, .ptr 112 0), (13, .I n9), (14, .I n10)] ∧ m = Mem.of [(112, .box [.lst 5 (List.map Gq2.lv l11)])]) F ⟨0, 0, ([] : List Gq2), h, R, R⟩ ?_))))))))
  clear h
  rintro n e m ⟨n9, n10, l11, h, rfl, rfl⟩
  rcases n with _ | n
  · cases (show Option.none = some _ from h)
  obtain ⟨rec1, hrec1⟩ : ∃ f, f = q16q F r3 r4 r5 n := ⟨_, rfl⟩
  replace h : q22q F r3 r4 r5 rec1 n9 n10 l11 = some r := hrec1 ▸ h
  unfold q22q at h
  refine LH.seq (LH.seqT [(1, .I r3), (7, .lst 12 (List.map Gq0.lv r4.1)), (9, .sptr [.lst 5 (List.map Gq2.lv r5.1.Records)]), (10, .lst 3 (List.map Gq3.lv r5.2.1)), (12, .ptr 112 0), (13, .I n9), (14, .I n10), (44, .bool (decide (n10 < (r4.1.length : Int))))] [(112, .box [.lst 5 (List.map Gq2.lv l11)])] R (sMi R (sMl R (sN (oLnL (f := Gq0.lv) te25 R (sN (oLt R R zS)))))) (LH.cond (t := (decide (n10 < (r4.1.length : Int)))) R (fun hc12 => ?_) (fun hc12 => ?_)))
  ·replace h := iteT h hc12
   refine LH.skip (thenN (LH.wk (Wk.eq (el := [(1, .I r3), (7, .lst 12 (List.map Gq0.lv r4.1)), (9, .sptr [.lst 5 (List.map Gq2.lv r5.1.Records)]), (10, .lst 3 (List.map Gq3.lv r5.2.1)), (12, .ptr 112 0), (13, .I n9), (14, .I n10)]) (ml := [(112, .box [.lst 5 (List.map Gq2.lv l11)])]) R R R R) (LH.seq (LH.block (LH.seq ?_)))))
   obtain ⟨x13, hx13, h⟩ := bindS h
   refine LH.seqT [(1, .I r3), (7, .lst 12 (List.map Gq0.lv r4.1)), (9, .sptr [.lst 5 (List.map Gq2.lv r5.1.Records)]), (10, .lst 3 (List.map Gq3.lv r5.2.1)), (12, .ptr 112 0), (13, .I n9), (14, .I n10), (54, .bool (decide (x13.Stamp.Time > r3)))] [(112, .box [.lst 5 (List.map Gq2.lv l11)])] R (sMl R (sMi R (sN (oIx (f := Gq0.lv) te25 tk38 ts38 R R Gq0.ok hx13 R (sN (oFaS tf38_0 tk31 ts31 R R R (sN (oFaS tf31_0 tk3 ts3 R R R (sN (oLd R tk3 ta3 (sMi R (sN (oGt R R zS))))))))))))) (LH.cond (t := (decide (x13.Stamp.Time > r3))) R (fun hc14 => ?_) (fun hc14 => ?_))
   ·replace h := iteT h hc14
    refine LH.exit (thenX (blockH (thenN (LH.loneT [(1, .I r3), (7, .lst 12 (List.map Gq0.lv r4.1)), (9, .sptr [.lst 5 (List.map Gq2.lv r5.1.Records)]), (10, .lst 3 (List.map Gq3.lv r5.2.1)), (12, .ptr 112 0), (13, .I n9), (14, .I (i64 (n10 + 1)))] [(112, .box [.lst 5 (List.map Gq2.lv l11)])] R (sMi R (sN (oAdd R R (sAi R zS)))) ?_))))
    exact roundI ⟨n9, (i64 (n10 + 1)), l11, hrec1 ▸ h, R, R⟩ (Wk.eq R R R R)
   replace h := iteF h hc14
   refine LH.skip (thenN ?_)
   obtain ⟨x15, hx15, h⟩ := bindS h
   obtain ⟨r16, hr16, h⟩ := bindS h
   refine LH.seqJM mixed [] [1112, 0, 0, 0, 0, 0, 0, 0, 0, 2, 100115, 0] [(1, .I r3), (7, .lst 12 (List.map Gq0.lv r4.1)), (9, .sptr [.lst 5 (List.map Gq2.lv r5.1.Records)]), (10, .lst 3 (List.map Gq3.lv r5.2.1)), (12, .ptr 112 0), (13, .I n9), (14, .I n10), (15, .sptr [.lst 5 (List.map Gq2.lv r16.1.Records)]), (16, .I r16.2)] [(112, .box [.lst 5 (List.map Gq2.lv l11)])] R R (by kernel_rfl) (mD R R R (fun _ b _ d => oLdPA R b R tk47 ta47 ts47 R R d) (mMl R (mMi R (mN0 (oIx (f := Gq0.lv) te25 tk38 ts38 R R Gq0.ok hx15 R ⟨R, mN0 (oLdA R tk38 ta38 ts38 R R ⟨R, mN0 (oCP (args := [.agg [.lst 5 (List.map Gq2.lv l11)], .agg [.I x15.Stamp.Time, .I x15.Stamp.Source, .I x15.Stamp.Seq, .I x15.Kind, .I x15.Item.ID, .I x15.Item.Version, .str x15.Item.Stem, .lst 6 (List.map GPart.lv x15.Item.Parts), .L x15.Item.Enemies, .I x15.Ref.ID, .I x15.Ref.Version, .I x15.Form]]) R isF26 R (sbR (sbR sbN)) (bank_Apply_ok hr16) R ⟨R, mMt R (mN0 (oEx R R ⟨R, mN0 (oEx R R ⟨R, mN2 (oAl (id := 115) R tz47 R R (mS R R R (fun _ b _ d => oSt R R R tk47 ts47 b R R d) (mAi R (m0 ((Wk.trans (Wk.eq (el := [(1, .I r3), (7, .lst 12 (List.map Gq0.lv r4.1)), (9, .sptr [.lst 5 (List.map Gq2.lv r5.1.Records)]), (10, .lst 3 (List.map Gq3.lv r5.2.1)), (12, .ptr 112 0), (13, .I n9), (14, .I n10), (15, .ptr 115 0), (16, .I r16.2)]) (ml := [(112, .box [.lst 5 (List.map Gq2.lv l11)]), (115, .box [.lst 5 (List.map Gq2.lv r16.1.Records)])]) R R R R) (Wk.trans (Wk.frzB 115 [.lst 5 (List.map Gq2.lv r16.1.Records)] R R R (prN R)) (Wk.eq R R R R))))))))⟩)⟩))⟩)⟩)⟩))))) (LH.seq (LH.seqT [(1, .I r3), (7, .lst 12 (List.map Gq0.lv r4.1)), (9, .sptr [.lst 5 (List.map Gq2.lv r5.1.Records)]), (10, .lst 3 (List.map Gq3.lv r5.2.1)), (12, .ptr 112 0), (13, .I n9), (14, .I n10), (15, .sptr [.lst 5 (List.map Gq2.lv r16.1.Records)]), (16, .I r16.2), (65, .bool (r16.2 == 0))] [(112, .box [.lst 5 (List.map Gq2.lv l11)])] R (sMi R (sN (oEq R R zS))) (LH.cond (t := (r16.2 == 0)) R (fun hc17 => ?_) (fun hc17 => ?_))))
   ·replace h := iteT h hc17
    refine LH.seqT [(1, .I r3), (7, .lst 12 (List.map Gq0.lv r4.1)), (9, .sptr [.lst 5 (List.map Gq2.lv r5.1.Records)]), (10, .lst 3 (List.map Gq3.lv r5.2.1)), (12, .ptr 112 0), (13, .I n9), (14, .I n10)] [(112, .box [.lst 5 (List.map Gq2.lv r16.1.Records)])] R (sN (oLdA R tk47 ta47 ts47 R R (s_ (oSt R R R tk47 ts47 R R R zS)))) (LH.exit (thenX (blockH (thenN (LH.loneT [(1, .I r3), (7, .lst 12 (List.map Gq0.lv r4.1)), (9, .sptr [.lst 5 (List.map Gq2.lv r5.1.Records)]), (10, .lst 3 (List.map Gq3.lv r5.2.1)), (12, .ptr 112 0), (13, .I n9), (14, .I (i64 (n10 + 1)))] [(112, .box [.lst 5 (List.map Gq2.lv r16.1.Records)])] R (sMi R (sN (oAdd R R (sAi R zS)))) ?_)))))
    exact roundI ⟨n9, (i64 (n10 + 1)), r16.1.Records, hrec1 ▸ h, R, R⟩ (Wk.eq R R R R)
   replace h := iteF h hc17
   refine LH.skip (thenN (LH.wk (Wk.eq (el := [(1, .I r3), (7, .lst 12 (List.map Gq0.lv r4.1)), (9, .sptr [.lst 5 (List.map Gq2.lv r5.1.Records)]), (10, .lst 3 (List.map Gq3.lv r5.2.1)), (12, .ptr 112 0), (13, .I n9), (14, .I n10), (16, .I r16.2)]) (ml := [(112, .box [.lst 5 (List.map Gq2.lv l11)])]) R R R R) (LH.seq ?_)))
   obtain ⟨w19, hv, h⟩ := bindS h
   refine LH.seqJM mixed [] [0, 0, 0, 0, 0, 0, 0, 0, 0, 0, 0, 0, 0, 0, 0, 0, 0, 0, 0, 0, 0, 0, 0, 0, 0, 0] [(1, .I r3), (7, .lst 12 (List.map Gq0.lv r4.1)), (9, .sptr [.lst 5 (List.map Gq2.lv r5.1.Records)]), (10, .lst 3 (List.map Gq3.lv r5.2.1)), (12, .ptr 112 0), (13, .I n9), (14, .I n10), (92, .bool w19)] [(112, .box [.lst 5 (List.map Gq2.lv l11)])] R R (by kernel_rfl) ?_ ?_
   ·refine mMi R (mMl R (mN0 (oLnL (f := Gq3.lv) te48 R ⟨R, mN0 (oGe R R ⟨R, mMb R ?_⟩)⟩)))
    by_cases hb20 : (decide (n9 ≥ (r5.2.1.length : Int))) = true
    ·replace hv := iteT hv hb20
     refine mF R R hb20 (mF R R hb20 (mF R R hb20 (mF R R hb20 (mF R R hb20 (mF R R hb20 (mF R R hb20 (mF R R hb20 (mF R R hb20 (mF R R hb20 (mF R R hb20 (mF R R hb20 (mF R R hb20 (mF R R hb20 (mF R R hb20 (mF R R hb20 (mF R R hb20 (mF R R hb20 (mF R R hb20 (mF R R hb20 (mN0 (oPkT (cB hb20) (v := (.bool _)) R ⟨R, ?_⟩)))))))))))))))))))))
     obtain rfl := oI hv
     exact zM
    ·replace hb20 := bF hb20
     replace hv := iteF hv hb20
     refine mT R (cB hb20) (mMl R (mT R (cB hb20) (mMi R ?_)))
     obtain ⟨x21, hx21, hv⟩ := bindS hv
     refine mT R (cB hb20) (mN0 (oIx (f := Gq3.lv) te48 tk73 ts73 R R Gq3.ok hx21 R ⟨R, mT R (cB hb20) (mN0 (oLdA R tk73 ta73 ts73 R R ⟨R, mT R (cB hb20) (mMl R (mT R (cB hb20) (mMi R ?_)))⟩))⟩))
     obtain ⟨x22, hx22, hv⟩ := bindS hv
     refine mT R (cB hb20) (mN0 (oIx (f := Gq0.lv) te25 tk38 ts38 R R Gq0.ok hx22 R ⟨R, mT R (cB hb20) (mN0 (oFaS tf38_0 tk31 ts31 R R R ⟨R, mT R (cB hb20) (mN0 (oFaS tf31_1 tk3 ts3 R R R ⟨R, mT R (cB hb20) (mN0 (oLd R tk3 ta3 ⟨R, mT R (cB hb20) (mMl R (mT R (cB hb20) (mMi R ?_)))⟩))⟩))⟩))⟩))
     obtain ⟨x23, hx23, hv⟩ := bindS hv
     refine mT R (cB hb20) (mN0 (oIx (f := Gq0.lv) te25 tk38 ts38 R R Gq0.ok hx23 R ⟨R, mT R (cB hb20) (mN0 (oFaS tf38_0 tk31 ts31 R R R ⟨R, mT R (cB hb20) (mN0 (oFaS tf31_2 tk3 ts3 R R R ⟨R, mT R (cB hb20) (mN0 (oLd R tk3 ta3 ⟨R, mT R (cB hb20) (mN0 (oBd (vs := [(0, .I x22.Stamp.Source), (1, .I x23.Stamp.Seq)]) tu71 tz71 R (lf tf71_0 ts3 tk3 R R R (lf tf71_1 ts3 tk3 R R R lf0)) ⟨R, mT R (cB hb20) (mMi R (mT R (cB hb20) (mN0 (oBd (vs := [(0, .agg [.I x22.Stamp.Source, .I x23.Stamp.Seq]), (1, .I r16.2)]) tu73 tz73 R (lf tf73_0 ts71 tk71 R R R (lf tf73_1 ts27 tk27 R R R lf0)) ⟨R, mT R (cB hb20) (mN0 (oNeA R R (ae73 x21 (Gq3.mk (Gq1.mk x22.Stamp.Source x23.Stamp.Seq) r16.2)) ⟨R, mN0 (oPkF (cB hb20) (v := (.bool _)) R ⟨R, ?_⟩)⟩))⟩))))⟩))⟩))⟩))⟩))⟩))
     obtain rfl := oI hv
     exact zM
   clear hv
   refine LH.cond (t := w19) R (fun hc24 => ?_) (fun hc24 => ?_)
   ·replace h := iteT h hc24
    refine LH.seqT [(4, .bool false)] [] R (sAb R zS) (LH.ret (thenR (blockR (thenR (roundR (blockR (thenR ?_)))))))
    obtain rfl := oI h
    exact retE (aT Try.results7) (lrT R (lr0 ⟨memN mN, R, prK R, Sub.rfl⟩))
   replace h := iteF h hc24
   refine LH.skip (thenN (LH.loneT [(1, .I r3), (7, .lst 12 (List.map Gq0.lv r4.1)), (9, .sptr [.lst 5 (List.map Gq2.lv r5.1.Records)]), (10, .lst 3 (List.map Gq3.lv r5.2.1)), (12, .ptr 112 0), (13, .I (i64 (n9 + 1))), (14, .I n10)] [(112, .box [.lst 5 (List.map Gq2.lv l11)])] R (sMi R (sN (oAdd R R (sAi R zS)))) (blockN (thenN (LH.loneT [(1, .I r3), (7, .lst 12 (List.map Gq0.lv r4.1)), (9, .sptr [.lst 5 (List.map Gq2.lv r5.1.Records)]), (10, .lst 3 (List.map Gq3.lv r5.2.1)), (12, .ptr 112 0), (13, .I (i64 (n9 + 1))), (14, .I (i64 (n10 + 1)))] [(112, .box [.lst 5 (List.map Gq2.lv l11)])] R (sMi R (sN (oAdd R R (sAi R zS)))) ?_)))))
   exact roundI ⟨(i64 (n9 + 1)), (i64 (n10 + 1)), l11, hrec1 ▸ h, R, R⟩ (Wk.eq R R R R)
  replace h := iteF h hc12
  refine LH.exit (thenX (roundX (blockH (thenN (LH.wk ((Wk.trans (Wk.eq (el := [(9, .sptr [.lst 5 (List.map Gq2.lv r5.1.Records)]), (10, .lst 3 (List.map Gq3.lv r5.2.1)), (12, .ptr 112 0), (13, .I n9)]) (ml := [(112, .box [.lst 5 (List.map Gq2.lv l11)])]) R R R R) (Wk.trans (Wk.frzB 112 [.lst 5 (List.map Gq2.lv l11)] R R R (prN R)) (Wk.eq (el := [(9, .sptr [.lst 5 (List.map Gq2.lv r5.1.Records)]), (10, .lst 3 (List.map Gq3.lv r5.2.1)), (12, .sptr [.lst 5 (List.map Gq2.lv l11)]), (13, .I n9)]) (ml := []) R R R R)))) ?_)))))
  obtain ⟨w26, hv, h⟩ := bindS h
  refine LH.seqT [(4, .bool w26)] [] R ?_ ?_
  ·refine sMi R (sMl R (sN (oLnL (f := Gq3.lv) te48 R (sN (oEq R R (sMb R ?_))))))
   by_cases hb27 : (n9 == (r5.2.1.length : Int)) = true
   ·replace hv := iteT hv hb27
    refine sT R (cB hb27) (oLdA R tk47 ta47 ts47 R R (sT R (cB hb27) (oLdA R tk47 ta47 ts47 R R ?_)))
    obtain ⟨r28, hr28, hv⟩ := bindS hv
    refine sT R (cB hb27) (oCP (args := [.agg [.lst 5 (List.map Gq2.lv l11)], .agg [.lst 5 (List.map Gq2.lv r5.1.Records)]]) R isF19 R (sbR (sbR sbN)) (q96q hr28) R (sN (oPkT (cB hb27) (v := (.bool _)) R (sMb R ?_))))
    by_cases hb29 : r28 = true
    ·replace hv := iteT hv hb29
     obtain ⟨r30, hr30, hv⟩ := bindS hv
     refine sT R (cB hb29) (oCP (args := []) R isF16 R sbN (q92q hr30) R (sN (oPkT (cB hb29) (v := (.bool _)) R (sAb R ?_))))
     obtain rfl := oI hv
     exact zS
    ·replace hb29 := bF hb29
     replace hv := iteF hv hb29
     refine sF R R hb29 (sN (oPkF (cB hb29) (v := (.bool _)) R (sAb R ?_)))
     obtain rfl := oI hv
     exact zS
   ·replace hb27 := bF hb27
    replace hv := iteF hv hb27
    refine sF R R hb27 (sF R R hb27 (sF R R hb27 (sN (oPkF (cB hb27) (v := (.bool _)) R (sMb R (sF R R R (sN (oPkF R (v := (.bool _)) R (sAb R ?_)))))))))
    obtain rfl := oI hv
    exact zS
  clear hv
  refine LH.ret ?_
  obtain rfl := oI h
  exact retE (aT Try.results7) (lrT R (lr0 ⟨memN mN, R, prK R, Sub.rfl⟩))

end Go.Proofs.Ytmollikhdbaikaa
