import Derived.Test.YtmollikhdbaikaaZW3
set_option linter.unusedVariables false
set_option linter.unusedSimpArgs false
set_option maxRecDepth 100000
set_option maxHeartbeats 1000000
namespace Go.Proofs.Ytmollikhdbaikaa
open Go.L Go.Sh
theorem q78q {F : Nat} {p0 : GItem} {p1 : GItem} {r : List Int} (h : q62q F p0 p1 = some r) : LCall Try.prog 42 [.agg [.I p0.ID, .I p0.Version, .str p0.Stem, .lst 6 (List.map GPart.lv p0.Parts), .L p0.Enemies], .agg [.I p1.ID, .I p1.Version, .str p1.Stem, .lst 6 (List.map GPart.lv p1.Parts), .L p1.Enemies]] (Mem.of []) (.L r) (Mem.of []) := by
  unfold q62q at h
  refine bodyT Try.func42 R (nT Try.ntmps42 R) (LH.wk (Wk.eq (el := [(0, .agg [.I p0.ID, .I p0.Version, .str p0.Stem, .lst 6 (List.map GPart.lv p0.Parts), .L p0.Enemies]), (1, .agg [.I p1.ID, .I p1.Version, .str p1.Stem, .lst 6 (List.map GPart.lv p1.Parts), .L p1.Enemies])]) (ml := []) R R R R) (LH.seqT [(2, .sptr [.I p0.ID, .I p0.Version, .str p0.Stem, .lst 6 (List.map GPart.lv p0.Parts), .L p0.Enemies]), (3, .sptr [.I p1.ID, .I p1.Version, .str p1.Stem, .lst 6 (List.map GPart.lv p1.Parts), .L p1.Enemies])] [] R (sB (oBxR R R R R (sB (oBxR R R R R (sAn R zS))))) (LH.seqT [(2, .sptr [.I p0.ID, .I p0.Version, .str p0.Stem, .lst 6 (List.map GPart.lv p0.Parts), .L p0.Enemies]), (3, .sptr [.I p1.ID, .I p1.Version, .str p1.Stem, .lst 6 (List.map GPart.lv p1.Parts), .L p1.Enemies]), (5, .nil)] [] R (sAn R zS) (LH.seq (LH.seqT [(2, .sptr [.I p0.ID, .I p0.Version, .str p0.Stem, .lst 6 (List.map GPart.lv p0.Parts), .L p0.Enemies]), (3, .sptr [.I p1.ID, .I p1.Version, .str p1.Stem, .lst 6 (List.map GPart.lv p1.Parts), .L p1.Enemies]), (5, .nil), (6, .I 0)] [] R (sAi R zS) (LH.block (LH.wk ((Wk.trans (Wk.eq (el := [(2, .sptr [.I p0.ID, .I p0.Version, .str p0.Stem, .lst 6 (List.map GPart.lv p0.Parts), .L p0.Enemies]), (3, .sptr [.I p1.ID, .I p1.Version, .str p1.Stem, .lst 6 (List.map GPart.lv p1.Parts), .L p1.Enemies]), (5, .nil), (6, .I 0)]) (ml := []) R R R R) (Wk.trans (Wk.eq (el := [(2, .sptr [.I p0.ID, .I p0.Version, .str p0.Stem, .lst 6 (List.map GPart.lv p0.Parts), .L p0.Enemies]), (3, .sptr [.I p1.ID, .I p1.Version, .str p1.Stem, .lst 6 (List.map GPart.lv p1.Parts), .L p1.Enemies]), (5, .nil), (6, .I 0)]) (ml := []) R R R R) (Wk.trans (Wk.ownL (el' := [(2, .sptr [.I p0.ID, .I p0.Version, .str p0.Stem, .lst 6 (List.map GPart.lv p0.Parts), .L p0.Enemies]), (3, .sptr [.I p1.ID, .I p1.Version, .str p1.Stem, .lst 6 (List.map GPart.lv p1.Parts), .L p1.Enemies]), (5, .arr 146 (List.length ([] : List Int))), (6, .I 0)]) 146 3 1 R R (wK (wK (wO (wK wN))))) (Wk.eq (el := [(2, .sptr [.I p0.ID, .I p0.Version, .str p0.Stem, .lst 6 (List.map GPart.lv p0.Parts), .L p0.Enemies]), (3, .sptr [.I p1.ID, .I p1.Version, .str p1.Stem, .lst 6 (List.map GPart.lv p1.Parts), .L p1.Enemies]), (5, .arr 146 (List.length ([] : List Int))), (6, .I 0)]) (ml := [(146, .arr 3 1 (List.map LV.I ([] : List Int)))]) R R R R))))) (LH.loop (fun n e m => ∃ (n1 : Int) (l2 : List Int), q20q p0 p1 n n1 l2 = some r ∧ e = Env.of [(2, .sptr [.I p0.ID, .I p0.Version, .str p0.Stem, .lst 6 (List.map GPart.lv p0.Parts), .L p0.Enemies]), (3, .sptr [.I p1.ID, .I p1.Version, .str p1.Stem, .lst 6 (List.map GPart.lv p1.Parts), .L p1.Enemies]), (5, .arr 146 (List.length l2)), (6, .I n1)] ∧ m = Mem.of [(146, .arr 3 1 (List.map LV.I l2))]) F ⟨0, ([] : List Int), h, R, R⟩ ?_))))))))
  clear h
  rintro n e m ⟨n1, l2, h, rfl, rfl⟩
  rcases n with _ | n
  · cases (show Option.none = some _ from h)
  obtain ⟨rec1, hrec1⟩ : ∃ f, f = q20q p0 p1 n := ⟨_, rfl⟩
  replace h : q33q p0 p1 rec1 n1 l2 = some r := hrec1 ▸ h
  unfold q33q at h
  refine LH.seq (LH.seqT [(2, .sptr [.I p0.ID, .I p0.Version, .str p0.Stem, .lst 6 (List.map GPart.lv p0.Parts), .L p0.Enemies]), (3, .sptr [.I p1.ID, .I p1.Version, .str p1.Stem, .lst 6 (List.map GPart.lv p1.Parts), .L p1.Enemies]), (5, .arr 146 (List.length l2)), (6, .I n1), (15, .bool (decide (n1 < (max (p0.Parts.length : Int) (p1.Parts.length : Int)))))] [(146, .arr 3 1 (List.map LV.I l2))] R (sMi R (sN (oFaS tf34_3 tk32 ts32 R R R (sN (oLd R tk32 ta32 (sN (oLnL (f := GPart.lv) te32 R (sN (oFaS tf34_3 tk32 ts32 R R R (sN (oLd R tk32 ta32 (sN (oLnL (f := GPart.lv) te32 R (sX ((ok_max R R).ok) (sN (oLt R R zS)))))))))))))))) (LH.cond (t := (decide (n1 < (max (p0.Parts.length : Int) (p1.Parts.length : Int))))) R (fun hc3 => ?_) (fun hc3 => ?_)))
  ·replace h := iteT h hc3
   refine LH.skip (thenN (LH.wk (Wk.eq (el := [(2, .sptr [.I p0.ID, .I p0.Version, .str p0.Stem, .lst 6 (List.map GPart.lv p0.Parts), .L p0.Enemies]), (3, .sptr [.I p1.ID, .I p1.Version, .str p1.Stem, .lst 6 (List.map GPart.lv p1.Parts), .L p1.Enemies]), (5, .arr 146 (List.length l2)), (6, .I n1)]) (ml := [(146, .arr 3 1 (List.map LV.I l2))]) R R R R) (LH.seq (LH.block ?_))))
   obtain ⟨w5, hv, h⟩ := bindS h
   refine LH.seqJM mixed [] [0, 0, 0, 0, 0, 0, 0, 0, 0, 0, 0, 0, 0, 0, 0, 0, 0, 0, 0, 0, 0, 0, 0, 0, 0] [(2, .sptr [.I p0.ID, .I p0.Version, .str p0.Stem, .lst 6 (List.map GPart.lv p0.Parts), .L p0.Enemies]), (3, .sptr [.I p1.ID, .I p1.Version, .str p1.Stem, .lst 6 (List.map GPart.lv p1.Parts), .L p1.Enemies]), (5, .arr 146 (List.length l2)), (6, .I n1), (42, .bool w5)] [(146, .arr 3 1 (List.map LV.I l2))] R R (by kernel_rfl) ?_ ?_
   ·refine mMi R (mN0 (oFaS tf34_3 tk32 ts32 R R R ⟨R, mN0 (oLd R tk32 ta32 ⟨R, mN0 (oLnL (f := GPart.lv) te32 R ⟨R, mN0 (oGe R R ⟨R, mMb R ?_⟩)⟩)⟩)⟩))
    by_cases hb6 : (decide (n1 ≥ (p0.Parts.length : Int))) = true
    ·replace hv := iteT hv hb6
     refine mF R R hb6 (mF R R hb6 (mF R R hb6 (mF R R hb6 (mF R R hb6 (mN0 (oPkT (cB hb6) (v := (.bool _)) R ⟨R, mMb R (mF R R R (mF R R R (mF R R R (mF R R R (mF R R R (mF R R R (mF R R R (mF R R R (mF R R R (mF R R R (mF R R R (mN0 (oPkT R (v := (.bool _)) R ⟨R, ?_⟩)))))))))))))⟩))))))
     obtain rfl := oI hv
     exact zM
    ·replace hb6 := bF hb6
     replace hv := iteF hv hb6
     refine mT R (cB hb6) (mMi R (mT R (cB hb6) (mN0 (oFaS tf34_3 tk32 ts32 R R R ⟨R, mT R (cB hb6) (mN0 (oLd R tk32 ta32 ⟨R, mT R (cB hb6) (mN0 (oLnL (f := GPart.lv) te32 R ⟨R, mT R (cB hb6) (mN0 (oGe R R ⟨R, mN0 (oPkF (cB hb6) (v := (.bool _)) R ⟨R, mMb R ?_⟩)⟩))⟩))⟩))⟩))))
     by_cases hb7 : (decide (n1 ≥ (p1.Parts.length : Int))) = true
     ·replace hv := iteT hv hb7
      refine mF R R hb7 (mF R R hb7 (mF R R hb7 (mF R R hb7 (mF R R hb7 (mF R R hb7 (mF R R hb7 (mF R R hb7 (mF R R hb7 (mF R R hb7 (mF R R hb7 (mN0 (oPkT (cB hb7) (v := (.bool _)) R ⟨R, ?_⟩))))))))))))
      obtain rfl := oI hv
      exact zM
     ·replace hb7 := bF hb7
      replace hv := iteF hv hb7
      refine mT R (cB hb7) (mN0 (oFaS tf34_3 tk32 ts32 R R R ⟨R, mT R (cB hb7) (mN0 (oLd R tk32 ta32 ⟨R, mT R (cB hb7) (mMi R ?_)⟩))⟩))
      obtain ⟨x8, hx8, hv⟩ := bindS hv
      refine mT R (cB hb7) (mN0 (oIx (f := GPart.lv) te32 tk89 ts89 R R GPart.ok hx8 R ⟨R, mT R (cB hb7) (mN0 (oLdA R tk89 ta89 ts89 R R ⟨R, mT R (cB hb7) (mN0 (oFaS tf34_3 tk32 ts32 R R R ⟨R, mT R (cB hb7) (mN0 (oLd R tk32 ta32 ⟨R, mT R (cB hb7) (mMi R ?_)⟩))⟩))⟩))⟩))
      obtain ⟨x9, hx9, hv⟩ := bindS hv
      refine mT R (cB hb7) (mN0 (oIx (f := GPart.lv) te32 tk89 ts89 R R GPart.ok hx9 R ⟨R, mT R (cB hb7) (mN0 (oLdA R tk89 ta89 ts89 R R ⟨R, mT R (cB hb7) (mN0 (oNeA R R (ae89 x8 x9) ⟨R, mN0 (oPkF (cB hb7) (v := (.bool _)) R ⟨R, ?_⟩)⟩))⟩))⟩))
      obtain rfl := oI hv
      exact zM
   clear hv
   refine LH.cond (t := w5) R (fun hc10 => ?_) (fun hc10 => ?_)
   ·replace h := iteT h hc10
    obtain ⟨v11, hv11, h⟩ := bindS h
    refine LH.loneT [(2, .sptr [.I p0.ID, .I p0.Version, .str p0.Stem, .lst 6 (List.map GPart.lv p0.Parts), .L p0.Enemies]), (3, .sptr [.I p1.ID, .I p1.Version, .str p1.Stem, .lst 6 (List.map GPart.lv p1.Parts), .L p1.Enemies]), (5, .arr 146 (List.length v11)), (6, .I n1)] [(146, .arr 3 1 (List.map LV.I v11))] R (sMa R (sMi R (sN (oBS (f := LV.I) (ys := [n1]) te22 tr3 ts3 R R R okI (sN (oAp (f := LV.I) te22 tr3 ts3 R R (prN R) R hv11 (sAa R zS))))))) (blockN (thenN (LH.loneT [(2, .sptr [.I p0.ID, .I p0.Version, .str p0.Stem, .lst 6 (List.map GPart.lv p0.Parts), .L p0.Enemies]), (3, .sptr [.I p1.ID, .I p1.Version, .str p1.Stem, .lst 6 (List.map GPart.lv p1.Parts), .L p1.Enemies]), (5, .arr 146 (List.length v11)), (6, .I (i64 (n1 + 1)))] [(146, .arr 3 1 (List.map LV.I v11))] R (sMi R (sN (oAdd R R (sAi R zS)))) ?_)))
    exact roundI ⟨(i64 (n1 + 1)), v11, hrec1 ▸ h, R, R⟩ (Wk.eq R R R R)
   replace h := iteF h hc10
   refine LH.skip (blockN (thenN (LH.loneT [(2, .sptr [.I p0.ID, .I p0.Version, .str p0.Stem, .lst 6 (List.map GPart.lv p0.Parts), .L p0.Enemies]), (3, .sptr [.I p1.ID, .I p1.Version, .str p1.Stem, .lst 6 (List.map GPart.lv p1.Parts), .L p1.Enemies]), (5, .arr 146 (List.length l2)), (6, .I (i64 (n1 + 1)))] [(146, .arr 3 1 (List.map LV.I l2))] R (sMi R (sN (oAdd R R (sAi R zS)))) ?_)))
   exact roundI ⟨(i64 (n1 + 1)), l2, hrec1 ▸ h, R, R⟩ (Wk.eq R R R R)
  replace h := iteF h hc3
  refine LH.exit (thenX (roundX (blockH (thenN (LH.wk ((Wk.trans (Wk.eq (el := [(5, .arr 146 (List.length l2))]) (ml := [(146, .arr 3 1 (List.map LV.I l2))]) R R R R) (Wk.trans (Wk.frzL (f := LV.I) (el' := [(5, .L l2)]) 146 3 1 l2 R R (prN R) (fZ fN)) (Wk.eq (el := [(5, .L l2)]) (ml := []) R R R R)))) (LH.seqT [(4, .L l2)] [] R (sMl R (sAl R zS)) (LH.ret ?_)))))))
  obtain rfl := oI h
  exact retE (aT Try.results42) (lrT R (lr0 ⟨memN mN, R, prK R, Sub.rfl⟩))

theorem q87q {F : Nat} {p0 : List Int} {p1 : List Int} {r : Bool} (h : q61q F p0 p1 = some r) : LCall Try.prog 43 [.L p0, .L p1] (Mem.of []) (.bool r) (Mem.of []) := by
  unfold q61q at h
  refine bodyT Try.func43 R (nT Try.ntmps43 R) (LH.wk (Wk.eq (el := [(0, .L p0), (1, .L p1)]) (ml := []) R R R R) (LH.seqT [(0, .L p0), (1, .L p1)] [] R (sAb R zS) (LH.seq (LH.seqT [(0, .L p0), (1, .L p1), (10, .bool ((p0.length : Int) != (p1.length : Int)))] [] R (sMl R (sN (oLnL (f := LV.I) te22 R (sMl R (sN (oLnL (f := LV.I) te22 R (sN (oNe R R zS)))))))) (LH.cond (t := ((p0.length : Int) != (p1.length : Int))) R (fun hc1 => ?_) (fun hc1 => ?_))))))
  ·replace h := iteT h hc1
   refine LH.seqT [(4, .bool false)] [] R (sAb R zS) (LH.ret (thenR ?_))
   obtain rfl := oI h
   exact retE (aT Try.results43) (lrT R (lr0 ⟨memN mN, R, prK R, Sub.rfl⟩))
  replace h := iteF h hc1
  refine LH.skip (thenN (LH.wk (Wk.eq (el := [(0, .L p0), (1, .L p1)]) (ml := []) R R R R) (LH.seq (LH.seqT [(0, .L p0), (1, .L p1), (5, .I 0)] [] R (sAi R zS) (LH.block (LH.loop (fun n e m => ∃ (n2 : Int), q45q p0 p1 n n2 = some r ∧ e = Env.of [(0, .L p0), (1, .L p1), (5, .I n2)] ∧ m = Mem.of []) F ⟨0, h, R, R⟩ ?_))))))
  clear h
  rintro n e m ⟨n2, h, rfl, rfl⟩
  rcases n with _ | n
  · cases (show Option.none = some _ from h)
  obtain ⟨rec1, hrec1⟩ : ∃ f, f = q45q p0 p1 n := ⟨_, rfl⟩
  replace h : q58q p0 p1 rec1 n2 = some r := hrec1 ▸ h
  unfold q58q at h
  refine LH.seq (LH.seqT [(0, .L p0), (1, .L p1), (5, .I n2), (14, .bool (decide (n2 < (p0.length : Int))))] [] R (sMi R (sMl R (sN (oLnL (f := LV.I) te22 R (sN (oLt R R zS)))))) (LH.cond (t := (decide (n2 < (p0.length : Int)))) R (fun hc3 => ?_) (fun hc3 => ?_)))
  ·replace h := iteT h hc3
   refine LH.skip (thenN (LH.wk (Wk.eq (el := [(0, .L p0), (1, .L p1), (5, .I n2)]) (ml := []) R R R R) (LH.seq (LH.block ?_))))
   obtain ⟨x4, hx4, h⟩ := bindS h
   obtain ⟨x5, hx5, h⟩ := bindS h
   refine LH.seqJM mixed [] [0, 0, 0, 0, 0, 0, 0, 0, 0] [(0, .L p0), (1, .L p1), (5, .I n2), (25, .bool (x4 != x5))] [] R R (by kernel_rfl) (mMl R (mMi R (mN0 (oIx (f := LV.I) te22 tk3 ts3 R R okI hx4 R ⟨R, mN0 (oLd R tk3 ta3 ⟨R, mMl R (mMi R (mN0 (oIx (f := LV.I) te22 tk3 ts3 R R okI hx5 R ⟨R, mN0 (oLd R tk3 ta3 ⟨R, mN0 (oNe R R ⟨R, zM⟩)⟩)⟩)))⟩)⟩)))) (LH.cond (t := (x4 != x5)) R (fun hc6 => ?_) (fun hc6 => ?_))
   ·replace h := iteT h hc6
    refine LH.seqT [(4, .bool false)] [] R (sAb R zS) (LH.ret (blockR (thenR (roundR (blockR (thenR ?_))))))
    obtain rfl := oI h
    exact retE (aT Try.results43) (lrT R (lr0 ⟨memN mN, R, prK R, Sub.rfl⟩))
   replace h := iteF h hc6
   refine LH.skip (blockN (thenN (LH.loneT [(0, .L p0), (1, .L p1), (5, .I (i64 (n2 + 1)))] [] R (sMi R (sN (oAdd R R (sAi R zS)))) ?_)))
   exact roundI ⟨(i64 (n2 + 1)), hrec1 ▸ h, R, R⟩ (Wk.eq R R R R)
  replace h := iteF h hc3
  refine LH.exit (thenX (roundX (blockH (thenN (LH.seqT [(4, .bool true)] [] R (sAb R zS) (LH.ret ?_))))))
  obtain rfl := oI h
  exact retE (aT Try.results43) (lrT R (lr0 ⟨memN mN, R, prK R, Sub.rfl⟩))

theorem q88q {F : Nat} {p0 : GItem} {p1 : GItem} {r : Bool} (h : q66q F p0 p1 = some r) : LCall Try.prog 23 [.agg [.I p0.ID, .I p0.Version, .str p0.Stem, .lst 6 (List.map GPart.lv p0.Parts), .L p0.Enemies], .agg [.I p1.ID, .I p1.Version, .str p1.Stem, .lst 6 (List.map GPart.lv p1.Parts), .L p1.Enemies]] (Mem.of []) (.bool r) (Mem.of []) := by
  unfold q66q at h
  refine bodyT Try.func23 R (nT Try.ntmps23 R) (LH.wk (Wk.eq (el := [(0, .agg [.I p0.ID, .I p0.Version, .str p0.Stem, .lst 6 (List.map GPart.lv p0.Parts), .L p0.Enemies]), (1, .agg [.I p1.ID, .I p1.Version, .str p1.Stem, .lst 6 (List.map GPart.lv p1.Parts), .L p1.Enemies])]) (ml := []) R R R R) (LH.seqT [(2, .sptr [.I p0.ID, .I p0.Version, .str p0.Stem, .lst 6 (List.map GPart.lv p0.Parts), .L p0.Enemies]), (3, .sptr [.I p1.ID, .I p1.Version, .str p1.Stem, .lst 6 (List.map GPart.lv p1.Parts), .L p1.Enemies])] [] R (sB (oBxR R R R R (sB (oBxR R R R R (sAb R zS))))) ?_))
  obtain ⟨w2, hv, h⟩ := bindS h
  refine LH.seqT [(4, .bool w2)] [] R ?_ ?_
  ·refine sN (oFaS tf34_0 tk3 ts3 R R R (sN (oLd R tk3 ta3 (sN (oFaS tf34_0 tk3 ts3 R R R (sN (oLd R tk3 ta3 (sN (oEq R R (sMb R ?_))))))))))
   by_cases hb3 : (p0.ID == p1.ID) = true
   ·replace hv := iteT hv hb3
    refine sT R (cB hb3) (oFaS tf34_1 tk3 ts3 R R R (sT R (cB hb3) (oLd R tk3 ta3 (sT R (cB hb3) (oFaS tf34_1 tk3 ts3 R R R (sT R (cB hb3) (oLd R tk3 ta3 (sT R (cB hb3) (oEq R R (sN (oPkT (cB hb3) (v := (.bool _)) R (sMb R ?_))))))))))))
    by_cases hb4 : (p0.Version == p1.Version) = true
    ·replace hv := iteT hv hb4
     refine sT R (cB hb4) (oFaS tf34_2 tk9 ts9 R R R (sT R (cB hb4) (oLd R tk9 ta9 (sT R (cB hb4) (oFaS tf34_2 tk9 ts9 R R R (sT R (cB hb4) (oLd R tk9 ta9 (sXT R (cB hb4) ((ok_sEq R R).ok) (sN (oPkT (cB hb4) (v := (.bool _)) R (sMb R ?_)))))))))))
     by_cases hb5 : (decide (p0.Stem = p1.Stem)) = true
     ·replace hv := iteT hv hb5
      refine sT R (cB hb5) (oFaS tf34_3 tk32 ts32 R R R (sT R (cB hb5) (oLd R tk32 ta32 (sT R (cB hb5) (oLnL (f := GPart.lv) te32 R (sT R (cB hb5) (oFaS tf34_3 tk32 ts32 R R R (sT R (cB hb5) (oLd R tk32 ta32 (sT R (cB hb5) (oLnL (f := GPart.lv) te32 R (sT R (cB hb5) (oEq R R (sN (oPkT (cB hb5) (v := (.bool _)) R (sMb R ?_))))))))))))))))
      by_cases hb6 : ((p0.Parts.length : Int) == (p1.Parts.length : Int)) = true
      ·replace hv := iteT hv hb6
       refine sT R (cB hb6) (oLdA R tk34 ta34 ts34 R R (sT R (cB hb6) (oLdA R tk34 ta34 ts34 R R ?_)))
       obtain ⟨r7, hr7, hv⟩ := bindS hv
       refine sT R (cB hb6) (oCP (args := [.agg [.I p0.ID, .I p0.Version, .str p0.Stem, .lst 6 (List.map GPart.lv p0.Parts), .L p0.Enemies], .agg [.I p1.ID, .I p1.Version, .str p1.Stem, .lst 6 (List.map GPart.lv p1.Parts), .L p1.Enemies]]) R isF42 R (sbR (sbR sbN)) (q78q hr7) R (sT R (cB hb6) (oLnL (f := LV.I) te22 R (sT R (cB hb6) (oEq R R (sN (oPkT (cB hb6) (v := (.bool _)) R (sMb R ?_))))))))
       by_cases hb8 : ((r7.length : Int) == 0) = true
       ·replace hv := iteT hv hb8
        refine sT R (cB hb8) (oFaS tf34_4 tk22 ts22 R R R (sT R (cB hb8) (oLd R tk22 ta22 (sT R (cB hb8) (oFaS tf34_4 tk22 ts22 R R R (sT R (cB hb8) (oLd R tk22 ta22 ?_)))))))
        obtain ⟨r9, hr9, hv⟩ := bindS hv
        refine sT R (cB hb8) (oCP (args := [.L p0.Enemies, .L p1.Enemies]) R isF43 R (sbR (sbR sbN)) (q87q hr9) R (sN (oPkT (cB hb8) (v := (.bool _)) R (sAb R ?_))))
        obtain rfl := oI hv
        exact zS
       ·replace hb8 := bF hb8
        replace hv := iteF hv hb8
        refine sF R R hb8 (sF R R hb8 (sF R R hb8 (sF R R hb8 (sF R R hb8 (sN (oPkF (cB hb8) (v := (.bool _)) R (sAb R ?_)))))))
        obtain rfl := oI hv
        exact zS
      ·replace hb6 := bF hb6
       replace hv := iteF hv hb6
       refine sF R R hb6 (sF R R hb6 (sF R R hb6 (sF R R hb6 (sF R R hb6 (sN (oPkF (cB hb6) (v := (.bool _)) R (sMb R (sF R R R (sF R R R (sF R R R (sF R R R (sF R R R (sN (oPkF R (v := (.bool _)) R (sAb R ?_)))))))))))))))
       obtain rfl := oI hv
       exact zS
     ·replace hb5 := bF hb5
      replace hv := iteF hv hb5
      refine sF R R hb5 (sF R R hb5 (sF R R hb5 (sF R R hb5 (sF R R hb5 (sF R R hb5 (sF R R hb5 (sN (oPkF (cB hb5) (v := (.bool _)) R (sMb R (sF R R R (sF R R R (sF R R R (sF R R R (sF R R R (sN (oPkF R (v := (.bool _)) R (sMb R (sF R R R (sF R R R (sF R R R (sF R R R (sF R R R (sN (oPkF R (v := (.bool _)) R (sAb R ?_)))))))))))))))))))))))))
      obtain rfl := oI hv
      exact zS
    ·replace hb4 := bF hb4
     replace hv := iteF hv hb4
     refine sF R R hb4 (sF R R hb4 (sF R R hb4 (sF R R hb4 (sF R R hb4 (sN (oPkF (cB hb4) (v := (.bool _)) R (sMb R (sF R R R (sF R R R (sF R R R (sF R R R (sF R R R (sF R R R (sF R R R (sN (oPkF R (v := (.bool _)) R (sMb R (sF R R R (sF R R R (sF R R R (sF R R R (sF R R R (sN (oPkF R (v := (.bool _)) R (sMb R (sF R R R (sF R R R (sF R R R (sF R R R (sF R R R (sN (oPkF R (v := (.bool _)) R (sAb R ?_)))))))))))))))))))))))))))))))))
     obtain rfl := oI hv
     exact zS
   ·replace hb3 := bF hb3
    replace hv := iteF hv hb3
    refine sF R R hb3 (sF R R hb3 (sF R R hb3 (sF R R hb3 (sF R R hb3 (sN (oPkF (cB hb3) (v := (.bool _)) R (sMb R (sF R R R (sF R R R (sF R R R (sF R R R (sF R R R (sN (oPkF R (v := (.bool _)) R (sMb R (sF R R R (sF R R R (sF R R R (sF R R R (sF R R R (sF R R R (sF R R R (sN (oPkF R (v := (.bool _)) R (sMb R (sF R R R (sF R R R (sF R R R (sF R R R (sF R R R (sN (oPkF R (v := (.bool _)) R (sMb R (sF R R R (sF R R R (sF R R R (sF R R R (sF R R R (sN (oPkF R (v := (.bool _)) R (sAb R ?_)))))))))))))))))))))))))))))))))))))))))
    obtain rfl := oI hv
    exact zS
  clear hv
  refine LH.ret ?_
  obtain rfl := oI h
  exact retE (aT Try.results23) (lrT R (lr0 ⟨memN mN, R, prK R, Sub.rfl⟩))

theorem bank_cloneRecord_ok {F : Nat} {p0 : Gq2} {r : Gq2} (h : bank_cloneRecord F p0 = some r) : LCall Try.prog 41 [.agg [.I p0.ID, .lst 5 (List.map GItem.lv p0.Versions), .lst 1 (List.map LV.bool p0.Approved), .lst 3 (List.map GUse.lv p0.Uses), .bool p0.Withdrawn]] (Mem.of []) (.agg [.I r.ID, .arr 109 (List.length r.Versions), .arr 128 (List.length r.Approved), .arr 132 (List.length r.Uses), .bool r.Withdrawn]) (Mem.of [(109, .arr 34 5 (List.map GItem.lv r.Versions)), (128, .arr 4 1 (List.map LV.bool r.Approved)), (132, .arr 102 3 (List.map GUse.lv r.Uses))]) := by
  unfold bank_cloneRecord at h
  refine bodyT Try.func41 R (nT Try.ntmps41 R) (LH.wk (Wk.eq (el := [(0, .agg [.I p0.ID, .lst 5 (List.map GItem.lv p0.Versions), .lst 1 (List.map LV.bool p0.Approved), .lst 3 (List.map GUse.lv p0.Uses), .bool p0.Withdrawn])]) (ml := []) R R R R) (LH.seqT [(1, .ptr 101 0), (2, .ptr 102 0)] [(101, .box [.I p0.ID, .lst 5 (List.map GItem.lv p0.Versions), .lst 1 (List.map LV.bool p0.Approved), .lst 3 (List.map GUse.lv p0.Uses), .bool p0.Withdrawn]), (102, .box [.I 0, .nil, .nil, .nil, .bool false])] R (sN (oBx (id := 101) R R R R R R (sN (oAl (id := 102) R tz58 R R zS)))) ?_))
  obtain ⟨v1, hv1, h⟩ := bindS h
  refine LH.seqT [(1, .ptr 101 0), (2, .ptr 102 0), (3, .arr 109 (List.length v1))] [(101, .box [.I p0.ID, .lst 5 (List.map GItem.lv p0.Versions), .lst 1 (List.map LV.bool p0.Approved), .lst 3 (List.map GUse.lv p0.Uses), .bool p0.Withdrawn]), (102, .box [.I 0, .nil, .nil, .nil, .bool false]), (109, .arr 34 5 (List.map GItem.lv v1))] R (sN (oFa tf58_1 tk54 ts54 R R (sN (oLdP R R R R tk54 ta54 (sN (oLnL (f := GItem.lv) te54 R (sX (ok_mkS (f := GItem.lv) (z := (GItem.mk 0 0 (ByteArray.mk #[]) [] [])) (id := 109) R te54 tz34 tr34 ts34 R R R (Sub.agg (sbR (sbR (sbR (sbL (sbL sbN)))))) GItem.ok hv1 R) (sAa R zS)))))))) (LH.seq (LH.seqT [(1, .ptr 101 0), (2, .ptr 102 0), (3, .arr 109 (List.length v1)), (11, .lst 5 (List.map GItem.lv p0.Versions)), (12, .I (p0.Versions.length : Int)), (13, .I 0)] [(101, .box [.I p0.ID, .lst 5 (List.map GItem.lv p0.Versions), .lst 1 (List.map LV.bool p0.Approved), .lst 3 (List.map GUse.lv p0.Uses), .bool p0.Withdrawn]), (102, .box [.I 0, .nil, .nil, .nil, .bool false]), (109, .arr 34 5 (List.map GItem.lv v1))] R (sN (oFa tf58_1 tk54 ts54 R R (sN (oLdP R R R R tk54 ta54 (sN (oLnL (f := GItem.lv) te54 R (sMi R zS))))))) (LH.block (LH.loop (fun n e m => ∃ (n2 : Int) (l3 : List GItem), bank_cloneRecord_L1 p0 n n2 l3 = some r ∧ e = Env.of [(1, .ptr 101 0), (2, .ptr 102 0), (3, .arr 109 (List.length l3)), (11, .lst 5 (List.map GItem.lv p0.Versions)), (12, .I (p0.Versions.length : Int)), (13, .I n2)] ∧ m = Mem.of [(101, .box [.I p0.ID, .lst 5 (List.map GItem.lv p0.Versions), .lst 1 (List.map LV.bool p0.Approved), .lst 3 (List.map GUse.lv p0.Uses), .bool p0.Withdrawn]), (102, .box [.I 0, .nil, .nil, .nil, .bool false]), (109, .arr 34 5 (List.map GItem.lv l3))]) F ⟨0, v1, h, R, R⟩ ?_))))
  clear h
  rintro n e m ⟨n2, l3, h, rfl, rfl⟩
  rcases n with _ | n
  · cases (show Option.none = some _ from h)
  obtain ⟨rec1, hrec1⟩ : ∃ f, f = bank_cloneRecord_L1 p0 n := ⟨_, rfl⟩
  replace h : bank_cloneRecord_L1_B p0 rec1 n2 l3 = some r := hrec1 ▸ h
  unfold bank_cloneRecord_L1_B at h
  refine LH.seqT [(1, .ptr 101 0), (2, .ptr 102 0), (3, .arr 109 (List.length l3)), (11, .lst 5 (List.map GItem.lv p0.Versions)), (12, .I (p0.Versions.length : Int)), (13, .I n2), (14, .bool (decide (n2 < (p0.Versions.length : Int))))] [(101, .box [.I p0.ID, .lst 5 (List.map GItem.lv p0.Versions), .lst 1 (List.map LV.bool p0.Approved), .lst 3 (List.map GUse.lv p0.Uses), .bool p0.Withdrawn]), (102, .box [.I 0, .nil, .nil, .nil, .bool false]), (109, .arr 34 5 (List.map GItem.lv l3))] R (sN (oLt R R zS)) (LH.seq (LH.cond (t := (decide (n2 < (p0.Versions.length : Int)))) R (fun hc4 => ?_) (fun hc4 => ?_)))
  ·replace h := iteT h hc4
   refine LH.skip (thenN (LH.wk (Wk.eq (el := [(1, .ptr 101 0), (2, .ptr 102 0), (3, .arr 109 (List.length l3)), (11, .lst 5 (List.map GItem.lv p0.Versions)), (12, .I (p0.Versions.length : Int)), (13, .I n2)]) (ml := [(101, .box [.I p0.ID, .lst 5 (List.map GItem.lv p0.Versions), .lst 1 (List.map LV.bool p0.Approved), .lst 3 (List.map GUse.lv p0.Uses), .bool p0.Withdrawn]), (102, .box [.I 0, .nil, .nil, .nil, .bool false]), (109, .arr 34 5 (List.map GItem.lv l3))]) R R R R) (LH.seq (LH.block ?_))))
   obtain ⟨x5, hx5, h⟩ := bindS h
   refine LH.seqT [(1, .ptr 101 0), (2, .ptr 102 0), (3, .arr 109 (List.length l3)), (4, .I n2), (5, .sptr [.I x5.ID, .I x5.Version, .str x5.Stem, .lst 6 (List.map GPart.lv x5.Parts), .L x5.Enemies]), (11, .lst 5 (List.map GItem.lv p0.Versions)), (12, .I (p0.Versions.length : Int)), (13, .I n2)] [(101, .box [.I p0.ID, .lst 5 (List.map GItem.lv p0.Versions), .lst 1 (List.map LV.bool p0.Approved), .lst 3 (List.map GUse.lv p0.Uses), .bool p0.Withdrawn]), (102, .box [.I 0, .nil, .nil, .nil, .bool false]), (109, .arr 34 5 (List.map GItem.lv l3))] R (sMi R (sN (oIx (f := GItem.lv) te54 tk34 ts34 R R GItem.ok hx5 R (sN (oLdA R tk34 ta34 ts34 R R (sN (oAl (id := 105) R tz34 R R (sAi R (s_ (oSt R R R tk34 ts34 R R R (s0 ((Wk.trans (Wk.eq (el := [(1, .ptr 101 0), (2, .ptr 102 0), (3, .arr 109 (List.length l3)), (4, .I n2), (5, .ptr 105 0), (11, .lst 5 (List.map GItem.lv p0.Versions)), (12, .I (p0.Versions.length : Int)), (13, .I n2)]) (ml := [(101, .box [.I p0.ID, .lst 5 (List.map GItem.lv p0.Versions), .lst 1 (List.map LV.bool p0.Approved), .lst 3 (List.map GUse.lv p0.Uses), .bool p0.Withdrawn]), (102, .box [.I 0, .nil, .nil, .nil, .bool false]), (105, .box [.I x5.ID, .I x5.Version, .str x5.Stem, .lst 6 (List.map GPart.lv x5.Parts), .L x5.Enemies]), (109, .arr 34 5 (List.map GItem.lv l3))]) R R R R) (Wk.trans (Wk.frzB 105 [.I x5.ID, .I x5.Version, .str x5.Stem, .lst 6 (List.map GPart.lv x5.Parts), .L x5.Enemies] R R R (prN R)) (Wk.eq R R R R))))))))))))))) ?_
   obtain ⟨r6, hr6, h⟩ := bindS h
   obtain ⟨x7, hx7, h⟩ := bindS h
   refine LH.loneT [(1, .ptr 101 0), (2, .ptr 102 0), (3, .arr 109 (List.length (l3.set n2.toNat r6))), (11, .lst 5 (List.map GItem.lv p0.Versions)), (12, .I (p0.Versions.length : Int)), (13, .I n2)] [(101, .box [.I p0.ID, .lst 5 (List.map GItem.lv p0.Versions), .lst 1 (List.map LV.bool p0.Approved), .lst 3 (List.map GUse.lv p0.Uses), .bool p0.Withdrawn]), (102, .box [.I 0, .nil, .nil, .nil, .bool false]), (109, .arr 34 5 (List.map GItem.lv (l3.set n2.toNat r6)))] R (sMa R (sMi R (sN (oLdA R tk34 ta34 ts34 R R (sN (oCP (args := [.agg [.I x5.ID, .I x5.Version, .str x5.Stem, .lst 6 (List.map GPart.lv x5.Parts), .L x5.Enemies]]) R isF34 R (sbR sbN) (bank_cloneItem_ok hr6) R (sN (oIxA (f := GItem.lv) te54 tk34 ts34 R R R hx7 (s_ (oStE (f := GItem.lv) (z' := r6) R R R R tk34 ts34 R (idxOk hx7).2 R (s0 (Wk.to (eC R (eC R (eC (congrArg (LV.arr 109) (by simp)) (eC R (eC R (eC R eN)))))) ⟨R, R, R, trivial⟩ R (prK R))))))))))))) (blockN (thenN (LH.loneT [(1, .ptr 101 0), (2, .ptr 102 0), (3, .arr 109 (List.length (l3.set n2.toNat r6))), (11, .lst 5 (List.map GItem.lv p0.Versions)), (12, .I (p0.Versions.length : Int)), (13, .I (i64 (n2 + 1)))] [(101, .box [.I p0.ID, .lst 5 (List.map GItem.lv p0.Versions), .lst 1 (List.map LV.bool p0.Approved), .lst 3 (List.map GUse.lv p0.Uses), .bool p0.Withdrawn]), (102, .box [.I 0, .nil, .nil, .nil, .bool false]), (109, .arr 34 5 (List.map GItem.lv (l3.set n2.toNat r6)))] R (sN (oAdd R R (sMi R zS))) ?_)))
   exact roundI ⟨(i64 (n2 + 1)), (l3.set n2.toNat r6), hrec1 ▸ h, R, R⟩ (Wk.eq R R R R)
  replace h := iteF h hc4
  refine LH.exit (thenX (roundX (blockH (thenN (LH.seqT [(1, .ptr 101 0), (2, .ptr 102 0)] [(101, .box [.I p0.ID, .arr 109 (List.length l3), .lst 1 (List.map LV.bool p0.Approved), .lst 3 (List.map GUse.lv p0.Uses), .bool p0.Withdrawn]), (102, .box [.I 0, .nil, .nil, .nil, .bool false]), (109, .arr 34 5 (List.map GItem.lv l3))] R (sMa R (sN (oFa tf58_1 tk54 ts54 R R (s_ (oSt R R R tk54 ts54 R R R zS))))) ?_)))))
  obtain ⟨v8, hv8, h⟩ := bindS h
  refine LH.seqT [(1, .ptr 101 0), (2, .ptr 102 0)] [(101, .box [.I p0.ID, .arr 109 (List.length l3), .arr 128 (List.length v8), .lst 3 (List.map GUse.lv p0.Uses), .bool p0.Withdrawn]), (102, .box [.I 0, .nil, .nil, .nil, .bool false]), (109, .arr 34 5 (List.map GItem.lv l3)), (128, .arr 4 1 (List.map LV.bool v8))] R (sN (oFa tf58_2 tk55 ts55 R R (sN (oLdP R R R R tk55 ta55 (sN (oCM (args := [.lst 1 (List.map LV.bool p0.Approved)]) (ml := []) (ml' := [(128, .arr 4 1 (List.map LV.bool v8))]) R isF64 R (sbR sbN) (clone_ok (g := LV.bool) cloneW64 R 128 hv8) mN (newF R newN) R (sN (oFa tf58_2 tk55 ts55 R R (s_ (oSt R R R tk55 ts55 R R R zS)))))))))) ?_
  obtain ⟨v9, hv9, h⟩ := bindS h
  refine LH.seqT [(1, .ptr 101 0), (2, .ptr 102 0)] [(101, .box [.I p0.ID, .arr 109 (List.length l3), .arr 128 (List.length v8), .arr 132 (List.length v9), .bool p0.Withdrawn]), (102, .box [.I 0, .nil, .nil, .nil, .bool false]), (109, .arr 34 5 (List.map GItem.lv l3)), (128, .arr 4 1 (List.map LV.bool v8)), (132, .arr 102 3 (List.map GUse.lv v9))] R (sN (oFa tf58_3 tk56 ts56 R R (sN (oLdP R R R R tk56 ta56 (sN (oCM (args := [.lst 3 (List.map GUse.lv p0.Uses)]) (ml := []) (ml' := [(132, .arr 102 3 (List.map GUse.lv v9))]) R isF65 R (sbR sbN) (clone_ok (g := GUse.lv) cloneW65 R 132 hv9) mN (newF R newN) R (sN (oFa tf58_3 tk56 ts56 R R (s_ (oSt R R R tk56 ts56 R R R zS)))))))))) (LH.seqT [(2, .ptr 102 0)] [(102, .box [.I p0.ID, .arr 109 (List.length l3), .arr 128 (List.length v8), .arr 132 (List.length v9), .bool p0.Withdrawn]), (109, .arr 34 5 (List.map GItem.lv l3)), (128, .arr 4 1 (List.map LV.bool v8)), (132, .arr 102 3 (List.map GUse.lv v9))] R (sN (oLdPA R R R tk58 ta58 ts58 R R (s_ (oSt R R R tk58 ts58 R R R zS)))) (LH.ret ?_))
  obtain rfl := oI h
  exact retE (aT Try.results41) (lrCA R R R tk58 ta58 ts58 R R (lr0 ⟨memN (mC R (mC R (mC R mN))), R, prK R, Sub.rfl⟩))

theorem bank_Find_ok {F : Nat} {p0 : GBank} {p1 : Int} {r : Gq2 × Bool} (h : bank_Find F p0 p1 = some r) : LCall Try.prog 22 [.agg [.lst 5 (List.map Gq2.lv p0.Records)], .I p1] (Mem.of []) (.tup [.agg [.I r.1.ID, .lst 5 (List.map GItem.lv r.1.Versions), .lst 1 (List.map LV.bool r.1.Approved), .lst 3 (List.map GUse.lv r.1.Uses), .bool r.1.Withdrawn], .bool r.2]) (Mem.of []) := by
  unfold bank_Find at h
  refine bodyT Try.func22 R (nT Try.ntmps22 R) (LH.wk (Wk.eq (el := [(0, .agg [.lst 5 (List.map Gq2.lv p0.Records)]), (1, .I p1)]) (ml := []) R R R R) (LH.seqT [(1, .I p1), (2, .sptr [.lst 5 (List.map Gq2.lv p0.Records)]), (4, .ptr 104 0)] [(104, .box [.I 0, .nil, .nil, .nil, .bool false])] R (sB (oBxR R R R R (sN (oAl (id := 104) R tz58 R R (sAb R zS))))) (LH.seq (LH.seqT [(1, .I p1), (4, .ptr 104 0), (9, .lst 5 (List.map Gq2.lv p0.Records)), (10, .I (p0.Records.length : Int)), (11, .I 0)] [(104, .box [.I 0, .nil, .nil, .nil, .bool false])] R (sN (oFaS tf47_0 tk45 ts45 R R R (sN (oLd R tk45 ta45 (sN (oLnL (f := Gq2.lv) te45 R (sMi R zS))))))) (LH.block (LH.loop (fun n e m => ∃ (n1 : Int), bank_Find_L1 F p0 p1 n n1 = some r ∧ e = Env.of [(1, .I p1), (4, .ptr 104 0), (9, .lst 5 (List.map Gq2.lv p0.Records)), (10, .I (p0.Records.length : Int)), (11, .I n1)] ∧ m = Mem.of [(104, .box [.I 0, .nil, .nil, .nil, .bool false])]) F ⟨0, h, R, R⟩ ?_))))))
  clear h
  rintro n e m ⟨n1, h, rfl, rfl⟩
  rcases n with _ | n
  · cases (show Option.none = some _ from h)
  obtain ⟨rec1, hrec1⟩ : ∃ f, f = bank_Find_L1 F p0 p1 n := ⟨_, rfl⟩
  replace h : bank_Find_L1_B F p0 p1 rec1 n1 = some r := hrec1 ▸ h
  unfold bank_Find_L1_B at h
  refine LH.seqT [(1, .I p1), (4, .ptr 104 0), (9, .lst 5 (List.map Gq2.lv p0.Records)), (10, .I (p0.Records.length : Int)), (11, .I n1), (12, .bool (decide (n1 < (p0.Records.length : Int))))] [(104, .box [.I 0, .nil, .nil, .nil, .bool false])] R (sN (oLt R R zS)) (LH.seq (LH.cond (t := (decide (n1 < (p0.Records.length : Int)))) R (fun hc2 => ?_) (fun hc2 => ?_)))
  ·replace h := iteT h hc2
   refine LH.skip (thenN (LH.wk (Wk.eq (el := [(1, .I p1), (4, .ptr 104 0), (9, .lst 5 (List.map Gq2.lv p0.Records)), (10, .I (p0.Records.length : Int)), (11, .I n1)]) (ml := [(104, .box [.I 0, .nil, .nil, .nil, .bool false])]) R R R R) (LH.seq (LH.block ?_))))
   obtain ⟨x3, hx3, h⟩ := bindS h
   refine LH.seqT [(1, .I p1), (4, .ptr 104 0), (7, .sptr [.I x3.ID, .lst 5 (List.map GItem.lv x3.Versions), .lst 1 (List.map LV.bool x3.Approved), .lst 3 (List.map GUse.lv x3.Uses), .bool x3.Withdrawn]), (9, .lst 5 (List.map Gq2.lv p0.Records)), (10, .I (p0.Records.length : Int)), (11, .I n1)] [(104, .box [.I 0, .nil, .nil, .nil, .bool false])] R (sN (oIx (f := Gq2.lv) te45 tk58 ts58 R R Gq2.ok hx3 R (sN (oLdA R tk58 ta58 ts58 R R (sN (oAl (id := 107) R tz58 R R (s_ (oSt R R R tk58 ts58 R R R (s0 ((Wk.trans (Wk.eq (el := [(1, .I p1), (4, .ptr 104 0), (7, .ptr 107 0), (9, .lst 5 (List.map Gq2.lv p0.Records)), (10, .I (p0.Records.length : Int)), (11, .I n1)]) (ml := [(104, .box [.I 0, .nil, .nil, .nil, .bool false]), (107, .box [.I x3.ID, .lst 5 (List.map GItem.lv x3.Versions), .lst 1 (List.map LV.bool x3.Approved), .lst 3 (List.map GUse.lv x3.Uses), .bool x3.Withdrawn])]) R R R R) (Wk.trans (Wk.frzB 107 [.I x3.ID, .lst 5 (List.map GItem.lv x3.Versions), .lst 1 (List.map LV.bool x3.Approved), .lst 3 (List.map GUse.lv x3.Uses), .bool x3.Withdrawn] R R R (prN R)) (Wk.eq R R R R))))))))))))) (LH.seqT [(1, .I p1), (4, .ptr 104 0), (7, .sptr [.I x3.ID, .lst 5 (List.map GItem.lv x3.Versions), .lst 1 (List.map LV.bool x3.Approved), .lst 3 (List.map GUse.lv x3.Uses), .bool x3.Withdrawn]), (9, .lst 5 (List.map Gq2.lv p0.Records)), (10, .I (p0.Records.length : Int)), (11, .I n1), (18, .bool (x3.ID == p1))] [(104, .box [.I 0, .nil, .nil, .nil, .bool false])] R (sN (oFaS tf58_0 tk3 ts3 R R R (sN (oLd R tk3 ta3 (sMi R (sN (oEq R R zS))))))) (LH.cond (t := (x3.ID == p1)) R (fun hc4 => ?_) (fun hc4 => ?_)))
   ·replace h := iteT h hc4
    obtain ⟨r5, hr5, h⟩ := bindS h
    refine LH.seqT [(4, .sptr [.I r5.ID, .lst 5 (List.map GItem.lv r5.Versions), .lst 1 (List.map LV.bool r5.Approved), .lst 3 (List.map GUse.lv r5.Uses), .bool r5.Withdrawn]), (5, .bool true)] [] R (sN (oLdA R tk58 ta58 ts58 R R (sN (oCM (args := [.agg [.I x3.ID, .lst 5 (List.map GItem.lv x3.Versions), .lst 1 (List.map LV.bool x3.Approved), .lst 3 (List.map GUse.lv x3.Uses), .bool x3.Withdrawn]]) (ml := []) (ml' := [(109, .arr 34 5 (List.map GItem.lv r5.Versions)), (128, .arr 4 1 (List.map LV.bool r5.Approved)), (132, .arr 102 3 (List.map GUse.lv r5.Uses))]) R isF41 R (sbR sbN) (bank_cloneRecord_ok hr5) mN (newF R (newF R (newF R newN))) R (s_ (oSt R R R tk58 ts58 R R R (sAb R (s0 ((Wk.trans (Wk.eq (el := [(4, .ptr 104 0), (5, .bool true)]) (ml := [(104, .box [.I r5.ID, .arr 109 (List.length r5.Versions), .arr 128 (List.length r5.Approved), .arr 132 (List.length r5.Uses), .bool r5.Withdrawn]), (109, .arr 34 5 (List.map GItem.lv r5.Versions)), (128, .arr 4 1 (List.map LV.bool r5.Approved)), (132, .arr 102 3 (List.map GUse.lv r5.Uses))]) R R R R) (Wk.trans (Wk.eq (el := [(4, .ptr 104 0), (5, .bool true)]) (ml := [(104, .box [.I r5.ID, .arr 109 (List.length r5.Versions), .arr 128 (List.length r5.Approved), .arr 132 (List.length r5.Uses), .bool r5.Withdrawn]), (109, .arr 34 5 (List.map GItem.lv r5.Versions)), (128, .arr 4 1 (List.map LV.bool r5.Approved)), (132, .arr 102 3 (List.map GUse.lv r5.Uses))]) R R R R) (Wk.trans (Wk.trans (Wk.frzBx (f := GItem.lv) 109 34 5 r5.Versions 104 R R R (frAK R (frAZ (frAK R (frAK R (frAK R frA0))))) R R (prN R)) (Wk.eq (el := [(4, .ptr 104 0), (5, .bool true)]) (ml := [(104, .box [.I r5.ID, .lst 5 (List.map GItem.lv r5.Versions), .arr 128 (List.length r5.Approved), .arr 132 (List.length r5.Uses), .bool r5.Withdrawn]), (128, .arr 4 1 (List.map LV.bool r5.Approved)), (132, .arr 102 3 (List.map GUse.lv r5.Uses))]) R R R R)) (Wk.trans (Wk.eq (el := [(4, .ptr 104 0), (5, .bool true)]) (ml := [(104, .box [.I r5.ID, .lst 5 (List.map GItem.lv r5.Versions), .arr 128 (List.length r5.Approved), .arr 132 (List.length r5.Uses), .bool r5.Withdrawn]), (128, .arr 4 1 (List.map LV.bool r5.Approved)), (132, .arr 102 3 (List.map GUse.lv r5.Uses))]) R R R R) (Wk.trans (Wk.trans (Wk.frzBx (f := LV.bool) 128 4 1 r5.Approved 104 R R R (frAK R (frAK R (frAZ (frAK R (frAK R frA0))))) R R (prN R)) (Wk.eq (el := [(4, .ptr 104 0), (5, .bool true)]) (ml := [(104, .box [.I r5.ID, .lst 5 (List.map GItem.lv r5.Versions), .lst 1 (List.map LV.bool r5.Approved), .arr 132 (List.length r5.Uses), .bool r5.Withdrawn]), (132, .arr 102 3 (List.map GUse.lv r5.Uses))]) R R R R)) (Wk.trans (Wk.eq (el := [(4, .ptr 104 0), (5, .bool true)]) (ml := [(104, .box [.I r5.ID, .lst 5 (List.map GItem.lv r5.Versions), .lst 1 (List.map LV.bool r5.Approved), .arr 132 (List.length r5.Uses), .bool r5.Withdrawn]), (132, .arr 102 3 (List.map GUse.lv r5.Uses))]) R R R R) (Wk.trans (Wk.trans (Wk.frzBx (f := GUse.lv) 132 102 3 r5.Uses 104 R R R (frAK R (frAK R (frAK R (frAZ (frAK R frA0))))) R R (prN R)) (Wk.eq (el := [(4, .ptr 104 0), (5, .bool true)]) (ml := [(104, .box [.I r5.ID, .lst 5 (List.map GItem.lv r5.Versions), .lst 1 (List.map LV.bool r5.Approved), .lst 3 (List.map GUse.lv r5.Uses), .bool r5.Withdrawn])]) R R R R)) (Wk.trans (Wk.frzB 104 [.I r5.ID, .lst 5 (List.map GItem.lv r5.Versions), .lst 1 (List.map LV.bool r5.Approved), .lst 3 (List.map GUse.lv r5.Uses), .bool r5.Withdrawn] R R R (prN R)) (Wk.eq R R R R)))))))))))))))))) (LH.ret (blockR (thenR (roundR (blockR (thenR ?_))))))
    obtain rfl := oI h
    exact retE (aT Try.results22) (lrSA R tk58 ta58 ts58 R R (lrT R (lr0 ⟨memN mN, R, prK R, (Sub.tup (sbR (sbR sbN)))⟩)))
   replace h := iteF h hc4
   refine LH.skip (blockN (thenN (LH.loneT [(1, .I p1), (4, .ptr 104 0), (9, .lst 5 (List.map Gq2.lv p0.Records)), (10, .I (p0.Records.length : Int)), (11, .I (i64 (n1 + 1)))] [(104, .box [.I 0, .nil, .nil, .nil, .bool false])] R (sN (oAdd R R (sMi R zS))) ?_)))
   exact roundI ⟨(i64 (n1 + 1)), hrec1 ▸ h, R, R⟩ (Wk.eq R R R R)
  replace h := iteF h hc2
  refine LH.exit (thenX (roundX (blockH (thenN (LH.seqT [(4, .sptr [.I 0, .nil, .nil, .nil, .bool false]), (5, .bool false)] [] R (sN (oBd (vs := []) tu58 tz58 R lf0 (s_ (oSt R R R tk58 ts58 R R R (sAb R (s0 ((Wk.trans (Wk.eq (el := [(4, .ptr 104 0), (5, .bool false)]) (ml := [(104, .box [.I 0, .nil, .nil, .nil, .bool false])]) R R R R) (Wk.trans (Wk.frzB 104 [.I 0, .nil, .nil, .nil, .bool false] R R R (prN R)) (Wk.eq R R R R)))))))))) (LH.ret ?_))))))
  obtain rfl := oI h
  exact retE (aT Try.results22) (lrSA R tk58 ta58 ts58 R R (lrT R (lr0 ⟨memN mN, R, prK R, (Sub.tup (sbS (Sub.agg (sbR (sbL (sbL (sbL (sbR sbN)))))) (sbR sbN)))⟩)))

theorem q76q {F : Nat} {p0 : List Int} {p1 : Int} {p2 : Int} {r : Bool} (h : q57q F p0 p1 p2 = some r) : LCall Try.prog 5 [.L p0, .I p1, .I p2] (Mem.of []) (.bool r) (Mem.of []) := by
  unfold q57q at h
  refine bodyT Try.func5 R (nT Try.ntmps5 R) (LH.wk (Wk.eq (el := [(0, .L p0), (1, .I p1), (2, .I p2)]) (ml := []) R R R R) (LH.seqT [(0, .L p0), (1, .I p1), (2, .I p2)] [] R (sAb R zS) ?_))
  obtain ⟨r1, hr1, h⟩ := bindS h
  obtain ⟨r2, hr2, h⟩ := bindS h
  refine LH.seqT [(1, .I p1), (2, .I p2), (7, .lst 12 (List.map Gq0.lv r2.1))] [] R (sMl R (sN (oCM (args := [.L p0]) (ml := []) (ml' := [(7, .box [.L r1.L, .I r1.At])]) R isF8 R (sbR sbN) (q91q hr1) mN (newF R newN) R (sN (oCM (args := [.ptr 7 0, .I 14, .I 6]) (ml := [(7, .box [.L r1.L, .I r1.At])]) (ml' := [(7, .box [.L r2.2.L, .I r2.2.At])]) R isF9 R (sbR (sbR (sbR sbN))) (Gq11 hr2) (mC R mN) (newI R newN) R (sAl R zS)))))) ?_
  obtain ⟨r3, hr3, h⟩ := bindS h
  refine LH.seqT [(1, .I r3), (2, .I p2), (7, .lst 12 (List.map Gq0.lv r2.1))] [] R (sMi R (sN (oCP (args := [.I p1, .I 20]) R isF21 R (sbR (sbR sbN)) (q72q hr3) R (sAi R zS)))) ?_
  obtain ⟨r4, hr4, h⟩ := bindS h
  refine LH.seqT [(1, .I r3), (2, .I (i64 (r3 + r4))), (7, .lst 12 (List.map Gq0.lv r2.1))] [] R (sMi R (sMi R (sN (oCP (args := [.I p2, .I 12]) R isF21 R (sbR (sbR sbN)) (q72q hr4) R (sN (oAdd R R (sAi R zS))))))) ?_
  obtain ⟨r5, hr5, h⟩ := bindS h
  refine LH.seqT [(2, .I (i64 (r3 + r4))), (7, .lst 12 (List.map Gq0.lv r2.1)), (8, .sptr [.lst 5 (List.map Gq2.lv r5.1.Records)]), (10, .I r5.2.2)] [] R (sMl R (sMi R (sN (oCP (args := [.lst 12 (List.map Gq0.lv r2.1), .I r3]) R isF18 R (sbR (sbR sbN)) (bank_Fold_ok hr5) R (sMt R (sN (oEx R R (sN (oEx R R (sN (oEx R R (sN (oAl (id := 108) R tz47 R R (s_ (oSt R R R tk47 ts47 R R R (sAl R (sAi R (s0 ((Wk.trans (Wk.eq (el := [(2, .I (i64 (r3 + r4))), (7, .lst 12 (List.map Gq0.lv r2.1)), (8, .ptr 108 0), (10, .I r5.2.2)]) (ml := [(108, .box [.lst 5 (List.map Gq2.lv r5.1.Records)])]) R R R R) (Wk.trans (Wk.frzB 108 [.lst 5 (List.map Gq2.lv r5.1.Records)] R R R (prN R)) (Wk.eq R R R R)))))))))))))))))))))) ?_
  obtain ⟨r6, hr6, h⟩ := bindS h
  refine LH.seqT [(8, .sptr [.lst 5 (List.map Gq2.lv r5.1.Records)]), (10, .I r5.2.2), (11, .sptr [.lst 5 (List.map Gq2.lv r6.1.Records)]), (13, .I r6.2.2)] [] R (sMl R (sMi R (sN (oCP (args := [.lst 12 (List.map Gq0.lv r2.1), .I (i64 (r3 + r4))]) R isF18 R (sbR (sbR sbN)) (bank_Fold_ok hr6) R (sMt R (sN (oEx R R (sN (oEx R R (sN (oEx R R (sN (oAl (id := 111) R tz47 R R (s_ (oSt R R R tk47 ts47 R R R (sAl R (sAi R (s0 ((Wk.trans (Wk.eq (el := [(8, .sptr [.lst 5 (List.map Gq2.lv r5.1.Records)]), (10, .I r5.2.2), (11, .ptr 111 0), (13, .I r6.2.2)]) (ml := [(111, .box [.lst 5 (List.map Gq2.lv r6.1.Records)])]) R R R R) (Wk.trans (Wk.frzB 111 [.lst 5 (List.map Gq2.lv r6.1.Records)] R R R (prN R)) (Wk.eq R R R R)))))))))))))))))))))) (LH.seq (LH.seqT [(8, .sptr [.lst 5 (List.map Gq2.lv r5.1.Records)]), (11, .sptr [.lst 5 (List.map Gq2.lv r6.1.Records)]), (46, .bool ((r5.2.2 != 0) || (r6.2.2 != 0)))] [] R ?_ ?_))
  ·refine sMi R (sN (oNe R R (sMb R ?_)))
   by_cases hb8 : (r5.2.2 != 0) = true
   ·exact sF R R hb8 (sF R R hb8 (sN (oPkT (cB hb8) (v := (.bool _)) R (s0 (Wk.to (eC R (eC R (eC (cB (orT hb8)) eN))) mN R (prK R))))))
   ·replace hb8 := bF hb8
    exact sT R (cB hb8) (oM (v := (.int _ _)) R (sT R (cB hb8) (oNe R R (sN (oPkF (cB hb8) (v := (.bool _)) R (s0 (Wk.to (eC R (eC R (eC (cB (orF hb8)) eN))) mN R (prK R))))))))
  refine LH.cond (t := ((r5.2.2 != 0) || (r6.2.2 != 0))) R (fun hc9 => ?_) (fun hc9 => ?_)
  ·replace h := iteT h hc9
   refine LH.seqT [(6, .bool false)] [] R (sAb R zS) (LH.ret (thenR ?_))
   obtain rfl := oI h
   exact retE (aT Try.results5) (lrT R (lr0 ⟨memN mN, R, prK R, Sub.rfl⟩))
  replace h := iteF h hc9
  refine LH.skip (thenN (LH.wk (Wk.eq (el := [(8, .sptr [.lst 5 (List.map Gq2.lv r5.1.Records)]), (11, .sptr [.lst 5 (List.map Gq2.lv r6.1.Records)])]) (ml := []) R R R R) (LH.seq (LH.seqT [(8, .sptr [.lst 5 (List.map Gq2.lv r5.1.Records)]), (11, .sptr [.lst 5 (List.map Gq2.lv r6.1.Records)]), (14, .I 0)] [] R (sAi R zS) (LH.block (LH.loop (fun n e m => ∃ (n10 : Int), q12q F r5 r6 n n10 = some r ∧ e = Env.of [(8, .sptr [.lst 5 (List.map Gq2.lv r5.1.Records)]), (11, .sptr [.lst 5 (List.map Gq2.lv r6.1.Records)]), (14, .I n10)] ∧ m = Mem.of []) F ⟨0, h, R, R⟩ ?_))))))
  clear h
  rintro n e m ⟨n10, h, rfl, rfl⟩
  rcases n with _ | n
  · cases (show Option.none = some _ from h)
  obtain ⟨rec1, hrec1⟩ : ∃ f, f = q12q F r5 r6 n := ⟨_, rfl⟩
  replace h : q27q F r5 r6 rec1 n10 = some r := hrec1 ▸ h
  unfold q27q at h
  refine LH.seq (LH.seqT [(8, .sptr [.lst 5 (List.map Gq2.lv r5.1.Records)]), (11, .sptr [.lst 5 (List.map Gq2.lv r6.1.Records)]), (14, .I n10), (51, .bool (decide (n10 < (r5.1.Records.length : Int))))] [] R (sMi R (sN (oFaS tf47_0 tk45 ts45 R R R (sN (oLd R tk45 ta45 (sN (oLnL (f := Gq2.lv) te45 R (sN (oLt R R zS))))))))) (LH.cond (t := (decide (n10 < (r5.1.Records.length : Int)))) R (fun hc11 => ?_) (fun hc11 => ?_)))
  ·replace h := iteT h hc11
   refine LH.skip (thenN (LH.wk (Wk.eq (el := [(8, .sptr [.lst 5 (List.map Gq2.lv r5.1.Records)]), (11, .sptr [.lst 5 (List.map Gq2.lv r6.1.Records)]), (14, .I n10)]) (ml := []) R R R R) (LH.seq (LH.block ?_))))
   obtain ⟨x12, hx12, h⟩ := bindS h
   obtain ⟨r13, hr13, h⟩ := bindS h
   refine LH.seqJM mixed [] [0, 0, 0, 0, 0, 0, 0, 0, 0, 0, 0, 2, 100115, 0] [(8, .sptr [.lst 5 (List.map Gq2.lv r5.1.Records)]), (11, .sptr [.lst 5 (List.map Gq2.lv r6.1.Records)]), (14, .I n10), (15, .sptr [.I r13.1.ID, .lst 5 (List.map GItem.lv r13.1.Versions), .lst 1 (List.map LV.bool r13.1.Approved), .lst 3 (List.map GUse.lv r13.1.Uses), .bool r13.1.Withdrawn]), (16, .bool r13.2)] [] R R (by kernel_rfl) ?_ ?_
   ·exact mN0 (oLdA R tk47 ta47 ts47 R R ⟨R, mN0 (oFaS tf47_0 tk45 ts45 R R R ⟨R, mN0 (oLd R tk45 ta45 ⟨R, mMi R (mN0 (oIx (f := Gq2.lv) te45 tk58 ts58 R R Gq2.ok hx12 R ⟨R, mN0 (oFaS tf58_0 tk3 ts3 R R R ⟨R, mN0 (oLd R tk3 ta3 ⟨R, mN0 (oCP (args := [.agg [.lst 5 (List.map Gq2.lv r6.1.Records)], .I x12.ID]) R isF22 R (sbR (sbR sbN)) (bank_Find_ok hr13) R ⟨R, mMt R (mN0 (oEx R R ⟨R, mN0 (oEx R R ⟨R, mN2 (oAl (id := 115) R tz58 R R (mS R R R (fun _ b _ d => oSt R R R tk58 ts58 b R R d) (mAb R (m0 ((Wk.trans (Wk.eq (el := [(8, .sptr [.lst 5 (List.map Gq2.lv r5.1.Records)]), (11, .sptr [.lst 5 (List.map Gq2.lv r6.1.Records)]), (14, .I n10), (15, .ptr 115 0), (16, .bool r13.2)]) (ml := [(115, .box [.I r13.1.ID, .lst 5 (List.map GItem.lv r13.1.Versions), .lst 1 (List.map LV.bool r13.1.Approved), .lst 3 (List.map GUse.lv r13.1.Uses), .bool r13.1.Withdrawn])]) R R R R) (Wk.trans (Wk.frzB 115 [.I r13.1.ID, .lst 5 (List.map GItem.lv r13.1.Versions), .lst 1 (List.map LV.bool r13.1.Approved), .lst 3 (List.map GUse.lv r13.1.Uses), .bool r13.1.Withdrawn] R R R (prN R)) (Wk.eq R R R R))))))))⟩)⟩))⟩)⟩)⟩)⟩))⟩)⟩)⟩)
   refine LH.seq ?_
   obtain ⟨w15, hv, h⟩ := bindS h
   refine LH.seqJM mixed [] [0, 0, 0, 0, 0, 0, 0, 0, 0, 0, 0, 0, 0, 0, 0, 0, 0, 0, 0, 0, 0, 0, 0, 0, 0, 0, 0, 0] [(8, .sptr [.lst 5 (List.map Gq2.lv r5.1.Records)]), (11, .sptr [.lst 5 (List.map Gq2.lv r6.1.Records)]), (14, .I n10), (15, .sptr [.I r13.1.ID, .lst 5 (List.map GItem.lv r13.1.Versions), .lst 1 (List.map LV.bool r13.1.Approved), .lst 3 (List.map GUse.lv r13.1.Uses), .bool r13.1.Withdrawn]), (92, .bool w15)] [] R R (by kernel_rfl) ?_ ?_
   ·refine mMb R (mN0 (oNot R ⟨R, mMb R ?_⟩))
    by_cases hb16 : (!r13.2) = true
    ·replace hv := iteT hv hb16
     refine mF R R hb16 (mF R R hb16 (mF R R hb16 (mF R R hb16 (mF R R hb16 (mF R R hb16 (mF R R hb16 (mF R R hb16 (mF R R hb16 (mF R R hb16 (mF R R hb16 (mN0 (oPkT (cB hb16) (v := (.bool _)) R ⟨R, mMb R (mF R R R (mF R R R (mF R R R (mF R R R (mF R R R (mF R R R (mF R R R (mF R R R (mF R R R (mF R R R (mF R R R (mN0 (oPkT R (v := (.bool _)) R ⟨R, ?_⟩)))))))))))))⟩))))))))))))
     obtain rfl := oI hv
     exact zM
    ·replace hb16 := bF hb16
     replace hv := iteF hv hb16
     refine mT R (cB hb16) (mN0 (oFaS tf58_1 tk54 ts54 R R R ⟨R, mT R (cB hb16) (mN0 (oLd R tk54 ta54 ⟨R, mT R (cB hb16) (mN0 (oLnL (f := GItem.lv) te54 R ⟨R, mT R (cB hb16) (mN0 (oFaS tf47_0 tk45 ts45 R R R ⟨R, mT R (cB hb16) (mN0 (oLd R tk45 ta45 ⟨R, mT R (cB hb16) (mMi R ?_)⟩))⟩))⟩))⟩))⟩))
     obtain ⟨x17, hx17, hv⟩ := bindS hv
     refine mT R (cB hb16) (mN0 (oIx (f := Gq2.lv) te45 tk58 ts58 R R Gq2.ok hx17 R ⟨R, mT R (cB hb16) (mN0 (oFaS tf58_1 tk54 ts54 R R R ⟨R, mT R (cB hb16) (mN0 (oLd R tk54 ta54 ⟨R, mT R (cB hb16) (mN0 (oLnL (f := GItem.lv) te54 R ⟨R, mT R (cB hb16) (mN0 (oLt R R ⟨R, mN0 (oPkF (cB hb16) (v := (.bool _)) R ⟨R, mMb R ?_⟩)⟩))⟩))⟩))⟩))⟩))
     by_cases hb18 : (decide ((r13.1.Versions.length : Int) < (x17.Versions.length : Int))) = true
     ·replace hv := iteT hv hb18
      refine mF R R hb18 (mF R R hb18 (mF R R hb18 (mF R R hb18 (mF R R hb18 (mF R R hb18 (mF R R hb18 (mF R R hb18 (mF R R hb18 (mF R R hb18 (mF R R hb18 (mN0 (oPkT (cB hb18) (v := (.bool _)) R ⟨R, ?_⟩))))))))))))
      obtain rfl := oI hv
      exact zM
     ·replace hb18 := bF hb18
      replace hv := iteF hv hb18
      refine mT R (cB hb18) (mN0 (oFaS tf58_3 tk56 ts56 R R R ⟨R, mT R (cB hb18) (mN0 (oLd R tk56 ta56 ⟨R, mT R (cB hb18) (mN0 (oLnL (f := GUse.lv) te56 R ⟨R, mT R (cB hb18) (mN0 (oFaS tf47_0 tk45 ts45 R R R ⟨R, mT R (cB hb18) (mN0 (oLd R tk45 ta45 ⟨R, mT R (cB hb18) (mMi R ?_)⟩))⟩))⟩))⟩))⟩))
      obtain ⟨x19, hx19, hv⟩ := bindS hv
      refine mT R (cB hb18) (mN0 (oIx (f := Gq2.lv) te45 tk58 ts58 R R Gq2.ok hx19 R ⟨R, mT R (cB hb18) (mN0 (oFaS tf58_3 tk56 ts56 R R R ⟨R, mT R (cB hb18) (mN0 (oLd R tk56 ta56 ⟨R, mT R (cB hb18) (mN0 (oLnL (f := GUse.lv) te56 R ⟨R, mT R (cB hb18) (mN0 (oLt R R ⟨R, mN0 (oPkF (cB hb18) (v := (.bool _)) R ⟨R, ?_⟩)⟩))⟩))⟩))⟩))⟩))
      obtain rfl := oI hv
      exact zM
   clear hv
   refine LH.cond (t := w15) R (fun hc20 => ?_) (fun hc20 => ?_)
   ·replace h := iteT h hc20
    refine LH.seqT [(6, .bool false)] [] R (sAb R zS) (LH.ret (thenR (blockR (thenR (roundR (blockR (thenR ?_)))))))
    obtain rfl := oI h
    exact retE (aT Try.results5) (lrT R (lr0 ⟨memN mN, R, prK R, Sub.rfl⟩))
   replace h := iteF h hc20
   refine LH.skip (thenN (LH.seqT [(8, .sptr [.lst 5 (List.map Gq2.lv r5.1.Records)]), (11, .sptr [.lst 5 (List.map Gq2.lv r6.1.Records)]), (14, .I n10), (15, .sptr [.I r13.1.ID, .lst 5 (List.map GItem.lv r13.1.Versions), .lst 1 (List.map LV.bool r13.1.Approved), .lst 3 (List.map GUse.lv r13.1.Uses), .bool r13.1.Withdrawn]), (17, .I 0)] [] R (sAi R zS) (LH.block (LH.loop (fun n e m => ∃ (n21 : Int), q19q rec1 F r5 n10 r13 n n21 = some r ∧ e = Env.of [(8, .sptr [.lst 5 (List.map Gq2.lv r5.1.Records)]), (11, .sptr [.lst 5 (List.map Gq2.lv r6.1.Records)]), (14, .I n10), (15, .sptr [.I r13.1.ID, .lst 5 (List.map GItem.lv r13.1.Versions), .lst 1 (List.map LV.bool r13.1.Approved), .lst 3 (List.map GUse.lv r13.1.Uses), .bool r13.1.Withdrawn]), (17, .I n21)] ∧ m = Mem.of []) F ⟨0, h, R, R⟩ ?_))))
   clear h
   rintro n e m ⟨n21, h, rfl, rfl⟩
   rcases n with _ | n
   · cases (show Option.none = some _ from h)
   obtain ⟨rec2, hrec2⟩ : ∃ f, f = q19q rec1 F r5 n10 r13 n := ⟨_, rfl⟩
   replace h : q28q rec1 F r5 n10 r13 rec2 n21 = some r := hrec2 ▸ h
   unfold q28q at h
   refine LH.seq ?_
   obtain ⟨x22, hx22, h⟩ := bindS h
   refine LH.seqT [(8, .sptr [.lst 5 (List.map Gq2.lv r5.1.Records)]), (11, .sptr [.lst 5 (List.map Gq2.lv r6.1.Records)]), (14, .I n10), (15, .sptr [.I r13.1.ID, .lst 5 (List.map GItem.lv r13.1.Versions), .lst 1 (List.map LV.bool r13.1.Approved), .lst 3 (List.map GUse.lv r13.1.Uses), .bool r13.1.Withdrawn]), (17, .I n21), (101, .bool (decide (n21 < (x22.Versions.length : Int))))] [] R (sMi R (sN (oFaS tf47_0 tk45 ts45 R R R (sN (oLd R tk45 ta45 (sMi R (sN (oIx (f := Gq2.lv) te45 tk58 ts58 R R Gq2.ok hx22 R (sN (oFaS tf58_1 tk54 ts54 R R R (sN (oLd R tk54 ta54 (sN (oLnL (f := GItem.lv) te54 R (sN (oLt R R zS)))))))))))))))) (LH.cond (t := (decide (n21 < (x22.Versions.length : Int)))) R (fun hc23 => ?_) (fun hc23 => ?_))
   ·replace h := iteT h hc23
    refine LH.skip (thenN (LH.wk (Wk.eq (el := [(8, .sptr [.lst 5 (List.map Gq2.lv r5.1.Records)]), (11, .sptr [.lst 5 (List.map Gq2.lv r6.1.Records)]), (14, .I n10), (15, .sptr [.I r13.1.ID, .lst 5 (List.map GItem.lv r13.1.Versions), .lst 1 (List.map LV.bool r13.1.Approved), .lst 3 (List.map GUse.lv r13.1.Uses), .bool r13.1.Withdrawn]), (17, .I n21)]) (ml := []) R R R R) (LH.seq (LH.block ?_))))
    obtain ⟨x24, hx24, h⟩ := bindS h
    obtain ⟨x25, hx25, h⟩ := bindS h
    obtain ⟨x26, hx26, h⟩ := bindS h
    obtain ⟨r27, hr27, h⟩ := bindS h
    refine LH.seqJM mixed [] [0, 0, 0, 0, 0, 0, 0, 0, 0, 0, 0, 0, 0, 0, 0, 0] [(8, .sptr [.lst 5 (List.map Gq2.lv r5.1.Records)]), (11, .sptr [.lst 5 (List.map Gq2.lv r6.1.Records)]), (14, .I n10), (15, .sptr [.I r13.1.ID, .lst 5 (List.map GItem.lv r13.1.Versions), .lst 1 (List.map LV.bool r13.1.Approved), .lst 3 (List.map GUse.lv r13.1.Uses), .bool r13.1.Withdrawn]), (17, .I n21), (119, .bool (!r27))] [] R R (by kernel_rfl) ?_ ?_
    ·exact mN0 (oFaS tf58_1 tk54 ts54 R R R ⟨R, mN0 (oLd R tk54 ta54 ⟨R, mMi R (mN0 (oIx (f := GItem.lv) te54 tk34 ts34 R R GItem.ok hx24 R ⟨R, mN0 (oLdA R tk34 ta34 ts34 R R ⟨R, mN0 (oFaS tf47_0 tk45 ts45 R R R ⟨R, mN0 (oLd R tk45 ta45 ⟨R, mMi R (mN0 (oIx (f := Gq2.lv) te45 tk58 ts58 R R Gq2.ok hx25 R ⟨R, mN0 (oFaS tf58_1 tk54 ts54 R R R ⟨R, mN0 (oLd R tk54 ta54 ⟨R, mMi R (mN0 (oIx (f := GItem.lv) te54 tk34 ts34 R R GItem.ok hx26 R ⟨R, mN0 (oLdA R tk34 ta34 ts34 R R ⟨R, mN0 (oCP (args := [.agg [.I x24.ID, .I x24.Version, .str x24.Stem, .lst 6 (List.map GPart.lv x24.Parts), .L x24.Enemies], .agg [.I x26.ID, .I x26.Version, .str x26.Stem, .lst 6 (List.map GPart.lv x26.Parts), .L x26.Enemies]]) R isF23 R (sbR (sbR sbN)) (q88q hr27) R ⟨R, mN0 (oNot R ⟨R, zM⟩)⟩)⟩)⟩))⟩)⟩)⟩))⟩)⟩)⟩)⟩))⟩)⟩)
    refine LH.cond (t := (!r27)) R (fun hc28 => ?_) (fun hc28 => ?_)
    ·replace h := iteT h hc28
     refine LH.seqT [(6, .bool false)] [] R (sAb R zS) (LH.ret (blockR (thenR (roundR (blockR (blockR (thenR (roundR (blockR (thenR ?_))))))))))
     obtain rfl := oI h
     exact retE (aT Try.results5) (lrT R (lr0 ⟨memN mN, R, prK R, Sub.rfl⟩))
    replace h := iteF h hc28
    refine LH.skip (blockN (thenN (LH.loneT [(8, .sptr [.lst 5 (List.map Gq2.lv r5.1.Records)]), (11, .sptr [.lst 5 (List.map Gq2.lv r6.1.Records)]), (14, .I n10), (15, .sptr [.I r13.1.ID, .lst 5 (List.map GItem.lv r13.1.Versions), .lst 1 (List.map LV.bool r13.1.Approved), .lst 3 (List.map GUse.lv r13.1.Uses), .bool r13.1.Withdrawn]), (17, .I (i64 (n21 + 1)))] [] R (sMi R (sN (oAdd R R (sAi R zS)))) ?_)))
    exact roundI ⟨(i64 (n21 + 1)), hrec2 ▸ h, R, R⟩ (Wk.eq R R R R)
   replace h := iteF h hc23
   refine LH.exit (thenX (roundX (blockH (blockN (thenN (LH.loneT [(8, .sptr [.lst 5 (List.map Gq2.lv r5.1.Records)]), (11, .sptr [.lst 5 (List.map Gq2.lv r6.1.Records)]), (14, .I (i64 (n10 + 1)))] [] R (sMi R (sN (oAdd R R (sAi R zS)))) ?_))))))
   exact roundI ⟨(i64 (n10 + 1)), hrec1 ▸ h, R, R⟩ (Wk.eq R R R R)
  replace h := iteF h hc11
  refine LH.exit (thenX (roundX (blockH (thenN ?_))))
  obtain ⟨r29, hr29, h⟩ := bindS h
  refine LH.seqT [(6, .bool r29)] [] R (sN (oCP (args := []) R isF16 R sbN (q83q hr29) R (sAb R zS))) (LH.ret ?_)
  obtain rfl := oI h
  exact retE (aT Try.results5) (lrT R (lr0 ⟨memN mN, R, prK R, Sub.rfl⟩))

end Go.Proofs.Ytmollikhdbaikaa
