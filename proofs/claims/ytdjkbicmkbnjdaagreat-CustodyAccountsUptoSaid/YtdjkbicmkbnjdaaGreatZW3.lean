import Derived.Test.YtdjkbicmkbnjdaaGreatZW2
set_option linter.unusedVariables false
set_option linter.unusedSimpArgs false
set_option maxRecDepth 100000
namespace Go.Proofs.YtdjkbicmkbnjdaaGreat
open Go.L Go.Sh
theorem q260q {F : Nat} {p0 : List GBag} {r : Int} (h : q171q F p0 = some r) : LCall Tryz.prog 45 [.lst 6 (List.map GBag.lv p0)] (Mem.of []) (.I r) (Mem.of []) := by
  unfold q171q at h
  refine bodyT Tryz.func45 R (nT Tryz.ntmps45 R) (LH.wk (Wk.eq (el := [(0, .lst 6 (List.map GBag.lv p0))]) (ml := []) R R R R) (LH.seqT [(0, .lst 6 (List.map GBag.lv p0))] [] R (sAi R zS) (LH.seq (LH.seqT [(0, .lst 6 (List.map GBag.lv p0)), (3, .I 0)] [] R (sAi R zS) (LH.block (LH.loop (fun n e m => ∃ (n1 : Int), q56q F p0 n n1 = some r ∧ e = Env.of [(0, .lst 6 (List.map GBag.lv p0)), (3, .I n1)] ∧ m = Mem.of []) F ⟨0, h, R, R⟩ ?_))))))
  clear h
  rintro n e m ⟨n1, h, rfl, rfl⟩
  rcases n with _ | n
  · cases (show Option.none = some _ from h)
  obtain ⟨rec1, hrec1⟩ : ∃ f, f = q56q F p0 n := ⟨_, rfl⟩
  replace h : q117q F p0 rec1 n1 = some r := hrec1 ▸ h
  unfold q117q at h
  refine LH.seq (LH.seqT [(0, .lst 6 (List.map GBag.lv p0)), (3, .I n1), (9, .bool (decide (n1 < (p0.length : Int))))] [] R (sMi R (sMl R (sN (oLnL (f := GBag.lv) te27 R (sN (oLt R R zS)))))) (LH.cond (t := (decide (n1 < (p0.length : Int)))) R (fun hc2 => ?_) (fun hc2 => ?_)))
  ·replace h := iteT h hc2
   refine LH.skip (thenN (LH.wk (Wk.eq (el := [(0, .lst 6 (List.map GBag.lv p0)), (3, .I n1)]) (ml := []) R R R R) (LH.seq (LH.block ?_))))
   obtain ⟨x3, hx3, h⟩ := bindS h
   refine LH.seqT [(0, .lst 6 (List.map GBag.lv p0)), (3, .I n1), (4, .sptr (GBag.lv x3).cells)] [] R (sMl R (sMi R (sN (oIx (f := GBag.lv) te27 tk43 ts43 R R GBag.ok hx3 R (sN (oLdA R tk43 ta43 ts43 R R (sN (oAl (id := 104) R tz43 R R (s_ (oSt R R R tk43 ts43 R R R (s0 ((Wk.trans (Wk.eq (el := [(0, .lst 6 (List.map GBag.lv p0)), (3, .I n1), (4, .ptr 104 0)]) (ml := [(104, .box (GBag.lv x3).cells)]) R R R R) (Wk.trans (Wk.frzB 104 (GBag.lv x3).cells R R R (prN R)) (Wk.eq R R R R))))))))))))))) (LH.seq ?_)
   obtain ⟨w5, hv, h⟩ := bindS h
   refine LH.seqT [(0, .lst 6 (List.map GBag.lv p0)), (3, .I n1), (4, .sptr (GBag.lv x3).cells), (37, .bool w5)] [] R ?_ ?_
   ·refine sN (oFaS tf43_0 tk3 ts3 R R R (sN (oLd R tk3 ta3 ?_)))
    obtain ⟨r6, hr6, hv⟩ := bindS hv
    refine sN (oCP (args := [.I x3.Bag, .I 9999]) R isF78 R (sbR (sbR sbN)) (q94q hr6) R (sN (oNot R (sMb R ?_))))
    by_cases hb7 : (!r6) = true
    ·replace hv := iteT hv hb7
     refine sF R R hb7 (sF R R hb7 (sF R R hb7 (sF R R hb7 (sN (oPkT (cB hb7) (v := (.bool _)) R (sMb R (sF R R R (sF R R R (sF R R R (sF R R R (sN (oPkT R (v := (.bool _)) R (sMb R (sF R R R (sF R R R (sF R R R (sF R R R (sN (oPkT R (v := (.bool _)) R ?_)))))))))))))))))))
     obtain rfl := oI hv
     exact zS
    ·replace hb7 := bF hb7
     replace hv := iteF hv hb7
     refine sT R (cB hb7) (oFaS tf43_1 tk3 ts3 R R R (sT R (cB hb7) (oLd R tk3 ta3 ?_)))
     obtain ⟨r8, hr8, hv⟩ := bindS hv
     refine sT R (cB hb7) (oCP (args := [.I x3.Holder, .I 99]) R isF78 R (sbR (sbR sbN)) (q94q hr8) R (sT R (cB hb7) (oNot R (sN (oPkF (cB hb7) (v := (.bool _)) R (sMb R ?_))))))
     by_cases hb9 : (!r8) = true
     ·replace hv := iteT hv hb9
      refine sF R R hb9 (sF R R hb9 (sF R R hb9 (sF R R hb9 (sN (oPkT (cB hb9) (v := (.bool _)) R (sMb R (sF R R R (sF R R R (sF R R R (sF R R R (sN (oPkT R (v := (.bool _)) R ?_))))))))))))
      obtain rfl := oI hv
      exact zS
     ·replace hb9 := bF hb9
      replace hv := iteF hv hb9
      refine sT R (cB hb9) (oFaS tf43_3 tk22 ts22 R R R (sT R (cB hb9) (oLd R tk22 ta22 (sT R (cB hb9) (oLnL (f := LV.I) te22 R (sT R (cB hb9) (oLt R R (sN (oPkF (cB hb9) (v := (.bool _)) R (sMb R ?_))))))))))
      by_cases hb10 : (decide ((x3.Seals.length : Int) < 1)) = true
      ·replace hv := iteT hv hb10
       refine sF R R hb10 (sF R R hb10 (sF R R hb10 (sF R R hb10 (sN (oPkT (cB hb10) (v := (.bool _)) R ?_)))))
       obtain rfl := oI hv
       exact zS
      ·replace hb10 := bF hb10
       replace hv := iteF hv hb10
       refine sT R (cB hb10) (oFaS tf43_3 tk22 ts22 R R R (sT R (cB hb10) (oLd R tk22 ta22 (sT R (cB hb10) (oLnL (f := LV.I) te22 R (sT R (cB hb10) (oGt R R (sN (oPkF (cB hb10) (v := (.bool _)) R ?_)))))))))
       obtain rfl := oI hv
       exact zS
   clear hv
   refine LH.cond (t := w5) R (fun hc11 => ?_) (fun hc11 => ?_)
   ·replace h := iteT h hc11
    refine LH.seqT [(2, .I 2)] [] R (sAi R zS) (LH.ret (thenR (blockR (thenR (roundR (blockR (thenR ?_)))))))
    obtain rfl := oI h
    exact retE (aT Tryz.results45) (lrT R (lr0 ⟨memN mN, R, prK R, Sub.rfl⟩))
   replace h := iteF h hc11
   refine LH.skip (thenN (LH.seqT [(0, .lst 6 (List.map GBag.lv p0)), (3, .I n1), (4, .sptr (GBag.lv x3).cells), (5, .I 0)] [] R (sAi R zS) (LH.block (LH.loop (fun n e m => ∃ (n12 : Int), q68q rec1 n1 x3 n n12 = some r ∧ e = Env.of [(0, .lst 6 (List.map GBag.lv p0)), (3, .I n1), (4, .sptr (GBag.lv x3).cells), (5, .I n12)] ∧ m = Mem.of []) F ⟨0, h, R, R⟩ ?_))))
   clear h
   rintro n e m ⟨n12, h, rfl, rfl⟩
   rcases n with _ | n
   · cases (show Option.none = some _ from h)
   obtain ⟨rec2, hrec2⟩ : ∃ f, f = q68q rec1 n1 x3 n := ⟨_, rfl⟩
   replace h : q118q rec1 n1 x3 rec2 n12 = some r := hrec2 ▸ h
   unfold q118q at h
   refine LH.seq (LH.seqT [(0, .lst 6 (List.map GBag.lv p0)), (3, .I n1), (4, .sptr (GBag.lv x3).cells), (5, .I n12), (42, .bool (decide (n12 < (x3.Seals.length : Int))))] [] R (sMi R (sN (oFaS tf43_3 tk22 ts22 R R R (sN (oLd R tk22 ta22 (sN (oLnL (f := LV.I) te22 R (sN (oLt R R zS))))))))) (LH.cond (t := (decide (n12 < (x3.Seals.length : Int)))) R (fun hc13 => ?_) (fun hc13 => ?_)))
   ·replace h := iteT h hc13
    refine LH.skip (thenN (LH.wk (Wk.eq (el := [(0, .lst 6 (List.map GBag.lv p0)), (3, .I n1), (4, .sptr (GBag.lv x3).cells), (5, .I n12)]) (ml := []) R R R R) (LH.seq (LH.block ?_))))
    obtain ⟨x14, hx14, h⟩ := bindS h
    obtain ⟨r15, hr15, h⟩ := bindS h
    refine LH.seqT [(0, .lst 6 (List.map GBag.lv p0)), (3, .I n1), (4, .sptr (GBag.lv x3).cells), (5, .I n12), (51, .bool (!r15))] [] R (sN (oFaS tf43_3 tk22 ts22 R R R (sN (oLd R tk22 ta22 (sMi R (sN (oIx (f := LV.I) te22 tk3 ts3 R R okI hx14 R (sN (oLd R tk3 ta3 (sN (oCP (args := [.I x14, .I 1000000]) R isF78 R (sbR (sbR sbN)) (q94q hr15) R (sN (oNot R zS))))))))))))) (LH.cond (t := (!r15)) R (fun hc16 => ?_) (fun hc16 => ?_))
    ·replace h := iteT h hc16
     refine LH.seqT [(2, .I 2)] [] R (sAi R zS) (LH.ret (blockR (thenR (roundR (blockR (blockR (thenR (roundR (blockR (thenR ?_))))))))))
     obtain rfl := oI h
     exact retE (aT Tryz.results45) (lrT R (lr0 ⟨memN mN, R, prK R, Sub.rfl⟩))
    replace h := iteF h hc16
    refine LH.skip (blockN (thenN (LH.loneT [(0, .lst 6 (List.map GBag.lv p0)), (3, .I n1), (4, .sptr (GBag.lv x3).cells), (5, .I (i64 (n12 + 1)))] [] R (sMi R (sN (oAdd R R (sAi R zS)))) ?_)))
    exact roundI ⟨(i64 (n12 + 1)), hrec2 ▸ h, R, R⟩ (Wk.eq R R R R)
   replace h := iteF h hc13
   refine LH.exit (thenX (roundX (blockH (blockN (thenN (LH.loneT [(0, .lst 6 (List.map GBag.lv p0)), (3, .I (i64 (n1 + 1)))] [] R (sMi R (sN (oAdd R R (sAi R zS)))) ?_))))))
   exact roundI ⟨(i64 (n1 + 1)), hrec1 ▸ h, R, R⟩ (Wk.eq R R R R)
  replace h := iteF h hc2
  refine LH.exit (thenX (roundX (blockH (thenN (LH.seqT [(2, .I 0)] [] R (sAi R zS) (LH.ret ?_))))))
  obtain rfl := oI h
  exact retE (aT Tryz.results45) (lrT R (lr0 ⟨memN mN, R, prK R, Sub.rfl⟩))

theorem q179q {F : Nat} {p0 : List Int} {r : Bool} (h : q116q F p0 = some r) : LCall Tryz.prog 46 [.L p0] (Mem.of []) (.bool r) (Mem.of []) := by
  unfold q116q at h
  refine bodyT Tryz.func46 R (nT Tryz.ntmps46 R) (LH.wk (Wk.eq (el := [(0, .L p0)]) (ml := []) R R R R) (LH.seqT [(0, .L p0)] [] R (sAb R zS) (LH.seq (LH.seqT [(0, .L p0), (6, .bool (decide ((p0.length : Int) > 60)))] [] R (sMl R (sN (oLnL (f := LV.I) te22 R (sN (oGt R R zS))))) (LH.cond (t := (decide ((p0.length : Int) > 60))) R (fun hc1 => ?_) (fun hc1 => ?_))))))
  ·replace h := iteT h hc1
   refine LH.seqT [(2, .bool false)] [] R (sAb R zS) (LH.ret (thenR ?_))
   obtain rfl := oI h
   exact retE (aT Tryz.results46) (lrT R (lr0 ⟨memN mN, R, prK R, Sub.rfl⟩))
  replace h := iteF h hc1
  refine LH.skip (thenN (LH.wk (Wk.eq (el := [(0, .L p0)]) (ml := []) R R R R) (LH.seq (LH.seqT [(0, .L p0), (3, .I 0)] [] R (sAi R zS) (LH.block (LH.loop (fun n e m => ∃ (n2 : Int), q93q p0 n n2 = some r ∧ e = Env.of [(0, .L p0), (3, .I n2)] ∧ m = Mem.of []) F ⟨0, h, R, R⟩ ?_))))))
  clear h
  rintro n e m ⟨n2, h, rfl, rfl⟩
  rcases n with _ | n
  · cases (show Option.none = some _ from h)
  obtain ⟨rec1, hrec1⟩ : ∃ f, f = q93q p0 n := ⟨_, rfl⟩
  replace h : q136q p0 rec1 n2 = some r := hrec1 ▸ h
  unfold q136q at h
  refine LH.seq (LH.seqT [(0, .L p0), (3, .I n2), (10, .bool (decide (n2 < (p0.length : Int))))] [] R (sMi R (sMl R (sN (oLnL (f := LV.I) te22 R (sN (oLt R R zS)))))) (LH.cond (t := (decide (n2 < (p0.length : Int)))) R (fun hc3 => ?_) (fun hc3 => ?_)))
  ·replace h := iteT h hc3
   refine LH.skip (thenN (LH.wk (Wk.eq (el := [(0, .L p0), (3, .I n2)]) (ml := []) R R R R) (LH.seq (LH.block ?_))))
   obtain ⟨w5, hv, h⟩ := bindS h
   refine LH.seqJM mixed [] [0, 0, 0, 0, 0, 0, 0, 0, 0, 0, 0, 0, 0, 0, 0, 0, 0, 0, 0, 0, 0, 0, 0, 0, 0, 0, 0, 0] [(0, .L p0), (3, .I n2), (40, .bool w5)] [] R R (by kernel_rfl) ?_ ?_
   ·refine mMl R (mMi R ?_)
    obtain ⟨x6, hx6, hv⟩ := bindS hv
    refine mN0 (oIx (f := LV.I) te22 tk3 ts3 R R okI hx6 R ⟨R, mN0 (oLd R tk3 ta3 ⟨R, mN0 (oLt R R ⟨R, mMb R ?_⟩)⟩)⟩)
    by_cases hb7 : (decide (x6 < 0)) = true
    ·replace hv := iteT hv hb7
     refine mF R R hb7 (mF R R hb7 (mF R R hb7 (mF R R hb7 (mF R R hb7 (mN0 (oPkT (cB hb7) (v := (.bool _)) R ⟨R, mMb R (mF R R R (mF R R R (mF R R R (mU R R (mU R R (mU R R (mU R R (mU R R (mU R R (mU R R (mU R R (mU R R (mU R R (mF R R R (mN0 (oPkT R (v := (.bool _)) R ⟨R, ?_⟩))))))))))))))))⟩))))))
     obtain rfl := oI hv
     exact zM
    ·replace hb7 := bF hb7
     replace hv := iteF hv hb7
     refine mT R (cB hb7) (mMl R (mT R (cB hb7) (mMi R ?_)))
     obtain ⟨x8, hx8, hv⟩ := bindS hv
     refine mT R (cB hb7) (mN0 (oIx (f := LV.I) te22 tk3 ts3 R R okI hx8 R ⟨R, mT R (cB hb7) (mN0 (oLd R tk3 ta3 ⟨R, mT R (cB hb7) (mN0 (oGt R R ⟨R, mN0 (oPkF (cB hb7) (v := (.bool _)) R ⟨R, mMb R ?_⟩)⟩))⟩))⟩))
     by_cases hb9 : (decide (x8 > 9999)) = true
     ·replace hv := iteT hv hb9
      refine mF R R hb9 (mF R R hb9 (mF R R hb9 (mU R R (mU R R (mU R R (mU R R (mU R R (mU R R (mU R R (mU R R (mU R R (mU R R (mF R R hb9 (mN0 (oPkT (cB hb9) (v := (.bool _)) R ⟨R, ?_⟩)))))))))))))))
      obtain rfl := oI hv
      exact zM
     ·replace hb9 := bF hb9
      replace hv := iteF hv hb9
      refine mT R (cB hb9) (mMi R (mT R (cB hb9) (mN0 (oGt R R ⟨R, mT R (cB hb9) (mMb R ?_)⟩))))
      by_cases hb10 : (decide (n2 > 0)) = true
      ·replace hv := iteT hv hb10
       refine mT R (cB hb10) (mMl R (mT R (cB hb10) (mMi R (mT R (cB hb10) (mN0 (oSub R R ⟨R, ?_⟩))))))
       obtain ⟨x11, hx11, hv⟩ := bindS hv
       refine mT R (cB hb10) (mN0 (oIx (f := LV.I) te22 tk3 ts3 R R okI hx11 R ⟨R, mT R (cB hb10) (mN0 (oLd R tk3 ta3 ⟨R, mT R (cB hb10) (mMl R (mT R (cB hb10) (mMi R ?_)))⟩))⟩))
       obtain ⟨x12, hx12, hv⟩ := bindS hv
       refine mT R (cB hb10) (mN0 (oIx (f := LV.I) te22 tk3 ts3 R R okI hx12 R ⟨R, mT R (cB hb10) (mN0 (oLd R tk3 ta3 ⟨R, mT R (cB hb10) (mN0 (oGe R R ⟨R, mT R (cB hb9) (mN0 (oPkT (cB hb10) (v := (.bool _)) R ⟨R, mN0 (oPkF (cB hb9) (v := (.bool _)) R ⟨R, ?_⟩)⟩))⟩))⟩))⟩))
       obtain rfl := oI hv
       exact zM
      ·replace hb10 := bF hb10
       replace hv := iteF hv hb10
       refine mF R R hb10 (mF R R hb10 (mF R R hb10 (mF R R hb10 (mF R R hb10 (mF R R hb10 (mF R R hb10 (mF R R hb10 (mF R R hb10 (mF R R hb10 (mT R (cB hb9) (mN0 (oPkF (cB hb10) (v := (.bool _)) R ⟨R, mN0 (oPkF (cB hb9) (v := (.bool _)) R ⟨R, ?_⟩)⟩))))))))))))
       obtain rfl := oI hv
       exact zM
   clear hv
   refine LH.cond (t := w5) R (fun hc13 => ?_) (fun hc13 => ?_)
   ·replace h := iteT h hc13
    refine LH.seqT [(2, .bool false)] [] R (sAb R zS) (LH.ret (blockR (thenR (roundR (blockR (thenR ?_))))))
    obtain rfl := oI h
    exact retE (aT Tryz.results46) (lrT R (lr0 ⟨memN mN, R, prK R, Sub.rfl⟩))
   replace h := iteF h hc13
   refine LH.skip (blockN (thenN (LH.loneT [(0, .L p0), (3, .I (i64 (n2 + 1)))] [] R (sMi R (sN (oAdd R R (sAi R zS)))) ?_)))
   exact roundI ⟨(i64 (n2 + 1)), hrec1 ▸ h, R, R⟩ (Wk.eq R R R R)
  replace h := iteF h hc3
  refine LH.exit (thenX (roundX (blockH (thenN (LH.seqT [(2, .bool true)] [] R (sAb R zS) (LH.ret ?_))))))
  obtain rfl := oI h
  exact retE (aT Tryz.results46) (lrT R (lr0 ⟨memN mN, R, prK R, Sub.rfl⟩))

theorem q204q {F : Nat} {p0 : List GBag} {p1 : Int} {r : Int} (h : q156q F p0 p1 = some r) : LCall Tryz.prog 47 [.lst 6 (List.map GBag.lv p0), .I p1] (Mem.of []) (.I r) (Mem.of []) := by
  unfold q156q at h
  refine bodyT Tryz.func47 R (nT Tryz.ntmps47 R) (LH.wk (Wk.eq (el := [(0, .lst 6 (List.map GBag.lv p0)), (1, .I p1)]) (ml := []) R R R R) (LH.seqT [(0, .lst 6 (List.map GBag.lv p0)), (1, .I p1)] [] R (sAi R zS) (LH.seqT [(0, .lst 6 (List.map GBag.lv p0)), (1, .I p1), (5, .I 0)] [] R (sAi R zS) (LH.seq (LH.seqT [(0, .lst 6 (List.map GBag.lv p0)), (1, .I p1), (5, .I 0), (6, .I 0)] [] R (sAi R zS) (LH.block (LH.loop (fun n e m => ∃ (n1 : Int) (n2 : Int), q62q F p0 p1 n n1 n2 = some r ∧ e = Env.of [(0, .lst 6 (List.map GBag.lv p0)), (1, .I p1), (5, .I n1), (6, .I n2)] ∧ m = Mem.of []) F ⟨0, 0, h, R, R⟩ ?_)))))))
  clear h
  rintro n e m ⟨n1, n2, h, rfl, rfl⟩
  rcases n with _ | n
  · cases (show Option.none = some _ from h)
  obtain ⟨rec1, hrec1⟩ : ∃ f, f = q62q F p0 p1 n := ⟨_, rfl⟩
  replace h : q138q F p0 p1 rec1 n1 n2 = some r := hrec1 ▸ h
  unfold q138q at h
  refine LH.seq (LH.seqT [(0, .lst 6 (List.map GBag.lv p0)), (1, .I p1), (5, .I n1), (6, .I n2), (11, .bool (decide (n2 < (p0.length : Int))))] [] R (sMi R (sMl R (sN (oLnL (f := GBag.lv) te27 R (sN (oLt R R zS)))))) (LH.cond (t := (decide (n2 < (p0.length : Int)))) R (fun hc3 => ?_) (fun hc3 => ?_)))
  ·replace h := iteT h hc3
   refine LH.skip (thenN (LH.wk (Wk.eq (el := [(0, .lst 6 (List.map GBag.lv p0)), (1, .I p1), (5, .I n1), (6, .I n2)]) (ml := []) R R R R) (LH.seq (LH.block (LH.seqT [(0, .lst 6 (List.map GBag.lv p0)), (1, .I p1), (5, .I n1), (6, .I n2), (7, .I 0)] [] R (sAi R zS) (LH.block (LH.loop (fun n e m => ∃ (n4 : Int) (n5 : Int), q96q rec1 p0 p1 n2 n n4 n5 = some r ∧ e = Env.of [(0, .lst 6 (List.map GBag.lv p0)), (1, .I p1), (5, .I n4), (6, .I n2), (7, .I n5)] ∧ m = Mem.of []) F ⟨n1, 0, h, R, R⟩ ?_)))))))
   clear h
   rintro n e m ⟨n4, n5, h, rfl, rfl⟩
   rcases n with _ | n
   · cases (show Option.none = some _ from h)
   obtain ⟨rec2, hrec2⟩ : ∃ f, f = q96q rec1 p0 p1 n2 n := ⟨_, rfl⟩
   replace h : q139q rec1 p0 p1 n2 rec2 n4 n5 = some r := hrec2 ▸ h
   unfold q139q at h
   refine LH.seq ?_
   obtain ⟨x6, hx6, h⟩ := bindS h
   refine LH.seqT [(0, .lst 6 (List.map GBag.lv p0)), (1, .I p1), (5, .I n4), (6, .I n2), (7, .I n5), (21, .bool (decide (n5 < (x6.Seals.length : Int))))] [] R (sMi R (sMl R (sMi R (sN (oIx (f := GBag.lv) te27 tk43 ts43 R R GBag.ok hx6 R (sN (oFaS tf43_3 tk22 ts22 R R R (sN (oLd R tk22 ta22 (sN (oLnL (f := LV.I) te22 R (sN (oLt R R zS))))))))))))) (LH.cond (t := (decide (n5 < (x6.Seals.length : Int)))) R (fun hc7 => ?_) (fun hc7 => ?_))
   ·replace h := iteT h hc7
    refine LH.skip (thenN (LH.wk (Wk.eq (el := [(0, .lst 6 (List.map GBag.lv p0)), (1, .I p1), (5, .I n4), (6, .I n2), (7, .I n5)]) (ml := []) R R R R) (LH.seq (LH.block ?_))))
    obtain ⟨x8, hx8, h⟩ := bindS h
    obtain ⟨x9, hx9, h⟩ := bindS h
    refine LH.seqT [(0, .lst 6 (List.map GBag.lv p0)), (1, .I p1), (5, .I n4), (6, .I n2), (7, .I n5), (33, .bool (x9 == p1))] [] R (sMl R (sMi R (sN (oIx (f := GBag.lv) te27 tk43 ts43 R R GBag.ok hx8 R (sN (oFaS tf43_3 tk22 ts22 R R R (sN (oLd R tk22 ta22 (sMi R (sN (oIx (f := LV.I) te22 tk3 ts3 R R okI hx9 R (sN (oLd R tk3 ta3 (sMi R (sN (oEq R R zS)))))))))))))))) (LH.cond (t := (x9 == p1)) R (fun hc10 => ?_) (fun hc10 => ?_))
    ·replace h := iteT h hc10
     refine LH.loneT [(0, .lst 6 (List.map GBag.lv p0)), (1, .I p1), (5, .I (i64 (n4 + 1))), (6, .I n2), (7, .I n5)] [] R (sMi R (sN (oAdd R R (sAi R zS)))) (blockN (thenN (LH.loneT [(0, .lst 6 (List.map GBag.lv p0)), (1, .I p1), (5, .I (i64 (n4 + 1))), (6, .I n2), (7, .I (i64 (n5 + 1)))] [] R (sMi R (sN (oAdd R R (sAi R zS)))) ?_)))
     exact roundI ⟨(i64 (n4 + 1)), (i64 (n5 + 1)), hrec2 ▸ h, R, R⟩ (Wk.eq R R R R)
    replace h := iteF h hc10
    refine LH.skip (blockN (thenN (LH.loneT [(0, .lst 6 (List.map GBag.lv p0)), (1, .I p1), (5, .I n4), (6, .I n2), (7, .I (i64 (n5 + 1)))] [] R (sMi R (sN (oAdd R R (sAi R zS)))) ?_)))
    exact roundI ⟨n4, (i64 (n5 + 1)), hrec2 ▸ h, R, R⟩ (Wk.eq R R R R)
   replace h := iteF h hc7
   refine LH.exit (thenX (roundX (blockH (blockN (thenN (LH.loneT [(0, .lst 6 (List.map GBag.lv p0)), (1, .I p1), (5, .I n4), (6, .I (i64 (n2 + 1)))] [] R (sMi R (sN (oAdd R R (sAi R zS)))) ?_))))))
   exact roundI ⟨n4, (i64 (n2 + 1)), hrec1 ▸ h, R, R⟩ (Wk.eq R R R R)
  replace h := iteF h hc3
  refine LH.exit (thenX (roundX (blockH (thenN (LH.seqT [(4, .I n1)] [] R (sMi R (sAi R zS)) (LH.ret ?_))))))
  obtain rfl := oI h
  exact retE (aT Tryz.results47) (lrT R (lr0 ⟨memN mN, R, prK R, Sub.rfl⟩))

theorem q201q {F : Nat} {p0 : List Int} {p1 : Int} {r : Bool} (h : ref06_Has F p0 p1 = some r) : LCall Tryz.prog 39 [.L p0, .I p1] (Mem.of []) (.bool r) (Mem.of []) := by
  unfold ref06_Has at h
  refine bodyT Tryz.func39 R (nT Tryz.ntmps39 R) (LH.wk (Wk.eq (el := [(0, .L p0), (1, .I p1)]) (ml := []) R R R R) (LH.seqT [(0, .L p0), (1, .I p1)] [] R (sAb R zS) (LH.seq (LH.seqT [(0, .L p0), (1, .I p1), (5, .I 0)] [] R (sAi R zS) (LH.block (LH.loop (fun n e m => ∃ (n1 : Int), q65q p0 p1 n n1 = some r ∧ e = Env.of [(0, .L p0), (1, .I p1), (5, .I n1)] ∧ m = Mem.of []) F ⟨0, h, R, R⟩ ?_))))))
  clear h
  rintro n e m ⟨n1, h, rfl, rfl⟩
  rcases n with _ | n
  · cases (show Option.none = some _ from h)
  obtain ⟨rec1, hrec1⟩ : ∃ f, f = q65q p0 p1 n := ⟨_, rfl⟩
  replace h : q107q p0 p1 rec1 n1 = some r := hrec1 ▸ h
  unfold q107q at h
  refine LH.seq (LH.seqT [(0, .L p0), (1, .I p1), (5, .I n1), (9, .bool (decide (n1 < (p0.length : Int))))] [] R (sMi R (sMl R (sN (oLnL (f := LV.I) te22 R (sN (oLt R R zS)))))) (LH.cond (t := (decide (n1 < (p0.length : Int)))) R (fun hc2 => ?_) (fun hc2 => ?_)))
  ·replace h := iteT h hc2
   refine LH.skip (thenN (LH.wk (Wk.eq (el := [(0, .L p0), (1, .I p1), (5, .I n1)]) (ml := []) R R R R) (LH.seq (LH.block ?_))))
   obtain ⟨x3, hx3, h⟩ := bindS h
   refine LH.seqT [(0, .L p0), (1, .I p1), (5, .I n1), (17, .bool (x3 == p1))] [] R (sMl R (sMi R (sN (oIx (f := LV.I) te22 tk3 ts3 R R okI hx3 R (sN (oLd R tk3 ta3 (sMi R (sN (oEq R R zS))))))))) (LH.cond (t := (x3 == p1)) R (fun hc4 => ?_) (fun hc4 => ?_))
   ·replace h := iteT h hc4
    refine LH.seqT [(4, .bool true)] [] R (sAb R zS) (LH.ret (blockR (thenR (roundR (blockR (thenR ?_))))))
    obtain rfl := oI h
    exact retE (aT Tryz.results39) (lrT R (lr0 ⟨memN mN, R, prK R, Sub.rfl⟩))
   replace h := iteF h hc4
   refine LH.skip (blockN (thenN (LH.loneT [(0, .L p0), (1, .I p1), (5, .I (i64 (n1 + 1)))] [] R (sMi R (sN (oAdd R R (sAi R zS)))) ?_)))
   exact roundI ⟨(i64 (n1 + 1)), hrec1 ▸ h, R, R⟩ (Wk.eq R R R R)
  replace h := iteF h hc2
  refine LH.exit (thenX (roundX (blockH (thenN (LH.seqT [(4, .bool false)] [] R (sAb R zS) (LH.ret ?_))))))
  obtain rfl := oI h
  exact retE (aT Tryz.results39) (lrT R (lr0 ⟨memN mN, R, prK R, Sub.rfl⟩))

theorem q238q {F : Nat} {p0 : List GBag} {p1 : Int} {r : Int} (h : q183q F p0 p1 = some r) : LCall Tryz.prog 48 [.lst 6 (List.map GBag.lv p0), .I p1] (Mem.of []) (.I r) (Mem.of []) := by
  unfold q183q at h
  refine bodyT Tryz.func48 R (nT Tryz.ntmps48 R) (LH.wk (Wk.eq (el := [(0, .lst 6 (List.map GBag.lv p0)), (1, .I p1)]) (ml := []) R R R R) (LH.seqT [(0, .lst 6 (List.map GBag.lv p0)), (1, .I p1)] [] R (sAi R zS) (LH.seqT [(0, .lst 6 (List.map GBag.lv p0)), (1, .I p1), (5, .I 0)] [] R (sAi R zS) (LH.seq (LH.seqT [(0, .lst 6 (List.map GBag.lv p0)), (1, .I p1), (5, .I 0), (6, .I 0)] [] R (sAi R zS) (LH.block (LH.loop (fun n e m => ∃ (n1 : Int) (n2 : Int), q95q F p0 p1 n n1 n2 = some r ∧ e = Env.of [(0, .lst 6 (List.map GBag.lv p0)), (1, .I p1), (5, .I n1), (6, .I n2)] ∧ m = Mem.of []) F ⟨0, 0, h, R, R⟩ ?_)))))))
  clear h
  rintro n e m ⟨n1, n2, h, rfl, rfl⟩
  rcases n with _ | n
  · cases (show Option.none = some _ from h)
  obtain ⟨rec1, hrec1⟩ : ∃ f, f = q95q F p0 p1 n := ⟨_, rfl⟩
  replace h : q137q F p0 p1 rec1 n1 n2 = some r := hrec1 ▸ h
  unfold q137q at h
  refine LH.seq (LH.seqT [(0, .lst 6 (List.map GBag.lv p0)), (1, .I p1), (5, .I n1), (6, .I n2), (10, .bool (decide (n2 < (p0.length : Int))))] [] R (sMi R (sMl R (sN (oLnL (f := GBag.lv) te27 R (sN (oLt R R zS)))))) (LH.cond (t := (decide (n2 < (p0.length : Int)))) R (fun hc3 => ?_) (fun hc3 => ?_)))
  ·replace h := iteT h hc3
   refine LH.skip (thenN (LH.wk (Wk.eq (el := [(0, .lst 6 (List.map GBag.lv p0)), (1, .I p1), (5, .I n1), (6, .I n2)]) (ml := []) R R R R) (LH.seq (LH.block ?_))))
   obtain ⟨x4, hx4, h⟩ := bindS h
   obtain ⟨r5, hr5, h⟩ := bindS h
   refine LH.seqT [(0, .lst 6 (List.map GBag.lv p0)), (1, .I p1), (5, .I n1), (6, .I n2), (19, .bool r5)] [] R (sMl R (sMi R (sN (oIx (f := GBag.lv) te27 tk43 ts43 R R GBag.ok hx4 R (sN (oFaS tf43_4 tk22 ts22 R R R (sN (oLd R tk22 ta22 (sMi R (sN (oCP (args := [.L x4.Packed, .I p1]) R isF39 R (sbR (sbR sbN)) (q201q hr5) R zS))))))))))) (LH.cond (t := r5) R (fun hc6 => ?_) (fun hc6 => ?_))
   ·replace h := iteT h hc6
    refine LH.loneT [(0, .lst 6 (List.map GBag.lv p0)), (1, .I p1), (5, .I (i64 (n1 + 1))), (6, .I n2)] [] R (sMi R (sN (oAdd R R (sAi R zS)))) (blockN (thenN (LH.loneT [(0, .lst 6 (List.map GBag.lv p0)), (1, .I p1), (5, .I (i64 (n1 + 1))), (6, .I (i64 (n2 + 1)))] [] R (sMi R (sN (oAdd R R (sAi R zS)))) ?_)))
    exact roundI ⟨(i64 (n1 + 1)), (i64 (n2 + 1)), hrec1 ▸ h, R, R⟩ (Wk.eq R R R R)
   replace h := iteF h hc6
   refine LH.skip (blockN (thenN (LH.loneT [(0, .lst 6 (List.map GBag.lv p0)), (1, .I p1), (5, .I n1), (6, .I (i64 (n2 + 1)))] [] R (sMi R (sN (oAdd R R (sAi R zS)))) ?_)))
   exact roundI ⟨n1, (i64 (n2 + 1)), hrec1 ▸ h, R, R⟩ (Wk.eq R R R R)
  replace h := iteF h hc3
  refine LH.exit (thenX (roundX (blockH (thenN (LH.seqT [(4, .I n1)] [] R (sMi R (sAi R zS)) (LH.ret ?_))))))
  obtain rfl := oI h
  exact retE (aT Tryz.results48) (lrT R (lr0 ⟨memN mN, R, prK R, Sub.rfl⟩))

set_option maxHeartbeats 4000000 in
theorem q274q {F : Nat} {p0 : List GBag} {r : Int} (h : q194q F p0 = some r) : LCall Tryz.prog 25 [.lst 6 (List.map GBag.lv p0)] (Mem.of []) (.I r) (Mem.of []) := by
  unfold q194q at h
  refine bodyT Tryz.func25 R (nT Tryz.ntmps25 R) (LH.wk (Wk.eq (el := [(0, .lst 6 (List.map GBag.lv p0))]) (ml := []) R R R R) (LH.seqT [(0, .lst 6 (List.map GBag.lv p0))] [] R (sAi R zS) (LH.seq (LH.seqT [(0, .lst 6 (List.map GBag.lv p0)), (12, .bool (decide ((p0.length : Int) > 20)))] [] R (sMl R (sN (oLnL (f := GBag.lv) te27 R (sN (oGt R R zS))))) (LH.cond (t := (decide ((p0.length : Int) > 20))) R (fun hc1 => ?_) (fun hc1 => ?_))))))
  ·replace h := iteT h hc1
   refine LH.seqT [(2, .I 3)] [] R (sAi R zS) (LH.ret (thenR ?_))
   obtain rfl := oI h
   exact retE (aT Tryz.results25) (lrT R (lr0 ⟨memN mN, R, prK R, Sub.rfl⟩))
  replace h := iteF h hc1
  refine LH.skip (thenN (LH.wk (Wk.eq (el := [(0, .lst 6 (List.map GBag.lv p0))]) (ml := []) R R R R) (LH.seq ?_)))
  obtain ⟨r2, hr2, h⟩ := bindS h
  refine LH.seqT [(0, .lst 6 (List.map GBag.lv p0)), (3, .I r2)] [] R (sMl R (sN (oCP (args := [.lst 6 (List.map GBag.lv p0)]) R isF45 R (sbR sbN) (q260q hr2) R (sAi R zS)))) (LH.seqT [(0, .lst 6 (List.map GBag.lv p0)), (3, .I r2), (16, .bool (r2 != 0))] [] R (sMi R (sN (oNe R R zS))) (LH.cond (t := (r2 != 0)) R (fun hc3 => ?_) (fun hc3 => ?_)))
  ·replace h := iteT h hc3
   refine LH.seqT [(2, .I r2)] [] R (sMi R (sAi R zS)) (LH.ret (thenR ?_))
   obtain rfl := oI h
   exact retE (aT Tryz.results25) (lrT R (lr0 ⟨memN mN, R, prK R, Sub.rfl⟩))
  replace h := iteF h hc3
  refine LH.skip (thenN (LH.wk (Wk.eq (el := [(0, .lst 6 (List.map GBag.lv p0))]) (ml := []) R R R R) (LH.seq (LH.seqT [(0, .lst 6 (List.map GBag.lv p0)), (4, .I 0)] [] R (sAi R zS) (LH.block (LH.loop (fun n e m => ∃ (n4 : Int), q108q F p0 n n4 = some r ∧ e = Env.of [(0, .lst 6 (List.map GBag.lv p0)), (4, .I n4)] ∧ m = Mem.of []) F ⟨0, h, R, R⟩ ?_))))))
  clear h
  rintro n e m ⟨n4, h, rfl, rfl⟩
  rcases n with _ | n
  · cases (show Option.none = some _ from h)
  obtain ⟨rec1, hrec1⟩ : ∃ f, f = q108q F p0 n := ⟨_, rfl⟩
  replace h : q148q F p0 rec1 n4 = some r := hrec1 ▸ h
  unfold q148q at h
  refine LH.seq (LH.seqT [(0, .lst 6 (List.map GBag.lv p0)), (4, .I n4), (21, .bool (decide (n4 < (p0.length : Int))))] [] R (sMi R (sMl R (sN (oLnL (f := GBag.lv) te27 R (sN (oLt R R zS)))))) (LH.cond (t := (decide (n4 < (p0.length : Int)))) R (fun hc5 => ?_) (fun hc5 => ?_)))
  ·replace h := iteT h hc5
   refine LH.skip (thenN (LH.wk (Wk.eq (el := [(0, .lst 6 (List.map GBag.lv p0)), (4, .I n4)]) (ml := []) R R R R) (LH.seq (LH.block ?_))))
   obtain ⟨w7, hv, h⟩ := bindS h
   refine LH.seqT [(0, .lst 6 (List.map GBag.lv p0)), (4, .I n4), (39, .bool w7)] [] R ?_ ?_
   ·refine sMl R (sMi R ?_)
    obtain ⟨x8, hx8, hv⟩ := bindS hv
    refine sN (oIx (f := GBag.lv) te27 tk43 ts43 R R GBag.ok hx8 R (sN (oFaS tf43_4 tk22 ts22 R R R (sN (oLd R tk22 ta22 ?_)))))
    obtain ⟨r9, hr9, hv⟩ := bindS hv
    refine sN (oCP (args := [.L x8.Packed]) R isF46 R (sbR sbN) (q179q hr9) R (sN (oNot R (sMb R ?_))))
    by_cases hb10 : (!r9) = true
    ·replace hv := iteT hv hb10
     refine sF R R hb10 (sF R R hb10 (sF R R hb10 (sF R R hb10 (sF R R hb10 (sF R R hb10 (sF R R hb10 (sN (oPkT (cB hb10) (v := (.bool _)) R ?_))))))))
     obtain rfl := oI hv
     exact zS
    ·replace hb10 := bF hb10
     replace hv := iteF hv hb10
     refine sT R (cB hb10) (oM (v := (.lst _ _)) R (sT R (cB hb10) (oM (v := (.int _ _)) R ?_)))
     obtain ⟨x11, hx11, hv⟩ := bindS hv
     refine sT R (cB hb10) (oIx (f := GBag.lv) te27 tk43 ts43 R R GBag.ok hx11 R (sT R (cB hb10) (oFaS tf43_5 tk22 ts22 R R R (sT R (cB hb10) (oLd R tk22 ta22 ?_)))))
     obtain ⟨r12, hr12, hv⟩ := bindS hv
     refine sT R (cB hb10) (oCP (args := [.L x11.Found]) R isF46 R (sbR sbN) (q179q hr12) R (sT R (cB hb10) (oNot R (sN (oPkF (cB hb10) (v := (.bool _)) R ?_)))))
     obtain rfl := oI hv
     exact zS
   clear hv
   refine LH.cond (t := w7) R (fun hc13 => ?_) (fun hc13 => ?_)
   ·replace h := iteT h hc13
    refine LH.seqT [(2, .I 1)] [] R (sAi R zS) (LH.ret (blockR (thenR (roundR (blockR (thenR ?_))))))
    obtain rfl := oI h
    exact retE (aT Tryz.results25) (lrT R (lr0 ⟨memN mN, R, prK R, Sub.rfl⟩))
   replace h := iteF h hc13
   refine LH.skip (blockN (thenN (LH.loneT [(0, .lst 6 (List.map GBag.lv p0)), (4, .I (i64 (n4 + 1)))] [] R (sMi R (sN (oAdd R R (sAi R zS)))) ?_)))
   exact roundI ⟨(i64 (n4 + 1)), hrec1 ▸ h, R, R⟩ (Wk.eq R R R R)
  replace h := iteF h hc5
  refine LH.exit (thenX (roundX (blockH (thenN (LH.wk (Wk.eq (el := [(0, .lst 6 (List.map GBag.lv p0))]) (ml := []) R R R R) (LH.seq (LH.seqT [(0, .lst 6 (List.map GBag.lv p0)), (5, .I 0)] [] R (sAi R zS) (LH.block (LH.loop (fun n e m => ∃ (n14 : Int), q76q F p0 n n14 = some r ∧ e = Env.of [(0, .lst 6 (List.map GBag.lv p0)), (5, .I n14)] ∧ m = Mem.of []) F ⟨0, h, R, R⟩ ?_)))))))))
  clear h
  rintro n e m ⟨n14, h, rfl, rfl⟩
  rcases n with _ | n
  · cases (show Option.none = some _ from h)
  obtain ⟨rec2, hrec2⟩ : ∃ f, f = q76q F p0 n := ⟨_, rfl⟩
  replace h : q149q F p0 rec2 n14 = some r := hrec2 ▸ h
  unfold q149q at h
  refine LH.seq (LH.seqT [(0, .lst 6 (List.map GBag.lv p0)), (5, .I n14), (43, .bool (decide (n14 < (p0.length : Int))))] [] R (sMi R (sMl R (sN (oLnL (f := GBag.lv) te27 R (sN (oLt R R zS)))))) (LH.cond (t := (decide (n14 < (p0.length : Int)))) R (fun hc15 => ?_) (fun hc15 => ?_)))
  ·replace h := iteT h hc15
   refine LH.skip (thenN (LH.wk (Wk.eq (el := [(0, .lst 6 (List.map GBag.lv p0)), (5, .I n14)]) (ml := []) R R R R) (LH.seq (LH.block ?_))))
   obtain ⟨w17, hv, h⟩ := bindS h
   refine LH.seqT [(0, .lst 6 (List.map GBag.lv p0)), (5, .I n14), (75, .bool w17)] [] R ?_ ?_
   ·refine sMl R (sMi R ?_)
    obtain ⟨x18, hx18, hv⟩ := bindS hv
    refine sN (oIx (f := GBag.lv) te27 tk43 ts43 R R GBag.ok hx18 R (sN (oFaS tf43_2 tk4 ts4 R R R (sN (oLd R tk4 ta4 (sN (oNot R (sMb R ?_))))))))
    by_cases hb19 : (!x18.Open) = true
    ·replace hv := iteT hv hb19
     refine sT R (cB hb19) (oM (v := (.lst _ _)) R (sT R (cB hb19) (oM (v := (.int _ _)) R ?_)))
     obtain ⟨x20, hx20, hv⟩ := bindS hv
     refine sT R (cB hb19) (oIx (f := GBag.lv) te27 tk43 ts43 R R GBag.ok hx20 R (sT R (cB hb19) (oFaS tf43_5 tk22 ts22 R R R (sT R (cB hb19) (oLd R tk22 ta22 (sT R (cB hb19) (oLnL (f := LV.I) te22 R (sT R (cB hb19) (oGt R R (sN (oPkT (cB hb19) (v := (.bool _)) R (sMb R ?_))))))))))))
     by_cases hb21 : (decide ((x20.Found.length : Int) > 0)) = true
     ·replace hv := iteT hv hb21
      refine sF R R hb21 (sF R R hb21 (sF R R hb21 (sF R R hb21 (sF R R hb21 (sF R R hb21 (sU R R (sU R R (sU R R (sU R R (sU R R (sU R R (sF R R hb21 (sN (oPkT (cB hb21) (v := (.bool _)) R ?_))))))))))))))
      obtain rfl := oI hv
      exact zS
     ·replace hb21 := bF hb21
      replace hv := iteF hv hb21
      refine sT R (cB hb21) (oM (v := (.lst _ _)) R (sT R (cB hb21) (oM (v := (.int _ _)) R ?_)))
      obtain ⟨x22, hx22, hv⟩ := bindS hv
      refine sT R (cB hb21) (oIx (f := GBag.lv) te27 tk43 ts43 R R GBag.ok hx22 R (sT R (cB hb21) (oFaS tf43_2 tk4 ts4 R R R (sT R (cB hb21) (oLd R tk4 ta4 (sT R (cB hb21) (oM (v := (.bool _)) R ?_)))))))
      by_cases hb23 : x22.Open = true
      ·replace hv := iteT hv hb23
       refine sT R (cB hb23) (oM (v := (.lst _ _)) R (sT R (cB hb23) (oM (v := (.int _ _)) R ?_)))
       obtain ⟨x24, hx24, hv⟩ := bindS hv
       refine sT R (cB hb23) (oIx (f := GBag.lv) te27 tk43 ts43 R R GBag.ok hx24 R (sT R (cB hb23) (oFaS tf43_1 tk3 ts3 R R R (sT R (cB hb23) (oLd R tk3 ta3 (sT R (cB hb23) (oNe R R (sT R (cB hb21) (oPkT (cB hb23) (v := (.bool _)) R (sN (oPkF (cB hb21) (v := (.bool _)) R ?_)))))))))))
       obtain rfl := oI hv
       exact zS
      ·replace hb23 := bF hb23
       replace hv := iteF hv hb23
       refine sF R R hb23 (sF R R hb23 (sF R R hb23 (sF R R hb23 (sF R R hb23 (sF R R hb23 (sT R (cB hb21) (oPkF (cB hb23) (v := (.bool _)) R (sN (oPkF (cB hb21) (v := (.bool _)) R ?_)))))))))
       obtain rfl := oI hv
       exact zS
    ·replace hb19 := bF hb19
     replace hv := iteF hv hb19
     refine sF R R hb19 (sF R R hb19 (sF R R hb19 (sF R R hb19 (sF R R hb19 (sF R R hb19 (sF R R hb19 (sN (oPkF (cB hb19) (v := (.bool _)) R (sMb R (sT R R (oM (v := (.lst _ _)) R (sT R R (oM (v := (.int _ _)) R ?_)))))))))))))
     obtain ⟨x25, hx25, hv⟩ := bindS hv
     refine sT R R (oIx (f := GBag.lv) te27 tk43 ts43 R R GBag.ok hx25 R (sT R R (oFaS tf43_2 tk4 ts4 R R R (sT R R (oLd R tk4 ta4 (sT R R (oM (v := (.bool _)) R ?_)))))))
     by_cases hb26 : x25.Open = true
     ·replace hv := iteT hv hb26
      refine sT R (cB hb26) (oM (v := (.lst _ _)) R (sT R (cB hb26) (oM (v := (.int _ _)) R ?_)))
      obtain ⟨x27, hx27, hv⟩ := bindS hv
      refine sT R (cB hb26) (oIx (f := GBag.lv) te27 tk43 ts43 R R GBag.ok hx27 R (sT R (cB hb26) (oFaS tf43_1 tk3 ts3 R R R (sT R (cB hb26) (oLd R tk3 ta3 (sT R (cB hb26) (oNe R R (sT R R (oPkT (cB hb26) (v := (.bool _)) R (sN (oPkF R (v := (.bool _)) R ?_)))))))))))
      obtain rfl := oI hv
      exact zS
     ·replace hb26 := bF hb26
      replace hv := iteF hv hb26
      refine sF R R hb26 (sF R R hb26 (sF R R hb26 (sF R R hb26 (sF R R hb26 (sF R R hb26 (sT R R (oPkF (cB hb26) (v := (.bool _)) R (sN (oPkF R (v := (.bool _)) R ?_)))))))))
      obtain rfl := oI hv
      exact zS
   clear hv
   refine LH.cond (t := w17) R (fun hc28 => ?_) (fun hc28 => ?_)
   ·replace h := iteT h hc28
    refine LH.seqT [(2, .I 8)] [] R (sAi R zS) (LH.ret (blockR (thenR (roundR (blockR (thenR ?_))))))
    obtain rfl := oI h
    exact retE (aT Tryz.results25) (lrT R (lr0 ⟨memN mN, R, prK R, Sub.rfl⟩))
   replace h := iteF h hc28
   refine LH.skip (blockN (thenN (LH.loneT [(0, .lst 6 (List.map GBag.lv p0)), (5, .I (i64 (n14 + 1)))] [] R (sMi R (sN (oAdd R R (sAi R zS)))) ?_)))
   exact roundI ⟨(i64 (n14 + 1)), hrec2 ▸ h, R, R⟩ (Wk.eq R R R R)
  replace h := iteF h hc15
  refine LH.exit (thenX (roundX (blockH (thenN (LH.wk (Wk.eq (el := [(0, .lst 6 (List.map GBag.lv p0))]) (ml := []) R R R R) (LH.seq (LH.seqT [(0, .lst 6 (List.map GBag.lv p0)), (6, .I 1)] [] R (sAi R zS) (LH.block (LH.loop (fun n e m => ∃ (n29 : Int), q48q F p0 n n29 = some r ∧ e = Env.of [(0, .lst 6 (List.map GBag.lv p0)), (6, .I n29)] ∧ m = Mem.of []) F ⟨1, h, R, R⟩ ?_)))))))))
  clear h
  rintro n e m ⟨n29, h, rfl, rfl⟩
  rcases n with _ | n
  · cases (show Option.none = some _ from h)
  obtain ⟨rec3, hrec3⟩ : ∃ f, f = q48q F p0 n := ⟨_, rfl⟩
  replace h : q109q F p0 rec3 n29 = some r := hrec3 ▸ h
  unfold q109q at h
  refine LH.seq (LH.seqT [(0, .lst 6 (List.map GBag.lv p0)), (6, .I n29), (79, .bool (decide (n29 < (p0.length : Int))))] [] R (sMi R (sMl R (sN (oLnL (f := GBag.lv) te27 R (sN (oLt R R zS)))))) (LH.cond (t := (decide (n29 < (p0.length : Int)))) R (fun hc30 => ?_) (fun hc30 => ?_)))
  ·replace h := iteT h hc30
   refine LH.skip (thenN (LH.wk (Wk.eq (el := [(0, .lst 6 (List.map GBag.lv p0)), (6, .I n29)]) (ml := []) R R R R) (LH.seq (LH.block ?_))))
   obtain ⟨x31, hx31, h⟩ := bindS h
   obtain ⟨x32, hx32, h⟩ := bindS h
   refine LH.seqJM mixed [] [0, 0, 0, 0, 0, 0, 0, 0, 0, 0, 0, 0] [(0, .lst 6 (List.map GBag.lv p0)), (6, .I n29), (93, .bool (decide (x31.Bag ≥ x32.Bag)))] [] R R (by kernel_rfl) (mMl R (mMi R (mN0 (oSub R R ⟨R, mN0 (oIx (f := GBag.lv) te27 tk43 ts43 R R GBag.ok hx31 R ⟨R, mN0 (oFaS tf43_0 tk3 ts3 R R R ⟨R, mN0 (oLd R tk3 ta3 ⟨R, mMl R (mMi R (mN0 (oIx (f := GBag.lv) te27 tk43 ts43 R R GBag.ok hx32 R ⟨R, mN0 (oFaS tf43_0 tk3 ts3 R R R ⟨R, mN0 (oLd R tk3 ta3 ⟨R, mN0 (oGe R R ⟨R, zM⟩)⟩)⟩)⟩)))⟩)⟩)⟩)⟩)))) (LH.cond (t := (decide (x31.Bag ≥ x32.Bag))) R (fun hc33 => ?_) (fun hc33 => ?_))
   ·replace h := iteT h hc33
    refine LH.seqT [(2, .I 5)] [] R (sAi R zS) (LH.ret (blockR (thenR (roundR (blockR (thenR ?_))))))
    obtain rfl := oI h
    exact retE (aT Tryz.results25) (lrT R (lr0 ⟨memN mN, R, prK R, Sub.rfl⟩))
   replace h := iteF h hc33
   refine LH.skip (blockN (thenN (LH.loneT [(0, .lst 6 (List.map GBag.lv p0)), (6, .I (i64 (n29 + 1)))] [] R (sMi R (sN (oAdd R R (sAi R zS)))) ?_)))
   exact roundI ⟨(i64 (n29 + 1)), hrec3 ▸ h, R, R⟩ (Wk.eq R R R R)
  replace h := iteF h hc30
  refine LH.exit (thenX (roundX (blockH (thenN (LH.wk (Wk.eq (el := [(0, .lst 6 (List.map GBag.lv p0))]) (ml := []) R R R R) (LH.seq (LH.seqT [(0, .lst 6 (List.map GBag.lv p0)), (7, .I 0)] [] R (sAi R zS) (LH.block (LH.loop (fun n e m => ∃ (n34 : Int), q39q F p0 n n34 = some r ∧ e = Env.of [(0, .lst 6 (List.map GBag.lv p0)), (7, .I n34)] ∧ m = Mem.of []) F ⟨0, h, R, R⟩ ?_)))))))))
  clear h
  rintro n e m ⟨n34, h, rfl, rfl⟩
  rcases n with _ | n
  · cases (show Option.none = some _ from h)
  obtain ⟨rec4, hrec4⟩ : ∃ f, f = q39q F p0 n := ⟨_, rfl⟩
  replace h : q150q F p0 rec4 n34 = some r := hrec4 ▸ h
  unfold q150q at h
  refine LH.seq (LH.seqT [(0, .lst 6 (List.map GBag.lv p0)), (7, .I n34), (97, .bool (decide (n34 < (p0.length : Int))))] [] R (sMi R (sMl R (sN (oLnL (f := GBag.lv) te27 R (sN (oLt R R zS)))))) (LH.cond (t := (decide (n34 < (p0.length : Int)))) R (fun hc35 => ?_) (fun hc35 => ?_)))
  ·replace h := iteT h hc35
   refine LH.skip (thenN (LH.wk (Wk.eq (el := [(0, .lst 6 (List.map GBag.lv p0)), (7, .I n34)]) (ml := []) R R R R) (LH.seq (LH.block (LH.seq (LH.seqT [(0, .lst 6 (List.map GBag.lv p0)), (7, .I n34), (8, .I 0)] [] R (sAi R zS) (LH.block (LH.loop (fun n e m => ∃ (n36 : Int), q110q rec4 F p0 n34 n n36 = some r ∧ e = Env.of [(0, .lst 6 (List.map GBag.lv p0)), (7, .I n34), (8, .I n36)] ∧ m = Mem.of []) F ⟨0, h, R, R⟩ ?_))))))))
   clear h
   rintro n e m ⟨n36, h, rfl, rfl⟩
   rcases n with _ | n
   · cases (show Option.none = some _ from h)
   obtain ⟨rec5, hrec5⟩ : ∃ f, f = q110q rec4 F p0 n34 n := ⟨_, rfl⟩
   replace h : q151q rec4 F p0 n34 rec5 n36 = some r := hrec5 ▸ h
   unfold q151q at h
   refine LH.seq ?_
   obtain ⟨x37, hx37, h⟩ := bindS h
   refine LH.seqT [(0, .lst 6 (List.map GBag.lv p0)), (7, .I n34), (8, .I n36), (107, .bool (decide (n36 < (x37.Seals.length : Int))))] [] R (sMi R (sMl R (sMi R (sN (oIx (f := GBag.lv) te27 tk43 ts43 R R GBag.ok hx37 R (sN (oFaS tf43_3 tk22 ts22 R R R (sN (oLd R tk22 ta22 (sN (oLnL (f := LV.I) te22 R (sN (oLt R R zS))))))))))))) (LH.cond (t := (decide (n36 < (x37.Seals.length : Int)))) R (fun hc38 => ?_) (fun hc38 => ?_))
   ·replace h := iteT h hc38
    refine LH.skip (thenN (LH.wk (Wk.eq (el := [(0, .lst 6 (List.map GBag.lv p0)), (7, .I n34), (8, .I n36)]) (ml := []) R R R R) (LH.seq (LH.block ?_))))
    obtain ⟨x39, hx39, h⟩ := bindS h
    obtain ⟨x40, hx40, h⟩ := bindS h
    obtain ⟨r41, hr41, h⟩ := bindS h
    refine LH.seqT [(0, .lst 6 (List.map GBag.lv p0)), (7, .I n34), (8, .I n36), (120, .bool (decide (r41 > 1)))] [] R (sMl R (sMl R (sMi R (sN (oIx (f := GBag.lv) te27 tk43 ts43 R R GBag.ok hx39 R (sN (oFaS tf43_3 tk22 ts22 R R R (sN (oLd R tk22 ta22 (sMi R (sN (oIx (f := LV.I) te22 tk3 ts3 R R okI hx40 R (sN (oLd R tk3 ta3 (sN (oCP (args := [.lst 6 (List.map GBag.lv p0), .I x40]) R isF47 R (sbR (sbR sbN)) (q204q hr41) R (sN (oGt R R zS)))))))))))))))))) (LH.cond (t := (decide (r41 > 1))) R (fun hc42 => ?_) (fun hc42 => ?_))
    ·replace h := iteT h hc42
     refine LH.seqT [(2, .I 9)] [] R (sAi R zS) (LH.ret (blockR (thenR (roundR (blockR (thenR (blockR (thenR (roundR (blockR (thenR ?_)))))))))))
     obtain rfl := oI h
     exact retE (aT Tryz.results25) (lrT R (lr0 ⟨memN mN, R, prK R, Sub.rfl⟩))
    replace h := iteF h hc42
    refine LH.skip (blockN (thenN (LH.loneT [(0, .lst 6 (List.map GBag.lv p0)), (7, .I n34), (8, .I (i64 (n36 + 1)))] [] R (sMi R (sN (oAdd R R (sAi R zS)))) ?_)))
    exact roundI ⟨(i64 (n36 + 1)), hrec5 ▸ h, R, R⟩ (Wk.eq R R R R)
   replace h := iteF h hc38
   refine LH.exit (thenX (roundX (blockH (thenN (LH.seqT [(0, .lst 6 (List.map GBag.lv p0)), (7, .I n34), (9, .I 0)] [] R (sAi R zS) (LH.block (LH.loop (fun n e m => ∃ (n43 : Int), q77q rec4 F p0 n34 n n43 = some r ∧ e = Env.of [(0, .lst 6 (List.map GBag.lv p0)), (7, .I n34), (9, .I n43)] ∧ m = Mem.of []) F ⟨0, h, R, R⟩ ?_)))))))
   clear h
   rintro n e m ⟨n43, h, rfl, rfl⟩
   rcases n with _ | n
   · cases (show Option.none = some _ from h)
   obtain ⟨rec6, hrec6⟩ : ∃ f, f = q77q rec4 F p0 n34 n := ⟨_, rfl⟩
   replace h : q152q rec4 F p0 n34 rec6 n43 = some r := hrec6 ▸ h
   unfold q152q at h
   refine LH.seq ?_
   obtain ⟨x44, hx44, h⟩ := bindS h
   refine LH.seqT [(0, .lst 6 (List.map GBag.lv p0)), (7, .I n34), (9, .I n43), (128, .bool (decide (n43 < (x44.Packed.length : Int))))] [] R (sMi R (sMl R (sMi R (sN (oIx (f := GBag.lv) te27 tk43 ts43 R R GBag.ok hx44 R (sN (oFaS tf43_4 tk22 ts22 R R R (sN (oLd R tk22 ta22 (sN (oLnL (f := LV.I) te22 R (sN (oLt R R zS))))))))))))) (LH.cond (t := (decide (n43 < (x44.Packed.length : Int)))) R (fun hc45 => ?_) (fun hc45 => ?_))
   ·replace h := iteT h hc45
    refine LH.skip (thenN (LH.wk (Wk.eq (el := [(0, .lst 6 (List.map GBag.lv p0)), (7, .I n34), (9, .I n43)]) (ml := []) R R R R) (LH.seq (LH.block ?_))))
    obtain ⟨x46, hx46, h⟩ := bindS h
    obtain ⟨x47, hx47, h⟩ := bindS h
    obtain ⟨r48, hr48, h⟩ := bindS h
    refine LH.seqT [(0, .lst 6 (List.map GBag.lv p0)), (7, .I n34), (9, .I n43), (141, .bool (decide (r48 > 1)))] [] R (sMl R (sMl R (sMi R (sN (oIx (f := GBag.lv) te27 tk43 ts43 R R GBag.ok hx46 R (sN (oFaS tf43_4 tk22 ts22 R R R (sN (oLd R tk22 ta22 (sMi R (sN (oIx (f := LV.I) te22 tk3 ts3 R R okI hx47 R (sN (oLd R tk3 ta3 (sN (oCP (args := [.lst 6 (List.map GBag.lv p0), .I x47]) R isF48 R (sbR (sbR sbN)) (q238q hr48) R (sN (oGt R R zS)))))))))))))))))) (LH.cond (t := (decide (r48 > 1))) R (fun hc49 => ?_) (fun hc49 => ?_))
    ·replace h := iteT h hc49
     refine LH.seqT [(2, .I 9)] [] R (sAi R zS) (LH.ret (blockR (thenR (roundR (blockR (blockR (thenR (roundR (blockR (thenR ?_))))))))))
     obtain rfl := oI h
     exact retE (aT Tryz.results25) (lrT R (lr0 ⟨memN mN, R, prK R, Sub.rfl⟩))
    replace h := iteF h hc49
    refine LH.skip (blockN (thenN (LH.loneT [(0, .lst 6 (List.map GBag.lv p0)), (7, .I n34), (9, .I (i64 (n43 + 1)))] [] R (sMi R (sN (oAdd R R (sAi R zS)))) ?_)))
    exact roundI ⟨(i64 (n43 + 1)), hrec6 ▸ h, R, R⟩ (Wk.eq R R R R)
   replace h := iteF h hc45
   refine LH.exit (thenX (roundX (blockH (blockN (thenN (LH.loneT [(0, .lst 6 (List.map GBag.lv p0)), (7, .I (i64 (n34 + 1)))] [] R (sMi R (sN (oAdd R R (sAi R zS)))) ?_))))))
   exact roundI ⟨(i64 (n34 + 1)), hrec4 ▸ h, R, R⟩ (Wk.eq R R R R)
  replace h := iteF h hc35
  refine LH.exit (thenX (roundX (blockH (thenN (LH.seqT [(2, .I 0)] [] R (sAi R zS) (LH.ret ?_))))))
  obtain rfl := oI h
  exact retE (aT Tryz.results25) (lrT R (lr0 ⟨memN mN, R, prK R, Sub.rfl⟩))

theorem q269q {F : Nat} {p0 : Gq0} {r : Bool} (h : q184q F p0 = some r) : LCall Tryz.prog 50 [Gq0.lv p0] (Mem.of []) (.bool r) (Mem.of []) := by
  unfold q184q at h
  refine bodyT Tryz.func50 R (nT Tryz.ntmps50 R) (LH.wk (Wk.eq (el := [(0, Gq0.lv p0)]) (ml := []) R R R R) (LH.seqT [(1, .sptr (Gq0.lv p0).cells)] [] R (sB (oBxR R R R R (sAb R zS))) (LH.seq ?_)))
  obtain ⟨w2, hv, h⟩ := bindS h
  refine LH.seqT [(1, .sptr (Gq0.lv p0).cells), (28, .bool w2)] [] R ?_ ?_
  ·refine sN (oFaS tf52_1 tk3 ts3 R R R (sN (oLd R tk3 ta3 (sN (oLt R R (sMb R ?_))))))
   by_cases hb3 : (decide (p0.Kind < 1)) = true
   ·replace hv := iteT hv hb3
    refine sF R R hb3 (sF R R hb3 (sF R R hb3 (sN (oPkT (cB hb3) (v := (.bool _)) R (sMb R (sF R R R (sF R R R (sF R R R (sF R R R (sN (oPkT R (v := (.bool _)) R (sMb R (sF R R R (sF R R R (sF R R R (sF R R R (sN (oPkT R (v := (.bool _)) R (sMb R (sF R R R (sF R R R (sF R R R (sF R R R (sN (oPkT R (v := (.bool _)) R ?_)))))))))))))))))))))))))
    obtain rfl := oI hv
    exact zS
   ·replace hb3 := bF hb3
    replace hv := iteF hv hb3
    refine sT R (cB hb3) (oFaS tf52_1 tk3 ts3 R R R (sT R (cB hb3) (oLd R tk3 ta3 (sT R (cB hb3) (oGt R R (sN (oPkF (cB hb3) (v := (.bool _)) R (sMb R ?_))))))))
    by_cases hb4 : (decide (p0.Kind > 4)) = true
    ·replace hv := iteT hv hb4
     refine sF R R hb4 (sF R R hb4 (sF R R hb4 (sF R R hb4 (sN (oPkT (cB hb4) (v := (.bool _)) R (sMb R (sF R R R (sF R R R (sF R R R (sF R R R (sN (oPkT R (v := (.bool _)) R (sMb R (sF R R R (sF R R R (sF R R R (sF R R R (sN (oPkT R (v := (.bool _)) R ?_)))))))))))))))))))
     obtain rfl := oI hv
     exact zS
    ·replace hb4 := bF hb4
     replace hv := iteF hv hb4
     refine sT R (cB hb4) (oFaS tf52_2 tk3 ts3 R R R (sT R (cB hb4) (oLd R tk3 ta3 ?_)))
     obtain ⟨r5, hr5, hv⟩ := bindS hv
     refine sT R (cB hb4) (oCP (args := [.I p0.Bag, .I 9999]) R isF78 R (sbR (sbR sbN)) (q94q hr5) R (sT R (cB hb4) (oNot R (sN (oPkF (cB hb4) (v := (.bool _)) R (sMb R ?_))))))
     by_cases hb6 : (!r5) = true
     ·replace hv := iteT hv hb6
      refine sF R R hb6 (sF R R hb6 (sF R R hb6 (sF R R hb6 (sN (oPkT (cB hb6) (v := (.bool _)) R (sMb R (sF R R R (sF R R R (sF R R R (sF R R R (sN (oPkT R (v := (.bool _)) R ?_))))))))))))
      obtain rfl := oI hv
      exact zS
     ·replace hb6 := bF hb6
      replace hv := iteF hv hb6
      refine sT R (cB hb6) (oFaS tf52_3 tk3 ts3 R R R (sT R (cB hb6) (oLd R tk3 ta3 ?_)))
      obtain ⟨r7, hr7, hv⟩ := bindS hv
      refine sT R (cB hb6) (oCP (args := [.I p0.Seal, .I 1000000]) R isF78 R (sbR (sbR sbN)) (q94q hr7) R (sT R (cB hb6) (oNot R (sN (oPkF (cB hb6) (v := (.bool _)) R (sMb R ?_))))))
      by_cases hb8 : (!r7) = true
      ·replace hv := iteT hv hb8
       refine sF R R hb8 (sF R R hb8 (sF R R hb8 (sF R R hb8 (sN (oPkT (cB hb8) (v := (.bool _)) R ?_)))))
       obtain rfl := oI hv
       exact zS
      ·replace hb8 := bF hb8
       replace hv := iteF hv hb8
       refine sT R (cB hb8) (oFaS tf52_4 tk3 ts3 R R R (sT R (cB hb8) (oLd R tk3 ta3 ?_)))
       obtain ⟨r9, hr9, hv⟩ := bindS hv
       refine sT R (cB hb8) (oCP (args := [.I p0.From, .I 99]) R isF78 R (sbR (sbR sbN)) (q94q hr9) R (sT R (cB hb8) (oNot R (sN (oPkF (cB hb8) (v := (.bool _)) R ?_)))))
       obtain rfl := oI hv
       exact zS
  clear hv
  refine LH.cond (t := w2) R (fun hc10 => ?_) (fun hc10 => ?_)
  ·replace h := iteT h hc10
   refine LH.seqT [(2, .bool false)] [] R (sAb R zS) (LH.ret (thenR ?_))
   obtain rfl := oI h
   exact retE (aT Tryz.results50) (lrT R (lr0 ⟨memN mN, R, prK R, Sub.rfl⟩))
  replace h := iteF h hc10
  refine LH.skip (thenN (LH.wk (Wk.eq (el := [(1, .sptr (Gq0.lv p0).cells)]) (ml := []) R R R R) (LH.seq ?_)))
  obtain ⟨w12, hv, h⟩ := bindS h
  refine LH.seqT [(1, .sptr (Gq0.lv p0).cells), (37, .bool w12)] [] R ?_ ?_
  ·refine sN (oFaS tf52_1 tk3 ts3 R R R (sN (oLd R tk3 ta3 (sN (oEq R R (sMb R ?_))))))
   by_cases hb13 : (p0.Kind == 2) = true
   ·replace hv := iteT hv hb13
    refine sT R (cB hb13) (oFaS tf52_5 tk3 ts3 R R R (sT R (cB hb13) (oLd R tk3 ta3 ?_)))
    obtain ⟨r14, hr14, hv⟩ := bindS hv
    refine sT R (cB hb13) (oCP (args := [.I p0.To, .I 99]) R isF78 R (sbR (sbR sbN)) (q94q hr14) R (sT R (cB hb13) (oNot R (sN (oPkT (cB hb13) (v := (.bool _)) R ?_)))))
    obtain rfl := oI hv
    exact zS
   ·replace hb13 := bF hb13
    replace hv := iteF hv hb13
    refine sF R R hb13 (sF R R hb13 (sF R R hb13 (sF R R hb13 (sN (oPkF (cB hb13) (v := (.bool _)) R ?_)))))
    obtain rfl := oI hv
    exact zS
  clear hv
  refine LH.cond (t := w12) R (fun hc15 => ?_) (fun hc15 => ?_)
  ·replace h := iteT h hc15
   refine LH.seqT [(2, .bool false)] [] R (sAb R zS) (LH.ret (thenR ?_))
   obtain rfl := oI h
   exact retE (aT Tryz.results50) (lrT R (lr0 ⟨memN mN, R, prK R, Sub.rfl⟩))
  replace h := iteF h hc15
  refine LH.skip (thenN ?_)
  obtain ⟨w17, hv, h⟩ := bindS h
  refine LH.seqT [(2, .bool w17)] [] R ?_ ?_
  ·refine sN (oFaS tf52_1 tk3 ts3 R R R (sN (oLd R tk3 ta3 (sN (oNe R R (sMb R ?_))))))
   by_cases hb18 : (p0.Kind != 1) = true
   ·replace hv := iteT hv hb18
    refine sT R (cB hb18) (oFaS tf52_1 tk3 ts3 R R R (sT R (cB hb18) (oLd R tk3 ta3 (sT R (cB hb18) (oNe R R (sN (oPkT (cB hb18) (v := (.bool _)) R (sMb R ?_))))))))
    by_cases hb19 : (p0.Kind != 3) = true
    ·replace hv := iteT hv hb19
     refine sF R R hb19 (sF R R hb19 (sF R R hb19 (sN (oPkT (cB hb19) (v := (.bool _)) R (sAb R ?_)))))
     obtain rfl := oI hv
     exact zS
    ·replace hb19 := bF hb19
     replace hv := iteF hv hb19
     refine sT R (cB hb19) (oFaS tf52_6 tk22 ts22 R R R (sT R (cB hb19) (oLd R tk22 ta22 ?_)))
     obtain ⟨r20, hr20, hv⟩ := bindS hv
     refine sT R (cB hb19) (oCP (args := [.L p0.Candidates]) R isF46 R (sbR sbN) (q179q hr20) R (sN (oPkF (cB hb19) (v := (.bool _)) R (sAb R ?_))))
     obtain rfl := oI hv
     exact zS
   ·replace hb18 := bF hb18
    replace hv := iteF hv hb18
    refine sF R R hb18 (sF R R hb18 (sF R R hb18 (sN (oPkF (cB hb18) (v := (.bool _)) R (sMb R (sT R R (oFaS tf52_6 tk22 ts22 R R R (sT R R (oLd R tk22 ta22 ?_)))))))))
    obtain ⟨r21, hr21, hv⟩ := bindS hv
    refine sT R R (oCP (args := [.L p0.Candidates]) R isF46 R (sbR sbN) (q179q hr21) R (sN (oPkF R (v := (.bool _)) R (sAb R ?_))))
    obtain rfl := oI hv
    exact zS
  clear hv
  refine LH.ret ?_
  obtain rfl := oI h
  exact retE (aT Tryz.results50) (lrT R (lr0 ⟨memN mN, R, prK R, Sub.rfl⟩))

theorem q242q {F : Nat} {p0 : List GBag} {p1 : Int} {r : Int} (h : q175q F p0 p1 = some r) : LCall Tryz.prog 52 [.lst 6 (List.map GBag.lv p0), .I p1] (Mem.of []) (.I r) (Mem.of []) := by
  unfold q175q at h
  refine bodyT Tryz.func52 R (nT Tryz.ntmps52 R) (LH.wk (Wk.eq (el := [(0, .lst 6 (List.map GBag.lv p0)), (1, .I p1)]) (ml := []) R R R R) (LH.seqT [(0, .lst 6 (List.map GBag.lv p0)), (1, .I p1)] [] R (sAi R zS) (LH.seq (LH.seqT [(0, .lst 6 (List.map GBag.lv p0)), (1, .I p1), (5, .I 0)] [] R (sAi R zS) (LH.block (LH.loop (fun n e m => ∃ (n1 : Int), q112q p0 p1 n n1 = some r ∧ e = Env.of [(0, .lst 6 (List.map GBag.lv p0)), (1, .I p1), (5, .I n1)] ∧ m = Mem.of []) F ⟨0, h, R, R⟩ ?_))))))
  clear h
  rintro n e m ⟨n1, h, rfl, rfl⟩
  rcases n with _ | n
  · cases (show Option.none = some _ from h)
  obtain ⟨rec1, hrec1⟩ : ∃ f, f = q112q p0 p1 n := ⟨_, rfl⟩
  replace h : q155q p0 p1 rec1 n1 = some r := hrec1 ▸ h
  unfold q155q at h
  refine LH.seq (LH.seqT [(0, .lst 6 (List.map GBag.lv p0)), (1, .I p1), (5, .I n1), (9, .bool (decide (n1 < (p0.length : Int))))] [] R (sMi R (sMl R (sN (oLnL (f := GBag.lv) te27 R (sN (oLt R R zS)))))) (LH.cond (t := (decide (n1 < (p0.length : Int)))) R (fun hc2 => ?_) (fun hc2 => ?_)))
  ·replace h := iteT h hc2
   refine LH.skip (thenN (LH.wk (Wk.eq (el := [(0, .lst 6 (List.map GBag.lv p0)), (1, .I p1), (5, .I n1)]) (ml := []) R R R R) (LH.seq (LH.block ?_))))
   obtain ⟨x3, hx3, h⟩ := bindS h
   refine LH.seqT [(0, .lst 6 (List.map GBag.lv p0)), (1, .I p1), (5, .I n1), (18, .bool (x3.Bag == p1))] [] R (sMl R (sMi R (sN (oIx (f := GBag.lv) te27 tk43 ts43 R R GBag.ok hx3 R (sN (oFaS tf43_0 tk3 ts3 R R R (sN (oLd R tk3 ta3 (sMi R (sN (oEq R R zS))))))))))) (LH.cond (t := (x3.Bag == p1)) R (fun hc4 => ?_) (fun hc4 => ?_))
   ·replace h := iteT h hc4
    refine LH.seqT [(4, .I n1)] [] R (sMi R (sAi R zS)) (LH.ret (blockR (thenR (roundR (blockR (thenR ?_))))))
    obtain rfl := oI h
    exact retE (aT Tryz.results52) (lrT R (lr0 ⟨memN mN, R, prK R, Sub.rfl⟩))
   replace h := iteF h hc4
   refine LH.skip (blockN (thenN (LH.loneT [(0, .lst 6 (List.map GBag.lv p0)), (1, .I p1), (5, .I (i64 (n1 + 1)))] [] R (sMi R (sN (oAdd R R (sAi R zS)))) ?_)))
   exact roundI ⟨(i64 (n1 + 1)), hrec1 ▸ h, R, R⟩ (Wk.eq R R R R)
  replace h := iteF h hc2
  refine LH.exit (thenX (roundX (blockH (thenN (LH.seqT [(4, .I (-1))] [] R (sAi R zS) (LH.ret ?_))))))
  obtain rfl := oI h
  exact retE (aT Tryz.results52) (lrT R (lr0 ⟨memN mN, R, prK R, Sub.rfl⟩))

theorem q282q {F : Nat} {p0 : List GBag} {p1 : Gq0} {r : List GBag × Int} (h : q229q F p0 p1 = some r) : LCall Tryz.prog 51 [.lst 6 (List.map GBag.lv p0), Gq0.lv p1] (Mem.of []) (.tup [.lst 6 (List.map GBag.lv r.1), .I r.2]) (Mem.of []) := by
  unfold q229q at h
  refine bodyT Tryz.func51 R (nT Tryz.ntmps51 R) (LH.wk (Wk.eq (el := [(0, .lst 6 (List.map GBag.lv p0)), (1, Gq0.lv p1)]) (ml := []) R R R R) (LH.seqT [(0, .lst 6 (List.map GBag.lv p0)), (3, .sptr (Gq0.lv p1).cells)] [] R (sB (oBxR R R R R (sAn R (sAi R zS)))) (LH.seq (LH.seqT [(0, .lst 6 (List.map GBag.lv p0)), (3, .sptr (Gq0.lv p1).cells), (12, .bool (p1.From == 0))] [] R (sN (oFaS tf52_4 tk3 ts3 R R R (sN (oLd R tk3 ta3 (sN (oEq R R zS)))))) (LH.cond (t := (p1.From == 0)) R (fun hc1 => ?_) (fun hc1 => ?_))))))
  ·replace h := iteT h hc1
   refine LH.seqT [(4, .nil), (5, .I 8)] [] R (sAn R (sAi R zS)) (LH.ret (thenR ?_))
   obtain rfl := oI h
   exact retE (aT Tryz.results51) (lrT R (lrT R (lr0 ⟨memN mN, R, prK R, (Sub.tup (sbL (sbR sbN)))⟩)))
  replace h := iteF h hc1
  refine LH.skip (thenN (LH.wk (Wk.eq (el := [(0, .lst 6 (List.map GBag.lv p0)), (3, .sptr (Gq0.lv p1).cells)]) (ml := []) R R R R) (LH.seq ?_)))
  obtain ⟨r2, hr2, h⟩ := bindS h
  refine LH.seqT [(0, .lst 6 (List.map GBag.lv p0)), (3, .sptr (Gq0.lv p1).cells), (17, .bool (decide (r2 ≥ 0)))] [] R (sMl R (sN (oFaS tf52_2 tk3 ts3 R R R (sN (oLd R tk3 ta3 (sN (oCP (args := [.lst 6 (List.map GBag.lv p0), .I p1.Bag]) R isF52 R (sbR (sbR sbN)) (q242q hr2) R (sN (oGe R R zS))))))))) (LH.cond (t := (decide (r2 ≥ 0))) R (fun hc3 => ?_) (fun hc3 => ?_))
  ·replace h := iteT h hc3
   refine LH.seqT [(4, .nil), (5, .I 5)] [] R (sAn R (sAi R zS)) (LH.ret (thenR ?_))
   obtain rfl := oI h
   exact retE (aT Tryz.results51) (lrT R (lrT R (lr0 ⟨memN mN, R, prK R, (Sub.tup (sbL (sbR sbN)))⟩)))
  replace h := iteF h hc3
  refine LH.skip (thenN ?_)
  obtain ⟨r4, hr4, h⟩ := bindS h
  refine LH.seqT [(0, .lst 6 (List.map GBag.lv p0)), (3, .sptr (Gq0.lv p1).cells), (6, .bool (decide (r4 > 0)))] [] R (sMl R (sN (oFaS tf52_3 tk3 ts3 R R R (sN (oLd R tk3 ta3 (sN (oCP (args := [.lst 6 (List.map GBag.lv p0), .I p1.Seal]) R isF47 R (sbR (sbR sbN)) (q204q hr4) R (sN (oGt R R (sAb R zS)))))))))) (LH.seq (LH.seqT [(0, .lst 6 (List.map GBag.lv p0)), (3, .sptr (Gq0.lv p1).cells), (6, .bool (decide (r4 > 0))), (7, .I 0)] [] R (sAi R zS) (LH.block (LH.loop (fun n e m => ∃ (b5 : Bool) (n6 : Int), q130q F p0 p1 n b5 n6 = some r ∧ e = Env.of [(0, .lst 6 (List.map GBag.lv p0)), (3, .sptr (Gq0.lv p1).cells), (6, .bool b5), (7, .I n6)] ∧ m = Mem.of []) F ⟨(decide (r4 > 0)), 0, h, R, R⟩ ?_))))
  clear h
  rintro n e m ⟨b5, n6, h, rfl, rfl⟩
  rcases n with _ | n
  · cases (show Option.none = some _ from h)
  obtain ⟨rec1, hrec1⟩ : ∃ f, f = q130q F p0 p1 n := ⟨_, rfl⟩
  replace h : q162q F p0 p1 rec1 b5 n6 = some r := hrec1 ▸ h
  unfold q162q at h
  refine LH.seq (LH.seqT [(0, .lst 6 (List.map GBag.lv p0)), (3, .sptr (Gq0.lv p1).cells), (6, .bool b5), (7, .I n6), (27, .bool (decide (n6 < (p1.Candidates.length : Int))))] [] R (sMi R (sN (oFaS tf52_6 tk22 ts22 R R R (sN (oLd R tk22 ta22 (sN (oLnL (f := LV.I) te22 R (sN (oLt R R zS))))))))) (LH.cond (t := (decide (n6 < (p1.Candidates.length : Int)))) R (fun hc7 => ?_) (fun hc7 => ?_)))
  ·replace h := iteT h hc7
   refine LH.skip (thenN (LH.wk (Wk.eq (el := [(0, .lst 6 (List.map GBag.lv p0)), (3, .sptr (Gq0.lv p1).cells), (6, .bool b5), (7, .I n6)]) (ml := []) R R R R) (LH.seq (LH.block ?_))))
   obtain ⟨w9, hv, h⟩ := bindS h
   refine LH.loneT [(0, .lst 6 (List.map GBag.lv p0)), (3, .sptr (Gq0.lv p1).cells), (6, .bool w9), (7, .I n6)] [] R ?_ ?_
   ·refine sMb R (sMb R ?_)
    by_cases hb10 : b5 = true
    ·replace hv := iteT hv hb10
     refine sF R R hb10 (sF R R hb10 (sF R R hb10 (sF R R hb10 (sF R R hb10 (sF R R hb10 (sF R R hb10 (sF R R hb10 (sN (oPkT (cB hb10) (v := (.bool _)) R (sAb R ?_))))))))))
     obtain rfl := oI hv
     exact zS
    ·replace hb10 := bF hb10
     replace hv := iteF hv hb10
     refine sT R (cB hb10) (oM (v := (.lst _ _)) R (sT R (cB hb10) (oFaS tf52_6 tk22 ts22 R R R (sT R (cB hb10) (oLd R tk22 ta22 (sT R (cB hb10) (oM (v := (.int _ _)) R ?_)))))))
     obtain ⟨x11, hx11, hv⟩ := bindS hv
     refine sT R (cB hb10) (oIx (f := LV.I) te22 tk3 ts3 R R okI hx11 R (sT R (cB hb10) (oLd R tk3 ta3 ?_)))
     obtain ⟨r12, hr12, hv⟩ := bindS hv
     refine sT R (cB hb10) (oCP (args := [.lst 6 (List.map GBag.lv p0), .I x11]) R isF48 R (sbR (sbR sbN)) (q238q hr12) R (sT R (cB hb10) (oGt R R (sN (oPkF (cB hb10) (v := (.bool _)) R (sAb R ?_))))))
     obtain rfl := oI hv
     exact zS
   clear hv
   refine blockN (thenN (LH.loneT [(0, .lst 6 (List.map GBag.lv p0)), (3, .sptr (Gq0.lv p1).cells), (6, .bool w9), (7, .I (i64 (n6 + 1)))] [] R (sMi R (sN (oAdd R R (sAi R zS)))) ?_))
   exact roundI ⟨w9, (i64 (n6 + 1)), hrec1 ▸ h, R, R⟩ (Wk.eq R R R R)
  replace h := iteF h hc7
  refine LH.exit (thenX (roundX (blockH (thenN (LH.wk (Wk.eq (el := [(0, .lst 6 (List.map GBag.lv p0)), (3, .sptr (Gq0.lv p1).cells), (6, .bool b5)]) (ml := []) R R R R) (LH.seq (LH.seqT [(0, .lst 6 (List.map GBag.lv p0)), (3, .sptr (Gq0.lv p1).cells), (41, .bool b5)] [] R (sMb R zS) (LH.cond (t := b5) R (fun hc13 => ?_) (fun hc13 => ?_)))))))))
  ·replace h := iteT h hc13
   refine LH.seqT [(4, .nil), (5, .I 9)] [] R (sAn R (sAi R zS)) (LH.ret (thenR ?_))
   obtain rfl := oI h
   exact retE (aT Tryz.results51) (lrT R (lrT R (lr0 ⟨memN mN, R, prK R, (Sub.tup (sbL (sbR sbN)))⟩)))
  replace h := iteF h hc13
  refine LH.skip (thenN (LH.wk (Wk.eq (el := [(0, .lst 6 (List.map GBag.lv p0)), (3, .sptr (Gq0.lv p1).cells)]) (ml := []) R R R R) (LH.seq (LH.seqT [(0, .lst 6 (List.map GBag.lv p0)), (3, .sptr (Gq0.lv p1).cells), (44, .bool ((p0.length : Int) == 20))] [] R (sMl R (sN (oLnL (f := GBag.lv) te27 R (sN (oEq R R zS))))) (LH.cond (t := ((p0.length : Int) == 20)) R (fun hc14 => ?_) (fun hc14 => ?_))))))
  ·replace h := iteT h hc14
   refine LH.seqT [(4, .nil), (5, .I 3)] [] R (sAn R (sAi R zS)) (LH.ret (thenR ?_))
   obtain rfl := oI h
   exact retE (aT Tryz.results51) (lrT R (lrT R (lr0 ⟨memN mN, R, prK R, (Sub.tup (sbL (sbR sbN)))⟩)))
  replace h := iteF h hc14
  refine LH.skip (thenN (LH.seqT [(0, .lst 6 (List.map GBag.lv p0)), (3, .sptr (Gq0.lv p1).cells), (8, .I 0)] [] R (sAi R zS) (LH.seq (LH.block (LH.loop (fun n e m => ∃ (n15 : Int), q131q p0 p1 n n15 = some r ∧ e = Env.of [(0, .lst 6 (List.map GBag.lv p0)), (3, .sptr (Gq0.lv p1).cells), (8, .I n15)] ∧ m = Mem.of []) F ⟨0, h, R, R⟩ ?_)))))
  clear h
  rintro n e m ⟨n15, h, rfl, rfl⟩
  rcases n with _ | n
  · cases (show Option.none = some _ from h)
  obtain ⟨rec2, hrec2⟩ : ∃ f, f = q131q p0 p1 n := ⟨_, rfl⟩
  replace h : q163q p0 p1 rec2 n15 = some r := hrec2 ▸ h
  unfold q163q at h
  refine LH.seq ?_
  obtain ⟨w17, hv, h⟩ := bindS h
  refine LH.seqJM mixed [] [0, 0, 0, 0, 0, 0, 0, 0, 0, 0, 0, 0, 0, 0] [(0, .lst 6 (List.map GBag.lv p0)), (3, .sptr (Gq0.lv p1).cells), (8, .I n15), (58, .bool w17)] [] R R (by kernel_rfl) ?_ ?_
  ·refine mMi R (mMl R (mN0 (oLnL (f := GBag.lv) te27 R ⟨R, mN0 (oLt R R ⟨R, mMb R ?_⟩)⟩)))
   by_cases hb18 : (decide (n15 < (p0.length : Int))) = true
   ·replace hv := iteT hv hb18
    refine mT R (cB hb18) (mMl R (mT R (cB hb18) (mMi R ?_)))
    obtain ⟨x19, hx19, hv⟩ := bindS hv
    refine mT R (cB hb18) (mN0 (oIx (f := GBag.lv) te27 tk43 ts43 R R GBag.ok hx19 R ⟨R, mT R (cB hb18) (mN0 (oFaS tf43_0 tk3 ts3 R R R ⟨R, mT R (cB hb18) (mN0 (oLd R tk3 ta3 ⟨R, mT R (cB hb18) (mN0 (oFaS tf52_2 tk3 ts3 R R R ⟨R, mT R (cB hb18) (mN0 (oLd R tk3 ta3 ⟨R, mT R (cB hb18) (mN0 (oLt R R ⟨R, mN0 (oPkT (cB hb18) (v := (.bool _)) R ⟨R, ?_⟩)⟩))⟩))⟩))⟩))⟩))⟩))
    obtain rfl := oI hv
    exact zM
   ·replace hb18 := bF hb18
    replace hv := iteF hv hb18
    refine mF R R hb18 (mF R R hb18 (mF R R hb18 (mF R R hb18 (mF R R hb18 (mF R R hb18 (mF R R hb18 (mF R R hb18 (mN0 (oPkF (cB hb18) (v := (.bool _)) R ⟨R, ?_⟩)))))))))
    obtain rfl := oI hv
    exact zM
  clear hv
  refine LH.cond (t := w17) R (fun hc20 => ?_) (fun hc20 => ?_)
  ·replace h := iteT h hc20
   refine LH.skip (thenN (LH.wk (Wk.eq (el := [(0, .lst 6 (List.map GBag.lv p0)), (3, .sptr (Gq0.lv p1).cells), (8, .I n15)]) (ml := []) R R R R) (LH.block (LH.loneT [(0, .lst 6 (List.map GBag.lv p0)), (3, .sptr (Gq0.lv p1).cells), (8, .I (i64 (n15 + 1)))] [] R (sMi R (sN (oAdd R R (sAi R zS)))) (blockN ?_)))))
   exact roundI ⟨(i64 (n15 + 1)), hrec2 ▸ h, R, R⟩ (Wk.eq R R R R)
  replace h := iteF h hc20
  refine LH.exit (thenX (roundX (blockH (thenN (LH.seqT [(0, .lst 6 (List.map GBag.lv p0)), (3, .sptr (Gq0.lv p1).cells), (8, .I n15), (9, .nil)] [] R (sAn R zS) ?_)))))
  obtain ⟨v21, hv21, h⟩ := bindS h
  obtain ⟨v22, hv22, h⟩ := bindS h
  refine LH.seqT [(0, .lst 6 (List.map GBag.lv p0)), (3, .sptr (Gq0.lv p1).cells), (8, .I n15), (9, .arr 165 (List.length v22))] [(165, .arr 43 6 (List.map GBag.lv v22))] R (sMn R (sMl R (sMi R (sN (oSl (f := GBag.lv) te27 tk43 ts43 R R R hv21 (sN (oApN (f := GBag.lv) (id := 165) R te27 tr43 ts43 R R hv22 R (sAa R zS)))))))) ?_
  obtain ⟨v23, hv23, h⟩ := bindS h
  refine LH.seqT [(0, .lst 6 (List.map GBag.lv p0)), (8, .I n15), (9, .arr 165 (List.length v23))] [(165, .arr 43 6 (List.map GBag.lv v23))] R ?_ ?_
  ·exact sMa R (sN (oFaS tf52_2 tk3 ts3 R R R (sN (oLd R tk3 ta3 (sN (oFaS tf52_4 tk3 ts3 R R R (sN (oLd R tk3 ta3 (sN (oFaS tf52_3 tk3 ts3 R R R (sN (oLd R tk3 ta3 (sN (oBS (f := LV.I) (ys := [p1.Seal]) te22 tr3 ts3 R R R okI (sN (oFaS tf52_6 tk22 ts22 R R R (sN (oLd R tk22 ta22 (sN (oBd (vs := [(0, .I p1.Bag), (1, .I p1.From), (3, .L [p1.Seal]), (4, .L p1.Candidates)]) tu43 tz43 R (lf tf43_0 ts3 tk3 R R R (lf tf43_1 ts3 tk3 R R R (lf tf43_3 ts22 tk22 R R R (lf tf43_4 ts22 tk22 R R R lf0)))) (sX (ok_bs1 (f := GBag.lv) (GBag.mk p1.Bag p1.From false [p1.Seal] p1.Candidates []) te27 tr43 ts43 R (Sub.agg (sbR (sbR (sbR (sbR (sbR (sbL sbN))))))) GBag.ok) (sN (oAp (f := GBag.lv) te27 tr43 ts43 R R (prN R) R hv23 (sAa R zS))))))))))))))))))))))))
  obtain ⟨v24, hv24, h⟩ := bindS h
  obtain ⟨v25, hv25, h⟩ := bindS h
  refine LH.seqT [(4, .lst 6 (List.map GBag.lv v25)), (5, .I 0)] [] R (sMa R (sMl R (sMi R (sN (oSl (f := GBag.lv) te27 tk43 ts43 R R R hv24 (sN (oAp (f := GBag.lv) te27 tr43 ts43 R R (prN R) R hv25 (sAa R (sAi R (s0 ((Wk.trans (Wk.eq (el := [(4, .arr 165 (List.length v25)), (5, .I 0)]) (ml := [(165, .arr 43 6 (List.map GBag.lv v25))]) R R R R) (Wk.trans (Wk.frzL (f := GBag.lv) (el' := [(4, .lst 6 (List.map GBag.lv v25)), (5, .I 0)]) 165 43 6 v25 R R (prN R) (fZ (fK R fN))) (Wk.eq R R R R)))))))))))))) (LH.ret ?_)
  obtain rfl := oI h
  exact retE (aT Tryz.results51) (lrT R (lrT R (lr0 ⟨memN mN, R, prK R, (Sub.tup (sbR (sbR sbN)))⟩)))

theorem q261q {F : Nat} {p0 : List GBag} {p1 : GBag} {p2 : Gq0} {r : Int} (h : q172q F p0 p1 p2 = some r) : LCall Tryz.prog 53 [.lst 6 (List.map GBag.lv p0), GBag.lv p1, Gq0.lv p2] (Mem.of []) (.I r) (Mem.of []) := by
  unfold q172q at h
  refine bodyT Tryz.func53 R (nT Tryz.ntmps53 R) (LH.wk (Wk.eq (el := [(0, .lst 6 (List.map GBag.lv p0)), (1, GBag.lv p1), (2, Gq0.lv p2)]) (ml := []) R R R R) (LH.seqT [(0, .lst 6 (List.map GBag.lv p0)), (4, .sptr (GBag.lv p1).cells), (5, .sptr (Gq0.lv p2).cells)] [] R (sB (oBxR R R R R (sB (oBxR R R R R (sAi R zS))))) (LH.seq (LH.seqT [(0, .lst 6 (List.map GBag.lv p0)), (4, .sptr (GBag.lv p1).cells), (5, .sptr (Gq0.lv p2).cells), (37, .bool (p1.Open || ((p1.Holder != p2.From) || (if (p2.Kind == 2) = true then ((p2.To == p2.From) || ((p2.Kind == 3) && (p2.From != 0))) else ((p2.Kind == 3) && (p2.From != 0))))))] [] R ?_ ?_))))
  ·refine sN (oFaS tf43_2 tk4 ts4 R R R (sN (oLd R tk4 ta4 (sMb R ?_))))
   by_cases hb2 : p1.Open = true
   ·exact sF R R hb2 (sF R R hb2 (sF R R hb2 (sF R R hb2 (sF R R hb2 (sN (oPkT (cB hb2) (v := (.bool _)) R (sMb R (sF R R R (sF R R R (sF R R R (sF R R R (sU R R (sU R R (sU R R (sU R R (sU R R (sF R R R (sN (oPkT R (v := (.bool _)) R (sMb R (sF R R R (sF R R R (sF R R R (sF R R R (sU R R (sU R R (sU R R (sF R R R (sN (oPkT R (v := (.bool _)) R (s0 (Wk.to (eC R (eC R (eC R (eC (cB (orT hb2)) eN)))) mN R (prK R)))))))))))))))))))))))))))))))))
   ·replace hb2 := bF hb2
    refine sT R (cB hb2) (oFaS tf43_1 tk3 ts3 R R R (sT R (cB hb2) (oLd R tk3 ta3 (sT R (cB hb2) (oFaS tf52_4 tk3 ts3 R R R (sT R (cB hb2) (oLd R tk3 ta3 (sT R (cB hb2) (oNe R R (sN (oPkF (cB hb2) (v := (.bool _)) R (sMb R ?_))))))))))))
    by_cases hb3 : (p1.Holder != p2.From) = true
    ·exact sF R R hb3 (sF R R hb3 (sF R R hb3 (sF R R hb3 (sU R R (sU R R (sU R R (sU R R (sU R R (sF R R hb3 (sN (oPkT (cB hb3) (v := (.bool _)) R (sMb R (sF R R R (sF R R R (sF R R R (sF R R R (sU R R (sU R R (sU R R (sF R R R (sN (oPkT R (v := (.bool _)) R (s0 (Wk.to (eC R (eC R (eC R (eC (cB (Eq.trans (orT hb3) (orF hb2))) eN)))) mN R (prK R)))))))))))))))))))))))))
    ·replace hb3 := bF hb3
     refine sT R (cB hb3) (oFaS tf52_1 tk3 ts3 R R R (sT R (cB hb3) (oLd R tk3 ta3 (sT R (cB hb3) (oEq R R (sT R (cB hb3) (oM (v := (.bool _)) R ?_)))))))
     by_cases hb4 : (p2.Kind == 2) = true
     ·refine sT R (cB hb4) (oFaS tf52_5 tk3 ts3 R R R (sT R (cB hb4) (oLd R tk3 ta3 (sT R (cB hb4) (oFaS tf52_4 tk3 ts3 R R R (sT R (cB hb4) (oLd R tk3 ta3 (sT R (cB hb4) (oEq R R (sT R (cB hb3) (oPkT (cB hb4) (v := (.bool _)) R (sN (oPkF (cB hb3) (v := (.bool _)) R (sMb R ?_))))))))))))))
      by_cases hb5 : (p2.To == p2.From) = true
      ·exact sF R R hb5 (sF R R hb5 (sF R R hb5 (sF R R hb5 (sU R R (sU R R (sU R R (sF R R hb5 (sN (oPkT (cB hb5) (v := (.bool _)) R (s0 (Wk.to (eC R (eC R (eC R (eC (cB (Eq.trans (Eq.trans (Eq.trans (orT hb5) (itT hb4)) (orF hb3)) (orF hb2))) eN)))) mN R (prK R))))))))))))
      ·replace hb5 := bF hb5
       refine sT R (cB hb5) (oFaS tf52_1 tk3 ts3 R R R (sT R (cB hb5) (oLd R tk3 ta3 (sT R (cB hb5) (oEq R R (sT R (cB hb5) (oM (v := (.bool _)) R ?_)))))))
       by_cases hb6 : (p2.Kind == 3) = true
       ·exact sT R (cB hb6) (oFaS tf52_4 tk3 ts3 R R R (sT R (cB hb6) (oLd R tk3 ta3 (sT R (cB hb6) (oNe R R (sT R (cB hb5) (oPkT (cB hb6) (v := (.bool _)) R (sN (oPkF (cB hb5) (v := (.bool _)) R (s0 (Wk.to (eC R (eC R (eC R (eC (cB (Eq.trans (Eq.trans (Eq.trans (Eq.trans (andT hb6) (orF hb5)) (itT hb4)) (orF hb3)) (orF hb2))) eN)))) mN R (prK R))))))))))))
       ·replace hb6 := bF hb6
        exact sF R R hb6 (sF R R hb6 (sF R R hb6 (sT R (cB hb5) (oPkF (cB hb6) (v := (.bool _)) R (sN (oPkF (cB hb5) (v := (.bool _)) R (s0 (Wk.to (eC R (eC R (eC R (eC (cB (Eq.trans (Eq.trans (Eq.trans (Eq.trans (andF hb6) (orF hb5)) (itT hb4)) (orF hb3)) (orF hb2))) eN)))) mN R (prK R)))))))))
     ·replace hb4 := bF hb4
      refine sF R R hb4 (sF R R hb4 (sF R R hb4 (sF R R hb4 (sF R R hb4 (sT R (cB hb3) (oPkF (cB hb4) (v := (.bool _)) R (sN (oPkF (cB hb3) (v := (.bool _)) R (sMb R (sT R R (oFaS tf52_1 tk3 ts3 R R R (sT R R (oLd R tk3 ta3 (sT R R (oEq R R (sT R R (oM (v := (.bool _)) R ?_)))))))))))))))))
      by_cases hb7 : (p2.Kind == 3) = true
      ·exact sT R (cB hb7) (oFaS tf52_4 tk3 ts3 R R R (sT R (cB hb7) (oLd R tk3 ta3 (sT R (cB hb7) (oNe R R (sT R R (oPkT (cB hb7) (v := (.bool _)) R (sN (oPkF R (v := (.bool _)) R (s0 (Wk.to (eC R (eC R (eC R (eC (cB (Eq.trans (Eq.trans (Eq.trans (andT hb7) (itF hb4)) (orF hb3)) (orF hb2))) eN)))) mN R (prK R))))))))))))
      ·replace hb7 := bF hb7
       exact sF R R hb7 (sF R R hb7 (sF R R hb7 (sT R R (oPkF (cB hb7) (v := (.bool _)) R (sN (oPkF R (v := (.bool _)) R (s0 (Wk.to (eC R (eC R (eC R (eC (cB (Eq.trans (Eq.trans (Eq.trans (andF hb7) (itF hb4)) (orF hb3)) (orF hb2))) eN)))) mN R (prK R)))))))))
  refine LH.cond (t := (p1.Open || ((p1.Holder != p2.From) || (if (p2.Kind == 2) = true then ((p2.To == p2.From) || ((p2.Kind == 3) && (p2.From != 0))) else ((p2.Kind == 3) && (p2.From != 0)))))) R (fun hc8 => ?_) (fun hc8 => ?_)
  ·replace h := iteT h hc8
   refine LH.seqT [(6, .I 8)] [] R (sAi R zS) (LH.ret (thenR ?_))
   obtain rfl := oI h
   exact retE (aT Tryz.results53) (lrT R (lr0 ⟨memN mN, R, prK R, Sub.rfl⟩))
  replace h := iteF h hc8
  refine LH.skip (thenN (LH.wk (Wk.eq (el := [(0, .lst 6 (List.map GBag.lv p0)), (4, .sptr (GBag.lv p1).cells), (5, .sptr (Gq0.lv p2).cells)]) (ml := []) R R R R) (LH.seq (LH.seqT [(0, .lst 6 (List.map GBag.lv p0)), (4, .sptr (GBag.lv p1).cells), (5, .sptr (Gq0.lv p2).cells), (40, .bool (p2.Kind == 4))] [] R (sN (oFaS tf52_1 tk3 ts3 R R R (sN (oLd R tk3 ta3 (sN (oEq R R zS)))))) (LH.cond (t := (p2.Kind == 4)) R (fun hc9 => ?_) (fun hc9 => ?_))))))
  ·replace h := iteT h hc9
   refine LH.seq ?_
   obtain ⟨r10, hr10, h⟩ := bindS h
   refine LH.seqT [(4, .sptr (GBag.lv p1).cells), (45, .bool (decide (r10 > 0)))] [] R (sMl R (sN (oFaS tf52_3 tk3 ts3 R R R (sN (oLd R tk3 ta3 (sN (oCP (args := [.lst 6 (List.map GBag.lv p0), .I p2.Seal]) R isF47 R (sbR (sbR sbN)) (q204q hr10) R (sN (oGt R R zS))))))))) (LH.cond (t := (decide (r10 > 0))) R (fun hc11 => ?_) (fun hc11 => ?_))
   ·replace h := iteT h hc11
    refine LH.seqT [(6, .I 9)] [] R (sAi R zS) (LH.ret (thenR (thenR ?_)))
    obtain rfl := oI h
    exact retE (aT Tryz.results53) (lrT R (lr0 ⟨memN mN, R, prK R, Sub.rfl⟩))
   replace h := iteF h hc11
   refine LH.skip (thenN (LH.wk (Wk.eq (el := [(4, .sptr (GBag.lv p1).cells)]) (ml := []) R R R R) (LH.seq (LH.seqT [(49, .bool ((p1.Seals.length : Int) == 300))] [] R (sN (oFaS tf43_3 tk22 ts22 R R R (sN (oLd R tk22 ta22 (sN (oLnL (f := LV.I) te22 R (sN (oEq R R zS)))))))) (LH.cond (t := ((p1.Seals.length : Int) == 300)) R (fun hc12 => ?_) (fun hc12 => ?_))))))
   ·replace h := iteT h hc12
    refine LH.seqT [(6, .I 3)] [] R (sAi R zS) (LH.ret (thenR (thenR ?_)))
    obtain rfl := oI h
    exact retE (aT Tryz.results53) (lrT R (lr0 ⟨memN mN, R, prK R, Sub.rfl⟩))
   replace h := iteF h hc12
   refine LH.skip (thenN (LH.seqT [(6, .I 0)] [] R (sAi R zS) (LH.ret (thenR ?_))))
   obtain rfl := oI h
   exact retE (aT Tryz.results53) (lrT R (lr0 ⟨memN mN, R, prK R, Sub.rfl⟩))
  replace h := iteF h hc9
  refine LH.skip (thenN (LH.wk (Wk.eq (el := [(4, .sptr (GBag.lv p1).cells), (5, .sptr (Gq0.lv p2).cells)]) (ml := []) R R R R) (LH.seq ?_)))
  obtain ⟨x13, hx13, h⟩ := bindS h
  refine LH.seqJM mixed [] [0, 0, 0, 0, 0, 0, 0, 0, 0, 0, 0] [(60, .bool (x13 != p2.Seal))] [] R R (by kernel_rfl) (mN0 (oFaS tf43_3 tk22 ts22 R R R ⟨R, mN0 (oLd R tk22 ta22 ⟨R, mN0 (oFaS tf43_3 tk22 ts22 R R R ⟨R, mN0 (oLd R tk22 ta22 ⟨R, mN0 (oLnL (f := LV.I) te22 R ⟨R, mN0 (oSub R R ⟨R, mN0 (oIx (f := LV.I) te22 tk3 ts3 R R okI hx13 R ⟨R, mN0 (oLd R tk3 ta3 ⟨R, mN0 (oFaS tf52_3 tk3 ts3 R R R ⟨R, mN0 (oLd R tk3 ta3 ⟨R, mN0 (oNe R R ⟨R, zM⟩)⟩)⟩)⟩)⟩)⟩)⟩)⟩)⟩)⟩)⟩)) (LH.cond (t := (x13 != p2.Seal)) R (fun hc14 => ?_) (fun hc14 => ?_))
  ·replace h := iteT h hc14
   refine LH.seqT [(6, .I 9)] [] R (sAi R zS) (LH.ret (thenR ?_))
   obtain rfl := oI h
   exact retE (aT Tryz.results53) (lrT R (lr0 ⟨memN mN, R, prK R, Sub.rfl⟩))
  replace h := iteF h hc14
  refine LH.skip (thenN (LH.seqT [(6, .I 0)] [] R (sAi R zS) (LH.ret ?_)))
  obtain rfl := oI h
  exact retE (aT Tryz.results53) (lrT R (lr0 ⟨memN mN, R, prK R, Sub.rfl⟩))

theorem q273q {F : Nat} {p0 : List GBag} {p1 : Gq0} {r : List GBag × Int} (h : q193q F p0 p1 = some r) : LCall Tryz.prog 28 [.lst 6 (List.map GBag.lv p0), Gq0.lv p1] (Mem.of []) (.tup [.lst 6 (List.map GBag.lv r.1), .I r.2]) (Mem.of []) := by
  unfold q193q at h
  refine bodyT Tryz.func28 R (nT Tryz.ntmps28 R) (LH.wk (Wk.eq (el := [(0, .lst 6 (List.map GBag.lv p0)), (1, Gq0.lv p1)]) (ml := []) R R R R) (LH.seqT [(0, .lst 6 (List.map GBag.lv p0)), (3, .sptr (Gq0.lv p1).cells)] [] R (sB (oBxR R R R R (sAn R (sAi R zS)))) (LH.seq ?_)))
  obtain ⟨r1, hr1, h⟩ := bindS h
  refine LH.seqT [(0, .lst 6 (List.map GBag.lv p0)), (3, .sptr (Gq0.lv p1).cells), (13, .bool (r1 != 0))] [] R (sMl R (sN (oCP (args := [.lst 6 (List.map GBag.lv p0)]) R isF25 R (sbR sbN) (q274q hr1) R (sN (oNe R R zS))))) (LH.cond (t := (r1 != 0)) R (fun hc2 => ?_) (fun hc2 => ?_))
  ·replace h := iteT h hc2
   refine LH.seqT [(4, .nil), (5, .I 1)] [] R (sAn R (sAi R zS)) (LH.ret (thenR ?_))
   obtain rfl := oI h
   exact retE (aT Tryz.results28) (lrT R (lrT R (lr0 ⟨memN mN, R, prK R, (Sub.tup (sbL (sbR sbN)))⟩)))
  replace h := iteF h hc2
  refine LH.skip (thenN (LH.wk (Wk.eq (el := [(0, .lst 6 (List.map GBag.lv p0)), (3, .sptr (Gq0.lv p1).cells)]) (ml := []) R R R R) (LH.seq ?_)))
  obtain ⟨r3, hr3, h⟩ := bindS h
  refine LH.seqT [(0, .lst 6 (List.map GBag.lv p0)), (3, .sptr (Gq0.lv p1).cells), (16, .bool (!r3))] [] R (sN (oLdA R tk52 ta52 ts52 R R (sN (oCP (args := [Gq0.lv p1]) R isF50 R (sbR sbN) (q269q hr3) R (sN (oNot R zS)))))) (LH.cond (t := (!r3)) R (fun hc4 => ?_) (fun hc4 => ?_))
  ·replace h := iteT h hc4
   refine LH.seqT [(4, .nil), (5, .I 2)] [] R (sAn R (sAi R zS)) (LH.ret (thenR ?_))
   obtain rfl := oI h
   exact retE (aT Tryz.results28) (lrT R (lrT R (lr0 ⟨memN mN, R, prK R, (Sub.tup (sbL (sbR sbN)))⟩)))
  replace h := iteF h hc4
  refine LH.skip (thenN (LH.wk (Wk.eq (el := [(0, .lst 6 (List.map GBag.lv p0)), (3, .sptr (Gq0.lv p1).cells)]) (ml := []) R R R R) (LH.seq (LH.seqT [(0, .lst 6 (List.map GBag.lv p0)), (3, .sptr (Gq0.lv p1).cells), (28, .bool ((p1.Stamp.Source != 0) && (p1.Stamp.Source != p1.From)))] [] R ?_ ?_))))
  ·refine sN (oFaS tf52_0 tk50 ts50 R R R (sN (oFaS tf50_1 tk3 ts3 R R R (sN (oLd R tk3 ta3 (sN (oNe R R (sMb R ?_))))))))
   by_cases hb6 : (p1.Stamp.Source != 0) = true
   ·exact sT R (cB hb6) (oFaS tf52_0 tk50 ts50 R R R (sT R (cB hb6) (oFaS tf50_1 tk3 ts3 R R R (sT R (cB hb6) (oLd R tk3 ta3 (sT R (cB hb6) (oFaS tf52_4 tk3 ts3 R R R (sT R (cB hb6) (oLd R tk3 ta3 (sT R (cB hb6) (oNe R R (sN (oPkT (cB hb6) (v := (.bool _)) R (s0 (Wk.to (eC R (eC R (eC (cB (andT hb6)) eN))) mN R (prK R))))))))))))))))
   ·replace hb6 := bF hb6
    exact sF R R hb6 (sF R R hb6 (sF R R hb6 (sF R R hb6 (sF R R hb6 (sF R R hb6 (sN (oPkF (cB hb6) (v := (.bool _)) R (s0 (Wk.to (eC R (eC R (eC (cB (andF hb6)) eN))) mN R (prK R))))))))))
  refine LH.cond (t := ((p1.Stamp.Source != 0) && (p1.Stamp.Source != p1.From))) R (fun hc7 => ?_) (fun hc7 => ?_)
  ·replace h := iteT h hc7
   refine LH.seqT [(4, .nil), (5, .I 28)] [] R (sAn R (sAi R zS)) (LH.ret (thenR ?_))
   obtain rfl := oI h
   exact retE (aT Tryz.results28) (lrT R (lrT R (lr0 ⟨memN mN, R, prK R, (Sub.tup (sbL (sbR sbN)))⟩)))
  replace h := iteF h hc7
  refine LH.skip (thenN (LH.wk (Wk.eq (el := [(0, .lst 6 (List.map GBag.lv p0)), (3, .sptr (Gq0.lv p1).cells)]) (ml := []) R R R R) (LH.seq (LH.seqT [(0, .lst 6 (List.map GBag.lv p0)), (3, .sptr (Gq0.lv p1).cells), (31, .bool (p1.Kind == 1))] [] R (sN (oFaS tf52_1 tk3 ts3 R R R (sN (oLd R tk3 ta3 (sN (oEq R R zS)))))) (LH.cond (t := (p1.Kind == 1)) R (fun hc8 => ?_) (fun hc8 => ?_))))))
  ·replace h := iteT h hc8
   obtain ⟨r9, hr9, h⟩ := bindS h
   refine LH.seqT [(4, .lst 6 (List.map GBag.lv r9.1)), (5, .I r9.2)] [] R (sMl R (sN (oLdA R tk52 ta52 ts52 R R (sN (oCP (args := [.lst 6 (List.map GBag.lv p0), Gq0.lv p1]) R isF51 R (sbR (sbR sbN)) (q282q hr9) R (sN (oEx R R (sN (oEx R R (sAl R (sAi R zS))))))))))) (LH.ret (thenR ?_))
   obtain rfl := oI h
   exact retE (aT Tryz.results28) (lrT R (lrT R (lr0 ⟨memN mN, R, prK R, (Sub.tup (sbR (sbR sbN)))⟩)))
  replace h := iteF h hc8
  refine LH.skip (thenN ?_)
  obtain ⟨r10, hr10, h⟩ := bindS h
  refine LH.seqT [(0, .lst 6 (List.map GBag.lv p0)), (3, .sptr (Gq0.lv p1).cells), (6, .I r10)] [] R (sMl R (sN (oFaS tf52_2 tk3 ts3 R R R (sN (oLd R tk3 ta3 (sN (oCP (args := [.lst 6 (List.map GBag.lv p0), .I p1.Bag]) R isF52 R (sbR (sbR sbN)) (q242q hr10) R (sAi R zS)))))))) (LH.seq (LH.seqT [(0, .lst 6 (List.map GBag.lv p0)), (3, .sptr (Gq0.lv p1).cells), (6, .I r10), (42, .bool (decide (r10 < 0)))] [] R (sMi R (sN (oLt R R zS))) (LH.cond (t := (decide (r10 < 0))) R (fun hc11 => ?_) (fun hc11 => ?_))))
  ·replace h := iteT h hc11
   refine LH.seqT [(4, .nil), (5, .I 4)] [] R (sAn R (sAi R zS)) (LH.ret (thenR ?_))
   obtain rfl := oI h
   exact retE (aT Tryz.results28) (lrT R (lrT R (lr0 ⟨memN mN, R, prK R, (Sub.tup (sbL (sbR sbN)))⟩)))
  replace h := iteF h hc11
  refine LH.skip (thenN ?_)
  obtain ⟨x12, hx12, h⟩ := bindS h
  refine LH.seqT [(0, .lst 6 (List.map GBag.lv p0)), (3, .sptr (Gq0.lv p1).cells), (6, .I r10), (7, .ptr 107 0)] [(107, .box (GBag.lv x12).cells)] R (sMl R (sMi R (sN (oIx (f := GBag.lv) te27 tk43 ts43 R R GBag.ok hx12 R (sN (oLdA R tk43 ta43 ts43 R R (sN (oAl (id := 107) R tz43 R R (s_ (oSt R R R tk43 ts43 R R R zS)))))))))) (LH.seq ?_)
  obtain ⟨r13, hr13, h⟩ := bindS h
  refine LH.seqT [(0, .lst 6 (List.map GBag.lv p0)), (3, .sptr (Gq0.lv p1).cells), (6, .I r10), (7, .ptr 107 0), (8, .I r13)] [(107, .box (GBag.lv x12).cells)] R (sMl R (sN (oLdPA R R R tk43 ta43 ts43 R R (sN (oLdA R tk52 ta52 ts52 R R (sN (oCP (args := [.lst 6 (List.map GBag.lv p0), GBag.lv x12, Gq0.lv p1]) R isF53 R (sbR (sbR (sbR sbN))) (q261q hr13) R (sAi R zS)))))))) (LH.seqT [(0, .lst 6 (List.map GBag.lv p0)), (3, .sptr (Gq0.lv p1).cells), (6, .I r10), (7, .ptr 107 0), (8, .I r13), (52, .bool (r13 != 0))] [(107, .box (GBag.lv x12).cells)] R (sMi R (sN (oNe R R zS))) (LH.cond (t := (r13 != 0)) R (fun hc14 => ?_) (fun hc14 => ?_)))
  ·replace h := iteT h hc14
   refine LH.seqT [(4, .nil), (5, .I r13)] [] R (sMi R (sAn R (sAi R zS))) (LH.ret (thenR ?_))
   obtain rfl := oI h
   exact retE (aT Tryz.results28) (lrT R (lrT R (lr0 ⟨memN mN, R, prK R, (Sub.tup (sbL (sbR sbN)))⟩)))
  replace h := iteF h hc14
  refine LH.skip (thenN (LH.wk (Wk.eq (el := [(0, .lst 6 (List.map GBag.lv p0)), (3, .sptr (Gq0.lv p1).cells), (6, .I r10), (7, .ptr 107 0)]) (ml := [(107, .box (GBag.lv x12).cells)]) R R R R) (LH.mid (fun e m => ∃ (n15 : Int) (b16 : Bool) (l17 : List Int) (l18 : List Int), q75q p0 r10 x12 n15 b16 l17 l18 = some r ∧ Wk (fun id => Mem.of [] id ≠ .none) e m (Env.of [(0, .lst 6 (List.map GBag.lv p0)), (6, .I r10), (7, .sptr [.I x12.Bag, .I n15, .bool b16, .L l17, .L x12.Packed, .L l18])]) (Mem.of [])) ?_ ?_)))
  ·refine LH.seqT [(0, .lst 6 (List.map GBag.lv p0)), (3, .sptr (Gq0.lv p1).cells), (6, .I r10), (7, .ptr 107 0), (55, .I p1.Kind)] [(107, .box (GBag.lv x12).cells)] R (sN (oFaS tf52_1 tk3 ts3 R R R (sN (oLd R tk3 ta3 zS)))) (LH.block (LH.seqT [(0, .lst 6 (List.map GBag.lv p0)), (3, .sptr (Gq0.lv p1).cells), (6, .I r10), (7, .ptr 107 0), (55, .I p1.Kind), (56, .bool (p1.Kind == 2))] [(107, .box (GBag.lv x12).cells)] R (sN (oEq R R (sAb R zS))) (LH.cond (t := (p1.Kind == 2)) R (fun hc24 => ?_) (fun hc24 => ?_))))
   ·replace h := iteT h hc24
    exact LH.loneT [(0, .lst 6 (List.map GBag.lv p0)), (6, .I r10), (7, .sptr [.I x12.Bag, .I p1.To, .bool x12.Open, .L x12.Seals, .L x12.Packed, .L x12.Found])] [] R (sN (oFaS tf52_5 tk3 ts3 R R R (sN (oLd R tk3 ta3 (sN (oFa tf43_1 tk3 ts3 R R (s_ (oSt R R R tk3 ts3 R R R (s0 ((Wk.trans (Wk.eq (el := [(0, .lst 6 (List.map GBag.lv p0)), (6, .I r10), (7, .ptr 107 0)]) (ml := [(107, .box [.I x12.Bag, .I p1.To, .bool x12.Open, .L x12.Seals, .L x12.Packed, .L x12.Found])]) R R R R) (Wk.trans (Wk.frzB 107 [.I x12.Bag, .I p1.To, .bool x12.Open, .L x12.Seals, .L x12.Packed, .L x12.Found] R R R (prN R)) (Wk.eq R R R R))))))))))))) (blockN (thenN ⟨p1.To, x12.Open, x12.Seals, x12.Found, h, Wk.eq R R R R⟩))
   replace h := iteF h hc24
   refine LH.seqT [(0, .lst 6 (List.map GBag.lv p0)), (3, .sptr (Gq0.lv p1).cells), (6, .I r10), (7, .ptr 107 0), (55, .I p1.Kind), (61, .bool (p1.Kind == 3))] [(107, .box (GBag.lv x12).cells)] R (sN (oEq R R (sAb R zS))) (LH.cond (t := (p1.Kind == 3)) R (fun hc25 => ?_) (fun hc25 => ?_))
   ·replace h := iteT h hc25
    exact LH.loneTM mixed [] [0, 0, 0, 100107, 0, 100107] [(0, .lst 6 (List.map GBag.lv p0)), (6, .I r10), (7, .sptr [.I x12.Bag, .I x12.Holder, .bool true, .L x12.Seals, .L x12.Packed, .L p1.Candidates])] [] R R (by kernel_rfl) (mN0 (oFaS tf52_6 tk22 ts22 R R R ⟨R, mN0 (oLd R tk22 ta22 ⟨R, mN0 (oFa tf43_2 tk4 ts4 R R ⟨R, mS R R R (fun _ b _ d => oSt R R R tk4 ts4 b R R d) (mN0 (oFa tf43_5 tk22 ts22 R R ⟨R, mS R R R (fun _ b _ d => oSt R R R tk22 ts22 b R R d) (m0 ((Wk.trans (Wk.eq (el := [(0, .lst 6 (List.map GBag.lv p0)), (6, .I r10), (7, .ptr 107 0)]) (ml := [(107, .box [.I x12.Bag, .I x12.Holder, .bool true, .L x12.Seals, .L x12.Packed, .L p1.Candidates])]) R R R R) (Wk.trans (Wk.frzB 107 [.I x12.Bag, .I x12.Holder, .bool true, .L x12.Seals, .L x12.Packed, .L p1.Candidates] R R R (prN R)) (Wk.eq R R R R)))))⟩))⟩)⟩)⟩)) (blockN (thenN ⟨x12.Holder, true, x12.Seals, p1.Candidates, h, Wk.eq R R R R⟩))
   replace h := iteF h hc25
   refine LH.seqT [(0, .lst 6 (List.map GBag.lv p0)), (3, .sptr (Gq0.lv p1).cells), (6, .I r10), (7, .ptr 107 0), (67, .bool (p1.Kind == 4))] [(107, .box (GBag.lv x12).cells)] R (sN (oEq R R (sAb R zS))) (LH.cond (t := (p1.Kind == 4)) R (fun hc26 => ?_) (fun hc26 => ?_))
   ·replace h := iteT h hc26
    refine LH.seqT [(0, .lst 6 (List.map GBag.lv p0)), (3, .sptr (Gq0.lv p1).cells), (6, .I r10), (7, .ptr 107 0), (9, .nil)] [(107, .box (GBag.lv x12).cells)] R (sAn R zS) ?_
    obtain ⟨v27, hv27, h⟩ := bindS h
    refine LH.seqT [(0, .lst 6 (List.map GBag.lv p0)), (3, .sptr (Gq0.lv p1).cells), (6, .I r10), (7, .ptr 107 0), (9, .arr 172 (List.length v27))] [(107, .box (GBag.lv x12).cells), (172, .arr 3 1 (List.map LV.I v27))] R (sMn R (sN (oFa tf43_3 tk22 ts22 R R (sN (oLdP R R R R tk22 ta22 (sN (oApN (f := LV.I) (id := 172) R te22 tr3 ts3 R R hv27 R (sAa R zS)))))))) ?_
    obtain ⟨v28, hv28, h⟩ := bindS h
    exact LH.loneT [(0, .lst 6 (List.map GBag.lv p0)), (6, .I r10), (7, .sptr [.I x12.Bag, .I x12.Holder, .bool x12.Open, .L v28, .L x12.Packed, .L x12.Found])] [] R (sMa R (sN (oFaS tf52_3 tk3 ts3 R R R (sN (oLd R tk3 ta3 (sN (oBS (f := LV.I) (ys := [p1.Seal]) te22 tr3 ts3 R R R okI (sN (oAp (f := LV.I) te22 tr3 ts3 R R (prN R) R hv28 (sN (oFa tf43_3 tk22 ts22 R R (s_ (oSt R R R tk22 ts22 R R R (s0 ((Wk.trans (Wk.eq (el := [(0, .lst 6 (List.map GBag.lv p0)), (6, .I r10), (7, .ptr 107 0)]) (ml := [(107, .box [.I x12.Bag, .I x12.Holder, .bool x12.Open, .arr 172 (List.length v28), .L x12.Packed, .L x12.Found]), (172, .arr 3 1 (List.map LV.I v28))]) R R R R) (Wk.trans (Wk.eq (el := [(0, .lst 6 (List.map GBag.lv p0)), (6, .I r10), (7, .ptr 107 0)]) (ml := [(107, .box [.I x12.Bag, .I x12.Holder, .bool x12.Open, .arr 172 (List.length v28), .L x12.Packed, .L x12.Found]), (172, .arr 3 1 (List.map LV.I v28))]) R R R R) (Wk.trans (Wk.trans (Wk.frzBx (f := LV.I) 172 3 1 v28 107 R R R (frAK R (frAK R (frAK R (frAZ (frAK R (frAK R frA0)))))) R R (prN R)) (Wk.eq (el := [(0, .lst 6 (List.map GBag.lv p0)), (6, .I r10), (7, .ptr 107 0)]) (ml := [(107, .box [.I x12.Bag, .I x12.Holder, .bool x12.Open, .L v28, .L x12.Packed, .L x12.Found])]) R R R R)) (Wk.trans (Wk.frzB 107 [.I x12.Bag, .I x12.Holder, .bool x12.Open, .L v28, .L x12.Packed, .L x12.Found] R R R (prN R)) (Wk.eq R R R R)))))))))))))))))))) (blockN (thenN ⟨x12.Holder, x12.Open, v28, x12.Found, h, Wk.eq R R R R⟩))
   replace h := iteF h hc26
   exact LH.skip (blockN (thenN ⟨x12.Holder, x12.Open, x12.Seals, x12.Found, h, (Wk.trans (Wk.eq (el := [(0, .lst 6 (List.map GBag.lv p0)), (6, .I r10), (7, .ptr 107 0)]) (ml := [(107, .box (GBag.lv x12).cells)]) R R R R) (Wk.trans (Wk.frzB 107 (GBag.lv x12).cells R R R (prN R)) (Wk.eq R R R R)))⟩))
  clear h
  rintro e m ⟨n15, b16, l17, l18, h, hw⟩
  refine LH.wk hw ?_
  clear hw
  unfold q75q at h
  refine LH.seqT [(0, .lst 6 (List.map GBag.lv p0)), (6, .I r10), (7, .sptr [.I x12.Bag, .I n15, .bool b16, .L l17, .L x12.Packed, .L l18]), (10, .nil)] [] R (sAn R zS) ?_
  obtain ⟨v19, hv19, h⟩ := bindS h
  obtain ⟨v20, hv20, h⟩ := bindS h
  refine LH.seqT [(0, .lst 6 (List.map GBag.lv p0)), (6, .I r10), (7, .sptr [.I x12.Bag, .I n15, .bool b16, .L l17, .L x12.Packed, .L l18]), (10, .arr 183 (List.length v20))] [(183, .arr 43 6 (List.map GBag.lv v20))] R (sMn R (sMl R (sMi R (sN (oSl (f := GBag.lv) te27 tk43 ts43 R R R hv19 (sN (oApN (f := GBag.lv) (id := 183) R te27 tr43 ts43 R R hv20 R (sAa R zS)))))))) ?_
  obtain ⟨v21, hv21, h⟩ := bindS h
  refine LH.seqT [(0, .lst 6 (List.map GBag.lv p0)), (6, .I r10), (10, .arr 183 (List.length v21))] [(183, .arr 43 6 (List.map GBag.lv v21))] R (sMa R (sN (oLdA R tk43 ta43 ts43 R R (sN (oBS (f := GBag.lv) (ys := [(GBag.mk x12.Bag n15 b16 l17 x12.Packed l18)]) te27 tr43 ts43 R R R GBag.ok (sN (oAp (f := GBag.lv) te27 tr43 ts43 R R (prN R) R hv21 (sAa R zS)))))))) ?_
  obtain ⟨v22, hv22, h⟩ := bindS h
  obtain ⟨v23, hv23, h⟩ := bindS h
  refine LH.seqT [(4, .lst 6 (List.map GBag.lv v23)), (5, .I 0)] [] R (sMa R (sMl R (sMi R (sN (oAdd R R (sN (oSl (f := GBag.lv) te27 tk43 ts43 R R R hv22 (sN (oAp (f := GBag.lv) te27 tr43 ts43 R R (prN R) R hv23 (sAa R (sAi R (s0 ((Wk.trans (Wk.eq (el := [(4, .arr 183 (List.length v23)), (5, .I 0)]) (ml := [(183, .arr 43 6 (List.map GBag.lv v23))]) R R R R) (Wk.trans (Wk.frzL (f := GBag.lv) (el' := [(4, .lst 6 (List.map GBag.lv v23)), (5, .I 0)]) 183 43 6 v23 R R (prN R) (fZ (fK R fN))) (Wk.eq R R R R)))))))))))))))) (LH.ret ?_)
  obtain rfl := oI h
  exact retE (aT Tryz.results28) (lrT R (lrT R (lr0 ⟨memN mN, R, prK R, (Sub.tup (sbR (sbR sbN)))⟩)))

theorem q280q {F : Nat} {p0 : List Gq0} {p1 : Int} {r : List GBag × List Gq2 × Int} (h : q202q F p0 p1 = some r) : LCall Tryz.prog 10 [.lst 9 (List.map Gq0.lv p0), .I p1] (Mem.of []) (.tup [.lst 6 (List.map GBag.lv r.1), .lst 3 (List.map Gq2.lv r.2.1), .I r.2.2]) (Mem.of []) := by
  unfold q202q at h
  refine bodyT Tryz.func10 R (nT Tryz.ntmps10 R) (LH.wk (Wk.eq (el := [(0, .lst 9 (List.map Gq0.lv p0)), (1, .I p1)]) (ml := []) R R R R) (LH.seqT [(0, .lst 9 (List.map Gq0.lv p0)), (1, .I p1)] [] R (sAn R (sAn R (sAi R zS))) ?_))
  obtain ⟨r1, hr1, h⟩ := bindS h
  refine LH.seqT [(1, .I p1), (7, .lst 9 (List.map Gq0.lv r1.1)), (8, .I r1.2)] [] R (sMl R (sN (oCP (args := [.lst 9 (List.map Gq0.lv p0)]) R isF35 R (sbR sbN) (q249q hr1) R (sMt R (sN (oEx R R (sN (oEx R R (sAl R (sAi R zS)))))))))) (LH.seq (LH.seqT [(1, .I p1), (7, .lst 9 (List.map Gq0.lv r1.1)), (8, .I r1.2), (20, .bool (r1.2 != 0))] [] R (sMi R (sN (oNe R R zS))) (LH.cond (t := (r1.2 != 0)) R (fun hc2 => ?_) (fun hc2 => ?_))))
  ·replace h := iteT h hc2
   refine LH.seqT [(4, .nil), (5, .nil), (6, .I r1.2)] [] R (sMi R (sAn R (sAn R (sAi R zS)))) (LH.ret (thenR ?_))
   obtain rfl := oI h
   exact retE (aT Tryz.results10) (lrT R (lrT R (lrT R (lr0 ⟨memN mN, R, prK R, (Sub.tup (sbL (sbL (sbR sbN))))⟩))))
  replace h := iteF h hc2
  refine LH.skip (thenN (LH.seqT [(1, .I p1), (7, .lst 9 (List.map Gq0.lv r1.1)), (9, .nil)] [] R (sAn R zS) (LH.seqT [(1, .I p1), (7, .lst 9 (List.map Gq0.lv r1.1)), (9, .nil), (10, .nil)] [] R (sAn R zS) (LH.seq (LH.seqT [(1, .I p1), (7, .lst 9 (List.map Gq0.lv r1.1)), (9, .nil), (10, .nil), (11, .I 0)] [] R (sAi R zS) (LH.block (LH.wk ((Wk.trans (Wk.eq (el := [(1, .I p1), (7, .lst 9 (List.map Gq0.lv r1.1)), (9, .nil), (10, .nil), (11, .I 0)]) (ml := []) R R R R) (Wk.trans (Wk.eq (el := [(1, .I p1), (7, .lst 9 (List.map Gq0.lv r1.1)), (9, .nil), (10, .nil), (11, .I 0)]) (ml := []) R R R R) (Wk.trans (Wk.ownL (el' := [(1, .I p1), (7, .lst 9 (List.map Gq0.lv r1.1)), (9, .nil), (10, .arr 164 (List.length ([] : List Gq2))), (11, .I 0)]) 164 68 3 R R (wK (wK (wK (wO (wK wN)))))) (Wk.to (el := [(1, .I p1), (7, .lst 9 (List.map Gq0.lv r1.1)), (9, .lst 6 (List.map GBag.lv ([] : List GBag))), (10, .arr 164 (List.length ([] : List Gq2))), (11, .I 0)]) (ml := [(164, .arr 68 3 (List.map Gq2.lv ([] : List Gq2)))]) (eC R (eC R (eL R (eC R (eC R eN))))) ⟨R, trivial⟩ R (prK R)))))) (LH.loop (fun n e m => ∃ (l3 : List GBag) (n4 : Int) (l5 : List Gq2), q58q F p1 r1 n l3 n4 l5 = some r ∧ e = Env.of [(1, .I p1), (7, .lst 9 (List.map Gq0.lv r1.1)), (9, .lst 6 (List.map GBag.lv l3)), (10, .arr 164 (List.length l5)), (11, .I n4)] ∧ m = Mem.of [(164, .arr 68 3 (List.map Gq2.lv l5))]) F ⟨([] : List GBag), 0, ([] : List Gq2), h, R, R⟩ ?_))))))))
  clear h
  rintro n e m ⟨l3, n4, l5, h, rfl, rfl⟩
  rcases n with _ | n
  · cases (show Option.none = some _ from h)
  obtain ⟨rec1, hrec1⟩ : ∃ f, f = q58q F p1 r1 n := ⟨_, rfl⟩
  replace h : q92q F p1 r1 rec1 l3 n4 l5 = some r := hrec1 ▸ h
  unfold q92q at h
  refine LH.seq (LH.seqT [(1, .I p1), (7, .lst 9 (List.map Gq0.lv r1.1)), (9, .lst 6 (List.map GBag.lv l3)), (10, .arr 164 (List.length l5)), (11, .I n4), (25, .bool (decide (n4 < (r1.1.length : Int))))] [(164, .arr 68 3 (List.map Gq2.lv l5))] R (sMi R (sMl R (sN (oLnL (f := Gq0.lv) te25 R (sN (oLt R R zS)))))) (LH.cond (t := (decide (n4 < (r1.1.length : Int)))) R (fun hc6 => ?_) (fun hc6 => ?_)))
  ·replace h := iteT h hc6
   refine LH.skip (thenN (LH.wk (Wk.eq (el := [(1, .I p1), (7, .lst 9 (List.map Gq0.lv r1.1)), (9, .lst 6 (List.map GBag.lv l3)), (10, .arr 164 (List.length l5)), (11, .I n4)]) (ml := [(164, .arr 68 3 (List.map Gq2.lv l5))]) R R R R) (LH.seq (LH.block (LH.seq ?_)))))
   obtain ⟨x7, hx7, h⟩ := bindS h
   refine LH.seqT [(1, .I p1), (7, .lst 9 (List.map Gq0.lv r1.1)), (9, .lst 6 (List.map GBag.lv l3)), (10, .arr 164 (List.length l5)), (11, .I n4), (35, .bool (decide (x7.Stamp.Time > p1)))] [(164, .arr 68 3 (List.map Gq2.lv l5))] R (sMl R (sMi R (sN (oIx (f := Gq0.lv) te25 tk52 ts52 R R Gq0.ok hx7 R (sN (oFaS tf52_0 tk50 ts50 R R R (sN (oFaS tf50_0 tk3 ts3 R R R (sN (oLd R tk3 ta3 (sMi R (sN (oGt R R zS))))))))))))) (LH.cond (t := (decide (x7.Stamp.Time > p1))) R (fun hc8 => ?_) (fun hc8 => ?_))
   ·replace h := iteT h hc8
    refine LH.exit (thenX (blockH (thenN (LH.loneT [(1, .I p1), (7, .lst 9 (List.map Gq0.lv r1.1)), (9, .lst 6 (List.map GBag.lv l3)), (10, .arr 164 (List.length l5)), (11, .I (i64 (n4 + 1)))] [(164, .arr 68 3 (List.map Gq2.lv l5))] R (sMi R (sN (oAdd R R (sAi R zS)))) ?_))))
    exact roundI ⟨l3, (i64 (n4 + 1)), l5, hrec1 ▸ h, R, R⟩ (Wk.eq R R R R)
   replace h := iteF h hc8
   refine LH.skip (thenN ?_)
   obtain ⟨x9, hx9, h⟩ := bindS h
   obtain ⟨r10, hr10, h⟩ := bindS h
   refine LH.seqT [(1, .I p1), (7, .lst 9 (List.map Gq0.lv r1.1)), (9, .lst 6 (List.map GBag.lv l3)), (10, .arr 164 (List.length l5)), (11, .I n4), (12, .lst 6 (List.map GBag.lv r10.1)), (13, .I r10.2)] [(164, .arr 68 3 (List.map Gq2.lv l5))] R (sMl R (sMl R (sMi R (sN (oIx (f := Gq0.lv) te25 tk52 ts52 R R Gq0.ok hx9 R (sN (oLdA R tk52 ta52 ts52 R R (sN (oCP (args := [.lst 6 (List.map GBag.lv l3), Gq0.lv x9]) R isF28 R (sbR (sbR sbN)) (q273q hr10) R (sMt R (sN (oEx R R (sN (oEx R R (sAl R (sAi R zS)))))))))))))))) (LH.seq (LH.seqT [(1, .I p1), (7, .lst 9 (List.map Gq0.lv r1.1)), (9, .lst 6 (List.map GBag.lv l3)), (10, .arr 164 (List.length l5)), (11, .I n4), (12, .lst 6 (List.map GBag.lv r10.1)), (13, .I r10.2), (46, .bool (r10.2 != 0))] [(164, .arr 68 3 (List.map Gq2.lv l5))] R (sMi R (sN (oNe R R zS))) (LH.cond (t := (r10.2 != 0)) R (fun hc11 => ?_) (fun hc11 => ?_))))
   ·replace h := iteT h hc11
    obtain ⟨x12, hx12, h⟩ := bindS h
    obtain ⟨x13, hx13, h⟩ := bindS h
    obtain ⟨v14, hv14, h⟩ := bindS h
    refine LH.seqJM mixed [] [0, 0, 0, 0, 0, 0, 0, 0, 0, 0, 0, 0, 0, 0, 0, 0, 0, 2, 0] [(1, .I p1), (7, .lst 9 (List.map Gq0.lv r1.1)), (9, .lst 6 (List.map GBag.lv l3)), (10, .arr 164 (List.length v14)), (11, .I n4)] [(164, .arr 68 3 (List.map Gq2.lv v14))] R R (by kernel_rfl) ?_ ?_
    ·exact mMa R (mMl R (mMi R (mN0 (oIx (f := Gq0.lv) te25 tk52 ts52 R R Gq0.ok hx12 R ⟨R, mN0 (oFaS tf52_0 tk50 ts50 R R R ⟨R, mN0 (oFaS tf50_1 tk3 ts3 R R R ⟨R, mN0 (oLd R tk3 ta3 ⟨R, mMl R (mMi R (mN0 (oIx (f := Gq0.lv) te25 tk52 ts52 R R Gq0.ok hx13 R ⟨R, mN0 (oFaS tf52_0 tk50 ts50 R R R ⟨R, mN0 (oFaS tf50_2 tk3 ts3 R R R ⟨R, mN0 (oLd R tk3 ta3 ⟨R, mN0 (oBd (vs := [(0, .I x12.Stamp.Source), (1, .I x13.Stamp.Seq)]) tu66 tz66 R (lf tf66_0 ts3 tk3 R R R (lf tf66_1 ts3 tk3 R R R lf0)) ⟨R, mMi R (mN0 (oBd (vs := [(0, .agg [.I x12.Stamp.Source, .I x13.Stamp.Seq]), (1, .I r10.2)]) tu68 tz68 R (lf tf68_0 ts66 tk66 R R R (lf tf68_1 ts29 tk29 R R R lf0)) ⟨R, mN0 (oBS (f := Gq2.lv) (ys := [(Gq2.mk (Gq1.mk x12.Stamp.Source x13.Stamp.Seq) r10.2)]) te28 tr68 ts68 R R R Gq2.ok ⟨R, mN2 (oAp (f := Gq2.lv) te28 tr68 ts68 R R (prN R) R hv14 (mAa R zM))⟩)⟩))⟩)⟩)⟩)⟩)⟩)))⟩)⟩)⟩)⟩))))
    refine LH.exit (thenX (blockH (thenN (LH.loneT [(1, .I p1), (7, .lst 9 (List.map Gq0.lv r1.1)), (9, .lst 6 (List.map GBag.lv l3)), (10, .arr 164 (List.length v14)), (11, .I (i64 (n4 + 1)))] [(164, .arr 68 3 (List.map Gq2.lv v14))] R (sMi R (sN (oAdd R R (sAi R zS)))) ?_))))
    exact roundI ⟨l3, (i64 (n4 + 1)), v14, hrec1 ▸ h, R, R⟩ (Wk.eq R R R R)
   replace h := iteF h hc11
   refine LH.skip (thenN (LH.loneT [(1, .I p1), (7, .lst 9 (List.map Gq0.lv r1.1)), (9, .lst 6 (List.map GBag.lv r10.1)), (10, .arr 164 (List.length l5)), (11, .I n4)] [(164, .arr 68 3 (List.map Gq2.lv l5))] R (sMl R (sAl R zS)) (blockN (thenN (LH.loneT [(1, .I p1), (7, .lst 9 (List.map Gq0.lv r1.1)), (9, .lst 6 (List.map GBag.lv r10.1)), (10, .arr 164 (List.length l5)), (11, .I (i64 (n4 + 1)))] [(164, .arr 68 3 (List.map Gq2.lv l5))] R (sMi R (sN (oAdd R R (sAi R zS)))) ?_)))))
   exact roundI ⟨r10.1, (i64 (n4 + 1)), l5, hrec1 ▸ h, R, R⟩ (Wk.eq R R R R)
  replace h := iteF h hc6
  refine LH.exit (thenX (roundX (blockH (thenN (LH.wk ((Wk.trans (Wk.eq (el := [(9, .lst 6 (List.map GBag.lv l3)), (10, .arr 164 (List.length l5))]) (ml := [(164, .arr 68 3 (List.map Gq2.lv l5))]) R R R R) (Wk.trans (Wk.frzL (f := Gq2.lv) (el' := [(9, .lst 6 (List.map GBag.lv l3)), (10, .lst 3 (List.map Gq2.lv l5))]) 164 68 3 l5 R R (prN R) (fK R (fZ fN))) (Wk.eq (el := [(9, .lst 6 (List.map GBag.lv l3)), (10, .lst 3 (List.map Gq2.lv l5))]) (ml := []) R R R R)))) (LH.seqT [(4, .lst 6 (List.map GBag.lv l3)), (5, .lst 3 (List.map Gq2.lv l5)), (6, .I 0)] [] R (sMl R (sMl R (sAl R (sAl R (sAi R zS))))) (LH.ret ?_)))))))
  obtain rfl := oI h
  exact retE (aT Tryz.results10) (lrT R (lrT R (lrT R (lr0 ⟨memN mN, R, prK R, (Sub.tup (sbR (sbR (sbR sbN))))⟩))))

set_option maxHeartbeats 4000000 in
theorem q212q {F : Nat} {p0 : List GBag} {p1 : List Int} {r : List Int × List Int × List Int × List Int} (h : q121q F p0 p1 = some r) : LCall Tryz.prog 17 [.lst 6 (List.map GBag.lv p0), .L p1] (Mem.of []) (.tup [.L r.1, .L r.2.1, .L r.2.2.1, .L r.2.2.2]) (Mem.of []) := by
  unfold q121q at h
  refine bodyT Tryz.func17 R (nT Tryz.ntmps17 R) (LH.wk (Wk.eq (el := [(0, .lst 6 (List.map GBag.lv p0)), (1, .L p1)]) (ml := []) R R R R) (LH.seqT [(0, .lst 6 (List.map GBag.lv p0)), (1, .L p1), (4, .nil), (5, .nil), (6, .nil), (7, .nil)] [] R (sAn R (sAn R (sAn R (sAn R zS)))) (LH.seqT [(0, .lst 6 (List.map GBag.lv p0)), (1, .L p1), (4, .nil), (5, .nil), (6, .nil), (7, .nil), (8, .mp 119), (9, .mp 120), (10, .mp 121)] [(119, .map 3 4 (mlv LV.I LV.bool ([] : List (Int × Bool)))), (120, .map 3 4 (mlv LV.I LV.bool ([] : List (Int × Bool)))), (121, .map 3 4 (mlv LV.I LV.bool ([] : List (Int × Bool))))] R (sX ((ok_makeMap (kt := 3) (vt := 4) (id := 119) R).ok) (sX ((ok_makeMap (kt := 3) (vt := 4) (id := 120) R).ok) (sX ((ok_makeMap (kt := 3) (vt := 4) (id := 121) R).ok) (sN (oA (v := (.mp _)) R (sN (oA (v := (.mp _)) R (sN (oA (v := (.mp _)) R zS))))))))) (LH.seq (LH.seqT [(1, .L p1), (4, .nil), (5, .nil), (6, .nil), (7, .nil), (8, .mp 119), (9, .mp 120), (10, .mp 121), (22, .lst 6 (List.map GBag.lv p0)), (23, .I (p0.length : Int)), (24, .I 0)] [(119, .map 3 4 (mlv LV.I LV.bool ([] : List (Int × Bool)))), (120, .map 3 4 (mlv LV.I LV.bool ([] : List (Int × Bool)))), (121, .map 3 4 (mlv LV.I LV.bool ([] : List (Int × Bool))))] R (sMl R (sN (oLnL (f := GBag.lv) te27 R (sMi R zS)))) (LH.block (LH.loop (fun n e m => ∃ (n1 : Int) (m2 : List (Int × Bool)) (m3 : List (Int × Bool)) (m4 : List (Int × Bool)), q8q F p0 p1 n n1 m2 m3 m4 = some r ∧ e = Env.of [(1, .L p1), (4, .nil), (5, .nil), (6, .nil), (7, .nil), (8, .mp 119), (9, .mp 120), (10, .mp 121), (22, .lst 6 (List.map GBag.lv p0)), (23, .I (p0.length : Int)), (24, .I n1)] ∧ m = Mem.of [(119, .map 3 4 (mlv LV.I LV.bool m2)), (120, .map 3 4 (mlv LV.I LV.bool m3)), (121, .map 3 4 (mlv LV.I LV.bool m4))]) F ⟨0, ([] : List (Int × Bool)), ([] : List (Int × Bool)), ([] : List (Int × Bool)), h, R, R⟩ ?_)))))))
  clear h
  rintro n e m ⟨n1, m2, m3, m4, h, rfl, rfl⟩
  rcases n with _ | n
  · cases (show Option.none = some _ from h)
  obtain ⟨rec1, hrec1⟩ : ∃ f, f = q8q F p0 p1 n := ⟨_, rfl⟩
  replace h : q82q F p0 p1 rec1 n1 m2 m3 m4 = some r := hrec1 ▸ h
  unfold q82q at h
  refine LH.seqT [(1, .L p1), (4, .nil), (5, .nil), (6, .nil), (7, .nil), (8, .mp 119), (9, .mp 120), (10, .mp 121), (22, .lst 6 (List.map GBag.lv p0)), (23, .I (p0.length : Int)), (24, .I n1), (25, .bool (decide (n1 < (p0.length : Int))))] [(119, .map 3 4 (mlv LV.I LV.bool m2)), (120, .map 3 4 (mlv LV.I LV.bool m3)), (121, .map 3 4 (mlv LV.I LV.bool m4))] R (sN (oLt R R zS)) (LH.seq (LH.cond (t := (decide (n1 < (p0.length : Int)))) R (fun hc5 => ?_) (fun hc5 => ?_)))
  ·replace h := iteT h hc5
   refine LH.skip (thenN (LH.wk (Wk.eq (el := [(1, .L p1), (4, .nil), (5, .nil), (6, .nil), (7, .nil), (8, .mp 119), (9, .mp 120), (10, .mp 121), (22, .lst 6 (List.map GBag.lv p0)), (23, .I (p0.length : Int)), (24, .I n1)]) (ml := [(119, .map 3 4 (mlv LV.I LV.bool m2)), (120, .map 3 4 (mlv LV.I LV.bool m3)), (121, .map 3 4 (mlv LV.I LV.bool m4))]) R R R R) (LH.seq (LH.block ?_))))
   obtain ⟨x6, hx6, h⟩ := bindS h
   refine LH.seqT [(1, .L p1), (4, .nil), (5, .nil), (6, .nil), (7, .nil), (8, .mp 119), (9, .mp 120), (10, .mp 121), (12, .sptr (GBag.lv x6).cells), (22, .lst 6 (List.map GBag.lv p0)), (23, .I (p0.length : Int)), (24, .I n1)] [(119, .map 3 4 (mlv LV.I LV.bool m2)), (120, .map 3 4 (mlv LV.I LV.bool m3)), (121, .map 3 4 (mlv LV.I LV.bool m4))] R (sN (oIx (f := GBag.lv) te27 tk43 ts43 R R GBag.ok hx6 R (sN (oLdA R tk43 ta43 ts43 R R (sN (oAl (id := 112) R tz43 R R (s_ (oSt R R R tk43 ts43 R R R (s0 ((Wk.trans (Wk.eq (el := [(1, .L p1), (4, .nil), (5, .nil), (6, .nil), (7, .nil), (8, .mp 119), (9, .mp 120), (10, .mp 121), (12, .ptr 112 0), (22, .lst 6 (List.map GBag.lv p0)), (23, .I (p0.length : Int)), (24, .I n1)]) (ml := [(112, .box (GBag.lv x6).cells), (119, .map 3 4 (mlv LV.I LV.bool m2)), (120, .map 3 4 (mlv LV.I LV.bool m3)), (121, .map 3 4 (mlv LV.I LV.bool m4))]) R R R R) (Wk.trans (Wk.frzB 112 (GBag.lv x6).cells R R R (prN R)) (Wk.eq R R R R))))))))))))) (LH.seq (LH.seqT [(1, .L p1), (4, .nil), (5, .nil), (6, .nil), (7, .nil), (8, .mp 119), (9, .mp 120), (10, .mp 121), (12, .sptr (GBag.lv x6).cells), (22, .lst 6 (List.map GBag.lv p0)), (23, .I (p0.length : Int)), (24, .I n1), (29, .L x6.Packed), (30, .I (x6.Packed.length : Int)), (31, .I 0)] [(119, .map 3 4 (mlv LV.I LV.bool m2)), (120, .map 3 4 (mlv LV.I LV.bool m3)), (121, .map 3 4 (mlv LV.I LV.bool m4))] R (sN (oFaS tf43_4 tk22 ts22 R R R (sN (oLd R tk22 ta22 (sN (oLnL (f := LV.I) te22 R (sMi R zS))))))) (LH.block (LH.loop (fun n e m => ∃ (n7 : Int) (m8 : List (Int × Bool)) (m9 : List (Int × Bool)), q34q rec1 F n1 m4 x6 n n7 m8 m9 = some r ∧ e = Env.of [(1, .L p1), (4, .nil), (5, .nil), (6, .nil), (7, .nil), (8, .mp 119), (9, .mp 120), (10, .mp 121), (12, .sptr (GBag.lv x6).cells), (22, .lst 6 (List.map GBag.lv p0)), (23, .I (p0.length : Int)), (24, .I n1), (29, .L x6.Packed), (30, .I (x6.Packed.length : Int)), (31, .I n7)] ∧ m = Mem.of [(119, .map 3 4 (mlv LV.I LV.bool m8)), (120, .map 3 4 (mlv LV.I LV.bool m9)), (121, .map 3 4 (mlv LV.I LV.bool m4))]) F ⟨0, m2, m3, h, R, R⟩ ?_))))
   clear h
   rintro n e m ⟨n7, m8, m9, h, rfl, rfl⟩
   rcases n with _ | n
   · cases (show Option.none = some _ from h)
   obtain ⟨rec2, hrec2⟩ : ∃ f, f = q34q rec1 F n1 m4 x6 n := ⟨_, rfl⟩
   replace h : q59q rec1 F n1 m4 x6 rec2 n7 m8 m9 = some r := hrec2 ▸ h
   unfold q59q at h
   refine LH.seqT [(1, .L p1), (4, .nil), (5, .nil), (6, .nil), (7, .nil), (8, .mp 119), (9, .mp 120), (10, .mp 121), (12, .sptr (GBag.lv x6).cells), (22, .lst 6 (List.map GBag.lv p0)), (23, .I (p0.length : Int)), (24, .I n1), (29, .L x6.Packed), (30, .I (x6.Packed.length : Int)), (31, .I n7), (32, .bool (decide (n7 < (x6.Packed.length : Int))))] [(119, .map 3 4 (mlv LV.I LV.bool m8)), (120, .map 3 4 (mlv LV.I LV.bool m9)), (121, .map 3 4 (mlv LV.I LV.bool m4))] R (sN (oLt R R zS)) (LH.seq (LH.cond (t := (decide (n7 < (x6.Packed.length : Int)))) R (fun hc10 => ?_) (fun hc10 => ?_)))
   ·replace h := iteT h hc10
    refine LH.skip (thenN (LH.wk (Wk.eq (el := [(1, .L p1), (4, .nil), (5, .nil), (6, .nil), (7, .nil), (8, .mp 119), (9, .mp 120), (10, .mp 121), (12, .sptr (GBag.lv x6).cells), (22, .lst 6 (List.map GBag.lv p0)), (23, .I (p0.length : Int)), (24, .I n1), (29, .L x6.Packed), (30, .I (x6.Packed.length : Int)), (31, .I n7)]) (ml := [(119, .map 3 4 (mlv LV.I LV.bool m8)), (120, .map 3 4 (mlv LV.I LV.bool m9)), (121, .map 3 4 (mlv LV.I LV.bool m4))]) R R R R) (LH.seq (LH.block ?_))))
    obtain ⟨x11, hx11, h⟩ := bindS h
    refine LH.seqT [(1, .L p1), (4, .nil), (5, .nil), (6, .nil), (7, .nil), (8, .mp 119), (9, .mp 120), (10, .mp 121), (12, .sptr (GBag.lv x6).cells), (14, .I x11), (22, .lst 6 (List.map GBag.lv p0)), (23, .I (p0.length : Int)), (24, .I n1), (29, .L x6.Packed), (30, .I (x6.Packed.length : Int)), (31, .I n7)] [(119, .map 3 4 (mlv LV.I LV.bool m8)), (120, .map 3 4 (mlv LV.I LV.bool m9)), (121, .map 3 4 (mlv LV.I LV.bool m4))] R (sN (oIx (f := LV.I) te22 tk3 ts3 R R okI hx11 R (sN (oLd R tk3 ta3 (sAi R zS))))) (LH.seqT [(1, .L p1), (4, .nil), (5, .nil), (6, .nil), (7, .nil), (8, .mp 119), (9, .mp 120), (10, .mp 121), (12, .sptr (GBag.lv x6).cells), (14, .I x11), (22, .lst 6 (List.map GBag.lv p0)), (23, .I (p0.length : Int)), (24, .I n1), (29, .L x6.Packed), (30, .I (x6.Packed.length : Int)), (31, .I n7)] [(119, .map 3 4 (mlv LV.I LV.bool (mput m8 x11 true))), (120, .map 3 4 (mlv LV.I LV.bool m9)), (121, .map 3 4 (mlv LV.I LV.bool m4))] R (sN (oM (v := (.mp _)) R (sMi R (sX_ ((ok_update (f := LV.I) (g := LV.bool) (xs := m8) (key := x11) (val := true) (.inl R) tm69 kok3 kf3 (fun _ => R) R R R R).ok) zS)))) (LH.seqT [(1, .L p1), (4, .nil), (5, .nil), (6, .nil), (7, .nil), (8, .mp 119), (9, .mp 120), (10, .mp 121), (12, .sptr (GBag.lv x6).cells), (14, .I x11), (22, .lst 6 (List.map GBag.lv p0)), (23, .I (p0.length : Int)), (24, .I n1), (29, .L x6.Packed), (30, .I (x6.Packed.length : Int)), (31, .I n7), (38, .bool x6.Open)] [(119, .map 3 4 (mlv LV.I LV.bool (mput m8 x11 true))), (120, .map 3 4 (mlv LV.I LV.bool m9)), (121, .map 3 4 (mlv LV.I LV.bool m4))] R (sN (oFaS tf43_2 tk4 ts4 R R R (sN (oLd R tk4 ta4 zS)))) (LH.cond (t := x6.Open) R (fun hc12 => ?_) (fun hc12 => ?_))))
    ·replace h := iteT h hc12
     refine LH.loneT [(1, .L p1), (4, .nil), (5, .nil), (6, .nil), (7, .nil), (8, .mp 119), (9, .mp 120), (10, .mp 121), (12, .sptr (GBag.lv x6).cells), (22, .lst 6 (List.map GBag.lv p0)), (23, .I (p0.length : Int)), (24, .I n1), (29, .L x6.Packed), (30, .I (x6.Packed.length : Int)), (31, .I n7)] [(119, .map 3 4 (mlv LV.I LV.bool (mput m8 x11 true))), (120, .map 3 4 (mlv LV.I LV.bool (mput m9 x11 true))), (121, .map 3 4 (mlv LV.I LV.bool m4))] R (sN (oM (v := (.mp _)) R (sMi R (sX_ ((ok_update (f := LV.I) (g := LV.bool) (xs := m9) (key := x11) (val := true) (.inl R) tm69 kok3 kf3 (fun _ => R) R R R R).ok) zS)))) (blockN (thenN (LH.loneT [(1, .L p1), (4, .nil), (5, .nil), (6, .nil), (7, .nil), (8, .mp 119), (9, .mp 120), (10, .mp 121), (12, .sptr (GBag.lv x6).cells), (22, .lst 6 (List.map GBag.lv p0)), (23, .I (p0.length : Int)), (24, .I n1), (29, .L x6.Packed), (30, .I (x6.Packed.length : Int)), (31, .I (i64 (n7 + 1)))] [(119, .map 3 4 (mlv LV.I LV.bool (mput m8 x11 true))), (120, .map 3 4 (mlv LV.I LV.bool (mput m9 x11 true))), (121, .map 3 4 (mlv LV.I LV.bool m4))] R (sN (oAdd R R (sMi R zS))) ?_)))
     exact roundI ⟨(i64 (n7 + 1)), (mput m8 x11 true), (mput m9 x11 true), hrec2 ▸ h, R, R⟩ (Wk.eq R R R R)
    replace h := iteF h hc12
    refine LH.skip (blockN (thenN (LH.loneT [(1, .L p1), (4, .nil), (5, .nil), (6, .nil), (7, .nil), (8, .mp 119), (9, .mp 120), (10, .mp 121), (12, .sptr (GBag.lv x6).cells), (22, .lst 6 (List.map GBag.lv p0)), (23, .I (p0.length : Int)), (24, .I n1), (29, .L x6.Packed), (30, .I (x6.Packed.length : Int)), (31, .I (i64 (n7 + 1)))] [(119, .map 3 4 (mlv LV.I LV.bool (mput m8 x11 true))), (120, .map 3 4 (mlv LV.I LV.bool m9)), (121, .map 3 4 (mlv LV.I LV.bool m4))] R (sN (oAdd R R (sMi R zS))) ?_)))
    exact roundI ⟨(i64 (n7 + 1)), (mput m8 x11 true), m9, hrec2 ▸ h, R, R⟩ (Wk.eq R R R R)
   replace h := iteF h hc10
   refine LH.exit (thenX (roundX (blockH (thenN (LH.seqT [(1, .L p1), (4, .nil), (5, .nil), (6, .nil), (7, .nil), (8, .mp 119), (9, .mp 120), (10, .mp 121), (22, .lst 6 (List.map GBag.lv p0)), (23, .I (p0.length : Int)), (24, .I n1), (43, .L x6.Found), (44, .I (x6.Found.length : Int)), (45, .I 0)] [(119, .map 3 4 (mlv LV.I LV.bool m8)), (120, .map 3 4 (mlv LV.I LV.bool m9)), (121, .map 3 4 (mlv LV.I LV.bool m4))] R (sN (oFaS tf43_5 tk22 ts22 R R R (sN (oLd R tk22 ta22 (sN (oLnL (f := LV.I) te22 R (sMi R zS))))))) (LH.block (LH.loop (fun n e m => ∃ (n13 : Int) (m14 : List (Int × Bool)), q35q rec1 n1 x6 m8 m9 n n13 m14 = some r ∧ e = Env.of [(1, .L p1), (4, .nil), (5, .nil), (6, .nil), (7, .nil), (8, .mp 119), (9, .mp 120), (10, .mp 121), (22, .lst 6 (List.map GBag.lv p0)), (23, .I (p0.length : Int)), (24, .I n1), (43, .L x6.Found), (44, .I (x6.Found.length : Int)), (45, .I n13)] ∧ m = Mem.of [(119, .map 3 4 (mlv LV.I LV.bool m8)), (120, .map 3 4 (mlv LV.I LV.bool m9)), (121, .map 3 4 (mlv LV.I LV.bool m14))]) F ⟨0, m4, h, R, R⟩ ?_)))))))
   clear h
   rintro n e m ⟨n13, m14, h, rfl, rfl⟩
   rcases n with _ | n
   · cases (show Option.none = some _ from h)
   obtain ⟨rec3, hrec3⟩ : ∃ f, f = q35q rec1 n1 x6 m8 m9 n := ⟨_, rfl⟩
   replace h : q83q rec1 n1 x6 m8 m9 rec3 n13 m14 = some r := hrec3 ▸ h
   unfold q83q at h
   refine LH.seqT [(1, .L p1), (4, .nil), (5, .nil), (6, .nil), (7, .nil), (8, .mp 119), (9, .mp 120), (10, .mp 121), (22, .lst 6 (List.map GBag.lv p0)), (23, .I (p0.length : Int)), (24, .I n1), (43, .L x6.Found), (44, .I (x6.Found.length : Int)), (45, .I n13), (46, .bool (decide (n13 < (x6.Found.length : Int))))] [(119, .map 3 4 (mlv LV.I LV.bool m8)), (120, .map 3 4 (mlv LV.I LV.bool m9)), (121, .map 3 4 (mlv LV.I LV.bool m14))] R (sN (oLt R R zS)) (LH.seq (LH.cond (t := (decide (n13 < (x6.Found.length : Int)))) R (fun hc15 => ?_) (fun hc15 => ?_)))
   ·replace h := iteT h hc15
    refine LH.skip (thenN (LH.wk (Wk.eq (el := [(1, .L p1), (4, .nil), (5, .nil), (6, .nil), (7, .nil), (8, .mp 119), (9, .mp 120), (10, .mp 121), (22, .lst 6 (List.map GBag.lv p0)), (23, .I (p0.length : Int)), (24, .I n1), (43, .L x6.Found), (44, .I (x6.Found.length : Int)), (45, .I n13)]) (ml := [(119, .map 3 4 (mlv LV.I LV.bool m8)), (120, .map 3 4 (mlv LV.I LV.bool m9)), (121, .map 3 4 (mlv LV.I LV.bool m14))]) R R R R) (LH.seq (LH.block ?_))))
    obtain ⟨x16, hx16, h⟩ := bindS h
    refine LH.seqT [(1, .L p1), (4, .nil), (5, .nil), (6, .nil), (7, .nil), (8, .mp 119), (9, .mp 120), (10, .mp 121), (16, .I x16), (22, .lst 6 (List.map GBag.lv p0)), (23, .I (p0.length : Int)), (24, .I n1), (43, .L x6.Found), (44, .I (x6.Found.length : Int)), (45, .I n13)] [(119, .map 3 4 (mlv LV.I LV.bool m8)), (120, .map 3 4 (mlv LV.I LV.bool m9)), (121, .map 3 4 (mlv LV.I LV.bool m14))] R (sN (oIx (f := LV.I) te22 tk3 ts3 R R okI hx16 R (sN (oLd R tk3 ta3 (sAi R zS))))) (LH.loneT [(1, .L p1), (4, .nil), (5, .nil), (6, .nil), (7, .nil), (8, .mp 119), (9, .mp 120), (10, .mp 121), (22, .lst 6 (List.map GBag.lv p0)), (23, .I (p0.length : Int)), (24, .I n1), (43, .L x6.Found), (44, .I (x6.Found.length : Int)), (45, .I n13)] [(119, .map 3 4 (mlv LV.I LV.bool m8)), (120, .map 3 4 (mlv LV.I LV.bool m9)), (121, .map 3 4 (mlv LV.I LV.bool (mput m14 x16 true)))] R (sN (oM (v := (.mp _)) R (sMi R (sX_ ((ok_update (f := LV.I) (g := LV.bool) (xs := m14) (key := x16) (val := true) (.inl R) tm69 kok3 kf3 (fun _ => R) R R R R).ok) zS)))) (blockN (thenN (LH.loneT [(1, .L p1), (4, .nil), (5, .nil), (6, .nil), (7, .nil), (8, .mp 119), (9, .mp 120), (10, .mp 121), (22, .lst 6 (List.map GBag.lv p0)), (23, .I (p0.length : Int)), (24, .I n1), (43, .L x6.Found), (44, .I (x6.Found.length : Int)), (45, .I (i64 (n13 + 1)))] [(119, .map 3 4 (mlv LV.I LV.bool m8)), (120, .map 3 4 (mlv LV.I LV.bool m9)), (121, .map 3 4 (mlv LV.I LV.bool (mput m14 x16 true)))] R (sN (oAdd R R (sMi R zS))) ?_))))
    exact roundI ⟨(i64 (n13 + 1)), (mput m14 x16 true), hrec3 ▸ h, R, R⟩ (Wk.eq R R R R)
   replace h := iteF h hc15
   refine LH.exit (thenX (roundX (blockH (blockN (thenN (LH.loneT [(1, .L p1), (4, .nil), (5, .nil), (6, .nil), (7, .nil), (8, .mp 119), (9, .mp 120), (10, .mp 121), (22, .lst 6 (List.map GBag.lv p0)), (23, .I (p0.length : Int)), (24, .I (i64 (n1 + 1)))] [(119, .map 3 4 (mlv LV.I LV.bool m8)), (120, .map 3 4 (mlv LV.I LV.bool m9)), (121, .map 3 4 (mlv LV.I LV.bool m14))] R (sN (oAdd R R (sMi R zS))) ?_))))))
   exact roundI ⟨(i64 (n1 + 1)), m8, m9, m14, hrec1 ▸ h, R, R⟩ (Wk.eq R R R R)
  replace h := iteF h hc5
  refine LH.exit (thenX (roundX (blockH (thenN (LH.wk (Wk.eq (el := [(1, .L p1), (4, .nil), (5, .nil), (6, .nil), (7, .nil), (8, .mp 119), (9, .mp 120), (10, .mp 121)]) (ml := [(119, .map 3 4 (mlv LV.I LV.bool m2)), (120, .map 3 4 (mlv LV.I LV.bool m3)), (121, .map 3 4 (mlv LV.I LV.bool m4))]) R R R R) (LH.seq (LH.seqT [(4, .nil), (5, .nil), (6, .nil), (7, .nil), (8, .mp 119), (9, .mp 120), (10, .mp 121), (53, .L p1), (54, .I (p1.length : Int)), (55, .I 0)] [(119, .map 3 4 (mlv LV.I LV.bool m2)), (120, .map 3 4 (mlv LV.I LV.bool m3)), (121, .map 3 4 (mlv LV.I LV.bool m4))] R (sMl R (sN (oLnL (f := LV.I) te22 R (sMi R zS)))) (LH.block (LH.wk ((Wk.trans (Wk.eq (el := [(4, .nil), (5, .nil), (6, .nil), (7, .nil), (8, .mp 119), (9, .mp 120), (10, .mp 121), (53, .L p1), (54, .I (p1.length : Int)), (55, .I 0)]) (ml := [(119, .map 3 4 (mlv LV.I LV.bool m2)), (120, .map 3 4 (mlv LV.I LV.bool m3)), (121, .map 3 4 (mlv LV.I LV.bool m4))]) R R R R) (Wk.trans (Wk.eq (el := [(4, .nil), (5, .nil), (6, .nil), (7, .nil), (8, .mp 119), (9, .mp 120), (10, .mp 121), (53, .L p1), (54, .I (p1.length : Int)), (55, .I 0)]) (ml := [(119, .map 3 4 (mlv LV.I LV.bool m2)), (120, .map 3 4 (mlv LV.I LV.bool m3)), (121, .map 3 4 (mlv LV.I LV.bool m4))]) R R R R) (Wk.trans (Wk.ownL (el' := [(4, .arr 162 (List.length ([] : List Int))), (5, .nil), (6, .nil), (7, .nil), (8, .mp 119), (9, .mp 120), (10, .mp 121), (53, .L p1), (54, .I (p1.length : Int)), (55, .I 0)]) 162 3 1 R R (wO (wK (wK (wK (wK (wK (wK (wK (wK (wK wN))))))))))) (Wk.trans (Wk.eq (el := [(4, .arr 162 (List.length ([] : List Int))), (5, .nil), (6, .nil), (7, .nil), (8, .mp 119), (9, .mp 120), (10, .mp 121), (53, .L p1), (54, .I (p1.length : Int)), (55, .I 0)]) (ml := [(119, .map 3 4 (mlv LV.I LV.bool m2)), (120, .map 3 4 (mlv LV.I LV.bool m3)), (121, .map 3 4 (mlv LV.I LV.bool m4)), (162, .arr 3 1 (List.map LV.I ([] : List Int)))]) R R R R) (Wk.trans (Wk.ownL (el' := [(4, .arr 162 (List.length ([] : List Int))), (5, .nil), (6, .arr 170 (List.length ([] : List Int))), (7, .nil), (8, .mp 119), (9, .mp 120), (10, .mp 121), (53, .L p1), (54, .I (p1.length : Int)), (55, .I 0)]) 170 3 1 R R (wK (wK (wO (wK (wK (wK (wK (wK (wK (wK wN))))))))))) (Wk.trans (Wk.eq (el := [(4, .arr 162 (List.length ([] : List Int))), (5, .nil), (6, .arr 170 (List.length ([] : List Int))), (7, .nil), (8, .mp 119), (9, .mp 120), (10, .mp 121), (53, .L p1), (54, .I (p1.length : Int)), (55, .I 0)]) (ml := [(119, .map 3 4 (mlv LV.I LV.bool m2)), (120, .map 3 4 (mlv LV.I LV.bool m3)), (121, .map 3 4 (mlv LV.I LV.bool m4)), (162, .arr 3 1 (List.map LV.I ([] : List Int))), (170, .arr 3 1 (List.map LV.I ([] : List Int)))]) R R R R) (Wk.trans (Wk.ownL (el' := [(4, .arr 162 (List.length ([] : List Int))), (5, .nil), (6, .arr 170 (List.length ([] : List Int))), (7, .arr 178 (List.length ([] : List Int))), (8, .mp 119), (9, .mp 120), (10, .mp 121), (53, .L p1), (54, .I (p1.length : Int)), (55, .I 0)]) 178 3 1 R R (wK (wK (wK (wO (wK (wK (wK (wK (wK (wK wN))))))))))) (Wk.trans (Wk.eq (el := [(4, .arr 162 (List.length ([] : List Int))), (5, .nil), (6, .arr 170 (List.length ([] : List Int))), (7, .arr 178 (List.length ([] : List Int))), (8, .mp 119), (9, .mp 120), (10, .mp 121), (53, .L p1), (54, .I (p1.length : Int)), (55, .I 0)]) (ml := [(119, .map 3 4 (mlv LV.I LV.bool m2)), (120, .map 3 4 (mlv LV.I LV.bool m3)), (121, .map 3 4 (mlv LV.I LV.bool m4)), (162, .arr 3 1 (List.map LV.I ([] : List Int))), (170, .arr 3 1 (List.map LV.I ([] : List Int))), (178, .arr 3 1 (List.map LV.I ([] : List Int)))]) R R R R) (Wk.trans (Wk.ownL (el' := [(4, .arr 162 (List.length ([] : List Int))), (5, .arr 186 (List.length ([] : List Int))), (6, .arr 170 (List.length ([] : List Int))), (7, .arr 178 (List.length ([] : List Int))), (8, .mp 119), (9, .mp 120), (10, .mp 121), (53, .L p1), (54, .I (p1.length : Int)), (55, .I 0)]) 186 3 1 R R (wK (wO (wK (wK (wK (wK (wK (wK (wK (wK wN))))))))))) (Wk.eq (el := [(4, .arr 162 (List.length ([] : List Int))), (5, .arr 186 (List.length ([] : List Int))), (6, .arr 170 (List.length ([] : List Int))), (7, .arr 178 (List.length ([] : List Int))), (8, .mp 119), (9, .mp 120), (10, .mp 121), (53, .L p1), (54, .I (p1.length : Int)), (55, .I 0)]) (ml := [(119, .map 3 4 (mlv LV.I LV.bool m2)), (120, .map 3 4 (mlv LV.I LV.bool m3)), (121, .map 3 4 (mlv LV.I LV.bool m4)), (162, .arr 3 1 (List.map LV.I ([] : List Int))), (170, .arr 3 1 (List.map LV.I ([] : List Int))), (178, .arr 3 1 (List.map LV.I ([] : List Int))), (186, .arr 3 1 (List.map LV.I ([] : List Int)))]) R R R R))))))))))) (LH.loop (fun n e m => ∃ (n17 : Int) (l18 : List Int) (l19 : List Int) (l20 : List Int) (l21 : List Int), q40q p1 m2 m3 m4 n n17 l18 l19 l20 l21 = some r ∧ e = Env.of [(4, .arr 162 (List.length l18)), (5, .arr 186 (List.length l21)), (6, .arr 170 (List.length l19)), (7, .arr 178 (List.length l20)), (8, .mp 119), (9, .mp 120), (10, .mp 121), (53, .L p1), (54, .I (p1.length : Int)), (55, .I n17)] ∧ m = Mem.of [(119, .map 3 4 (mlv LV.I LV.bool m2)), (120, .map 3 4 (mlv LV.I LV.bool m3)), (121, .map 3 4 (mlv LV.I LV.bool m4)), (162, .arr 3 1 (List.map LV.I l18)), (170, .arr 3 1 (List.map LV.I l19)), (178, .arr 3 1 (List.map LV.I l20)), (186, .arr 3 1 (List.map LV.I l21))]) F ⟨0, ([] : List Int), ([] : List Int), ([] : List Int), ([] : List Int), h, R, R⟩ ?_))))))))))
  clear h
  rintro n e m ⟨n17, l18, l19, l20, l21, h, rfl, rfl⟩
  rcases n with _ | n
  · cases (show Option.none = some _ from h)
  obtain ⟨rec4, hrec4⟩ : ∃ f, f = q40q p1 m2 m3 m4 n := ⟨_, rfl⟩
  replace h : q84q p1 m2 m3 m4 rec4 n17 l18 l19 l20 l21 = some r := hrec4 ▸ h
  unfold q84q at h
  refine LH.seqT [(4, .arr 162 (List.length l18)), (5, .arr 186 (List.length l21)), (6, .arr 170 (List.length l19)), (7, .arr 178 (List.length l20)), (8, .mp 119), (9, .mp 120), (10, .mp 121), (53, .L p1), (54, .I (p1.length : Int)), (55, .I n17), (56, .bool (decide (n17 < (p1.length : Int))))] [(119, .map 3 4 (mlv LV.I LV.bool m2)), (120, .map 3 4 (mlv LV.I LV.bool m3)), (121, .map 3 4 (mlv LV.I LV.bool m4)), (162, .arr 3 1 (List.map LV.I l18)), (170, .arr 3 1 (List.map LV.I l19)), (178, .arr 3 1 (List.map LV.I l20)), (186, .arr 3 1 (List.map LV.I l21))] R (sN (oLt R R zS)) (LH.seq (LH.cond (t := (decide (n17 < (p1.length : Int)))) R (fun hc22 => ?_) (fun hc22 => ?_)))
  ·replace h := iteT h hc22
   refine LH.skip (thenN (LH.wk (Wk.eq (el := [(4, .arr 162 (List.length l18)), (5, .arr 186 (List.length l21)), (6, .arr 170 (List.length l19)), (7, .arr 178 (List.length l20)), (8, .mp 119), (9, .mp 120), (10, .mp 121), (53, .L p1), (54, .I (p1.length : Int)), (55, .I n17)]) (ml := [(119, .map 3 4 (mlv LV.I LV.bool m2)), (120, .map 3 4 (mlv LV.I LV.bool m3)), (121, .map 3 4 (mlv LV.I LV.bool m4)), (162, .arr 3 1 (List.map LV.I l18)), (170, .arr 3 1 (List.map LV.I l19)), (178, .arr 3 1 (List.map LV.I l20)), (186, .arr 3 1 (List.map LV.I l21))]) R R R R) (LH.seq (LH.block ?_))))
   obtain ⟨x23, hx23, h⟩ := bindS h
   refine LH.seqT [(4, .arr 162 (List.length l18)), (5, .arr 186 (List.length l21)), (6, .arr 170 (List.length l19)), (7, .arr 178 (List.length l20)), (8, .mp 119), (9, .mp 120), (10, .mp 121), (18, .I x23), (53, .L p1), (54, .I (p1.length : Int)), (55, .I n17)] [(119, .map 3 4 (mlv LV.I LV.bool m2)), (120, .map 3 4 (mlv LV.I LV.bool m3)), (121, .map 3 4 (mlv LV.I LV.bool m4)), (162, .arr 3 1 (List.map LV.I l18)), (170, .arr 3 1 (List.map LV.I l19)), (178, .arr 3 1 (List.map LV.I l20)), (186, .arr 3 1 (List.map LV.I l21))] R (sN (oIx (f := LV.I) te22 tk3 ts3 R R okI hx23 R (sN (oLd R tk3 ta3 (sAi R zS))))) (LH.block (LH.seqT [(4, .arr 162 (List.length l18)), (5, .arr 186 (List.length l21)), (6, .arr 170 (List.length l19)), (7, .arr 178 (List.length l20)), (8, .mp 119), (9, .mp 120), (10, .mp 121), (18, .I x23), (53, .L p1), (54, .I (p1.length : Int)), (55, .I n17), (63, .bool ((mget m4 x23).getD false))] [(119, .map 3 4 (mlv LV.I LV.bool m2)), (120, .map 3 4 (mlv LV.I LV.bool m3)), (121, .map 3 4 (mlv LV.I LV.bool m4)), (162, .arr 3 1 (List.map LV.I l18)), (170, .arr 3 1 (List.map LV.I l19)), (178, .arr 3 1 (List.map LV.I l20)), (186, .arr 3 1 (List.map LV.I l21))] R (sN (oM (v := (.mp _)) R (sMi R (sX ((ok_lookup (f := LV.I) (g := LV.bool) (xs := m4) (key := x23) (z := false) tm69 kok3 kf3 R R R tz4).ok) (sAb R zS))))) (LH.cond (t := ((mget m4 x23).getD false)) R (fun hc24 => ?_) (fun hc24 => ?_))))
   ·replace h := iteT h hc24
    obtain ⟨v25, hv25, h⟩ := bindS h
    refine LH.loneT [(4, .arr 162 (List.length l18)), (5, .arr 186 (List.length l21)), (6, .arr 170 (List.length v25)), (7, .arr 178 (List.length l20)), (8, .mp 119), (9, .mp 120), (10, .mp 121), (53, .L p1), (54, .I (p1.length : Int)), (55, .I n17)] [(119, .map 3 4 (mlv LV.I LV.bool m2)), (120, .map 3 4 (mlv LV.I LV.bool m3)), (121, .map 3 4 (mlv LV.I LV.bool m4)), (162, .arr 3 1 (List.map LV.I l18)), (170, .arr 3 1 (List.map LV.I v25)), (178, .arr 3 1 (List.map LV.I l20)), (186, .arr 3 1 (List.map LV.I l21))] R (sMa R (sMi R (sN (oBS (f := LV.I) (ys := [x23]) te22 tr3 ts3 R R R okI (sN (oAp (f := LV.I) te22 tr3 ts3 R R (prN R) R hv25 (sAa R zS))))))) (blockN (blockN (thenN (LH.loneT [(4, .arr 162 (List.length l18)), (5, .arr 186 (List.length l21)), (6, .arr 170 (List.length v25)), (7, .arr 178 (List.length l20)), (8, .mp 119), (9, .mp 120), (10, .mp 121), (53, .L p1), (54, .I (p1.length : Int)), (55, .I (i64 (n17 + 1)))] [(119, .map 3 4 (mlv LV.I LV.bool m2)), (120, .map 3 4 (mlv LV.I LV.bool m3)), (121, .map 3 4 (mlv LV.I LV.bool m4)), (162, .arr 3 1 (List.map LV.I l18)), (170, .arr 3 1 (List.map LV.I v25)), (178, .arr 3 1 (List.map LV.I l20)), (186, .arr 3 1 (List.map LV.I l21))] R (sN (oAdd R R (sMi R zS))) ?_))))
    exact roundI ⟨(i64 (n17 + 1)), l18, v25, l20, l21, hrec4 ▸ h, R, R⟩ (Wk.eq R R R R)
   replace h := iteF h hc24
   refine LH.seqT [(4, .arr 162 (List.length l18)), (5, .arr 186 (List.length l21)), (6, .arr 170 (List.length l19)), (7, .arr 178 (List.length l20)), (8, .mp 119), (9, .mp 120), (10, .mp 121), (18, .I x23), (53, .L p1), (54, .I (p1.length : Int)), (55, .I n17), (71, .bool ((mget m3 x23).getD false))] [(119, .map 3 4 (mlv LV.I LV.bool m2)), (120, .map 3 4 (mlv LV.I LV.bool m3)), (121, .map 3 4 (mlv LV.I LV.bool m4)), (162, .arr 3 1 (List.map LV.I l18)), (170, .arr 3 1 (List.map LV.I l19)), (178, .arr 3 1 (List.map LV.I l20)), (186, .arr 3 1 (List.map LV.I l21))] R (sN (oM (v := (.mp _)) R (sMi R (sX ((ok_lookup (f := LV.I) (g := LV.bool) (xs := m3) (key := x23) (z := false) tm69 kok3 kf3 R R R tz4).ok) (sAb R zS))))) (LH.cond (t := ((mget m3 x23).getD false)) R (fun hc26 => ?_) (fun hc26 => ?_))
   ·replace h := iteT h hc26
    obtain ⟨v27, hv27, h⟩ := bindS h
    refine LH.loneT [(4, .arr 162 (List.length l18)), (5, .arr 186 (List.length l21)), (6, .arr 170 (List.length l19)), (7, .arr 178 (List.length v27)), (8, .mp 119), (9, .mp 120), (10, .mp 121), (53, .L p1), (54, .I (p1.length : Int)), (55, .I n17)] [(119, .map 3 4 (mlv LV.I LV.bool m2)), (120, .map 3 4 (mlv LV.I LV.bool m3)), (121, .map 3 4 (mlv LV.I LV.bool m4)), (162, .arr 3 1 (List.map LV.I l18)), (170, .arr 3 1 (List.map LV.I l19)), (178, .arr 3 1 (List.map LV.I v27)), (186, .arr 3 1 (List.map LV.I l21))] R (sMa R (sMi R (sN (oBS (f := LV.I) (ys := [x23]) te22 tr3 ts3 R R R okI (sN (oAp (f := LV.I) te22 tr3 ts3 R R (prN R) R hv27 (sAa R zS))))))) (blockN (blockN (thenN (LH.loneT [(4, .arr 162 (List.length l18)), (5, .arr 186 (List.length l21)), (6, .arr 170 (List.length l19)), (7, .arr 178 (List.length v27)), (8, .mp 119), (9, .mp 120), (10, .mp 121), (53, .L p1), (54, .I (p1.length : Int)), (55, .I (i64 (n17 + 1)))] [(119, .map 3 4 (mlv LV.I LV.bool m2)), (120, .map 3 4 (mlv LV.I LV.bool m3)), (121, .map 3 4 (mlv LV.I LV.bool m4)), (162, .arr 3 1 (List.map LV.I l18)), (170, .arr 3 1 (List.map LV.I l19)), (178, .arr 3 1 (List.map LV.I v27)), (186, .arr 3 1 (List.map LV.I l21))] R (sN (oAdd R R (sMi R zS))) ?_))))
    exact roundI ⟨(i64 (n17 + 1)), l18, l19, v27, l21, hrec4 ▸ h, R, R⟩ (Wk.eq R R R R)
   replace h := iteF h hc26
   refine LH.seqT [(4, .arr 162 (List.length l18)), (5, .arr 186 (List.length l21)), (6, .arr 170 (List.length l19)), (7, .arr 178 (List.length l20)), (8, .mp 119), (9, .mp 120), (10, .mp 121), (18, .I x23), (53, .L p1), (54, .I (p1.length : Int)), (55, .I n17), (79, .bool ((mget m2 x23).getD false))] [(119, .map 3 4 (mlv LV.I LV.bool m2)), (120, .map 3 4 (mlv LV.I LV.bool m3)), (121, .map 3 4 (mlv LV.I LV.bool m4)), (162, .arr 3 1 (List.map LV.I l18)), (170, .arr 3 1 (List.map LV.I l19)), (178, .arr 3 1 (List.map LV.I l20)), (186, .arr 3 1 (List.map LV.I l21))] R (sN (oM (v := (.mp _)) R (sMi R (sX ((ok_lookup (f := LV.I) (g := LV.bool) (xs := m2) (key := x23) (z := false) tm69 kok3 kf3 R R R tz4).ok) (sAb R zS))))) (LH.cond (t := ((mget m2 x23).getD false)) R (fun hc28 => ?_) (fun hc28 => ?_))
   ·replace h := iteT h hc28
    obtain ⟨v29, hv29, h⟩ := bindS h
    refine LH.loneT [(4, .arr 162 (List.length l18)), (5, .arr 186 (List.length v29)), (6, .arr 170 (List.length l19)), (7, .arr 178 (List.length l20)), (8, .mp 119), (9, .mp 120), (10, .mp 121), (53, .L p1), (54, .I (p1.length : Int)), (55, .I n17)] [(119, .map 3 4 (mlv LV.I LV.bool m2)), (120, .map 3 4 (mlv LV.I LV.bool m3)), (121, .map 3 4 (mlv LV.I LV.bool m4)), (162, .arr 3 1 (List.map LV.I l18)), (170, .arr 3 1 (List.map LV.I l19)), (178, .arr 3 1 (List.map LV.I l20)), (186, .arr 3 1 (List.map LV.I v29))] R (sMa R (sMi R (sN (oBS (f := LV.I) (ys := [x23]) te22 tr3 ts3 R R R okI (sN (oAp (f := LV.I) te22 tr3 ts3 R R (prN R) R hv29 (sAa R zS))))))) (blockN (blockN (thenN (LH.loneT [(4, .arr 162 (List.length l18)), (5, .arr 186 (List.length v29)), (6, .arr 170 (List.length l19)), (7, .arr 178 (List.length l20)), (8, .mp 119), (9, .mp 120), (10, .mp 121), (53, .L p1), (54, .I (p1.length : Int)), (55, .I (i64 (n17 + 1)))] [(119, .map 3 4 (mlv LV.I LV.bool m2)), (120, .map 3 4 (mlv LV.I LV.bool m3)), (121, .map 3 4 (mlv LV.I LV.bool m4)), (162, .arr 3 1 (List.map LV.I l18)), (170, .arr 3 1 (List.map LV.I l19)), (178, .arr 3 1 (List.map LV.I l20)), (186, .arr 3 1 (List.map LV.I v29))] R (sN (oAdd R R (sMi R zS))) ?_))))
    exact roundI ⟨(i64 (n17 + 1)), l18, l19, l20, v29, hrec4 ▸ h, R, R⟩ (Wk.eq R R R R)
   replace h := iteF h hc28
   obtain ⟨v30, hv30, h⟩ := bindS h
   refine LH.loneT [(4, .arr 162 (List.length v30)), (5, .arr 186 (List.length l21)), (6, .arr 170 (List.length l19)), (7, .arr 178 (List.length l20)), (8, .mp 119), (9, .mp 120), (10, .mp 121), (53, .L p1), (54, .I (p1.length : Int)), (55, .I n17)] [(119, .map 3 4 (mlv LV.I LV.bool m2)), (120, .map 3 4 (mlv LV.I LV.bool m3)), (121, .map 3 4 (mlv LV.I LV.bool m4)), (162, .arr 3 1 (List.map LV.I v30)), (170, .arr 3 1 (List.map LV.I l19)), (178, .arr 3 1 (List.map LV.I l20)), (186, .arr 3 1 (List.map LV.I l21))] R (sMa R (sMi R (sN (oBS (f := LV.I) (ys := [x23]) te22 tr3 ts3 R R R okI (sN (oAp (f := LV.I) te22 tr3 ts3 R R (prN R) R hv30 (sAa R zS))))))) (blockN (blockN (thenN (LH.loneT [(4, .arr 162 (List.length v30)), (5, .arr 186 (List.length l21)), (6, .arr 170 (List.length l19)), (7, .arr 178 (List.length l20)), (8, .mp 119), (9, .mp 120), (10, .mp 121), (53, .L p1), (54, .I (p1.length : Int)), (55, .I (i64 (n17 + 1)))] [(119, .map 3 4 (mlv LV.I LV.bool m2)), (120, .map 3 4 (mlv LV.I LV.bool m3)), (121, .map 3 4 (mlv LV.I LV.bool m4)), (162, .arr 3 1 (List.map LV.I v30)), (170, .arr 3 1 (List.map LV.I l19)), (178, .arr 3 1 (List.map LV.I l20)), (186, .arr 3 1 (List.map LV.I l21))] R (sN (oAdd R R (sMi R zS))) ?_))))
   exact roundI ⟨(i64 (n17 + 1)), v30, l19, l20, l21, hrec4 ▸ h, R, R⟩ (Wk.eq R R R R)
  replace h := iteF h hc22
  refine LH.exit (thenX (roundX (blockH (thenN (LH.wk ((Wk.trans (Wk.eq (el := [(4, .arr 162 (List.length l18)), (5, .arr 186 (List.length l21)), (6, .arr 170 (List.length l19)), (7, .arr 178 (List.length l20))]) (ml := [(162, .arr 3 1 (List.map LV.I l18)), (170, .arr 3 1 (List.map LV.I l19)), (178, .arr 3 1 (List.map LV.I l20)), (186, .arr 3 1 (List.map LV.I l21))]) R R R R) (Wk.trans (Wk.frzL (f := LV.I) (el' := [(4, .L l18), (5, .arr 186 (List.length l21)), (6, .arr 170 (List.length l19)), (7, .arr 178 (List.length l20))]) 162 3 1 l18 R R (prN R) (fZ (fK R (fK R (fK R fN))))) (Wk.trans (Wk.frzL (f := LV.I) (el' := [(4, .L l18), (5, .arr 186 (List.length l21)), (6, .L l19), (7, .arr 178 (List.length l20))]) 170 3 1 l19 R R (prN R) (fK R (fK R (fZ (fK R fN))))) (Wk.trans (Wk.frzL (f := LV.I) (el' := [(4, .L l18), (5, .arr 186 (List.length l21)), (6, .L l19), (7, .L l20)]) 178 3 1 l20 R R (prN R) (fK R (fK R (fK R (fZ fN))))) (Wk.trans (Wk.frzL (f := LV.I) (el' := [(4, .L l18), (5, .L l21), (6, .L l19), (7, .L l20)]) 186 3 1 l21 R R (prN R) (fK R (fZ (fK R (fK R fN))))) (Wk.eq (el := [(4, .L l18), (5, .L l21), (6, .L l19), (7, .L l20)]) (ml := []) R R R R))))))) (LH.seqT [(4, .L l18), (5, .L l21), (6, .L l19), (7, .L l20)] [] R (sMl R (sMl R (sMl R (sMl R (sAl R (sAl R (sAl R (sAl R zS)))))))) (LH.ret ?_)))))))
  obtain rfl := oI h
  exact retE (aT Tryz.results17) (lrT R (lrT R (lrT R (lrT R (lr0 ⟨memN mN, R, prK R, (Sub.tup (sbR (sbR (sbR (sbR sbN)))))⟩)))))

theorem q272q {F : Nat} {r : Bool} (h : q191q F = some r) : LCall Tryz.prog 14 [] (Mem.of []) (.bool r) (Mem.of []) := by
  unfold q191q at h
  refine bodyT Tryz.func14 R (nT Tryz.ntmps14 R) (LH.wk (Wk.eq (el := []) (ml := []) R R R R) (LH.seqT [] [] R (sAb R zS) (LH.seqT [(1, .lst 9 (List.map Gq0.lv ([(Gq0.mk (Gq3.mk 3 0 2) 3 1 100 0 0 [2]), (Gq0.mk (Gq3.mk 1 7 0) 1 1 100 7 0 [1, 2]), (Gq0.mk (Gq3.mk 2 7 1) 2 1 100 7 0 [])])))] [] R (sN (oBd (vs := [(0, .I 3), (2, .I 2)]) tu50 tz50 R (lf tf50_0 ts3 tk3 R R R (lf tf50_2 ts3 tk3 R R R lf0)) (sN (oBS (f := LV.I) (ys := [2]) te22 tr3 ts3 R R R okI (sN (oBd (vs := [(0, .agg [.I 3, .I 0, .I 2]), (1, .I 3), (2, .I 1), (3, .I 100), (6, .L [2])]) tu52 tz52 R (lf tf52_0 ts50 tk50 R R R (lf tf52_1 ts3 tk3 R R R (lf tf52_2 ts3 tk3 R R R (lf tf52_3 ts3 tk3 R R R (lf tf52_6 ts22 tk22 R R R lf0))))) (sN (oBd (vs := [(0, .I 1), (1, .I 7)]) tu50 tz50 R (lf tf50_0 ts3 tk3 R R R (lf tf50_1 ts3 tk3 R R R lf0)) (sN (oBS (f := LV.I) (ys := [1, 2]) te22 tr3 ts3 R R R okI (sN (oBd (vs := [(0, .agg [.I 1, .I 7, .I 0]), (1, .I 1), (2, .I 1), (3, .I 100), (4, .I 7), (6, .L [1, 2])]) tu52 tz52 R (lf tf52_0 ts50 tk50 R R R (lf tf52_1 ts3 tk3 R R R (lf tf52_2 ts3 tk3 R R R (lf tf52_3 ts3 tk3 R R R (lf tf52_4 ts3 tk3 R R R (lf tf52_6 ts22 tk22 R R R lf0)))))) (sN (oBd (vs := [(0, .I 2), (1, .I 7), (2, .I 1)]) tu50 tz50 R (lf tf50_0 ts3 tk3 R R R (lf tf50_1 ts3 tk3 R R R (lf tf50_2 ts3 tk3 R R R lf0))) (sN (oBd (vs := [(0, .agg [.I 2, .I 7, .I 1]), (1, .I 2), (2, .I 1), (3, .I 100), (4, .I 7)]) tu52 tz52 R (lf tf52_0 ts50 tk50 R R R (lf tf52_1 ts3 tk3 R R R (lf tf52_2 ts3 tk3 R R R (lf tf52_3 ts3 tk3 R R R (lf tf52_4 ts3 tk3 R R R lf0))))) (sX (ok_bsn (f := Gq0.lv) (ys := [(Gq0.mk (Gq3.mk 3 0 2) 3 1 100 0 0 [2]), (Gq0.mk (Gq3.mk 1 7 0) 1 1 100 7 0 [1, 2]), (Gq0.mk (Gq3.mk 2 7 1) 2 1 100 7 0 [])]) te25 tr52 ts52 R R R (okC R R R (okC R R R (okC R R R okN))) (sbS (Sub.agg (sbR (sbR (sbR (sbR (sbR (sbR (sbR (sbR (sbR sbN)))))))))) (sbS (Sub.agg (sbR (sbR (sbR (sbR (sbR (sbR (sbR (sbR (sbR sbN)))))))))) (sbS (Sub.agg (sbR (sbR (sbR (sbR (sbR (sbR (sbR (sbR (sbL sbN)))))))))) sbN))) Gq0.ok) (sAl R zS)))))))))))))))))) ?_)))
  obtain ⟨r1, hr1, h⟩ := bindS h
  refine LH.seqT [(2, .lst 6 (List.map GBag.lv r1.1)), (3, .lst 3 (List.map Gq2.lv r1.2.1)), (4, .I r1.2.2)] [] R (sMl R (sN (oCP (args := [.lst 9 (List.map Gq0.lv ([(Gq0.mk (Gq3.mk 3 0 2) 3 1 100 0 0 [2]), (Gq0.mk (Gq3.mk 1 7 0) 1 1 100 7 0 [1, 2]), (Gq0.mk (Gq3.mk 2 7 1) 2 1 100 7 0 [])])), .I 9]) R isF9 R (sbR (sbR sbN)) (q265q hr1) R (sMt R (sN (oEx R R (sN (oEx R R (sN (oEx R R (sAl R (sAl R (sAi R zS))))))))))))) ?_
  obtain ⟨r2, hr2, h⟩ := bindS h
  refine LH.seqT [(2, .lst 6 (List.map GBag.lv r1.1)), (3, .lst 3 (List.map Gq2.lv r1.2.1)), (4, .I r1.2.2), (5, .L r2.1), (6, .L r2.2.1), (7, .L r2.2.2.1), (8, .L r2.2.2.2)] [] R (sMl R (sN (oBS (f := LV.I) (ys := [1, 2, 3]) te22 tr3 ts3 R R R okI (sN (oCP (args := [.lst 6 (List.map GBag.lv r1.1), .L [1, 2, 3]]) R isF17 R (sbR (sbR sbN)) (q212q hr2) R (sMt R (sN (oEx R R (sN (oEx R R (sN (oEx R R (sN (oEx R R (sAl R (sAl R (sAl R (sAl R zS)))))))))))))))))) ?_
  obtain ⟨w4, hv, h⟩ := bindS h
  refine LH.seqT [(0, .bool w4)] [] R ?_ ?_
  ·refine sMi R (sN (oEq R R (sMb R ?_)))
   by_cases hb5 : (r1.2.2 == 0) = true
   ·replace hv := iteT hv hb5
    refine sT R (cB hb5) (oM (v := (.lst _ _)) R (sT R (cB hb5) (oLnL (f := Gq2.lv) te28 R (sT R (cB hb5) (oEq R R (sN (oPkT (cB hb5) (v := (.bool _)) R (sMb R ?_))))))))
    by_cases hb6 : ((r1.2.1.length : Int) == 0) = true
    ·replace hv := iteT hv hb6
     refine sT R (cB hb6) (oM (v := (.lst _ _)) R (sT R (cB hb6) (oLnL (f := GBag.lv) te27 R (sT R (cB hb6) (oEq R R (sN (oPkT (cB hb6) (v := (.bool _)) R (sMb R ?_))))))))
     by_cases hb7 : ((r1.1.length : Int) == 1) = true
     ·replace hv := iteT hv hb7
      refine sT R (cB hb7) (oM (v := (.lst _ _)) R ?_)
      obtain ⟨x8, hx8, hv⟩ := bindS hv
      refine sT R (cB hb7) (oIx (f := GBag.lv) te27 tk43 ts43 R R GBag.ok hx8 R (sT R (cB hb7) (oFaS tf43_2 tk4 ts4 R R R (sT R (cB hb7) (oLd R tk4 ta4 (sN (oPkT (cB hb7) (v := (.bool _)) R (sMb R ?_))))))))
      by_cases hb9 : x8.Open = true
      ·replace hv := iteT hv hb9
       refine sT R (cB hb9) (oM (v := (.lst _ _)) R (sT R (cB hb9) (oBS (f := LV.I) (ys := [3]) te22 tr3 ts3 R R R okI ?_)))
       obtain ⟨r10, hr10, hv⟩ := bindS hv
       refine sT R (cB hb9) (oCP (args := [.L r2.1, .L [3]]) R isF19 R (sbR (sbR sbN)) (q47q hr10) R (sN (oPkT (cB hb9) (v := (.bool _)) R (sMb R ?_))))
       by_cases hb11 : r10 = true
       ·replace hv := iteT hv hb11
        refine sT R (cB hb11) (oM (v := (.lst _ _)) R (sT R (cB hb11) (oLnL (f := LV.I) te22 R (sT R (cB hb11) (oEq R R (sN (oPkT (cB hb11) (v := (.bool _)) R (sMb R ?_))))))))
        by_cases hb12 : ((r2.2.1.length : Int) == 0) = true
        ·replace hv := iteT hv hb12
         refine sT R (cB hb12) (oM (v := (.lst _ _)) R (sT R (cB hb12) (oBS (f := LV.I) (ys := [2]) te22 tr3 ts3 R R R okI ?_)))
         obtain ⟨r13, hr13, hv⟩ := bindS hv
         refine sT R (cB hb12) (oCP (args := [.L r2.2.2.1, .L [2]]) R isF19 R (sbR (sbR sbN)) (q47q hr13) R (sN (oPkT (cB hb12) (v := (.bool _)) R (sMb R ?_))))
         by_cases hb14 : r13 = true
         ·replace hv := iteT hv hb14
          refine sT R (cB hb14) (oM (v := (.lst _ _)) R (sT R (cB hb14) (oBS (f := LV.I) (ys := [1]) te22 tr3 ts3 R R R okI ?_)))
          obtain ⟨r15, hr15, hv⟩ := bindS hv
          refine sT R (cB hb14) (oCP (args := [.L r2.2.2.2, .L [1]]) R isF19 R (sbR (sbR sbN)) (q47q hr15) R (sN (oPkT (cB hb14) (v := (.bool _)) R (sAb R ?_))))
          obtain rfl := oI hv
          exact zS
         ·replace hb14 := bF hb14
          replace hv := iteF hv hb14
          refine sF R R hb14 (sF R R hb14 (sF R R hb14 (sN (oPkF (cB hb14) (v := (.bool _)) R (sAb R ?_)))))
          obtain rfl := oI hv
          exact zS
        ·replace hb12 := bF hb12
         replace hv := iteF hv hb12
         refine sF R R hb12 (sF R R hb12 (sF R R hb12 (sN (oPkF (cB hb12) (v := (.bool _)) R (sMb R (sF R R R (sF R R R (sF R R R (sN (oPkF R (v := (.bool _)) R (sAb R ?_)))))))))))
         obtain rfl := oI hv
         exact zS
       ·replace hb11 := bF hb11
        replace hv := iteF hv hb11
        refine sF R R hb11 (sF R R hb11 (sF R R hb11 (sN (oPkF (cB hb11) (v := (.bool _)) R (sMb R (sF R R R (sF R R R (sF R R R (sN (oPkF R (v := (.bool _)) R (sMb R (sF R R R (sF R R R (sF R R R (sN (oPkF R (v := (.bool _)) R (sAb R ?_)))))))))))))))))
        obtain rfl := oI hv
        exact zS
      ·replace hb9 := bF hb9
       replace hv := iteF hv hb9
       refine sF R R hb9 (sF R R hb9 (sF R R hb9 (sN (oPkF (cB hb9) (v := (.bool _)) R (sMb R (sF R R R (sF R R R (sF R R R (sN (oPkF R (v := (.bool _)) R (sMb R (sF R R R (sF R R R (sF R R R (sN (oPkF R (v := (.bool _)) R (sMb R (sF R R R (sF R R R (sF R R R (sN (oPkF R (v := (.bool _)) R (sAb R ?_)))))))))))))))))))))))
       obtain rfl := oI hv
       exact zS
     ·replace hb7 := bF hb7
      replace hv := iteF hv hb7
      refine sF R R hb7 (sF R R hb7 (sF R R hb7 (sF R R hb7 (sN (oPkF (cB hb7) (v := (.bool _)) R (sMb R (sF R R R (sF R R R (sF R R R (sN (oPkF R (v := (.bool _)) R (sMb R (sF R R R (sF R R R (sF R R R (sN (oPkF R (v := (.bool _)) R (sMb R (sF R R R (sF R R R (sF R R R (sN (oPkF R (v := (.bool _)) R (sMb R (sF R R R (sF R R R (sF R R R (sN (oPkF R (v := (.bool _)) R (sAb R ?_))))))))))))))))))))))))))))))
      obtain rfl := oI hv
      exact zS
    ·replace hb6 := bF hb6
     replace hv := iteF hv hb6
     refine sF R R hb6 (sF R R hb6 (sF R R hb6 (sN (oPkF (cB hb6) (v := (.bool _)) R (sMb R (sF R R R (sF R R R (sF R R R (sF R R R (sN (oPkF R (v := (.bool _)) R (sMb R (sF R R R (sF R R R (sF R R R (sN (oPkF R (v := (.bool _)) R (sMb R (sF R R R (sF R R R (sF R R R (sN (oPkF R (v := (.bool _)) R (sMb R (sF R R R (sF R R R (sF R R R (sN (oPkF R (v := (.bool _)) R (sMb R (sF R R R (sF R R R (sF R R R (sN (oPkF R (v := (.bool _)) R (sAb R ?_))))))))))))))))))))))))))))))))))))
     obtain rfl := oI hv
     exact zS
   ·replace hb5 := bF hb5
    replace hv := iteF hv hb5
    refine sF R R hb5 (sF R R hb5 (sF R R hb5 (sN (oPkF (cB hb5) (v := (.bool _)) R (sMb R (sF R R R (sF R R R (sF R R R (sN (oPkF R (v := (.bool _)) R (sMb R (sF R R R (sF R R R (sF R R R (sF R R R (sN (oPkF R (v := (.bool _)) R (sMb R (sF R R R (sF R R R (sF R R R (sN (oPkF R (v := (.bool _)) R (sMb R (sF R R R (sF R R R (sF R R R (sN (oPkF R (v := (.bool _)) R (sMb R (sF R R R (sF R R R (sF R R R (sN (oPkF R (v := (.bool _)) R (sMb R (sF R R R (sF R R R (sF R R R (sN (oPkF R (v := (.bool _)) R (sAb R ?_))))))))))))))))))))))))))))))))))))))))))
    obtain rfl := oI hv
    exact zS
  clear hv
  refine LH.ret ?_
  obtain rfl := oI h
  exact retE (aT Tryz.results14) (lrT R (lr0 ⟨memN mN, R, prK R, Sub.rfl⟩))

end Go.Proofs.YtdjkbicmkbnjdaaGreat
