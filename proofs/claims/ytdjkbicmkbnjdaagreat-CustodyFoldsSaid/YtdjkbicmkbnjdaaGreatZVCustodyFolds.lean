import Derived.Test.YtdjkbicmkbnjdaaGreatZW3
set_option linter.unusedVariables false
set_option linter.unusedSimpArgs false
set_option maxRecDepth 100000
namespace Go.Proofs.YtdjkbicmkbnjdaaGreat
open Go.L Go.Sh
theorem q246q {F : Nat} {p0 : GBag} {p1 : GBag} {r : Bool} (h : q163q F p0 p1 = some r) : LCall Tryz.prog 22 [GBag.lv p0, GBag.lv p1] (Mem.of []) (.bool r) (Mem.of []) := by
  unfold q163q at h
  refine bodyT Tryz.func22 R (nT Tryz.ntmps22 R) (LH.wk (Wk.eq (el := [(0, GBag.lv p0), (1, GBag.lv p1)]) (ml := []) R R R R) (LH.seqT [(2, .sptr (GBag.lv p0).cells), (3, .sptr (GBag.lv p1).cells)] [] R (sB (oBxR R R R R (sB (oBxR R R R R (sAb R zS))))) ?_))
  obtain ⟨w2, hv, h⟩ := bindS h
  refine LH.seqT [(4, .bool w2)] [] R ?_ ?_
  ·refine sN (oFaS tf43_0 tk3 ts3 R R R (sN (oLd R tk3 ta3 (sN (oFaS tf43_0 tk3 ts3 R R R (sN (oLd R tk3 ta3 (sN (oEq R R (sMb R ?_))))))))))
   by_cases hb3 : (p0.Bag == p1.Bag) = true
   ·replace hv := iteT hv hb3
    refine sT R (cB hb3) (oFaS tf43_1 tk3 ts3 R R R (sT R (cB hb3) (oLd R tk3 ta3 (sT R (cB hb3) (oFaS tf43_1 tk3 ts3 R R R (sT R (cB hb3) (oLd R tk3 ta3 (sT R (cB hb3) (oEq R R (sN (oPkT (cB hb3) (v := (.bool _)) R (sMb R ?_))))))))))))
    by_cases hb4 : (p0.Holder == p1.Holder) = true
    ·replace hv := iteT hv hb4
     refine sT R (cB hb4) (oFaS tf43_2 tk4 ts4 R R R (sT R (cB hb4) (oLd R tk4 ta4 (sT R (cB hb4) (oFaS tf43_2 tk4 ts4 R R R (sT R (cB hb4) (oLd R tk4 ta4 (sT R (cB hb4) (oEqB R R tb4 (sN (oPkT (cB hb4) (v := (.bool _)) R (sMb R ?_))))))))))))
     by_cases hb5 : (p0.Open == p1.Open) = true
     ·replace hv := iteT hv hb5
      refine sT R (cB hb5) (oFaS tf43_3 tk22 ts22 R R R (sT R (cB hb5) (oLd R tk22 ta22 (sT R (cB hb5) (oFaS tf43_3 tk22 ts22 R R R (sT R (cB hb5) (oLd R tk22 ta22 ?_)))))))
      obtain ⟨r6, hr6, hv⟩ := bindS hv
      refine sT R (cB hb5) (oCP (args := [.L p0.Seals, .L p1.Seals]) R isF19 R (sbR (sbR sbN)) (q118q hr6) R (sN (oPkT (cB hb5) (v := (.bool _)) R (sMb R ?_))))
      by_cases hb7 : r6 = true
      ·replace hv := iteT hv hb7
       refine sT R (cB hb7) (oFaS tf43_4 tk22 ts22 R R R (sT R (cB hb7) (oLd R tk22 ta22 (sT R (cB hb7) (oFaS tf43_4 tk22 ts22 R R R (sT R (cB hb7) (oLd R tk22 ta22 ?_)))))))
       obtain ⟨r8, hr8, hv⟩ := bindS hv
       refine sT R (cB hb7) (oCP (args := [.L p0.Packed, .L p1.Packed]) R isF19 R (sbR (sbR sbN)) (q118q hr8) R (sN (oPkT (cB hb7) (v := (.bool _)) R (sMb R ?_))))
       by_cases hb9 : r8 = true
       ·replace hv := iteT hv hb9
        refine sT R (cB hb9) (oFaS tf43_5 tk22 ts22 R R R (sT R (cB hb9) (oLd R tk22 ta22 (sT R (cB hb9) (oFaS tf43_5 tk22 ts22 R R R (sT R (cB hb9) (oLd R tk22 ta22 ?_)))))))
        obtain ⟨r10, hr10, hv⟩ := bindS hv
        refine sT R (cB hb9) (oCP (args := [.L p0.Found, .L p1.Found]) R isF19 R (sbR (sbR sbN)) (q118q hr10) R (sN (oPkT (cB hb9) (v := (.bool _)) R (sAb R ?_))))
        obtain rfl := oI hv
        exact zS
       ·replace hb9 := bF hb9
        replace hv := iteF hv hb9
        refine sF R R hb9 (sF R R hb9 (sF R R hb9 (sF R R hb9 (sF R R hb9 (sN (oPkF (cB hb9) (v := (.bool _)) R (sAb R ?_)))))))
        obtain rfl := oI hv
        exact zS
      ·replace hb7 := bF hb7
       replace hv := iteF hv hb7
       refine sF R R hb7 (sF R R hb7 (sF R R hb7 (sF R R hb7 (sF R R hb7 (sN (oPkF (cB hb7) (v := (.bool _)) R (sMb R (sF R R R (sF R R R (sF R R R (sF R R R (sF R R R (sN (oPkF R (v := (.bool _)) R (sAb R ?_)))))))))))))))
       obtain rfl := oI hv
       exact zS
     ·replace hb5 := bF hb5
      replace hv := iteF hv hb5
      refine sF R R hb5 (sF R R hb5 (sF R R hb5 (sF R R hb5 (sF R R hb5 (sN (oPkF (cB hb5) (v := (.bool _)) R (sMb R (sF R R R (sF R R R (sF R R R (sF R R R (sF R R R (sN (oPkF R (v := (.bool _)) R (sMb R (sF R R R (sF R R R (sF R R R (sF R R R (sF R R R (sN (oPkF R (v := (.bool _)) R (sAb R ?_)))))))))))))))))))))))
      obtain rfl := oI hv
      exact zS
    ·replace hb4 := bF hb4
     replace hv := iteF hv hb4
     refine sF R R hb4 (sF R R hb4 (sF R R hb4 (sF R R hb4 (sF R R hb4 (sN (oPkF (cB hb4) (v := (.bool _)) R (sMb R (sF R R R (sF R R R (sF R R R (sF R R R (sF R R R (sN (oPkF R (v := (.bool _)) R (sMb R (sF R R R (sF R R R (sF R R R (sF R R R (sF R R R (sN (oPkF R (v := (.bool _)) R (sMb R (sF R R R (sF R R R (sF R R R (sF R R R (sF R R R (sN (oPkF R (v := (.bool _)) R (sAb R ?_)))))))))))))))))))))))))))))))
     obtain rfl := oI hv
     exact zS
   ·replace hb3 := bF hb3
    replace hv := iteF hv hb3
    refine sF R R hb3 (sF R R hb3 (sF R R hb3 (sF R R hb3 (sF R R hb3 (sN (oPkF (cB hb3) (v := (.bool _)) R (sMb R (sF R R R (sF R R R (sF R R R (sF R R R (sF R R R (sN (oPkF R (v := (.bool _)) R (sMb R (sF R R R (sF R R R (sF R R R (sF R R R (sF R R R (sN (oPkF R (v := (.bool _)) R (sMb R (sF R R R (sF R R R (sF R R R (sF R R R (sF R R R (sN (oPkF R (v := (.bool _)) R (sMb R (sF R R R (sF R R R (sF R R R (sF R R R (sF R R R (sN (oPkF R (v := (.bool _)) R (sAb R ?_)))))))))))))))))))))))))))))))))))))))
    obtain rfl := oI hv
    exact zS
  clear hv
  refine LH.ret ?_
  obtain rfl := oI h
  exact retE (aT Tryz.results22) (lrT R (lr0 ⟨memN mN, R, prK R, Sub.rfl⟩))

theorem q241q {F : Nat} {p0 : List GBag} {p1 : List GBag} {r : Bool} (h : q158q F p0 p1 = some r) : LCall Tryz.prog 11 [.lst 6 (List.map GBag.lv p0), .lst 6 (List.map GBag.lv p1)] (Mem.of []) (.bool r) (Mem.of []) := by
  unfold q158q at h
  refine bodyT Tryz.func11 R (nT Tryz.ntmps11 R) (LH.wk (Wk.eq (el := [(0, .lst 6 (List.map GBag.lv p0)), (1, .lst 6 (List.map GBag.lv p1))]) (ml := []) R R R R) (LH.seqT [(0, .lst 6 (List.map GBag.lv p0)), (1, .lst 6 (List.map GBag.lv p1))] [] R (sAb R zS) (LH.seq (LH.seqT [(0, .lst 6 (List.map GBag.lv p0)), (1, .lst 6 (List.map GBag.lv p1)), (10, .bool ((p0.length : Int) != (p1.length : Int)))] [] R (sMl R (sN (oLnL (f := GBag.lv) te27 R (sMl R (sN (oLnL (f := GBag.lv) te27 R (sN (oNe R R zS)))))))) (LH.cond (t := ((p0.length : Int) != (p1.length : Int))) R (fun hc1 => ?_) (fun hc1 => ?_))))))
  ·replace h := iteT h hc1
   refine LH.seqT [(4, .bool false)] [] R (sAb R zS) (LH.ret (thenR ?_))
   obtain rfl := oI h
   exact retE (aT Tryz.results11) (lrT R (lr0 ⟨memN mN, R, prK R, Sub.rfl⟩))
  replace h := iteF h hc1
  refine LH.skip (thenN (LH.wk (Wk.eq (el := [(0, .lst 6 (List.map GBag.lv p0)), (1, .lst 6 (List.map GBag.lv p1))]) (ml := []) R R R R) (LH.seq (LH.seqT [(0, .lst 6 (List.map GBag.lv p0)), (1, .lst 6 (List.map GBag.lv p1)), (5, .I 0)] [] R (sAi R zS) (LH.block (LH.loop (fun n e m => ∃ (n2 : Int), q55q F p0 p1 n n2 = some r ∧ e = Env.of [(0, .lst 6 (List.map GBag.lv p0)), (1, .lst 6 (List.map GBag.lv p1)), (5, .I n2)] ∧ m = Mem.of []) F ⟨0, h, R, R⟩ ?_))))))
  clear h
  rintro n e m ⟨n2, h, rfl, rfl⟩
  rcases n with _ | n
  · cases (show Option.none = some _ from h)
  obtain ⟨rec1, hrec1⟩ : ∃ f, f = q55q F p0 p1 n := ⟨_, rfl⟩
  replace h : q98q F p0 p1 rec1 n2 = some r := hrec1 ▸ h
  unfold q98q at h
  refine LH.seq (LH.seqT [(0, .lst 6 (List.map GBag.lv p0)), (1, .lst 6 (List.map GBag.lv p1)), (5, .I n2), (14, .bool (decide (n2 < (p0.length : Int))))] [] R (sMi R (sMl R (sN (oLnL (f := GBag.lv) te27 R (sN (oLt R R zS)))))) (LH.cond (t := (decide (n2 < (p0.length : Int)))) R (fun hc3 => ?_) (fun hc3 => ?_)))
  ·replace h := iteT h hc3
   refine LH.skip (thenN (LH.wk (Wk.eq (el := [(0, .lst 6 (List.map GBag.lv p0)), (1, .lst 6 (List.map GBag.lv p1)), (5, .I n2)]) (ml := []) R R R R) (LH.seq (LH.block ?_))))
   obtain ⟨x4, hx4, h⟩ := bindS h
   obtain ⟨x5, hx5, h⟩ := bindS h
   obtain ⟨r6, hr6, h⟩ := bindS h
   refine LH.seqJM mixed [] [0, 0, 0, 0, 0, 0, 0, 0, 0, 0] [(0, .lst 6 (List.map GBag.lv p0)), (1, .lst 6 (List.map GBag.lv p1)), (5, .I n2), (26, .bool (!r6))] [] R R (by kernel_rfl) (mMl R (mMi R (mN0 (oIx (f := GBag.lv) te27 tk43 ts43 R R GBag.ok hx4 R ⟨R, mN0 (oLdA R tk43 ta43 ts43 R R ⟨R, mMl R (mMi R (mN0 (oIx (f := GBag.lv) te27 tk43 ts43 R R GBag.ok hx5 R ⟨R, mN0 (oLdA R tk43 ta43 ts43 R R ⟨R, mN0 (oCP (args := [GBag.lv x4, GBag.lv x5]) R isF22 R (sbR (sbR sbN)) (q246q hr6) R ⟨R, mN0 (oNot R ⟨R, zM⟩)⟩)⟩)⟩)))⟩)⟩)))) (LH.cond (t := (!r6)) R (fun hc7 => ?_) (fun hc7 => ?_))
   ·replace h := iteT h hc7
    refine LH.seqT [(4, .bool false)] [] R (sAb R zS) (LH.ret (blockR (thenR (roundR (blockR (thenR ?_))))))
    obtain rfl := oI h
    exact retE (aT Tryz.results11) (lrT R (lr0 ⟨memN mN, R, prK R, Sub.rfl⟩))
   replace h := iteF h hc7
   refine LH.skip (blockN (thenN (LH.loneT [(0, .lst 6 (List.map GBag.lv p0)), (1, .lst 6 (List.map GBag.lv p1)), (5, .I (i64 (n2 + 1)))] [] R (sMi R (sN (oAdd R R (sAi R zS)))) ?_)))
   exact roundI ⟨(i64 (n2 + 1)), hrec1 ▸ h, R, R⟩ (Wk.eq R R R R)
  replace h := iteF h hc3
  refine LH.exit (thenX (roundX (blockH (thenN (LH.seqT [(4, .bool true)] [] R (sAb R zS) (LH.ret ?_))))))
  obtain rfl := oI h
  exact retE (aT Tryz.results11) (lrT R (lr0 ⟨memN mN, R, prK R, Sub.rfl⟩))

theorem q239q {F : Nat} {p0 : List Gq2} {p1 : List Gq2} {r : Bool} (h : q156q F p0 p1 = some r) : LCall Tryz.prog 12 [.lst 3 (List.map Gq2.lv p0), .lst 3 (List.map Gq2.lv p1)] (Mem.of []) (.bool r) (Mem.of []) := by
  unfold q156q at h
  refine bodyT Tryz.func12 R (nT Tryz.ntmps12 R) (LH.wk (Wk.eq (el := [(0, .lst 3 (List.map Gq2.lv p0)), (1, .lst 3 (List.map Gq2.lv p1))]) (ml := []) R R R R) (LH.seqT [(0, .lst 3 (List.map Gq2.lv p0)), (1, .lst 3 (List.map Gq2.lv p1))] [] R (sAb R zS) (LH.seq (LH.seqT [(0, .lst 3 (List.map Gq2.lv p0)), (1, .lst 3 (List.map Gq2.lv p1)), (10, .bool ((p0.length : Int) != (p1.length : Int)))] [] R (sMl R (sN (oLnL (f := Gq2.lv) te28 R (sMl R (sN (oLnL (f := Gq2.lv) te28 R (sN (oNe R R zS)))))))) (LH.cond (t := ((p0.length : Int) != (p1.length : Int))) R (fun hc1 => ?_) (fun hc1 => ?_))))))
  ·replace h := iteT h hc1
   refine LH.seqT [(4, .bool false)] [] R (sAb R zS) (LH.ret (thenR ?_))
   obtain rfl := oI h
   exact retE (aT Tryz.results12) (lrT R (lr0 ⟨memN mN, R, prK R, Sub.rfl⟩))
  replace h := iteF h hc1
  refine LH.skip (thenN (LH.wk (Wk.eq (el := [(0, .lst 3 (List.map Gq2.lv p0)), (1, .lst 3 (List.map Gq2.lv p1))]) (ml := []) R R R R) (LH.seq (LH.seqT [(0, .lst 3 (List.map Gq2.lv p0)), (1, .lst 3 (List.map Gq2.lv p1)), (5, .I 0)] [] R (sAi R zS) (LH.block (LH.loop (fun n e m => ∃ (n2 : Int), q54q p0 p1 n n2 = some r ∧ e = Env.of [(0, .lst 3 (List.map Gq2.lv p0)), (1, .lst 3 (List.map Gq2.lv p1)), (5, .I n2)] ∧ m = Mem.of []) F ⟨0, h, R, R⟩ ?_))))))
  clear h
  rintro n e m ⟨n2, h, rfl, rfl⟩
  rcases n with _ | n
  · cases (show Option.none = some _ from h)
  obtain ⟨rec1, hrec1⟩ : ∃ f, f = q54q p0 p1 n := ⟨_, rfl⟩
  replace h : q97q p0 p1 rec1 n2 = some r := hrec1 ▸ h
  unfold q97q at h
  refine LH.seq (LH.seqT [(0, .lst 3 (List.map Gq2.lv p0)), (1, .lst 3 (List.map Gq2.lv p1)), (5, .I n2), (14, .bool (decide (n2 < (p0.length : Int))))] [] R (sMi R (sMl R (sN (oLnL (f := Gq2.lv) te28 R (sN (oLt R R zS)))))) (LH.cond (t := (decide (n2 < (p0.length : Int)))) R (fun hc3 => ?_) (fun hc3 => ?_)))
  ·replace h := iteT h hc3
   refine LH.skip (thenN (LH.wk (Wk.eq (el := [(0, .lst 3 (List.map Gq2.lv p0)), (1, .lst 3 (List.map Gq2.lv p1)), (5, .I n2)]) (ml := []) R R R R) (LH.seq (LH.block ?_))))
   obtain ⟨x4, hx4, h⟩ := bindS h
   obtain ⟨x5, hx5, h⟩ := bindS h
   refine LH.seqJM mixed [] [0, 0, 0, 0, 0, 0, 0, 0, 0] [(0, .lst 3 (List.map Gq2.lv p0)), (1, .lst 3 (List.map Gq2.lv p1)), (5, .I n2), (25, .bool (!(decide (x4 = x5))))] [] R R (by kernel_rfl) (mMl R (mMi R (mN0 (oIx (f := Gq2.lv) te28 tk68 ts68 R R Gq2.ok hx4 R ⟨R, mN0 (oLdA R tk68 ta68 ts68 R R ⟨R, mMl R (mMi R (mN0 (oIx (f := Gq2.lv) te28 tk68 ts68 R R Gq2.ok hx5 R ⟨R, mN0 (oLdA R tk68 ta68 ts68 R R ⟨R, mN0 (oNeA R R (ae68 x4 x5) ⟨R, zM⟩)⟩)⟩)))⟩)⟩)))) (LH.cond (t := (!(decide (x4 = x5)))) R (fun hc6 => ?_) (fun hc6 => ?_))
   ·replace h := iteT h hc6
    refine LH.seqT [(4, .bool false)] [] R (sAb R zS) (LH.ret (blockR (thenR (roundR (blockR (thenR ?_))))))
    obtain rfl := oI h
    exact retE (aT Tryz.results12) (lrT R (lr0 ⟨memN mN, R, prK R, Sub.rfl⟩))
   replace h := iteF h hc6
   refine LH.skip (blockN (thenN (LH.loneT [(0, .lst 3 (List.map Gq2.lv p0)), (1, .lst 3 (List.map Gq2.lv p1)), (5, .I (i64 (n2 + 1)))] [] R (sMi R (sN (oAdd R R (sAi R zS)))) ?_)))
   exact roundI ⟨(i64 (n2 + 1)), hrec1 ▸ h, R, R⟩ (Wk.eq R R R R)
  replace h := iteF h hc3
  refine LH.exit (thenX (roundX (blockH (thenN (LH.seqT [(4, .bool true)] [] R (sAb R zS) (LH.ret ?_))))))
  obtain rfl := oI h
  exact retE (aT Tryz.results12) (lrT R (lr0 ⟨memN mN, R, prK R, Sub.rfl⟩))

theorem q224q {F : Nat} {p0 : List Int} {p1 : Int} {r : Bool} (h : q150q F p0 p1 = some r) : LCall Tryz.prog 3 [.L p0, .I p1] (Mem.of []) (.bool r) (Mem.of []) := by
  unfold q150q at h
  refine bodyT Tryz.func3 R (nT Tryz.ntmps3 R) (LH.wk (Wk.eq (el := [(0, .L p0), (1, .I p1)]) (ml := []) R R R R) (LH.seqT [(0, .L p0), (1, .I p1)] [] R (sAb R zS) ?_))
  obtain ⟨r1, hr1, h⟩ := bindS h
  refine LH.seqT [(1, .I p1), (5, .ptr 7 0)] [(7, .box [.L r1.L, .I r1.At])] R (sMl R (sN (oCM (args := [.L p0]) (ml := []) (ml' := [(7, .box [.L r1.L, .I r1.At])]) R isF7 R (sbR sbN) (q267q hr1) mN (newF R newN) R (sAp R zS)))) ?_
  obtain ⟨r2, hr2, h⟩ := bindS h
  refine LH.seqT [(1, .I p1), (5, .ptr 7 0), (6, .lst 9 (List.map Gq0.lv r2.1))] [(7, .box [.L r2.2.L, .I r2.2.At])] R (sMp R (sN (oCM (args := [.ptr 7 0, .I 14, .I 6]) (ml := [(7, .box [.L r1.L, .I r1.At])]) (ml' := [(7, .box [.L r2.2.L, .I r2.2.At])]) R isF8 R (sbR (sbR (sbR sbN))) (Gq12 hr2) (mC R mN) (newI R newN) R (sAl R zS)))) (LH.seq (LH.seqT [(1, .I p1), (5, .ptr 7 0), (6, .lst 9 (List.map Gq0.lv r2.1)), (7, .I 0)] [(7, .box [.L r2.2.L, .I r2.2.At])] R (sAi R zS) (LH.block (LH.loop (fun n e m => ∃ (n3 : Int) (n4 : Int) (l5 : List Int) (n6 : Int), q31q F r2 n n3 n4 l5 n6 = some r ∧ e = Env.of [(1, .I n3), (5, .ptr 7 0), (6, .lst 9 (List.map Gq0.lv r2.1)), (7, .I n4)] ∧ m = Mem.of [(7, .box [.L l5, .I n6])]) F ⟨p1, 0, r2.2.L, r2.2.At, h, R, R⟩ ?_))))
  clear h
  rintro n e m ⟨n3, n4, l5, n6, h, rfl, rfl⟩
  rcases n with _ | n
  · cases (show Option.none = some _ from h)
  obtain ⟨rec1, hrec1⟩ : ∃ f, f = q31q F r2 n := ⟨_, rfl⟩
  replace h : q51q F r2 rec1 n3 n4 l5 n6 = some r := hrec1 ▸ h
  unfold q51q at h
  refine LH.seq (LH.seqT [(1, .I n3), (5, .ptr 7 0), (6, .lst 9 (List.map Gq0.lv r2.1)), (7, .I n4), (19, .bool (decide (n4 < 2)))] [(7, .box [.L l5, .I n6])] R (sMi R (sN (oLt R R zS))) (LH.cond (t := (decide (n4 < 2))) R (fun hc7 => ?_) (fun hc7 => ?_)))
  ·replace h := iteT h hc7
   refine LH.skip (thenN (LH.wk (Wk.eq (el := [(1, .I n3), (5, .ptr 7 0), (6, .lst 9 (List.map Gq0.lv r2.1)), (7, .I n4)]) (ml := [(7, .box [.L l5, .I n6])]) R R R R) (LH.seq (LH.block ?_))))
   obtain ⟨r8, hr8, h⟩ := bindS h
   refine LH.seqT [(1, .I n3), (5, .ptr 7 0), (6, .lst 9 (List.map Gq0.lv r2.1)), (7, .I n4), (8, .lst 6 (List.map GBag.lv r8.1)), (9, .lst 3 (List.map Gq2.lv r8.2.1)), (10, .I r8.2.2)] [(7, .box [.L l5, .I n6])] R (sMl R (sMi R (sN (oCP (args := [.lst 9 (List.map Gq0.lv r2.1), .I n3]) R isF9 R (sbR (sbR sbN)) (q220q hr8) R (sMt R (sN (oEx R R (sN (oEx R R (sN (oEx R R (sAl R (sAl R (sAi R zS)))))))))))))) ?_
   obtain ⟨r9, hr9, h⟩ := bindS h
   refine LH.seqT [(5, .ptr 7 0), (6, .lst 9 (List.map Gq0.lv r2.1)), (7, .I n4), (8, .lst 6 (List.map GBag.lv r8.1)), (9, .lst 3 (List.map Gq2.lv r8.2.1)), (10, .I r8.2.2), (11, .lst 6 (List.map GBag.lv r9.1)), (12, .lst 3 (List.map Gq2.lv r9.2.1)), (13, .I r9.2.2)] [(7, .box [.L l5, .I n6])] R (sMl R (sMi R (sN (oCP (args := [.lst 9 (List.map Gq0.lv r2.1), .I n3]) R isF10 R (sbR (sbR sbN)) (q261q hr9) R (sMt R (sN (oEx R R (sN (oEx R R (sN (oEx R R (sAl R (sAl R (sAi R zS)))))))))))))) (LH.seq ?_)
   obtain ⟨w11, hv, h⟩ := bindS h
   refine LH.seqT [(5, .ptr 7 0), (6, .lst 9 (List.map Gq0.lv r2.1)), (7, .I n4), (50, .bool w11)] [(7, .box [.L l5, .I n6])] R ?_ ?_
   ·refine sMl R (sMl R ?_)
    obtain ⟨r12, hr12, hv⟩ := bindS hv
    refine sN (oCP (args := [.lst 6 (List.map GBag.lv r8.1), .lst 6 (List.map GBag.lv r9.1)]) R isF11 R (sbR (sbR sbN)) (q241q hr12) R (sN (oNot R (sMb R ?_))))
    by_cases hb13 : (!r12) = true
    ·replace hv := iteT hv hb13
     refine sF R R hb13 (sF R R hb13 (sF R R hb13 (sF R R hb13 (sN (oPkT (cB hb13) (v := (.bool _)) R (sMb R (sF R R R (sF R R R (sF R R R (sN (oPkT R (v := (.bool _)) R ?_)))))))))))
     obtain rfl := oI hv
     exact zS
    ·replace hb13 := bF hb13
     replace hv := iteF hv hb13
     refine sT R (cB hb13) (oM (v := (.lst _ _)) R (sT R (cB hb13) (oM (v := (.lst _ _)) R ?_)))
     obtain ⟨r14, hr14, hv⟩ := bindS hv
     refine sT R (cB hb13) (oCP (args := [.lst 3 (List.map Gq2.lv r8.2.1), .lst 3 (List.map Gq2.lv r9.2.1)]) R isF12 R (sbR (sbR sbN)) (q239q hr14) R (sT R (cB hb13) (oNot R (sN (oPkF (cB hb13) (v := (.bool _)) R (sMb R ?_))))))
     by_cases hb15 : (!r14) = true
     ·replace hv := iteT hv hb15
      refine sF R R hb15 (sF R R hb15 (sF R R hb15 (sN (oPkT (cB hb15) (v := (.bool _)) R ?_))))
      obtain rfl := oI hv
      exact zS
     ·replace hb15 := bF hb15
      replace hv := iteF hv hb15
      refine sT R (cB hb15) (oM (v := (.int _ _)) R (sT R (cB hb15) (oM (v := (.int _ _)) R (sT R (cB hb15) (oNe R R (sN (oPkF (cB hb15) (v := (.bool _)) R ?_)))))))
      obtain rfl := oI hv
      exact zS
   clear hv
   refine LH.cond (t := w11) R (fun hc16 => ?_) (fun hc16 => ?_)
   ·replace h := iteT h hc16
    refine LH.seqT [(4, .bool false)] [] R (sAb R zS) (LH.ret (thenR (blockR (thenR (roundR (blockR (thenR ?_)))))))
    obtain rfl := oI h
    exact retE (aT Tryz.results3) (lrT R (lr0 ⟨memN mN, R, prK R, Sub.rfl⟩))
   replace h := iteF h hc16
   refine LH.skip (thenN ?_)
   obtain ⟨r17, hr17, h⟩ := bindS h
   refine LH.loneT [(1, .I r17.1), (5, .ptr 7 0), (6, .lst 9 (List.map Gq0.lv r2.1)), (7, .I n4)] [(7, .box [.L r17.2.L, .I r17.2.At])] R (sMp R (sN (oCM (args := [.ptr 7 0, .I 0, .I 20]) (ml := [(7, .box [.L l5, .I n6])]) (ml' := [(7, .box [.L r17.2.L, .I r17.2.At])]) R isF13 R (sbR (sbR (sbR sbN))) (Gq20 hr17) (mC R mN) (newI R newN) R (sAi R zS)))) (blockN (thenN (LH.loneT [(1, .I r17.1), (5, .ptr 7 0), (6, .lst 9 (List.map Gq0.lv r2.1)), (7, .I (i64 (n4 + 1)))] [(7, .box [.L r17.2.L, .I r17.2.At])] R (sMi R (sN (oAdd R R (sAi R zS)))) ?_)))
   exact roundI ⟨r17.1, (i64 (n4 + 1)), r17.2.L, r17.2.At, hrec1 ▸ h, R, R⟩ (Wk.eq R R R R)
  replace h := iteF h hc7
  refine LH.exit (thenX (roundX (blockH (thenN ?_))))
  obtain ⟨r18, hr18, h⟩ := bindS h
  refine LH.seqT [(4, .bool r18)] [] R (sN (oCP (args := []) R isF14 R sbN (q257q hr18) R (sAb R zS))) (LH.ret ?_)
  obtain rfl := oI h
  exact retE (aT Tryz.results3) (lrT R (lr0 ⟨memN mN, R, prK R, Sub.rfl⟩))

end Go.Proofs.YtdjkbicmkbnjdaaGreat
