import Derived.Test.YtdjkbicmkbnjdaaGreatZW3
set_option linter.unusedVariables false
set_option linter.unusedSimpArgs false
set_option maxRecDepth 100000
namespace Go.Proofs.YtdjkbicmkbnjdaaGreat
open Go.L Go.Sh
theorem q267q {F : Nat} {p0 : GBag} {p1 : GBag} {r : Bool} (h : q180q F p0 p1 = some r) : LCall Tryz.prog 22 [GBag.lv p0, GBag.lv p1] (Mem.of []) (.bool r) (Mem.of []) := by
  unfold q180q at h
  refine bodyT Tryz.func22 R (nT Tryz.ntmps22 R) (LH.wk (Wk.eq (el := [(0, GBag.lv p0), (1, GBag.lv p1)]) (ml := []) R R R R) (LH.seqT [(2, .sptr (GBag.lv p0).cells), (3, .sptr (GBag.lv p1).cells)] [] R (sB (oBxR R R R R (sB (oBxR R R R R (sAb R zS))))) ?_))
  obtain ⟨w2, hv, h⟩ := bindS h
  refine LH.seqT [(4, .bool w2)] [] R ?_ ?_
  ·refine sN (oFaS tf43_0 tk3 ts3 R R R (sN (oLd R tk3 ta3 (sN (oFaS tf43_0 tk3 ts3 R R R (sN (oLd R tk3 ta3 (sN (oEq R R (sMb R ?_))))))))))
   by_cases hb3 : (p0.Bag == p1.Bag) = true
   ·replace hv := iteT hv hb3
    refine sT R (cB hb3) (oFaS tf43_1 tk3 ts3 R R R (sT R (cB hb3) (oLd R tk3 ta3 (sT R (cB hb3) (oFaS tf43_1 tk3 ts3 R R R (sT R (cB hb3) (oLd R tk3 ta3 (sT R (cB hb3) (oEq R R (sN (oPkT (cB hb3) (v := (.bool _)) R (sMb R ?_))))))))))))
    by_cases hb4 : (p0.Holder == p1.Holder) = true
    ·replace hv := iteT hv hb4
     refine sT R (cB hb4) (oFaS tf43_2 tk4 ts4 R R R (sT R (cB hb4) (oLd R tk4 ta4 (sT R (cB hb4) (oFaS tf43_2 tk4 ts4 R R R (sT R (cB hb4) (oLd R tk4 ta4 (sT R (cB hb4) (oEqB R R tb4 (sN (oPkT (cB hb4) (v := (.bool _)) R (sMb R ?_))))))))))))
     by_cases hb5 : (p0.Open == p1.Open) = true
     ·replace hv := iteT hv hb5
      refine sT R (cB hb5) (oFaS tf43_3 tk22 ts22 R R R (sT R (cB hb5) (oLd R tk22 ta22 (sT R (cB hb5) (oFaS tf43_3 tk22 ts22 R R R (sT R (cB hb5) (oLd R tk22 ta22 ?_)))))))
      obtain ⟨r6, hr6, hv⟩ := bindS hv
      refine sT R (cB hb5) (oCP (args := [.L p0.Seals, .L p1.Seals]) R isF19 R (sbR (sbR sbN)) (q133q hr6) R (sN (oPkT (cB hb5) (v := (.bool _)) R (sMb R ?_))))
      by_cases hb7 : r6 = true
      ·replace hv := iteT hv hb7
       refine sT R (cB hb7) (oFaS tf43_4 tk22 ts22 R R R (sT R (cB hb7) (oLd R tk22 ta22 (sT R (cB hb7) (oFaS tf43_4 tk22 ts22 R R R (sT R (cB hb7) (oLd R tk22 ta22 ?_)))))))
       obtain ⟨r8, hr8, hv⟩ := bindS hv
       refine sT R (cB hb7) (oCP (args := [.L p0.Packed, .L p1.Packed]) R isF19 R (sbR (sbR sbN)) (q133q hr8) R (sN (oPkT (cB hb7) (v := (.bool _)) R (sMb R ?_))))
       by_cases hb9 : r8 = true
       ·replace hv := iteT hv hb9
        refine sT R (cB hb9) (oFaS tf43_5 tk22 ts22 R R R (sT R (cB hb9) (oLd R tk22 ta22 (sT R (cB hb9) (oFaS tf43_5 tk22 ts22 R R R (sT R (cB hb9) (oLd R tk22 ta22 ?_)))))))
        obtain ⟨r10, hr10, hv⟩ := bindS hv
        refine sT R (cB hb9) (oCP (args := [.L p0.Found, .L p1.Found]) R isF19 R (sbR (sbR sbN)) (q133q hr10) R (sN (oPkT (cB hb9) (v := (.bool _)) R (sAb R ?_))))
        obtain rfl := oI hv
        exact zS
       ·replace hb9 := bF hb9
        replace hv := iteF hv hb9
        refine sF R R hb9 (sF R R hb9 (sF R R hb9 (sF R R hb9 (sF R R hb9 (sN (oPkF (cB hb9) (v := (.bool _)) R (sAb R ?_)))))))
        obtain rfl := oI hv
        exact zS
      ·replace hb7 := bF hb7
       replace hv := iteF hv hb7
       refine sF R R hb7 (sF R R hb7 (sF R R hb7 (sF R R hb7 (sF R R hb7 (sN (oPkF (cB hb7) (v := (.bool _)) R (sMb R (sF R R R (sF R R R (sF R R R (sF R R R (sF R R R (sN (oPkF R (v := (.bool _)) R (sAb R ?_)))))))))))))))
       obtain rfl := oI hv
       exact zS
     ·replace hb5 := bF hb5
      replace hv := iteF hv hb5
      refine sF R R hb5 (sF R R hb5 (sF R R hb5 (sF R R hb5 (sF R R hb5 (sN (oPkF (cB hb5) (v := (.bool _)) R (sMb R (sF R R R (sF R R R (sF R R R (sF R R R (sF R R R (sN (oPkF R (v := (.bool _)) R (sMb R (sF R R R (sF R R R (sF R R R (sF R R R (sF R R R (sN (oPkF R (v := (.bool _)) R (sAb R ?_)))))))))))))))))))))))
      obtain rfl := oI hv
      exact zS
    ·replace hb4 := bF hb4
     replace hv := iteF hv hb4
     refine sF R R hb4 (sF R R hb4 (sF R R hb4 (sF R R hb4 (sF R R hb4 (sN (oPkF (cB hb4) (v := (.bool _)) R (sMb R (sF R R R (sF R R R (sF R R R (sF R R R (sF R R R (sN (oPkF R (v := (.bool _)) R (sMb R (sF R R R (sF R R R (sF R R R (sF R R R (sF R R R (sN (oPkF R (v := (.bool _)) R (sMb R (sF R R R (sF R R R (sF R R R (sF R R R (sF R R R (sN (oPkF R (v := (.bool _)) R (sAb R ?_)))))))))))))))))))))))))))))))
     obtain rfl := oI hv
     exact zS
   ·replace hb3 := bF hb3
    replace hv := iteF hv hb3
    refine sF R R hb3 (sF R R hb3 (sF R R hb3 (sF R R hb3 (sF R R hb3 (sN (oPkF (cB hb3) (v := (.bool _)) R (sMb R (sF R R R (sF R R R (sF R R R (sF R R R (sF R R R (sN (oPkF R (v := (.bool _)) R (sMb R (sF R R R (sF R R R (sF R R R (sF R R R (sF R R R (sN (oPkF R (v := (.bool _)) R (sMb R (sF R R R (sF R R R (sF R R R (sF R R R (sF R R R (sN (oPkF R (v := (.bool _)) R (sMb R (sF R R R (sF R R R (sF R R R (sF R R R (sF R R R (sN (oPkF R (v := (.bool _)) R (sAb R ?_)))))))))))))))))))))))))))))))))))))))
    obtain rfl := oI hv
    exact zS
  clear hv
  refine LH.ret ?_
  obtain rfl := oI h
  exact retE (aT Tryz.results22) (lrT R (lr0 ⟨memN mN, R, prK R, Sub.rfl⟩))

theorem q261q {F : Nat} {p0 : List GBag} {p1 : List GBag} {r : Bool} (h : q174q F p0 p1 = some r) : LCall Tryz.prog 11 [.lst 6 (List.map GBag.lv p0), .lst 6 (List.map GBag.lv p1)] (Mem.of []) (.bool r) (Mem.of []) := by
  unfold q174q at h
  refine bodyT Tryz.func11 R (nT Tryz.ntmps11 R) (LH.wk (Wk.eq (el := [(0, .lst 6 (List.map GBag.lv p0)), (1, .lst 6 (List.map GBag.lv p1))]) (ml := []) R R R R) (LH.seqT [(0, .lst 6 (List.map GBag.lv p0)), (1, .lst 6 (List.map GBag.lv p1))] [] R (sAb R zS) (LH.seq (LH.seqT [(0, .lst 6 (List.map GBag.lv p0)), (1, .lst 6 (List.map GBag.lv p1)), (10, .bool ((p0.length : Int) != (p1.length : Int)))] [] R (sMl R (sN (oLnL (f := GBag.lv) te27 R (sMl R (sN (oLnL (f := GBag.lv) te27 R (sN (oNe R R zS)))))))) (LH.cond (t := ((p0.length : Int) != (p1.length : Int))) R (fun hc1 => ?_) (fun hc1 => ?_))))))
  ·replace h := iteT h hc1
   refine LH.seqT [(4, .bool false)] [] R (sAb R zS) (LH.ret (thenR ?_))
   obtain rfl := oI h
   exact retE (aT Tryz.results11) (lrT R (lr0 ⟨memN mN, R, prK R, Sub.rfl⟩))
  replace h := iteF h hc1
  refine LH.skip (thenN (LH.wk (Wk.eq (el := [(0, .lst 6 (List.map GBag.lv p0)), (1, .lst 6 (List.map GBag.lv p1))]) (ml := []) R R R R) (LH.seq (LH.seqT [(0, .lst 6 (List.map GBag.lv p0)), (1, .lst 6 (List.map GBag.lv p1)), (5, .I 0)] [] R (sAi R zS) (LH.block (LH.loop (fun n e m => ∃ (n2 : Int), q66q F p0 p1 n n2 = some r ∧ e = Env.of [(0, .lst 6 (List.map GBag.lv p0)), (1, .lst 6 (List.map GBag.lv p1)), (5, .I n2)] ∧ m = Mem.of []) F ⟨0, h, R, R⟩ ?_))))))
  clear h
  rintro n e m ⟨n2, h, rfl, rfl⟩
  rcases n with _ | n
  · cases (show Option.none = some _ from h)
  obtain ⟨rec1, hrec1⟩ : ∃ f, f = q66q F p0 p1 n := ⟨_, rfl⟩
  replace h : q112q F p0 p1 rec1 n2 = some r := hrec1 ▸ h
  unfold q112q at h
  refine LH.seq (LH.seqT [(0, .lst 6 (List.map GBag.lv p0)), (1, .lst 6 (List.map GBag.lv p1)), (5, .I n2), (14, .bool (decide (n2 < (p0.length : Int))))] [] R (sMi R (sMl R (sN (oLnL (f := GBag.lv) te27 R (sN (oLt R R zS)))))) (LH.cond (t := (decide (n2 < (p0.length : Int)))) R (fun hc3 => ?_) (fun hc3 => ?_)))
  ·replace h := iteT h hc3
   refine LH.skip (thenN (LH.wk (Wk.eq (el := [(0, .lst 6 (List.map GBag.lv p0)), (1, .lst 6 (List.map GBag.lv p1)), (5, .I n2)]) (ml := []) R R R R) (LH.seq (LH.block ?_))))
   obtain ⟨x4, hx4, h⟩ := bindS h
   obtain ⟨x5, hx5, h⟩ := bindS h
   obtain ⟨r6, hr6, h⟩ := bindS h
   refine LH.seqJM mixed [] [0, 0, 0, 0, 0, 0, 0, 0, 0, 0] [(0, .lst 6 (List.map GBag.lv p0)), (1, .lst 6 (List.map GBag.lv p1)), (5, .I n2), (26, .bool (!r6))] [] R R (by kernel_rfl) (mMl R (mMi R (mN0 (oIx (f := GBag.lv) te27 tk43 ts43 R R GBag.ok hx4 R ⟨R, mN0 (oLdA R tk43 ta43 ts43 R R ⟨R, mMl R (mMi R (mN0 (oIx (f := GBag.lv) te27 tk43 ts43 R R GBag.ok hx5 R ⟨R, mN0 (oLdA R tk43 ta43 ts43 R R ⟨R, mN0 (oCP (args := [GBag.lv x4, GBag.lv x5]) R isF22 R (sbR (sbR sbN)) (q267q hr6) R ⟨R, mN0 (oNot R ⟨R, zM⟩)⟩)⟩)⟩)))⟩)⟩)))) (LH.cond (t := (!r6)) R (fun hc7 => ?_) (fun hc7 => ?_))
   ·replace h := iteT h hc7
    refine LH.seqT [(4, .bool false)] [] R (sAb R zS) (LH.ret (blockR (thenR (roundR (blockR (thenR ?_))))))
    obtain rfl := oI h
    exact retE (aT Tryz.results11) (lrT R (lr0 ⟨memN mN, R, prK R, Sub.rfl⟩))
   replace h := iteF h hc7
   refine LH.skip (blockN (thenN (LH.loneT [(0, .lst 6 (List.map GBag.lv p0)), (1, .lst 6 (List.map GBag.lv p1)), (5, .I (i64 (n2 + 1)))] [] R (sMi R (sN (oAdd R R (sAi R zS)))) ?_)))
   exact roundI ⟨(i64 (n2 + 1)), hrec1 ▸ h, R, R⟩ (Wk.eq R R R R)
  replace h := iteF h hc3
  refine LH.exit (thenX (roundX (blockH (thenN (LH.seqT [(4, .bool true)] [] R (sAb R zS) (LH.ret ?_))))))
  obtain rfl := oI h
  exact retE (aT Tryz.results11) (lrT R (lr0 ⟨memN mN, R, prK R, Sub.rfl⟩))

set_option maxHeartbeats 4000000 in
theorem q281q {F : Nat} {p0 : GTape} {p1 : Int} {r : List GBag × GTape} (h : q206q F p0 p1 = some r) : LCall Tryz.prog 15 [.ptr 7 0, .I p1] (Mem.of [(7, .box [.L p0.L, .I p0.At])]) (.lst 6 (List.map GBag.lv r.1)) (Mem.of [(7, .box [.L r.2.L, .I r.2.At])]) := by
  unfold q206q at h
  refine bodyT Tryz.func15 R (nT Tryz.ntmps15 R) (LH.wk (Wk.eq (el := [(0, .ptr 7 0), (1, .I p1)]) (ml := [(7, .box [.L p0.L, .I p0.At])]) R R R R) (LH.seqT [(0, .ptr 7 0), (1, .I p1)] [(7, .box [.L p0.L, .I p0.At])] R (sAn R zS) ?_))
  obtain ⟨r1, hr1, h⟩ := bindS h
  obtain ⟨r2, hr2, h⟩ := bindS h
  refine LH.seqT [(0, .ptr 7 0), (1, .I p1), (5, .lst 6 (List.map GBag.lv r2.1))] [(7, .box [.L r1.2.L, .I r1.2.At])] R (sMp R (sN (oCM (args := [.ptr 7 0, .I 10, .I 0]) (ml := [(7, .box [.L p0.L, .I p0.At])]) (ml' := [(7, .box [.L r1.2.L, .I r1.2.At])]) R isF8 R (sbR (sbR (sbR sbN))) (Gq12 hr1) (mC R mN) (newI R newN) R (sN (oCP (args := [.lst 9 (List.map Gq0.lv r1.1), .I 100]) R isF10 R (sbR (sbR sbN)) (q282q hr2) R (sMt R (sN (oEx R R (sN (oEx R R (sN (oEx R R (sAl R (sAl R (sAi R zS))))))))))))))) (LH.seq ?_)
  obtain ⟨w6, hv, h⟩ := bindS h
  refine LH.seqT [(0, .ptr 7 0), (5, .lst 6 (List.map GBag.lv r2.1)), (30, .bool w6.1)] [(7, .box [.L w6.2.1, .I w6.2.2])] R ?_ ?_
  ·refine sMi R (sN (oEq R R (sMb R ?_)))
   by_cases hb7 : (p1 == 0) = true
   ·replace hv := iteT hv hb7
    refine sF R R hb7 (sF R R hb7 (sF R R hb7 (sF R R hb7 (sN (oPkT (cB hb7) (v := (.bool _)) R (sMb R (sF R R R (sF R R R (sF R R R (sN (oPkT R (v := (.bool _)) R ?_)))))))))))
    obtain rfl := oI hv
    exact zS
   ·replace hb7 := bF hb7
    replace hv := iteF hv hb7
    refine sT R (cB hb7) (oM (v := (.ptr _ _)) R (sT R (cB hb7) (oM (v := (.int _ _)) R ?_)))
    obtain ⟨r8, hr8, hv⟩ := bindS hv
    refine sT R (cB hb7) (oCM (args := [.ptr 7 0, .I p1]) (ml := [(7, .box [.L r1.2.L, .I r1.2.At])]) (ml' := [(7, .box [.L r8.2.L, .I r8.2.At])]) R isF31 R (sbR (sbR sbN)) (Gq16 hr8) (mC R mN) (newI R newN) R (sT R (cB hb7) (oNot R (sN (oPkF (cB hb7) (v := (.bool _)) R (sMb R ?_))))))
    by_cases hb9 : (!r8.1) = true
    ·replace hv := iteT hv hb9
     refine sF R R hb9 (sF R R hb9 (sF R R hb9 (sN (oPkT (cB hb9) (v := (.bool _)) R ?_))))
     obtain rfl := oI hv
     exact zS
    ·replace hb9 := bF hb9
     replace hv := iteF hv hb9
     refine sT R (cB hb9) (oM (v := (.lst _ _)) R (sT R (cB hb9) (oLnL (f := GBag.lv) te27 R (sT R (cB hb9) (oEq R R (sN (oPkF (cB hb9) (v := (.bool _)) R ?_)))))))
     obtain rfl := oI hv
     exact zS
  clear hv
  refine LH.cond (t := w6.1) R (fun hc10 => ?_) (fun hc10 => ?_)
  ·replace h := iteT h hc10
   refine LH.seqT [(4, .lst 6 (List.map GBag.lv r2.1))] [(7, .box [.L w6.2.1, .I w6.2.2])] R (sMl R (sAl R zS)) (LH.ret (thenR ?_))
   obtain rfl := oI h
   exact retE (aT Tryz.results15) (lrT R (lr0 ⟨memN (mC R mN), R, prK R, Sub.rfl⟩))
  replace h := iteF h hc10
  refine LH.skip (thenN (LH.seqT [(0, .ptr 7 0), (5, .lst 6 (List.map GBag.lv r2.1)), (8, .nil)] [(7, .box [.L w6.2.1, .I w6.2.2])] R (sAn R zS) ?_))
  obtain ⟨v11, hv11, h⟩ := bindS h
  refine LH.seqT [(0, .ptr 7 0), (8, .arr 134 (List.length v11))] [(7, .box [.L w6.2.1, .I w6.2.2]), (134, .arr 43 6 (List.map GBag.lv v11))] R (sMn R (sMl R (sN (oApN (f := GBag.lv) (id := 134) R te27 tr43 ts43 R R hv11 R (sAa R zS))))) ?_
  obtain ⟨r12, hr12, h⟩ := bindS h
  refine LH.seqT [(0, .ptr 7 0), (8, .arr 134 (List.length v11)), (9, .I r12.1)] [(7, .box [.L r12.2.L, .I r12.2.At]), (134, .arr 43 6 (List.map GBag.lv v11))] R (sMp R (sMa R (sN (oLnA (f := GBag.lv) te27 R R (sN (oCM (args := [.ptr 7 0, .I (v11.length : Int)]) (ml := [(7, .box [.L w6.2.1, .I w6.2.2])]) (ml' := [(7, .box [.L r12.2.L, .I r12.2.At])]) R isF26 R (sbR (sbR sbN)) (Gq14 hr12) (mC R mN) (newI R newN) R (sAi R zS))))))) ?_
  obtain ⟨x13, hx13, h⟩ := bindS h
  refine LH.seqT [(0, .ptr 7 0), (8, .arr 134 (List.length v11)), (9, .I r12.1), (10, .ptr 110 0)] [(7, .box [.L r12.2.L, .I r12.2.At]), (110, .box (GBag.lv x13).cells), (134, .arr 43 6 (List.map GBag.lv v11))] R (sMa R (sMi R (sN (oIxA (f := GBag.lv) te27 tk43 ts43 R R R hx13 (sN (oLdEA (f := GBag.lv) R R (idxOk hx13).2 R R tk43 ta43 ts43 R R (sN (oAl (id := 110) R tz43 R R (s_ (oSt R R R tk43 ts43 R R R zS)))))))))) (LH.seq ?_)
  obtain ⟨r14, hr14, h⟩ := bindS h
  refine LH.seqT [(0, .ptr 7 0), (8, .arr 134 (List.length v11)), (9, .I r12.1), (10, .ptr 110 0), (44, .I r14.1)] [(7, .box [.L r14.2.L, .I r14.2.At]), (110, .box (GBag.lv x13).cells), (134, .arr 43 6 (List.map GBag.lv v11))] R (sMp R (sN (oCM (args := [.ptr 7 0, .I 8]) (ml := [(7, .box [.L r12.2.L, .I r12.2.At])]) (ml' := [(7, .box [.L r14.2.L, .I r14.2.At])]) R isF26 R (sbR (sbR sbN)) (Gq14 hr14) (mC R mN) (newI R newN) R zS))) (LH.block (LH.seqT [(0, .ptr 7 0), (8, .arr 134 (List.length v11)), (9, .I r12.1), (10, .ptr 110 0), (44, .I r14.1), (49, .bool (r14.1 == 0))] [(7, .box [.L r14.2.L, .I r14.2.At]), (110, .box (GBag.lv x13).cells), (134, .arr 43 6 (List.map GBag.lv v11))] R (sN (oEq R R (sAb R zS))) (LH.cond (t := (r14.1 == 0)) R (fun hc15 => ?_) (fun hc15 => ?_))))
  ·replace h := iteT h hc15
   obtain ⟨r16, hr16, h⟩ := bindS h
   refine LH.loneT [(8, .arr 134 (List.length v11)), (9, .I r12.1), (10, .sptr [.I r16.1, .I x13.Holder, .bool x13.Open, .L x13.Seals, .L x13.Packed, .L x13.Found])] [(7, .box [.L r16.2.L, .I r16.2.At]), (134, .arr 43 6 (List.map GBag.lv v11))] R (sMp R (sN (oBS (f := LV.I) (ys := [(-1), 0, 1, 10000]) te22 tr3 ts3 R R R okI (sN (oCM (args := [.ptr 7 0, .L [(-1), 0, 1, 10000]]) (ml := [(7, .box [.L r14.2.L, .I r14.2.At])]) (ml' := [(7, .box [.L r16.2.L, .I r16.2.At])]) R isF29 R (sbR (sbR sbN)) (Gq18 hr16) (mC R mN) (newI R newN) R (sN (oFa tf43_0 tk3 ts3 R R (s_ (oSt R R R tk3 ts3 R R R (s0 ((Wk.trans (Wk.eq (el := [(8, .arr 134 (List.length v11)), (9, .I r12.1), (10, .ptr 110 0)]) (ml := [(7, .box [.L r16.2.L, .I r16.2.At]), (110, .box [.I r16.1, .I x13.Holder, .bool x13.Open, .L x13.Seals, .L x13.Packed, .L x13.Found]), (134, .arr 43 6 (List.map GBag.lv v11))]) R R R R) (Wk.trans (Wk.frzB 110 [.I r16.1, .I x13.Holder, .bool x13.Open, .L x13.Seals, .L x13.Packed, .L x13.Found] R R R (prN R)) (Wk.eq R R R R)))))))))))))) (blockN (thenN ?_))
   obtain ⟨x17, hx17, h⟩ := bindS h
   refine LH.seqT [(8, .lst 6 (List.map GBag.lv (v11.set r12.1.toNat (GBag.mk r16.1 x13.Holder x13.Open x13.Seals x13.Packed x13.Found))))] [(7, .box [.L r16.2.L, .I r16.2.At])] R (sMa R (sMi R (sN (oLdA R tk43 ta43 ts43 R R (sN (oIxA (f := GBag.lv) te27 tk43 ts43 R R R hx17 (s_ (oStE (f := GBag.lv) (z' := (GBag.mk r16.1 x13.Holder x13.Open x13.Seals x13.Packed x13.Found)) R R R R tk43 ts43 R (idxOk hx17).2 R (s0 ((Wk.trans (Wk.to (el := [(8, .arr 134 (List.length (v11.set r12.1.toNat (GBag.mk r16.1 x13.Holder x13.Open x13.Seals x13.Packed x13.Found))))]) (ml := [(7, .box [.L r16.2.L, .I r16.2.At]), (134, .arr 43 6 (List.map GBag.lv (v11.set r12.1.toNat (GBag.mk r16.1 x13.Holder x13.Open x13.Seals x13.Packed x13.Found))))]) (eC (congrArg (LV.arr 134) (by simp)) eN) ⟨R, R, trivial⟩ R (prK R)) (Wk.trans (Wk.frzL (f := GBag.lv) (el' := [(8, .lst 6 (List.map GBag.lv (v11.set r12.1.toNat (GBag.mk r16.1 x13.Holder x13.Open x13.Seals x13.Packed x13.Found))))]) 134 43 6 (v11.set r12.1.toNat (GBag.mk r16.1 x13.Holder x13.Open x13.Seals x13.Packed x13.Found)) R R (prN R) (fZ fN)) (Wk.eq R R R R))))))))))))) (LH.seqT [(4, .lst 6 (List.map GBag.lv (v11.set r12.1.toNat (GBag.mk r16.1 x13.Holder x13.Open x13.Seals x13.Packed x13.Found))))] [(7, .box [.L r16.2.L, .I r16.2.At])] R (sMl R (sAl R zS)) (LH.ret ?_))
   obtain rfl := oI h
   exact retE (aT Tryz.results15) (lrT R (lr0 ⟨memN (mC R mN), R, prK R, Sub.rfl⟩))
  replace h := iteF h hc15
  refine LH.seqT [(0, .ptr 7 0), (8, .arr 134 (List.length v11)), (9, .I r12.1), (10, .ptr 110 0), (44, .I r14.1), (55, .bool (r14.1 == 1))] [(7, .box [.L r14.2.L, .I r14.2.At]), (110, .box (GBag.lv x13).cells), (134, .arr 43 6 (List.map GBag.lv v11))] R (sN (oEq R R (sAb R zS))) (LH.cond (t := (r14.1 == 1)) R (fun hc18 => ?_) (fun hc18 => ?_))
  ·replace h := iteT h hc18
   obtain ⟨r19, hr19, h⟩ := bindS h
   refine LH.loneT [(8, .arr 134 (List.length v11)), (9, .I r12.1), (10, .sptr [.I x13.Bag, .I r19.1, .bool x13.Open, .L x13.Seals, .L x13.Packed, .L x13.Found])] [(7, .box [.L r19.2.L, .I r19.2.At]), (134, .arr 43 6 (List.map GBag.lv v11))] R (sMp R (sN (oBS (f := LV.I) (ys := [(-1), 0, 1, 100]) te22 tr3 ts3 R R R okI (sN (oCM (args := [.ptr 7 0, .L [(-1), 0, 1, 100]]) (ml := [(7, .box [.L r14.2.L, .I r14.2.At])]) (ml' := [(7, .box [.L r19.2.L, .I r19.2.At])]) R isF29 R (sbR (sbR sbN)) (Gq18 hr19) (mC R mN) (newI R newN) R (sN (oFa tf43_1 tk3 ts3 R R (s_ (oSt R R R tk3 ts3 R R R (s0 ((Wk.trans (Wk.eq (el := [(8, .arr 134 (List.length v11)), (9, .I r12.1), (10, .ptr 110 0)]) (ml := [(7, .box [.L r19.2.L, .I r19.2.At]), (110, .box [.I x13.Bag, .I r19.1, .bool x13.Open, .L x13.Seals, .L x13.Packed, .L x13.Found]), (134, .arr 43 6 (List.map GBag.lv v11))]) R R R R) (Wk.trans (Wk.frzB 110 [.I x13.Bag, .I r19.1, .bool x13.Open, .L x13.Seals, .L x13.Packed, .L x13.Found] R R R (prN R)) (Wk.eq R R R R)))))))))))))) (blockN (thenN ?_))
   obtain ⟨x20, hx20, h⟩ := bindS h
   refine LH.seqT [(8, .lst 6 (List.map GBag.lv (v11.set r12.1.toNat (GBag.mk x13.Bag r19.1 x13.Open x13.Seals x13.Packed x13.Found))))] [(7, .box [.L r19.2.L, .I r19.2.At])] R (sMa R (sMi R (sN (oLdA R tk43 ta43 ts43 R R (sN (oIxA (f := GBag.lv) te27 tk43 ts43 R R R hx20 (s_ (oStE (f := GBag.lv) (z' := (GBag.mk x13.Bag r19.1 x13.Open x13.Seals x13.Packed x13.Found)) R R R R tk43 ts43 R (idxOk hx20).2 R (s0 ((Wk.trans (Wk.to (el := [(8, .arr 134 (List.length (v11.set r12.1.toNat (GBag.mk x13.Bag r19.1 x13.Open x13.Seals x13.Packed x13.Found))))]) (ml := [(7, .box [.L r19.2.L, .I r19.2.At]), (134, .arr 43 6 (List.map GBag.lv (v11.set r12.1.toNat (GBag.mk x13.Bag r19.1 x13.Open x13.Seals x13.Packed x13.Found))))]) (eC (congrArg (LV.arr 134) (by simp)) eN) ⟨R, R, trivial⟩ R (prK R)) (Wk.trans (Wk.frzL (f := GBag.lv) (el' := [(8, .lst 6 (List.map GBag.lv (v11.set r12.1.toNat (GBag.mk x13.Bag r19.1 x13.Open x13.Seals x13.Packed x13.Found))))]) 134 43 6 (v11.set r12.1.toNat (GBag.mk x13.Bag r19.1 x13.Open x13.Seals x13.Packed x13.Found)) R R (prN R) (fZ fN)) (Wk.eq R R R R))))))))))))) (LH.seqT [(4, .lst 6 (List.map GBag.lv (v11.set r12.1.toNat (GBag.mk x13.Bag r19.1 x13.Open x13.Seals x13.Packed x13.Found))))] [(7, .box [.L r19.2.L, .I r19.2.At])] R (sMl R (sAl R zS)) (LH.ret ?_))
   obtain rfl := oI h
   exact retE (aT Tryz.results15) (lrT R (lr0 ⟨memN (mC R mN), R, prK R, Sub.rfl⟩))
  replace h := iteF h hc18
  refine LH.seqT [(0, .ptr 7 0), (8, .arr 134 (List.length v11)), (9, .I r12.1), (10, .ptr 110 0), (44, .I r14.1), (61, .bool (r14.1 == 2))] [(7, .box [.L r14.2.L, .I r14.2.At]), (110, .box (GBag.lv x13).cells), (134, .arr 43 6 (List.map GBag.lv v11))] R (sN (oEq R R (sAb R zS))) (LH.cond (t := (r14.1 == 2)) R (fun hc21 => ?_) (fun hc21 => ?_))
  ·replace h := iteT h hc21
   refine LH.loneT [(8, .arr 134 (List.length v11)), (9, .I r12.1), (10, .sptr [.I x13.Bag, .I x13.Holder, .bool (!x13.Open), .L x13.Seals, .L x13.Packed, .L x13.Found])] [(7, .box [.L r14.2.L, .I r14.2.At]), (134, .arr 43 6 (List.map GBag.lv v11))] R (sN (oFa tf43_2 tk4 ts4 R R (sN (oLdP R R R R tk4 ta4 (sN (oNot R (sN (oFa tf43_2 tk4 ts4 R R (s_ (oSt R R R tk4 ts4 R R R (s0 ((Wk.trans (Wk.eq (el := [(8, .arr 134 (List.length v11)), (9, .I r12.1), (10, .ptr 110 0)]) (ml := [(7, .box [.L r14.2.L, .I r14.2.At]), (110, .box [.I x13.Bag, .I x13.Holder, .bool (!x13.Open), .L x13.Seals, .L x13.Packed, .L x13.Found]), (134, .arr 43 6 (List.map GBag.lv v11))]) R R R R) (Wk.trans (Wk.frzB 110 [.I x13.Bag, .I x13.Holder, .bool (!x13.Open), .L x13.Seals, .L x13.Packed, .L x13.Found] R R R (prN R)) (Wk.eq R R R R))))))))))))))) (blockN (thenN ?_))
   obtain ⟨x22, hx22, h⟩ := bindS h
   refine LH.seqT [(8, .lst 6 (List.map GBag.lv (v11.set r12.1.toNat (GBag.mk x13.Bag x13.Holder (!x13.Open) x13.Seals x13.Packed x13.Found))))] [(7, .box [.L r14.2.L, .I r14.2.At])] R (sMa R (sMi R (sN (oLdA R tk43 ta43 ts43 R R (sN (oIxA (f := GBag.lv) te27 tk43 ts43 R R R hx22 (s_ (oStE (f := GBag.lv) (z' := (GBag.mk x13.Bag x13.Holder (!x13.Open) x13.Seals x13.Packed x13.Found)) R R R R tk43 ts43 R (idxOk hx22).2 R (s0 ((Wk.trans (Wk.to (el := [(8, .arr 134 (List.length (v11.set r12.1.toNat (GBag.mk x13.Bag x13.Holder (!x13.Open) x13.Seals x13.Packed x13.Found))))]) (ml := [(7, .box [.L r14.2.L, .I r14.2.At]), (134, .arr 43 6 (List.map GBag.lv (v11.set r12.1.toNat (GBag.mk x13.Bag x13.Holder (!x13.Open) x13.Seals x13.Packed x13.Found))))]) (eC (congrArg (LV.arr 134) (by simp)) eN) ⟨R, R, trivial⟩ R (prK R)) (Wk.trans (Wk.frzL (f := GBag.lv) (el' := [(8, .lst 6 (List.map GBag.lv (v11.set r12.1.toNat (GBag.mk x13.Bag x13.Holder (!x13.Open) x13.Seals x13.Packed x13.Found))))]) 134 43 6 (v11.set r12.1.toNat (GBag.mk x13.Bag x13.Holder (!x13.Open) x13.Seals x13.Packed x13.Found)) R R (prN R) (fZ fN)) (Wk.eq R R R R))))))))))))) (LH.seqT [(4, .lst 6 (List.map GBag.lv (v11.set r12.1.toNat (GBag.mk x13.Bag x13.Holder (!x13.Open) x13.Seals x13.Packed x13.Found))))] [(7, .box [.L r14.2.L, .I r14.2.At])] R (sMl R (sAl R zS)) (LH.ret ?_))
   obtain rfl := oI h
   exact retE (aT Tryz.results15) (lrT R (lr0 ⟨memN (mC R mN), R, prK R, Sub.rfl⟩))
  replace h := iteF h hc21
  refine LH.seqT [(0, .ptr 7 0), (8, .arr 134 (List.length v11)), (9, .I r12.1), (10, .ptr 110 0), (44, .I r14.1), (67, .bool (r14.1 == 3))] [(7, .box [.L r14.2.L, .I r14.2.At]), (110, .box (GBag.lv x13).cells), (134, .arr 43 6 (List.map GBag.lv v11))] R (sN (oEq R R (sAb R zS))) (LH.cond (t := (r14.1 == 3)) R (fun hc23 => ?_) (fun hc23 => ?_))
  ·replace h := iteT h hc23
   obtain ⟨r24, hr24, h⟩ := bindS h
   obtain ⟨v25, hv25, h⟩ := bindS h
   refine LH.loneTM mixed [] [0, 1110, 0, 1110, 0, 0, 1110, 0, 4, 0, 0, 100007, 0, 4, 0, 100110] [(8, .arr 134 (List.length v11)), (9, .I r12.1), (10, .sptr [.I x13.Bag, .I x13.Holder, .bool x13.Open, .L v25, .L x13.Packed, .L x13.Found])] [(7, .box [.L r24.2.L, .I r24.2.At]), (134, .arr 43 6 (List.map GBag.lv v11))] R R (by kernel_rfl) ?_ ?_
   ·exact mN0 (oFa tf43_3 tk22 ts22 R R ⟨R, mD R R R (fun _ b _ d => oLdP R b R R tk22 ta22 d) (mN0 (oFa tf43_3 tk22 ts22 R R ⟨R, mD R R R (fun _ b _ d => oLdP R b R R tk22 ta22 d) (mN0 (oLnL (f := LV.I) te22 R ⟨R, mN0 (oFa tf43_3 tk22 ts22 R R ⟨R, mD R R R (fun _ b _ d => oLdP R b R R tk22 ta22 d) (mN0 (oLnL (f := LV.I) te22 R ⟨R, mM (fun _ => ok_sl3 (f := LV.I) (xs := x13.Seals) te22 tk3 R R R) (mMp R (mN0 (oBS (f := LV.I) (ys := [0, 10, (-1), 1000001]) te22 tr3 ts3 R R R okI ⟨R, mW R R R (fun _ b _ d => oCM (args := [.ptr 7 0, .L [0, 10, (-1), 1000001]]) (ml := [(7, .box [.L r14.2.L, .I r14.2.At])]) (ml' := [(7, .box [.L r24.2.L, .I r24.2.At])]) R isF29 R (sbR (sbR sbN)) (Gq18 hr24) (mC b mN) (newI R newN) R d) (mN0 (oBS (f := LV.I) (ys := [r24.1]) te22 tr3 ts3 R R R okI ⟨R, mM (fun _ => ok_apF (f := LV.I) (xs := x13.Seals) (ys := [r24.1]) te22 tr3 ts3 R R hv25) (mN0 (oFa tf43_3 tk22 ts22 R R ⟨R, mS R R R (fun _ b _ d => oSt R R R tk22 ts22 b R R d) (m0 ((Wk.trans (Wk.eq (el := [(8, .arr 134 (List.length v11)), (9, .I r12.1), (10, .ptr 110 0)]) (ml := [(7, .box [.L r24.2.L, .I r24.2.At]), (110, .box [.I x13.Bag, .I x13.Holder, .bool x13.Open, .L v25, .L x13.Packed, .L x13.Found]), (134, .arr 43 6 (List.map GBag.lv v11))]) R R R R) (Wk.trans (Wk.frzB 110 [.I x13.Bag, .I x13.Holder, .bool x13.Open, .L v25, .L x13.Packed, .L x13.Found] R R R (prN R)) (Wk.eq R R R R)))))⟩))⟩))⟩)))⟩))⟩)⟩))⟩))⟩)
   refine blockN (thenN ?_)
   obtain ⟨x26, hx26, h⟩ := bindS h
   refine LH.seqT [(8, .lst 6 (List.map GBag.lv (v11.set r12.1.toNat (GBag.mk x13.Bag x13.Holder x13.Open v25 x13.Packed x13.Found))))] [(7, .box [.L r24.2.L, .I r24.2.At])] R (sMa R (sMi R (sN (oLdA R tk43 ta43 ts43 R R (sN (oIxA (f := GBag.lv) te27 tk43 ts43 R R R hx26 (s_ (oStE (f := GBag.lv) (z' := (GBag.mk x13.Bag x13.Holder x13.Open v25 x13.Packed x13.Found)) R R R R tk43 ts43 R (idxOk hx26).2 R (s0 ((Wk.trans (Wk.to (el := [(8, .arr 134 (List.length (v11.set r12.1.toNat (GBag.mk x13.Bag x13.Holder x13.Open v25 x13.Packed x13.Found))))]) (ml := [(7, .box [.L r24.2.L, .I r24.2.At]), (134, .arr 43 6 (List.map GBag.lv (v11.set r12.1.toNat (GBag.mk x13.Bag x13.Holder x13.Open v25 x13.Packed x13.Found))))]) (eC (congrArg (LV.arr 134) (by simp)) eN) ⟨R, R, trivial⟩ R (prK R)) (Wk.trans (Wk.frzL (f := GBag.lv) (el' := [(8, .lst 6 (List.map GBag.lv (v11.set r12.1.toNat (GBag.mk x13.Bag x13.Holder x13.Open v25 x13.Packed x13.Found))))]) 134 43 6 (v11.set r12.1.toNat (GBag.mk x13.Bag x13.Holder x13.Open v25 x13.Packed x13.Found)) R R (prN R) (fZ fN)) (Wk.eq R R R R))))))))))))) (LH.seqT [(4, .lst 6 (List.map GBag.lv (v11.set r12.1.toNat (GBag.mk x13.Bag x13.Holder x13.Open v25 x13.Packed x13.Found))))] [(7, .box [.L r24.2.L, .I r24.2.At])] R (sMl R (sAl R zS)) (LH.ret ?_))
   obtain rfl := oI h
   exact retE (aT Tryz.results15) (lrT R (lr0 ⟨memN (mC R mN), R, prK R, Sub.rfl⟩))
  replace h := iteF h hc23
  refine LH.seqT [(0, .ptr 7 0), (8, .arr 134 (List.length v11)), (9, .I r12.1), (10, .ptr 110 0), (44, .I r14.1), (84, .bool (r14.1 == 4))] [(7, .box [.L r14.2.L, .I r14.2.At]), (110, .box (GBag.lv x13).cells), (134, .arr 43 6 (List.map GBag.lv v11))] R (sN (oEq R R (sAb R zS))) (LH.cond (t := (r14.1 == 4)) R (fun hc27 => ?_) (fun hc27 => ?_))
  ·replace h := iteT h hc27
   refine LH.loneT [(8, .arr 134 (List.length v11)), (9, .I r12.1), (10, .sptr [.I x13.Bag, .I x13.Holder, .bool x13.Open, .nil, .L x13.Packed, .L x13.Found])] [(7, .box [.L r14.2.L, .I r14.2.At]), (134, .arr 43 6 (List.map GBag.lv v11))] R (sN (oFa tf43_3 tk22 ts22 R R (s_ (oSt R R R tk22 ts22 R R R (s0 ((Wk.trans (Wk.eq (el := [(8, .arr 134 (List.length v11)), (9, .I r12.1), (10, .ptr 110 0)]) (ml := [(7, .box [.L r14.2.L, .I r14.2.At]), (110, .box [.I x13.Bag, .I x13.Holder, .bool x13.Open, .nil, .L x13.Packed, .L x13.Found]), (134, .arr 43 6 (List.map GBag.lv v11))]) R R R R) (Wk.trans (Wk.frzB 110 [.I x13.Bag, .I x13.Holder, .bool x13.Open, .nil, .L x13.Packed, .L x13.Found] R R R (prN R)) (Wk.eq R R R R))))))))) (blockN (thenN ?_))
   obtain ⟨x28, hx28, h⟩ := bindS h
   refine LH.seqT [(8, .lst 6 (List.map GBag.lv (v11.set r12.1.toNat (GBag.mk x13.Bag x13.Holder x13.Open ([] : List Int) x13.Packed x13.Found))))] [(7, .box [.L r14.2.L, .I r14.2.At])] R (sMa R (sMi R (sN (oLdA R tk43 ta43 ts43 R R (sN (oIxA (f := GBag.lv) te27 tk43 ts43 R R R hx28 (SOps.wk (Wk.eq (el := [(8, .arr 134 (List.length v11)), (123, .agg [.I x13.Bag, .I x13.Holder, .bool x13.Open, .nil, .L x13.Packed, .L x13.Found]), (124, .eptr 134 (List.length v11) r12.1.toNat 0)]) (ml := [(7, .box [.L r14.2.L, .I r14.2.At]), (134, .arr 43 6 (List.map GBag.lv v11))]) R R R R) (SOps.wk (Wk.to (el := [(8, .arr 134 (List.length v11)), (123, .agg [.I x13.Bag, .I x13.Holder, .bool x13.Open, .L ([] : List Int), .L x13.Packed, .L x13.Found]), (124, .eptr 134 (List.length v11) r12.1.toNat 0)]) (ml := [(7, .box [.L r14.2.L, .I r14.2.At]), (134, .arr 43 6 (List.map GBag.lv v11))]) (eC R (eS (Sub.agg (sbR (sbR (sbR (sbL (sbR (sbR sbN))))))) (eC R eN))) ⟨R, R, trivial⟩ R (prK R)) (s_ (oStE (f := GBag.lv) (z' := (GBag.mk x13.Bag x13.Holder x13.Open ([] : List Int) x13.Packed x13.Found)) R R R R tk43 ts43 R (idxOk hx28).2 R (s0 ((Wk.trans (Wk.to (el := [(8, .arr 134 (List.length (v11.set r12.1.toNat (GBag.mk x13.Bag x13.Holder x13.Open ([] : List Int) x13.Packed x13.Found))))]) (ml := [(7, .box [.L r14.2.L, .I r14.2.At]), (134, .arr 43 6 (List.map GBag.lv (v11.set r12.1.toNat (GBag.mk x13.Bag x13.Holder x13.Open ([] : List Int) x13.Packed x13.Found))))]) (eC (congrArg (LV.arr 134) (by simp)) eN) ⟨R, R, trivial⟩ R (prK R)) (Wk.trans (Wk.frzL (f := GBag.lv) (el' := [(8, .lst 6 (List.map GBag.lv (v11.set r12.1.toNat (GBag.mk x13.Bag x13.Holder x13.Open ([] : List Int) x13.Packed x13.Found))))]) 134 43 6 (v11.set r12.1.toNat (GBag.mk x13.Bag x13.Holder x13.Open ([] : List Int) x13.Packed x13.Found)) R R (prN R) (fZ fN)) (Wk.eq R R R R))))))))))))))) (LH.seqT [(4, .lst 6 (List.map GBag.lv (v11.set r12.1.toNat (GBag.mk x13.Bag x13.Holder x13.Open ([] : List Int) x13.Packed x13.Found))))] [(7, .box [.L r14.2.L, .I r14.2.At])] R (sMl R (sAl R zS)) (LH.ret ?_))
   obtain rfl := oI h
   exact retE (aT Tryz.results15) (lrT R (lr0 ⟨memN (mC R mN), R, prK R, Sub.rfl⟩))
  replace h := iteF h hc27
  refine LH.seqT [(0, .ptr 7 0), (8, .arr 134 (List.length v11)), (9, .I r12.1), (10, .ptr 110 0), (44, .I r14.1), (87, .bool (r14.1 == 5))] [(7, .box [.L r14.2.L, .I r14.2.At]), (110, .box (GBag.lv x13).cells), (134, .arr 43 6 (List.map GBag.lv v11))] R (sN (oEq R R (sAb R zS))) (LH.cond (t := (r14.1 == 5)) R (fun hc29 => ?_) (fun hc29 => ?_))
  ·replace h := iteT h hc29
   obtain ⟨r30, hr30, h⟩ := bindS h
   obtain ⟨v31, hv31, h⟩ := bindS h
   refine LH.loneTM mixed [] [0, 1110, 0, 1110, 0, 0, 1110, 0, 4, 0, 0, 100007, 0, 4, 0, 100110] [(8, .arr 134 (List.length v11)), (9, .I r12.1), (10, .sptr [.I x13.Bag, .I x13.Holder, .bool x13.Open, .L x13.Seals, .L v31, .L x13.Found])] [(7, .box [.L r30.2.L, .I r30.2.At]), (134, .arr 43 6 (List.map GBag.lv v11))] R R (by kernel_rfl) ?_ ?_
   ·exact mN0 (oFa tf43_4 tk22 ts22 R R ⟨R, mD R R R (fun _ b _ d => oLdP R b R R tk22 ta22 d) (mN0 (oFa tf43_4 tk22 ts22 R R ⟨R, mD R R R (fun _ b _ d => oLdP R b R R tk22 ta22 d) (mN0 (oLnL (f := LV.I) te22 R ⟨R, mN0 (oFa tf43_4 tk22 ts22 R R ⟨R, mD R R R (fun _ b _ d => oLdP R b R R tk22 ta22 d) (mN0 (oLnL (f := LV.I) te22 R ⟨R, mM (fun _ => ok_sl3 (f := LV.I) (xs := x13.Packed) te22 tk3 R R R) (mMp R (mN0 (oBS (f := LV.I) (ys := [0, 8, 9999, 10000]) te22 tr3 ts3 R R R okI ⟨R, mW R R R (fun _ b _ d => oCM (args := [.ptr 7 0, .L [0, 8, 9999, 10000]]) (ml := [(7, .box [.L r14.2.L, .I r14.2.At])]) (ml' := [(7, .box [.L r30.2.L, .I r30.2.At])]) R isF29 R (sbR (sbR sbN)) (Gq18 hr30) (mC b mN) (newI R newN) R d) (mN0 (oBS (f := LV.I) (ys := [r30.1]) te22 tr3 ts3 R R R okI ⟨R, mM (fun _ => ok_apF (f := LV.I) (xs := x13.Packed) (ys := [r30.1]) te22 tr3 ts3 R R hv31) (mN0 (oFa tf43_4 tk22 ts22 R R ⟨R, mS R R R (fun _ b _ d => oSt R R R tk22 ts22 b R R d) (m0 ((Wk.trans (Wk.eq (el := [(8, .arr 134 (List.length v11)), (9, .I r12.1), (10, .ptr 110 0)]) (ml := [(7, .box [.L r30.2.L, .I r30.2.At]), (110, .box [.I x13.Bag, .I x13.Holder, .bool x13.Open, .L x13.Seals, .L v31, .L x13.Found]), (134, .arr 43 6 (List.map GBag.lv v11))]) R R R R) (Wk.trans (Wk.frzB 110 [.I x13.Bag, .I x13.Holder, .bool x13.Open, .L x13.Seals, .L v31, .L x13.Found] R R R (prN R)) (Wk.eq R R R R)))))⟩))⟩))⟩)))⟩))⟩)⟩))⟩))⟩)
   refine blockN (thenN ?_)
   obtain ⟨x32, hx32, h⟩ := bindS h
   refine LH.seqT [(8, .lst 6 (List.map GBag.lv (v11.set r12.1.toNat (GBag.mk x13.Bag x13.Holder x13.Open x13.Seals v31 x13.Found))))] [(7, .box [.L r30.2.L, .I r30.2.At])] R (sMa R (sMi R (sN (oLdA R tk43 ta43 ts43 R R (sN (oIxA (f := GBag.lv) te27 tk43 ts43 R R R hx32 (s_ (oStE (f := GBag.lv) (z' := (GBag.mk x13.Bag x13.Holder x13.Open x13.Seals v31 x13.Found)) R R R R tk43 ts43 R (idxOk hx32).2 R (s0 ((Wk.trans (Wk.to (el := [(8, .arr 134 (List.length (v11.set r12.1.toNat (GBag.mk x13.Bag x13.Holder x13.Open x13.Seals v31 x13.Found))))]) (ml := [(7, .box [.L r30.2.L, .I r30.2.At]), (134, .arr 43 6 (List.map GBag.lv (v11.set r12.1.toNat (GBag.mk x13.Bag x13.Holder x13.Open x13.Seals v31 x13.Found))))]) (eC (congrArg (LV.arr 134) (by simp)) eN) ⟨R, R, trivial⟩ R (prK R)) (Wk.trans (Wk.frzL (f := GBag.lv) (el' := [(8, .lst 6 (List.map GBag.lv (v11.set r12.1.toNat (GBag.mk x13.Bag x13.Holder x13.Open x13.Seals v31 x13.Found))))]) 134 43 6 (v11.set r12.1.toNat (GBag.mk x13.Bag x13.Holder x13.Open x13.Seals v31 x13.Found)) R R (prN R) (fZ fN)) (Wk.eq R R R R))))))))))))) (LH.seqT [(4, .lst 6 (List.map GBag.lv (v11.set r12.1.toNat (GBag.mk x13.Bag x13.Holder x13.Open x13.Seals v31 x13.Found))))] [(7, .box [.L r30.2.L, .I r30.2.At])] R (sMl R (sAl R zS)) (LH.ret ?_))
   obtain rfl := oI h
   exact retE (aT Tryz.results15) (lrT R (lr0 ⟨memN (mC R mN), R, prK R, Sub.rfl⟩))
  replace h := iteF h hc29
  refine LH.seqT [(0, .ptr 7 0), (8, .arr 134 (List.length v11)), (9, .I r12.1), (10, .ptr 110 0), (104, .bool (r14.1 == 6))] [(7, .box [.L r14.2.L, .I r14.2.At]), (110, .box (GBag.lv x13).cells), (134, .arr 43 6 (List.map GBag.lv v11))] R (sN (oEq R R (sAb R zS))) (LH.cond (t := (r14.1 == 6)) R (fun hc33 => ?_) (fun hc33 => ?_))
  ·replace h := iteT h hc33
   obtain ⟨r34, hr34, h⟩ := bindS h
   obtain ⟨v35, hv35, h⟩ := bindS h
   refine LH.loneTM mixed [] [0, 1110, 0, 1110, 0, 0, 1110, 0, 4, 0, 0, 100007, 0, 4, 0, 100110] [(8, .arr 134 (List.length v11)), (9, .I r12.1), (10, .sptr [.I x13.Bag, .I x13.Holder, .bool x13.Open, .L x13.Seals, .L x13.Packed, .L v35])] [(7, .box [.L r34.2.L, .I r34.2.At]), (134, .arr 43 6 (List.map GBag.lv v11))] R R (by kernel_rfl) ?_ ?_
   ·exact mN0 (oFa tf43_5 tk22 ts22 R R ⟨R, mD R R R (fun _ b _ d => oLdP R b R R tk22 ta22 d) (mN0 (oFa tf43_5 tk22 ts22 R R ⟨R, mD R R R (fun _ b _ d => oLdP R b R R tk22 ta22 d) (mN0 (oLnL (f := LV.I) te22 R ⟨R, mN0 (oFa tf43_5 tk22 ts22 R R ⟨R, mD R R R (fun _ b _ d => oLdP R b R R tk22 ta22 d) (mN0 (oLnL (f := LV.I) te22 R ⟨R, mM (fun _ => ok_sl3 (f := LV.I) (xs := x13.Found) te22 tk3 R R R) (mMp R (mN0 (oBS (f := LV.I) (ys := [0, 8, 9999, 10000]) te22 tr3 ts3 R R R okI ⟨R, mW R R R (fun _ b _ d => oCM (args := [.ptr 7 0, .L [0, 8, 9999, 10000]]) (ml := [(7, .box [.L r14.2.L, .I r14.2.At])]) (ml' := [(7, .box [.L r34.2.L, .I r34.2.At])]) R isF29 R (sbR (sbR sbN)) (Gq18 hr34) (mC b mN) (newI R newN) R d) (mN0 (oBS (f := LV.I) (ys := [r34.1]) te22 tr3 ts3 R R R okI ⟨R, mM (fun _ => ok_apF (f := LV.I) (xs := x13.Found) (ys := [r34.1]) te22 tr3 ts3 R R hv35) (mN0 (oFa tf43_5 tk22 ts22 R R ⟨R, mS R R R (fun _ b _ d => oSt R R R tk22 ts22 b R R d) (m0 ((Wk.trans (Wk.eq (el := [(8, .arr 134 (List.length v11)), (9, .I r12.1), (10, .ptr 110 0)]) (ml := [(7, .box [.L r34.2.L, .I r34.2.At]), (110, .box [.I x13.Bag, .I x13.Holder, .bool x13.Open, .L x13.Seals, .L x13.Packed, .L v35]), (134, .arr 43 6 (List.map GBag.lv v11))]) R R R R) (Wk.trans (Wk.frzB 110 [.I x13.Bag, .I x13.Holder, .bool x13.Open, .L x13.Seals, .L x13.Packed, .L v35] R R R (prN R)) (Wk.eq R R R R)))))⟩))⟩))⟩)))⟩))⟩)⟩))⟩))⟩)
   refine blockN (thenN ?_)
   obtain ⟨x36, hx36, h⟩ := bindS h
   refine LH.seqT [(8, .lst 6 (List.map GBag.lv (v11.set r12.1.toNat (GBag.mk x13.Bag x13.Holder x13.Open x13.Seals x13.Packed v35))))] [(7, .box [.L r34.2.L, .I r34.2.At])] R (sMa R (sMi R (sN (oLdA R tk43 ta43 ts43 R R (sN (oIxA (f := GBag.lv) te27 tk43 ts43 R R R hx36 (s_ (oStE (f := GBag.lv) (z' := (GBag.mk x13.Bag x13.Holder x13.Open x13.Seals x13.Packed v35)) R R R R tk43 ts43 R (idxOk hx36).2 R (s0 ((Wk.trans (Wk.to (el := [(8, .arr 134 (List.length (v11.set r12.1.toNat (GBag.mk x13.Bag x13.Holder x13.Open x13.Seals x13.Packed v35))))]) (ml := [(7, .box [.L r34.2.L, .I r34.2.At]), (134, .arr 43 6 (List.map GBag.lv (v11.set r12.1.toNat (GBag.mk x13.Bag x13.Holder x13.Open x13.Seals x13.Packed v35))))]) (eC (congrArg (LV.arr 134) (by simp)) eN) ⟨R, R, trivial⟩ R (prK R)) (Wk.trans (Wk.frzL (f := GBag.lv) (el' := [(8, .lst 6 (List.map GBag.lv (v11.set r12.1.toNat (GBag.mk x13.Bag x13.Holder x13.Open x13.Seals x13.Packed v35))))]) 134 43 6 (v11.set r12.1.toNat (GBag.mk x13.Bag x13.Holder x13.Open x13.Seals x13.Packed v35)) R R (prN R) (fZ fN)) (Wk.eq R R R R))))))))))))) (LH.seqT [(4, .lst 6 (List.map GBag.lv (v11.set r12.1.toNat (GBag.mk x13.Bag x13.Holder x13.Open x13.Seals x13.Packed v35))))] [(7, .box [.L r34.2.L, .I r34.2.At])] R (sMl R (sAl R zS)) (LH.ret ?_))
   obtain rfl := oI h
   exact retE (aT Tryz.results15) (lrT R (lr0 ⟨memN (mC R mN), R, prK R, Sub.rfl⟩))
  replace h := iteF h hc33
  obtain ⟨v37, hv37, h⟩ := bindS h
  refine LH.loneT [(8, .arr 134 (List.length v37)), (9, .I r12.1), (10, .sptr (GBag.lv x13).cells)] [(7, .box [.L r14.2.L, .I r14.2.At]), (134, .arr 43 6 (List.map GBag.lv v37))] R (sMa R (sN (oLdPA R R R tk43 ta43 ts43 R R (sN (oBS (f := GBag.lv) (ys := [x13]) te27 tr43 ts43 R R R GBag.ok (sN (oAp (f := GBag.lv) te27 tr43 ts43 R R (prN R) R hv37 (sAa R (s0 ((Wk.trans (Wk.eq (el := [(8, .arr 134 (List.length v37)), (9, .I r12.1), (10, .ptr 110 0)]) (ml := [(7, .box [.L r14.2.L, .I r14.2.At]), (110, .box (GBag.lv x13).cells), (134, .arr 43 6 (List.map GBag.lv v37))]) R R R R) (Wk.trans (Wk.frzB 110 (GBag.lv x13).cells R R R (prN R)) (Wk.eq R R R R))))))))))))) (blockN (thenN ?_))
  obtain ⟨x38, hx38, h⟩ := bindS h
  refine LH.seqT [(8, .lst 6 (List.map GBag.lv (v37.set r12.1.toNat x13)))] [(7, .box [.L r14.2.L, .I r14.2.At])] R (sMa R (sMi R (sN (oLdA R tk43 ta43 ts43 R R (sN (oIxA (f := GBag.lv) te27 tk43 ts43 R R R hx38 (s_ (oStE (f := GBag.lv) (z' := x13) R R R R tk43 ts43 R (idxOk hx38).2 R (s0 ((Wk.trans (Wk.to (el := [(8, .arr 134 (List.length (v37.set r12.1.toNat x13)))]) (ml := [(7, .box [.L r14.2.L, .I r14.2.At]), (134, .arr 43 6 (List.map GBag.lv (v37.set r12.1.toNat x13)))]) (eC (congrArg (LV.arr 134) (by simp)) eN) ⟨R, R, trivial⟩ R (prK R)) (Wk.trans (Wk.frzL (f := GBag.lv) (el' := [(8, .lst 6 (List.map GBag.lv (v37.set r12.1.toNat x13)))]) 134 43 6 (v37.set r12.1.toNat x13) R R (prN R) (fZ fN)) (Wk.eq R R R R))))))))))))) (LH.seqT [(4, .lst 6 (List.map GBag.lv (v37.set r12.1.toNat x13)))] [(7, .box [.L r14.2.L, .I r14.2.At])] R (sMl R (sAl R zS)) (LH.ret ?_))
  obtain rfl := oI h
  exact retE (aT Tryz.results15) (lrT R (lr0 ⟨memN (mC R mN), R, prK R, Sub.rfl⟩))

theorem q250q {p0 : Int} {r : Bool} (h : q169q p0 = some r) : LCall Tryz.prog 76 [.I p0] (Mem.of []) (.bool r) (Mem.of []) := by
  unfold q169q at h
  refine bodyT Tryz.func76 R (nT Tryz.ntmps76 R) (LH.wk (Wk.eq (el := [(0, .I p0)]) (ml := []) R R R R) (LH.seqT [(0, .I p0)] [] R (sAb R zS) ?_))
  obtain ⟨r1, hr1, h⟩ := bindS h
  refine LH.seqT [(2, .bool (!r1))] [] R (sMi R (sN (oCP (args := [.I p0]) R isF77 R (sbR sbN) (q229q hr1) R (sN (oNot R (sAb R zS)))))) (LH.ret ?_)
  obtain rfl := oI h
  exact retE (aT Tryz.results76) (lrT R (lr0 ⟨memN mN, R, prK R, Sub.rfl⟩))

theorem q255q {F : Nat} {p0 : GBag} {r : Bool} (h : q165q F p0 = some r) : LCall Tryz.prog 40 [GBag.lv p0] (Mem.of []) (.bool r) (Mem.of []) := by
  unfold q165q at h
  refine bodyT Tryz.func40 R (nT Tryz.ntmps40 R) (LH.wk (Wk.eq (el := [(0, GBag.lv p0)]) (ml := []) R R R R) (LH.seqT [(1, .sptr (GBag.lv p0).cells)] [] R (sB (oBxR R R R R (sAb R zS))) (LH.seq ?_)))
  obtain ⟨w2, hv, h⟩ := bindS h
  refine LH.seqT [(1, .sptr (GBag.lv p0).cells), (24, .bool w2)] [] R ?_ ?_
  ·refine sN (oFaS tf43_0 tk3 ts3 R R R (sN (oLd R tk3 ta3 ?_)))
   obtain ⟨r3, hr3, hv⟩ := bindS hv
   refine sN (oCP (args := [.I p0.Bag]) R isF73 R (sbR sbN) (q234q hr3) R (sN (oNot R (sMb R ?_))))
   by_cases hb4 : (!r3) = true
   ·replace hv := iteT hv hb4
    refine sF R R hb4 (sF R R hb4 (sF R R hb4 (sF R R hb4 (sN (oPkT (cB hb4) (v := (.bool _)) R (sMb R (sF R R R (sF R R R (sF R R R (sF R R R (sN (oPkT R (v := (.bool _)) R (sMb R (sF R R R (sF R R R (sF R R R (sF R R R (sN (oPkT R (v := (.bool _)) R ?_)))))))))))))))))))
    obtain rfl := oI hv
    exact zS
   ·replace hb4 := bF hb4
    replace hv := iteF hv hb4
    refine sT R (cB hb4) (oFaS tf43_1 tk3 ts3 R R R (sT R (cB hb4) (oLd R tk3 ta3 ?_)))
    obtain ⟨r5, hr5, hv⟩ := bindS hv
    refine sT R (cB hb4) (oCP (args := [.I p0.Holder]) R isF74 R (sbR sbN) (q186q hr5) R (sT R (cB hb4) (oNot R (sN (oPkF (cB hb4) (v := (.bool _)) R (sMb R ?_))))))
    by_cases hb6 : (!r5) = true
    ·replace hv := iteT hv hb6
     refine sF R R hb6 (sF R R hb6 (sF R R hb6 (sF R R hb6 (sN (oPkT (cB hb6) (v := (.bool _)) R (sMb R (sF R R R (sF R R R (sF R R R (sF R R R (sN (oPkT R (v := (.bool _)) R ?_))))))))))))
     obtain rfl := oI hv
     exact zS
    ·replace hb6 := bF hb6
     replace hv := iteF hv hb6
     refine sT R (cB hb6) (oFaS tf43_3 tk22 ts22 R R R (sT R (cB hb6) (oLd R tk22 ta22 (sT R (cB hb6) (oLnL (f := LV.I) te22 R (sT R (cB hb6) (oLt R R (sN (oPkF (cB hb6) (v := (.bool _)) R (sMb R ?_))))))))))
     by_cases hb7 : (decide ((p0.Seals.length : Int) < 1)) = true
     ·replace hv := iteT hv hb7
      refine sF R R hb7 (sF R R hb7 (sF R R hb7 (sF R R hb7 (sN (oPkT (cB hb7) (v := (.bool _)) R ?_)))))
      obtain rfl := oI hv
      exact zS
     ·replace hb7 := bF hb7
      replace hv := iteF hv hb7
      refine sT R (cB hb7) (oFaS tf43_3 tk22 ts22 R R R (sT R (cB hb7) (oLd R tk22 ta22 (sT R (cB hb7) (oLnL (f := LV.I) te22 R (sT R (cB hb7) (oGt R R (sN (oPkF (cB hb7) (v := (.bool _)) R ?_)))))))))
      obtain rfl := oI hv
      exact zS
  clear hv
  refine LH.cond (t := w2) R (fun hc8 => ?_) (fun hc8 => ?_)
  ·replace h := iteT h hc8
   refine LH.seqT [(2, .bool false)] [] R (sAb R zS) (LH.ret (thenR ?_))
   obtain rfl := oI h
   exact retE (aT Tryz.results40) (lrT R (lr0 ⟨memN mN, R, prK R, Sub.rfl⟩))
  replace h := iteF h hc8
  refine LH.skip (thenN ?_)
  obtain ⟨r9, hr9, h⟩ := bindS h
  refine LH.seqT [(2, .bool (!r9))] [] R (sN (oFaS tf43_3 tk22 ts22 R R R (sN (oLd R tk22 ta22 (sN (oCP (args := [.L p0.Seals, .fn 76 []]) R isF75 R (sbR (sbR sbN)) (q168q (p1_f := 76) (p1_c := []) isF76 R (fun _ _ h => q250q h) hr9) R (sN (oNot R (sAb R zS))))))))) (LH.ret ?_)
  obtain rfl := oI h
  exact retE (aT Tryz.results40) (lrT R (lr0 ⟨memN mN, R, prK R, Sub.rfl⟩))

theorem q213q {F : Nat} {p0 : List GBag} {p1 : (GBag → Option (List Int))} {r : Bool} {p1_f : Nat} {p1_c : List LV} (p1_i : IsF Tryz.prog p1_f) (p1_q : LV.pureL p1_c = true) (p1_k : ∀ (x0 : GBag) (q : List Int), p1 x0 = some q → LCall Tryz.prog p1_f ([.agg [.I x0.Bag, .I x0.Holder, .bool x0.Open, .L x0.Seals, .L x0.Packed, .L x0.Found]] ++ p1_c) (Mem.of []) (.L q) (Mem.of [])) (h : q13q F p0 p1 = some r) : LCall Tryz.prog 42 [.lst 6 (List.map GBag.lv p0), .fn p1_f p1_c] (Mem.of []) (.bool r) (Mem.of []) := by
  have p1_p : ∀ {l : List LV}, LV.pureL l = true → LV.pureL (l ++ p1_c) = true := pnC p1_q
  have p1_r : LV.refsL p1_c = [] := refsL_pure p1_q
  unfold q13q at h
  refine bodyT Tryz.func42 R (nT Tryz.ntmps42 R) (LH.wk (Wk.to (el := [(0, .lst 6 (List.map GBag.lv p0)), (1, .fn p1_f p1_c)]) (ml := []) (eQ ⟨R, R, trivial⟩) mN (by simp [keptRefs, LV.refs, LV.refsL, LV.cells, lev, Env.args, Env.of, Env.put, Env.drop, p1_r]) (prK R)) (LH.seqT [(0, .lst 6 (List.map GBag.lv p0)), (1, .fn p1_f p1_c)] [] R (sAb R (s0 (Wk.to (eQ ⟨R, R, trivial⟩) mN (by simp [keptRefs, LV.refs, LV.refsL, LV.cells, lev, Env.args, Env.of, Env.put, Env.drop, p1_r]) (prK R)))) (LH.seqT [(0, .lst 6 (List.map GBag.lv p0)), (1, .fn p1_f p1_c), (5, .mp 110)] [(110, .map 3 4 (mlv LV.I LV.bool ([] : List (Int × Bool))))] R (sX ((ok_makeMap (kt := 3) (vt := 4) (id := 110) R).ok) (sN (oA (v := (.mp _)) R (s0 (Wk.to (eQ ⟨R, R, R, trivial⟩) ⟨R, trivial⟩ (by simp [keptRefs, LV.refs, LV.refsL, LV.cells, lev, Env.args, Env.of, Env.put, Env.drop, p1_r]) (prK R)))))) (LH.seq (LH.seqT [(1, .fn p1_f p1_c), (5, .mp 110), (11, .lst 6 (List.map GBag.lv p0)), (12, .I (p0.length : Int)), (13, .I 0)] [(110, .map 3 4 (mlv LV.I LV.bool ([] : List (Int × Bool))))] R (sMl R (sN (oLnL (f := GBag.lv) te27 R (sMi R (s0 (Wk.to (eQ ⟨R, R, R, R, R, trivial⟩) ⟨R, trivial⟩ (by simp [keptRefs, LV.refs, LV.refsL, LV.cells, lev, Env.args, Env.of, Env.put, Env.drop, p1_r]) (prK R))))))) (LH.block (LH.loop (fun n e m => ∃ (n1 : Int) (m2 : List (Int × Bool)), q19q F p0 p1 n n1 m2 = some r ∧ e = Env.of [(1, .fn p1_f p1_c), (5, .mp 110), (11, .lst 6 (List.map GBag.lv p0)), (12, .I (p0.length : Int)), (13, .I n1)] ∧ m = Mem.of [(110, .map 3 4 (mlv LV.I LV.bool m2))]) F ⟨0, ([] : List (Int × Bool)), h, R, R⟩ ?_)))))))
  clear h
  rintro n e m ⟨n1, m2, h, rfl, rfl⟩
  rcases n with _ | n
  · cases (show Option.none = some _ from h)
  obtain ⟨rec1, hrec1⟩ : ∃ f, f = q19q F p0 p1 n := ⟨_, rfl⟩
  replace h : q79q F p0 p1 rec1 n1 m2 = some r := hrec1 ▸ h
  unfold q79q at h
  refine LH.seqT [(1, .fn p1_f p1_c), (5, .mp 110), (11, .lst 6 (List.map GBag.lv p0)), (12, .I (p0.length : Int)), (13, .I n1), (14, .bool (decide (n1 < (p0.length : Int))))] [(110, .map 3 4 (mlv LV.I LV.bool m2))] R (sN (oLt R R (s0 (Wk.to (eQ ⟨R, R, R, R, R, R, trivial⟩) ⟨R, trivial⟩ (by simp [keptRefs, LV.refs, LV.refsL, LV.cells, lev, Env.args, Env.of, Env.put, Env.drop, p1_r]) (prK R))))) (LH.seq (LH.cond (t := (decide (n1 < (p0.length : Int)))) R (fun hc3 => ?_) (fun hc3 => ?_)))
  ·replace h := iteT h hc3
   refine LH.skip (thenN (LH.wk (Wk.to (el := [(1, .fn p1_f p1_c), (5, .mp 110), (11, .lst 6 (List.map GBag.lv p0)), (12, .I (p0.length : Int)), (13, .I n1)]) (ml := [(110, .map 3 4 (mlv LV.I LV.bool m2))]) (eQ ⟨R, R, R, R, R, trivial⟩) ⟨R, trivial⟩ (by simp [keptRefs, LV.refs, LV.refsL, LV.cells, lev, Env.args, Env.of, Env.put, Env.drop, p1_r]) (prK R)) (LH.seq (LH.block ?_))))
   obtain ⟨x4, hx4, h⟩ := bindS h
   refine LH.seqT [(1, .fn p1_f p1_c), (5, .mp 110), (7, .ptr 107 0), (11, .lst 6 (List.map GBag.lv p0)), (12, .I (p0.length : Int)), (13, .I n1)] [(107, .box [.I x4.Bag, .I x4.Holder, .bool x4.Open, .L x4.Seals, .L x4.Packed, .L x4.Found]), (110, .map 3 4 (mlv LV.I LV.bool m2))] R (sN (oIx (f := GBag.lv) te27 tk43 ts43 R R GBag.ok hx4 R (sN (oLdA R tk43 ta43 ts43 R R (sN (oAl (id := 107) R tz43 R R (s_ (oSt R R R tk43 ts43 R R R (s0 (Wk.to (eQ ⟨R, R, R, R, R, R, trivial⟩) ⟨R, R, trivial⟩ (by simp [keptRefs, LV.refs, LV.refsL, LV.cells, lev, Env.args, Env.of, Env.put, Env.drop, p1_r]) (prK R))))))))))) ?_
   obtain ⟨r5, hr5, h⟩ := bindS h
   refine LH.seqT [(1, .fn p1_f p1_c), (5, .mp 110), (11, .lst 6 (List.map GBag.lv p0)), (12, .I (p0.length : Int)), (13, .I n1), (19, .L r5), (20, .I (r5.length : Int)), (21, .I 0)] [(110, .map 3 4 (mlv LV.I LV.bool m2))] R ?_ ?_
   ·refine sN (oM (v := (.fn _ _)) R (sN (oLdPA R R R tk43 ta43 ts43 R R (sN (oCP (args := [.agg [.I x4.Bag, .I x4.Holder, .bool x4.Open, .L x4.Seals, .L x4.Packed, .L x4.Found]] ++ p1_c) (args' := [.agg [.I x4.Bag, .I x4.Holder, .bool x4.Open, .L x4.Seals, .L x4.Packed, .L x4.Found]] ++ p1_c) R p1_i R SubL.rfl (p1_k _ _ hr5) (p1_p R) ?_)))))
    exact sN (oLnL (f := LV.I) te22 R (sMi R (s0 (Wk.to (eQ ⟨R, R, R, R, R, R, R, R, trivial⟩) ⟨R, trivial⟩ (by simp [keptRefs, LV.refs, LV.refsL, LV.cells, lev, Env.args, Env.of, Env.put, Env.drop, p1_r]) (prK R)))))
   refine LH.block (LH.loop (fun n e m => ∃ (n6 : Int) (m7 : List (Int × Bool)), q39q rec1 n1 r5 n n6 m7 = some r ∧ e = Env.of [(1, .fn p1_f p1_c), (5, .mp 110), (11, .lst 6 (List.map GBag.lv p0)), (12, .I (p0.length : Int)), (13, .I n1), (19, .L r5), (20, .I (r5.length : Int)), (21, .I n6)] ∧ m = Mem.of [(110, .map 3 4 (mlv LV.I LV.bool m7))]) F ⟨0, m2, h, R, R⟩ ?_)
   clear h
   rintro n e m ⟨n6, m7, h, rfl, rfl⟩
   rcases n with _ | n
   · cases (show Option.none = some _ from h)
   obtain ⟨rec2, hrec2⟩ : ∃ f, f = q39q rec1 n1 r5 n := ⟨_, rfl⟩
   replace h : q80q rec1 n1 r5 rec2 n6 m7 = some r := hrec2 ▸ h
   unfold q80q at h
   refine LH.seqT [(1, .fn p1_f p1_c), (5, .mp 110), (11, .lst 6 (List.map GBag.lv p0)), (12, .I (p0.length : Int)), (13, .I n1), (19, .L r5), (20, .I (r5.length : Int)), (21, .I n6), (22, .bool (decide (n6 < (r5.length : Int))))] [(110, .map 3 4 (mlv LV.I LV.bool m7))] R (sN (oLt R R (s0 (Wk.to (eQ ⟨R, R, R, R, R, R, R, R, R, trivial⟩) ⟨R, trivial⟩ (by simp [keptRefs, LV.refs, LV.refsL, LV.cells, lev, Env.args, Env.of, Env.put, Env.drop, p1_r]) (prK R))))) (LH.seq (LH.cond (t := (decide (n6 < (r5.length : Int)))) R (fun hc8 => ?_) (fun hc8 => ?_)))
   ·replace h := iteT h hc8
    refine LH.skip (thenN (LH.wk (Wk.to (el := [(1, .fn p1_f p1_c), (5, .mp 110), (11, .lst 6 (List.map GBag.lv p0)), (12, .I (p0.length : Int)), (13, .I n1), (19, .L r5), (20, .I (r5.length : Int)), (21, .I n6)]) (ml := [(110, .map 3 4 (mlv LV.I LV.bool m7))]) (eQ ⟨R, R, R, R, R, R, R, R, trivial⟩) ⟨R, trivial⟩ (by simp [keptRefs, LV.refs, LV.refsL, LV.cells, lev, Env.args, Env.of, Env.put, Env.drop, p1_r]) (prK R)) (LH.seq (LH.block ?_))))
    obtain ⟨x9, hx9, h⟩ := bindS h
    refine LH.seqT [(1, .fn p1_f p1_c), (5, .mp 110), (9, .I x9), (11, .lst 6 (List.map GBag.lv p0)), (12, .I (p0.length : Int)), (13, .I n1), (19, .L r5), (20, .I (r5.length : Int)), (21, .I n6)] [(110, .map 3 4 (mlv LV.I LV.bool m7))] R (sN (oIx (f := LV.I) te22 tk3 ts3 R R okI hx9 R (sN (oLd R tk3 ta3 (sAi R (s0 (Wk.to (eQ ⟨R, R, R, R, R, R, R, R, R, trivial⟩) ⟨R, trivial⟩ (by simp [keptRefs, LV.refs, LV.refsL, LV.cells, lev, Env.args, Env.of, Env.put, Env.drop, p1_r]) (prK R)))))))) (LH.seq (LH.seqT [(1, .fn p1_f p1_c), (5, .mp 110), (9, .I x9), (11, .lst 6 (List.map GBag.lv p0)), (12, .I (p0.length : Int)), (13, .I n1), (19, .L r5), (20, .I (r5.length : Int)), (21, .I n6), (27, .bool ((mget m7 x9).getD false))] [(110, .map 3 4 (mlv LV.I LV.bool m7))] R (sN (oM (v := (.mp _)) R (sMi R (sX ((ok_lookup (f := LV.I) (g := LV.bool) (xs := m7) (key := x9) (z := false) tm69 kok3 kf3 R R R tz4).ok) (s0 (Wk.to (eQ ⟨R, R, R, R, R, R, R, R, R, R, trivial⟩) ⟨R, trivial⟩ (by simp [keptRefs, LV.refs, LV.refsL, LV.cells, lev, Env.args, Env.of, Env.put, Env.drop, p1_r]) (prK R))))))) (LH.cond (t := ((mget m7 x9).getD false)) R (fun hc10 => ?_) (fun hc10 => ?_))))
    ·replace h := iteT h hc10
     refine LH.seqT [(4, .bool true)] [] R (sAb R (s0 (Wk.to (eQ ⟨R, trivial⟩) mN (by simp [keptRefs, LV.refs, LV.refsL, LV.cells, lev, Env.args, Env.of, Env.put, Env.drop, p1_r]) (prK R)))) (LH.ret (thenR (blockR (thenR (roundR (blockR (blockR (thenR (roundR (blockR (thenR ?_)))))))))))
     obtain rfl := oI h
     exact retE (aT Tryz.results42) (lrT R (lr0 ⟨memN mN, R, prK R, Sub.rfl⟩))
    replace h := iteF h hc10
    refine LH.skip (thenN (LH.loneT [(1, .fn p1_f p1_c), (5, .mp 110), (11, .lst 6 (List.map GBag.lv p0)), (12, .I (p0.length : Int)), (13, .I n1), (19, .L r5), (20, .I (r5.length : Int)), (21, .I n6)] [(110, .map 3 4 (mlv LV.I LV.bool (mput m7 x9 true)))] R (sN (oM (v := (.mp _)) R (sMi R (sX_ ((ok_update (f := LV.I) (g := LV.bool) (xs := m7) (key := x9) (val := true) (.inl R) tm69 kok3 kf3 (fun _ => R) R R R R).ok) (s0 (Wk.to (eQ ⟨R, R, R, R, R, R, R, R, trivial⟩) ⟨R, trivial⟩ (by simp [keptRefs, LV.refs, LV.refsL, LV.cells, lev, Env.args, Env.of, Env.put, Env.drop, p1_r]) (prK R))))))) (blockN (thenN (LH.loneT [(1, .fn p1_f p1_c), (5, .mp 110), (11, .lst 6 (List.map GBag.lv p0)), (12, .I (p0.length : Int)), (13, .I n1), (19, .L r5), (20, .I (r5.length : Int)), (21, .I (i64 (n6 + 1)))] [(110, .map 3 4 (mlv LV.I LV.bool (mput m7 x9 true)))] R (sN (oAdd R R (sMi R (s0 (Wk.to (eQ ⟨R, R, R, R, R, R, R, R, trivial⟩) ⟨R, trivial⟩ (by simp [keptRefs, LV.refs, LV.refsL, LV.cells, lev, Env.args, Env.of, Env.put, Env.drop, p1_r]) (prK R)))))) ?_)))))
    exact roundI ⟨(i64 (n6 + 1)), (mput m7 x9 true), hrec2 ▸ h, R, R⟩ (Wk.to (eQ ⟨R, R, R, R, R, R, R, R, trivial⟩) ⟨R, trivial⟩ (by simp [keptRefs, LV.refs, LV.refsL, LV.cells, lev, Env.args, Env.of, Env.put, Env.drop, p1_r]) (prK R))
   replace h := iteF h hc8
   refine LH.exit (thenX (roundX (blockH (blockN (thenN (LH.loneT [(1, .fn p1_f p1_c), (5, .mp 110), (11, .lst 6 (List.map GBag.lv p0)), (12, .I (p0.length : Int)), (13, .I (i64 (n1 + 1)))] [(110, .map 3 4 (mlv LV.I LV.bool m7))] R (sN (oAdd R R (sMi R (s0 (Wk.to (eQ ⟨R, R, R, R, R, trivial⟩) ⟨R, trivial⟩ (by simp [keptRefs, LV.refs, LV.refsL, LV.cells, lev, Env.args, Env.of, Env.put, Env.drop, p1_r]) (prK R)))))) ?_))))))
   exact roundI ⟨(i64 (n1 + 1)), m7, hrec1 ▸ h, R, R⟩ (Wk.to (eQ ⟨R, R, R, R, R, trivial⟩) ⟨R, trivial⟩ (by simp [keptRefs, LV.refs, LV.refsL, LV.cells, lev, Env.args, Env.of, Env.put, Env.drop, p1_r]) (prK R))
  replace h := iteF h hc3
  refine LH.exit (thenX (roundX (blockH (thenN (LH.seqT [(4, .bool false)] [] R (sAb R (s0 (Wk.to (eQ ⟨R, trivial⟩) mN (by simp [keptRefs, LV.refs, LV.refsL, LV.cells, lev, Env.args, Env.of, Env.put, Env.drop, p1_r]) (prK R)))) (LH.ret ?_))))))
  obtain rfl := oI h
  exact retE (aT Tryz.results42) (lrT R (lr0 ⟨memN mN, R, prK R, Sub.rfl⟩))

theorem q265q {F : Nat} {p0 : List GBag} {r : Int} (h : q177q F p0 = some r) : LCall Tryz.prog 24 [.lst 6 (List.map GBag.lv p0)] (Mem.of []) (.I r) (Mem.of []) := by
  unfold q177q at h
  refine bodyT Tryz.func24 R (nT Tryz.ntmps24 R) (LH.wk (Wk.eq (el := [(0, .lst 6 (List.map GBag.lv p0))]) (ml := []) R R R R) (LH.seqT [(0, .lst 6 (List.map GBag.lv p0))] [] R (sAi R zS) (LH.seq (LH.seqT [(0, .lst 6 (List.map GBag.lv p0)), (12, .bool (decide ((p0.length : Int) > 20)))] [] R (sMl R (sN (oLnL (f := GBag.lv) te27 R (sN (oGt R R zS))))) (LH.cond (t := (decide ((p0.length : Int) > 20))) R (fun hc1 => ?_) (fun hc1 => ?_))))))
  ·replace h := iteT h hc1
   refine LH.seqT [(2, .I 3)] [] R (sAi R zS) (LH.ret (thenR ?_))
   obtain rfl := oI h
   exact retE (aT Tryz.results24) (lrT R (lr0 ⟨memN mN, R, prK R, Sub.rfl⟩))
  replace h := iteF h hc1
  refine LH.skip (thenN (LH.wk (Wk.eq (el := [(0, .lst 6 (List.map GBag.lv p0))]) (ml := []) R R R R) (LH.seq (LH.seqT [(0, .lst 6 (List.map GBag.lv p0)), (13, .lst 6 (List.map GBag.lv p0)), (14, .I (p0.length : Int)), (15, .I 0)] [] R (sMl R (sN (oLnL (f := GBag.lv) te27 R (sMi R zS)))) (LH.block (LH.loop (fun n e m => ∃ (n2 : Int), q72q F p0 n n2 = some r ∧ e = Env.of [(0, .lst 6 (List.map GBag.lv p0)), (13, .lst 6 (List.map GBag.lv p0)), (14, .I (p0.length : Int)), (15, .I n2)] ∧ m = Mem.of []) F ⟨0, h, R, R⟩ ?_))))))
  clear h
  rintro n e m ⟨n2, h, rfl, rfl⟩
  rcases n with _ | n
  · cases (show Option.none = some _ from h)
  obtain ⟨rec1, hrec1⟩ : ∃ f, f = q72q F p0 n := ⟨_, rfl⟩
  replace h : q118q F p0 rec1 n2 = some r := hrec1 ▸ h
  unfold q118q at h
  refine LH.seqT [(0, .lst 6 (List.map GBag.lv p0)), (13, .lst 6 (List.map GBag.lv p0)), (14, .I (p0.length : Int)), (15, .I n2), (16, .bool (decide (n2 < (p0.length : Int))))] [] R (sN (oLt R R zS)) (LH.seq (LH.cond (t := (decide (n2 < (p0.length : Int)))) R (fun hc3 => ?_) (fun hc3 => ?_)))
  ·replace h := iteT h hc3
   refine LH.skip (thenN (LH.wk (Wk.eq (el := [(0, .lst 6 (List.map GBag.lv p0)), (13, .lst 6 (List.map GBag.lv p0)), (14, .I (p0.length : Int)), (15, .I n2)]) (ml := []) R R R R) (LH.seq (LH.block ?_))))
   obtain ⟨x4, hx4, h⟩ := bindS h
   refine LH.seqT [(0, .lst 6 (List.map GBag.lv p0)), (4, .sptr (GBag.lv x4).cells), (13, .lst 6 (List.map GBag.lv p0)), (14, .I (p0.length : Int)), (15, .I n2)] [] R (sN (oIx (f := GBag.lv) te27 tk43 ts43 R R GBag.ok hx4 R (sN (oLdA R tk43 ta43 ts43 R R (sN (oAl (id := 104) R tz43 R R (s_ (oSt R R R tk43 ts43 R R R (s0 ((Wk.trans (Wk.eq (el := [(0, .lst 6 (List.map GBag.lv p0)), (4, .ptr 104 0), (13, .lst 6 (List.map GBag.lv p0)), (14, .I (p0.length : Int)), (15, .I n2)]) (ml := [(104, .box (GBag.lv x4).cells)]) R R R R) (Wk.trans (Wk.frzB 104 (GBag.lv x4).cells R R R (prN R)) (Wk.eq R R R R))))))))))))) ?_
   obtain ⟨r5, hr5, h⟩ := bindS h
   refine LH.seqT [(0, .lst 6 (List.map GBag.lv p0)), (13, .lst 6 (List.map GBag.lv p0)), (14, .I (p0.length : Int)), (15, .I n2), (21, .bool (!r5))] [] R (sN (oLdA R tk43 ta43 ts43 R R (sN (oCP (args := [GBag.lv x4]) R isF40 R (sbR sbN) (q255q hr5) R (sN (oNot R zS)))))) (LH.cond (t := (!r5)) R (fun hc6 => ?_) (fun hc6 => ?_))
   ·replace h := iteT h hc6
    refine LH.seqT [(2, .I 2)] [] R (sAi R zS) (LH.ret (blockR (thenR (roundR (blockR (thenR ?_))))))
    obtain rfl := oI h
    exact retE (aT Tryz.results24) (lrT R (lr0 ⟨memN mN, R, prK R, Sub.rfl⟩))
   replace h := iteF h hc6
   refine LH.skip (blockN (thenN (LH.loneT [(0, .lst 6 (List.map GBag.lv p0)), (13, .lst 6 (List.map GBag.lv p0)), (14, .I (p0.length : Int)), (15, .I (i64 (n2 + 1)))] [] R (sN (oAdd R R (sMi R zS))) ?_)))
   exact roundI ⟨(i64 (n2 + 1)), hrec1 ▸ h, R, R⟩ (Wk.eq R R R R)
  replace h := iteF h hc3
  refine LH.exit (thenX (roundX (blockH (thenN (LH.wk (Wk.eq (el := [(0, .lst 6 (List.map GBag.lv p0))]) (ml := []) R R R R) (LH.seq (LH.seqT [(0, .lst 6 (List.map GBag.lv p0)), (23, .lst 6 (List.map GBag.lv p0)), (24, .I (p0.length : Int)), (25, .I 0)] [] R (sMl R (sN (oLnL (f := GBag.lv) te27 R (sMi R zS)))) (LH.block (LH.loop (fun n e m => ∃ (n7 : Int), q55q F p0 n n7 = some r ∧ e = Env.of [(0, .lst 6 (List.map GBag.lv p0)), (23, .lst 6 (List.map GBag.lv p0)), (24, .I (p0.length : Int)), (25, .I n7)] ∧ m = Mem.of []) F ⟨0, h, R, R⟩ ?_)))))))))
  clear h
  rintro n e m ⟨n7, h, rfl, rfl⟩
  rcases n with _ | n
  · cases (show Option.none = some _ from h)
  obtain ⟨rec2, hrec2⟩ : ∃ f, f = q55q F p0 n := ⟨_, rfl⟩
  replace h : q119q F p0 rec2 n7 = some r := hrec2 ▸ h
  unfold q119q at h
  refine LH.seqT [(0, .lst 6 (List.map GBag.lv p0)), (23, .lst 6 (List.map GBag.lv p0)), (24, .I (p0.length : Int)), (25, .I n7), (26, .bool (decide (n7 < (p0.length : Int))))] [] R (sN (oLt R R zS)) (LH.seq (LH.cond (t := (decide (n7 < (p0.length : Int)))) R (fun hc8 => ?_) (fun hc8 => ?_)))
  ·replace h := iteT h hc8
   refine LH.skip (thenN (LH.wk (Wk.eq (el := [(0, .lst 6 (List.map GBag.lv p0)), (23, .lst 6 (List.map GBag.lv p0)), (24, .I (p0.length : Int)), (25, .I n7)]) (ml := []) R R R R) (LH.seq (LH.block ?_))))
   obtain ⟨x9, hx9, h⟩ := bindS h
   refine LH.seqT [(0, .lst 6 (List.map GBag.lv p0)), (6, .sptr (GBag.lv x9).cells), (23, .lst 6 (List.map GBag.lv p0)), (24, .I (p0.length : Int)), (25, .I n7)] [] R (sN (oIx (f := GBag.lv) te27 tk43 ts43 R R GBag.ok hx9 R (sN (oLdA R tk43 ta43 ts43 R R (sN (oAl (id := 106) R tz43 R R (s_ (oSt R R R tk43 ts43 R R R (s0 ((Wk.trans (Wk.eq (el := [(0, .lst 6 (List.map GBag.lv p0)), (6, .ptr 106 0), (23, .lst 6 (List.map GBag.lv p0)), (24, .I (p0.length : Int)), (25, .I n7)]) (ml := [(106, .box (GBag.lv x9).cells)]) R R R R) (Wk.trans (Wk.frzB 106 (GBag.lv x9).cells R R R (prN R)) (Wk.eq R R R R))))))))))))) ?_
   obtain ⟨w11, hv, h⟩ := bindS h
   refine LH.seqT [(0, .lst 6 (List.map GBag.lv p0)), (23, .lst 6 (List.map GBag.lv p0)), (24, .I (p0.length : Int)), (25, .I n7), (38, .bool w11)] [] R ?_ ?_
   ·refine sN (oFaS tf43_4 tk22 ts22 R R R (sN (oLd R tk22 ta22 ?_)))
    obtain ⟨r12, hr12, hv⟩ := bindS hv
    refine sN (oCP (args := [.L x9.Packed]) R isF41 R (sbR sbN) (q170q hr12) R (sN (oNot R (sMb R ?_))))
    by_cases hb13 : (!r12) = true
    ·replace hv := iteT hv hb13
     refine sF R R hb13 (sF R R hb13 (sF R R hb13 (sF R R hb13 (sN (oPkT (cB hb13) (v := (.bool _)) R ?_)))))
     obtain rfl := oI hv
     exact zS
    ·replace hb13 := bF hb13
     replace hv := iteF hv hb13
     refine sT R (cB hb13) (oFaS tf43_5 tk22 ts22 R R R (sT R (cB hb13) (oLd R tk22 ta22 ?_)))
     obtain ⟨r14, hr14, hv⟩ := bindS hv
     refine sT R (cB hb13) (oCP (args := [.L x9.Found]) R isF41 R (sbR sbN) (q170q hr14) R (sT R (cB hb13) (oNot R (sN (oPkF (cB hb13) (v := (.bool _)) R ?_)))))
     obtain rfl := oI hv
     exact zS
   clear hv
   refine LH.cond (t := w11) R (fun hc15 => ?_) (fun hc15 => ?_)
   ·replace h := iteT h hc15
    refine LH.seqT [(2, .I 1)] [] R (sAi R zS) (LH.ret (blockR (thenR (roundR (blockR (thenR ?_))))))
    obtain rfl := oI h
    exact retE (aT Tryz.results24) (lrT R (lr0 ⟨memN mN, R, prK R, Sub.rfl⟩))
   replace h := iteF h hc15
   refine LH.skip (blockN (thenN (LH.loneT [(0, .lst 6 (List.map GBag.lv p0)), (23, .lst 6 (List.map GBag.lv p0)), (24, .I (p0.length : Int)), (25, .I (i64 (n7 + 1)))] [] R (sN (oAdd R R (sMi R zS))) ?_)))
   exact roundI ⟨(i64 (n7 + 1)), hrec2 ▸ h, R, R⟩ (Wk.eq R R R R)
  replace h := iteF h hc8
  refine LH.exit (thenX (roundX (blockH (thenN (LH.wk (Wk.eq (el := [(0, .lst 6 (List.map GBag.lv p0))]) (ml := []) R R R R) (LH.seq (LH.seqT [(0, .lst 6 (List.map GBag.lv p0)), (40, .lst 6 (List.map GBag.lv p0)), (41, .I (p0.length : Int)), (42, .I 0)] [] R (sMl R (sN (oLnL (f := GBag.lv) te27 R (sMi R zS)))) (LH.block (LH.loop (fun n e m => ∃ (n16 : Int), q56q F p0 n n16 = some r ∧ e = Env.of [(0, .lst 6 (List.map GBag.lv p0)), (40, .lst 6 (List.map GBag.lv p0)), (41, .I (p0.length : Int)), (42, .I n16)] ∧ m = Mem.of []) F ⟨0, h, R, R⟩ ?_)))))))))
  clear h
  rintro n e m ⟨n16, h, rfl, rfl⟩
  rcases n with _ | n
  · cases (show Option.none = some _ from h)
  obtain ⟨rec3, hrec3⟩ : ∃ f, f = q56q F p0 n := ⟨_, rfl⟩
  replace h : q120q F p0 rec3 n16 = some r := hrec3 ▸ h
  unfold q120q at h
  refine LH.seqT [(0, .lst 6 (List.map GBag.lv p0)), (40, .lst 6 (List.map GBag.lv p0)), (41, .I (p0.length : Int)), (42, .I n16), (43, .bool (decide (n16 < (p0.length : Int))))] [] R (sN (oLt R R zS)) (LH.seq (LH.cond (t := (decide (n16 < (p0.length : Int)))) R (fun hc17 => ?_) (fun hc17 => ?_)))
  ·replace h := iteT h hc17
   refine LH.skip (thenN (LH.wk (Wk.eq (el := [(0, .lst 6 (List.map GBag.lv p0)), (40, .lst 6 (List.map GBag.lv p0)), (41, .I (p0.length : Int)), (42, .I n16)]) (ml := []) R R R R) (LH.seq (LH.block ?_))))
   obtain ⟨x18, hx18, h⟩ := bindS h
   refine LH.seqT [(0, .lst 6 (List.map GBag.lv p0)), (8, .sptr (GBag.lv x18).cells), (40, .lst 6 (List.map GBag.lv p0)), (41, .I (p0.length : Int)), (42, .I n16)] [] R (sN (oIx (f := GBag.lv) te27 tk43 ts43 R R GBag.ok hx18 R (sN (oLdA R tk43 ta43 ts43 R R (sN (oAl (id := 108) R tz43 R R (s_ (oSt R R R tk43 ts43 R R R (s0 ((Wk.trans (Wk.eq (el := [(0, .lst 6 (List.map GBag.lv p0)), (8, .ptr 108 0), (40, .lst 6 (List.map GBag.lv p0)), (41, .I (p0.length : Int)), (42, .I n16)]) (ml := [(108, .box (GBag.lv x18).cells)]) R R R R) (Wk.trans (Wk.frzB 108 (GBag.lv x18).cells R R R (prN R)) (Wk.eq R R R R))))))))))))) (LH.seqT [(0, .lst 6 (List.map GBag.lv p0)), (40, .lst 6 (List.map GBag.lv p0)), (41, .I (p0.length : Int)), (42, .I n16), (63, .bool (if (!x18.Open) = true then ((decide ((x18.Found.length : Int) > 0)) || (x18.Open && (x18.Holder != 0))) else (x18.Open && (x18.Holder != 0))))] [] R ?_ ?_)
   ·refine sN (oFaS tf43_2 tk4 ts4 R R R (sN (oLd R tk4 ta4 (sN (oNot R (sMb R ?_))))))
    by_cases hb20 : (!x18.Open) = true
    ·refine sT R (cB hb20) (oFaS tf43_5 tk22 ts22 R R R (sT R (cB hb20) (oLd R tk22 ta22 (sT R (cB hb20) (oLnL (f := LV.I) te22 R (sT R (cB hb20) (oGt R R (sN (oPkT (cB hb20) (v := (.bool _)) R (sMb R ?_))))))))))
     by_cases hb21 : (decide ((x18.Found.length : Int) > 0)) = true
     ·exact sF R R hb21 (sF R R hb21 (sF R R hb21 (sU R R (sU R R (sU R R (sF R R hb21 (sN (oPkT (cB hb21) (v := (.bool _)) R (s0 (Wk.to (eC R (eC R (eC R (eC R (eC (cB (Eq.trans (orT hb21) (itT hb20))) eN))))) mN R (prK R)))))))))))
     ·replace hb21 := bF hb21
      refine sT R (cB hb21) (oFaS tf43_2 tk4 ts4 R R R (sT R (cB hb21) (oLd R tk4 ta4 (sT R (cB hb21) (oM (v := (.bool _)) R ?_)))))
      by_cases hb22 : x18.Open = true
      ·exact sT R (cB hb22) (oFaS tf43_1 tk3 ts3 R R R (sT R (cB hb22) (oLd R tk3 ta3 (sT R (cB hb22) (oNe R R (sT R (cB hb21) (oPkT (cB hb22) (v := (.bool _)) R (sN (oPkF (cB hb21) (v := (.bool _)) R (s0 (Wk.to (eC R (eC R (eC R (eC R (eC (cB (Eq.trans (Eq.trans (andT hb22) (orF hb21)) (itT hb20))) eN))))) mN R (prK R))))))))))))
      ·replace hb22 := bF hb22
       exact sF R R hb22 (sF R R hb22 (sF R R hb22 (sT R (cB hb21) (oPkF (cB hb22) (v := (.bool _)) R (sN (oPkF (cB hb21) (v := (.bool _)) R (s0 (Wk.to (eC R (eC R (eC R (eC R (eC (cB (Eq.trans (Eq.trans (andF hb22) (orF hb21)) (itT hb20))) eN))))) mN R (prK R)))))))))
    ·replace hb20 := bF hb20
     refine sF R R hb20 (sF R R hb20 (sF R R hb20 (sF R R hb20 (sN (oPkF (cB hb20) (v := (.bool _)) R (sMb R (sT R R (oFaS tf43_2 tk4 ts4 R R R (sT R R (oLd R tk4 ta4 (sT R R (oM (v := (.bool _)) R ?_))))))))))))
     by_cases hb23 : x18.Open = true
     ·exact sT R (cB hb23) (oFaS tf43_1 tk3 ts3 R R R (sT R (cB hb23) (oLd R tk3 ta3 (sT R (cB hb23) (oNe R R (sT R R (oPkT (cB hb23) (v := (.bool _)) R (sN (oPkF R (v := (.bool _)) R (s0 (Wk.to (eC R (eC R (eC R (eC R (eC (cB (Eq.trans (andT hb23) (itF hb20))) eN))))) mN R (prK R))))))))))))
     ·replace hb23 := bF hb23
      exact sF R R hb23 (sF R R hb23 (sF R R hb23 (sT R R (oPkF (cB hb23) (v := (.bool _)) R (sN (oPkF R (v := (.bool _)) R (s0 (Wk.to (eC R (eC R (eC R (eC R (eC (cB (Eq.trans (andF hb23) (itF hb20))) eN))))) mN R (prK R)))))))))
   refine LH.cond (t := (if (!x18.Open) = true then ((decide ((x18.Found.length : Int) > 0)) || (x18.Open && (x18.Holder != 0))) else (x18.Open && (x18.Holder != 0)))) R (fun hc24 => ?_) (fun hc24 => ?_)
   ·replace h := iteT h hc24
    refine LH.seqT [(2, .I 8)] [] R (sAi R zS) (LH.ret (blockR (thenR (roundR (blockR (thenR ?_))))))
    obtain rfl := oI h
    exact retE (aT Tryz.results24) (lrT R (lr0 ⟨memN mN, R, prK R, Sub.rfl⟩))
   replace h := iteF h hc24
   refine LH.skip (blockN (thenN (LH.loneT [(0, .lst 6 (List.map GBag.lv p0)), (40, .lst 6 (List.map GBag.lv p0)), (41, .I (p0.length : Int)), (42, .I (i64 (n16 + 1)))] [] R (sN (oAdd R R (sMi R zS))) ?_)))
   exact roundI ⟨(i64 (n16 + 1)), hrec3 ▸ h, R, R⟩ (Wk.eq R R R R)
  replace h := iteF h hc17
  refine LH.exit (thenX (roundX (blockH (thenN (LH.wk (Wk.eq (el := [(0, .lst 6 (List.map GBag.lv p0))]) (ml := []) R R R R) (LH.seq (LH.seqT [(0, .lst 6 (List.map GBag.lv p0)), (9, .I 1)] [] R (sAi R zS) (LH.block (LH.loop (fun n e m => ∃ (n25 : Int), q45q F p0 n n25 = some r ∧ e = Env.of [(0, .lst 6 (List.map GBag.lv p0)), (9, .I n25)] ∧ m = Mem.of []) F ⟨1, h, R, R⟩ ?_)))))))))
  clear h
  rintro n e m ⟨n25, h, rfl, rfl⟩
  rcases n with _ | n
  · cases (show Option.none = some _ from h)
  obtain ⟨rec4, hrec4⟩ : ∃ f, f = q45q F p0 n := ⟨_, rfl⟩
  replace h : q78q F p0 rec4 n25 = some r := hrec4 ▸ h
  unfold q78q at h
  refine LH.seq (LH.seqT [(0, .lst 6 (List.map GBag.lv p0)), (9, .I n25), (68, .bool (decide (n25 < (p0.length : Int))))] [] R (sMi R (sMl R (sN (oLnL (f := GBag.lv) te27 R (sN (oLt R R zS)))))) (LH.cond (t := (decide (n25 < (p0.length : Int)))) R (fun hc26 => ?_) (fun hc26 => ?_)))
  ·replace h := iteT h hc26
   refine LH.skip (thenN (LH.wk (Wk.eq (el := [(0, .lst 6 (List.map GBag.lv p0)), (9, .I n25)]) (ml := []) R R R R) (LH.seq (LH.block ?_))))
   obtain ⟨x27, hx27, h⟩ := bindS h
   obtain ⟨x28, hx28, h⟩ := bindS h
   refine LH.seqJM mixed [] [0, 0, 0, 0, 0, 0, 0, 0, 0, 0, 0, 0] [(0, .lst 6 (List.map GBag.lv p0)), (9, .I n25), (82, .bool (decide (x27.Bag ≥ x28.Bag)))] [] R R (by kernel_rfl) (mMl R (mMi R (mN0 (oSub R R ⟨R, mN0 (oIx (f := GBag.lv) te27 tk43 ts43 R R GBag.ok hx27 R ⟨R, mN0 (oFaS tf43_0 tk3 ts3 R R R ⟨R, mN0 (oLd R tk3 ta3 ⟨R, mMl R (mMi R (mN0 (oIx (f := GBag.lv) te27 tk43 ts43 R R GBag.ok hx28 R ⟨R, mN0 (oFaS tf43_0 tk3 ts3 R R R ⟨R, mN0 (oLd R tk3 ta3 ⟨R, mN0 (oGe R R ⟨R, zM⟩)⟩)⟩)⟩)))⟩)⟩)⟩)⟩)))) (LH.cond (t := (decide (x27.Bag ≥ x28.Bag))) R (fun hc29 => ?_) (fun hc29 => ?_))
   ·replace h := iteT h hc29
    refine LH.seqT [(2, .I 5)] [] R (sAi R zS) (LH.ret (blockR (thenR (roundR (blockR (thenR ?_))))))
    obtain rfl := oI h
    exact retE (aT Tryz.results24) (lrT R (lr0 ⟨memN mN, R, prK R, Sub.rfl⟩))
   replace h := iteF h hc29
   refine LH.skip (blockN (thenN (LH.loneT [(0, .lst 6 (List.map GBag.lv p0)), (9, .I (i64 (n25 + 1)))] [] R (sMi R (sN (oAdd R R (sAi R zS)))) ?_)))
   exact roundI ⟨(i64 (n25 + 1)), hrec4 ▸ h, R, R⟩ (Wk.eq R R R R)
  replace h := iteF h hc26
  refine LH.exit (thenX (roundX (blockH (thenN (LH.wk (Wk.eq (el := [(0, .lst 6 (List.map GBag.lv p0))]) (ml := []) R R R R) (LH.seq ?_))))))
  obtain ⟨w31, hv, h⟩ := bindS h
  refine LH.seqT [(88, .bool w31)] [] R ?_ ?_
  ·refine sMl R ?_
   obtain ⟨r32, hr32, hv⟩ := bindS hv
   refine sN (oCP (args := [.lst 6 (List.map GBag.lv p0), .fn 43 []]) R isF42 R (sbR (sbR sbN)) (q213q (p1_f := 43) (p1_c := []) isF43 R (fun _ _ h => q192q h) hr32) R (sMb R ?_))
   by_cases hb33 : r32 = true
   ·replace hv := iteT hv hb33
    refine sF R R hb33 (sF R R hb33 (sN (oPkT (cB hb33) (v := (.bool _)) R ?_)))
    obtain rfl := oI hv
    exact zS
   ·replace hb33 := bF hb33
    replace hv := iteF hv hb33
    refine sT R (cB hb33) (oM (v := (.lst _ _)) R ?_)
    obtain ⟨r34, hr34, hv⟩ := bindS hv
    refine sT R (cB hb33) (oCP (args := [.lst 6 (List.map GBag.lv p0), .fn 44 []]) R isF42 R (sbR (sbR sbN)) (q213q (p1_f := 44) (p1_c := []) isF44 R (fun _ _ h => q212q h) hr34) R (sN (oPkF (cB hb33) (v := (.bool _)) R ?_)))
    obtain rfl := oI hv
    exact zS
  clear hv
  refine LH.cond (t := w31) R (fun hc35 => ?_) (fun hc35 => ?_)
  ·replace h := iteT h hc35
   refine LH.seqT [(2, .I 9)] [] R (sAi R zS) (LH.ret (thenR ?_))
   obtain rfl := oI h
   exact retE (aT Tryz.results24) (lrT R (lr0 ⟨memN mN, R, prK R, Sub.rfl⟩))
  replace h := iteF h hc35
  refine LH.skip (thenN (LH.seqT [(2, .I 0)] [] R (sAi R zS) (LH.ret ?_)))
  obtain rfl := oI h
  exact retE (aT Tryz.results24) (lrT R (lr0 ⟨memN mN, R, prK R, Sub.rfl⟩))

theorem q264q {F : Nat} {p0 : List GBag} {p1 : Gq0} {r : List GBag × Int} (h : q176q F p0 p1 = some r) : LCall Tryz.prog 27 [.lst 6 (List.map GBag.lv p0), Gq0.lv p1] (Mem.of []) (.tup [.lst 6 (List.map GBag.lv r.1), .I r.2]) (Mem.of []) := by
  unfold q176q at h
  refine bodyT Tryz.func27 R (nT Tryz.ntmps27 R) (LH.wk (Wk.eq (el := [(0, .lst 6 (List.map GBag.lv p0)), (1, Gq0.lv p1)]) (ml := []) R R R R) (LH.seqT [(0, .lst 6 (List.map GBag.lv p0)), (3, .sptr (Gq0.lv p1).cells)] [] R (sB (oBxR R R R R (sAn R (sAi R zS)))) (LH.seq ?_)))
  obtain ⟨r1, hr1, h⟩ := bindS h
  refine LH.seqT [(0, .lst 6 (List.map GBag.lv p0)), (3, .sptr (Gq0.lv p1).cells), (8, .bool (r1 != 0))] [] R (sMl R (sN (oCP (args := [.lst 6 (List.map GBag.lv p0)]) R isF24 R (sbR sbN) (q265q hr1) R (sN (oNe R R zS))))) (LH.cond (t := (r1 != 0)) R (fun hc2 => ?_) (fun hc2 => ?_))
  ·replace h := iteT h hc2
   refine LH.seqT [(4, .nil), (5, .I 1)] [] R (sAn R (sAi R zS)) (LH.ret (thenR ?_))
   obtain rfl := oI h
   exact retE (aT Tryz.results27) (lrT R (lrT R (lr0 ⟨memN mN, R, prK R, (Sub.tup (sbL (sbR sbN)))⟩)))
  replace h := iteF h hc2
  refine LH.skip (thenN ?_)
  obtain ⟨r3, hr3, h⟩ := bindS h
  refine LH.seqT [(4, .lst 6 (List.map GBag.lv r3.1)), (5, .I r3.2)] [] R (sMl R (sN (oLdA R tk52 ta52 ts52 R R (sN (oCP (args := [.lst 6 (List.map GBag.lv p0), Gq0.lv p1]) R isF34 R (sbR (sbR sbN)) (q242q hr3) R (sN (oEx R R (sN (oEx R R (sAl R (sAi R zS))))))))))) (LH.ret ?_)
  obtain rfl := oI h
  exact retE (aT Tryz.results27) (lrT R (lrT R (lr0 ⟨memN mN, R, prK R, (Sub.tup (sbR (sbR sbN)))⟩)))

theorem q239q {F : Nat} {p0 : List Int} {r : Bool} (h : q145q F p0 = some r) : LCall Tryz.prog 6 [.L p0] (Mem.of []) (.bool r) (Mem.of []) := by
  unfold q145q at h
  refine bodyT Tryz.func6 R (nT Tryz.ntmps6 R) (LH.wk (Wk.eq (el := [(0, .L p0)]) (ml := []) R R R R) (LH.seqT [(0, .L p0)] [] R (sAb R zS) ?_))
  obtain ⟨r1, hr1, h⟩ := bindS h
  refine LH.seqT [(3, .ptr 7 0)] [(7, .box [.L r1.L, .I r1.At])] R (sMl R (sN (oCM (args := [.L p0]) (ml := []) (ml' := [(7, .box [.L r1.L, .I r1.At])]) R isF7 R (sbR sbN) (q288q hr1) mN (newF R newN) R (sAp R zS)))) ?_
  obtain ⟨r2, hr2, h⟩ := bindS h
  refine LH.seqT [(3, .ptr 7 0), (4, .lst 6 (List.map GBag.lv r2.1))] [(7, .box [.L r2.2.L, .I r2.2.At])] R (sMp R (sN (oCM (args := [.ptr 7 0, .I 12]) (ml := [(7, .box [.L r1.L, .I r1.At])]) (ml' := [(7, .box [.L r2.2.L, .I r2.2.At])]) R isF15 R (sbR (sbR sbN)) (q281q hr2) (mC R mN) (newI R newN) R (sAl R zS)))) ?_
  obtain ⟨r3, hr3, h⟩ := bindS h
  refine LH.seqT [(3, .ptr 7 0), (4, .lst 6 (List.map GBag.lv r2.1)), (5, .lst 9 (List.map Gq0.lv r3.1))] [(7, .box [.L r3.2.L, .I r3.2.At])] R (sMp R (sN (oCM (args := [.ptr 7 0, .I 5, .I 2]) (ml := [(7, .box [.L r2.2.L, .I r2.2.At])]) (ml' := [(7, .box [.L r3.2.L, .I r3.2.At])]) R isF8 R (sbR (sbR (sbR sbN))) (Gq12 hr3) (mC R mN) (newI R newN) R (sAl R zS)))) (LH.seq (LH.seqT [(3, .ptr 7 0), (4, .lst 6 (List.map GBag.lv r2.1)), (5, .lst 9 (List.map Gq0.lv r3.1)), (6, .I 0)] [(7, .box [.L r3.2.L, .I r3.2.At])] R (sAi R zS) (LH.block (LH.loop (fun n e m => ∃ (n4 : Int) (l5 : List Int) (n6 : Int), q14q F r2 r3 n n4 l5 n6 = some r ∧ e = Env.of [(3, .ptr 7 0), (4, .lst 6 (List.map GBag.lv r2.1)), (5, .lst 9 (List.map Gq0.lv r3.1)), (6, .I n4)] ∧ m = Mem.of [(7, .box [.L l5, .I n6])]) F ⟨0, r3.2.L, r3.2.At, h, R, R⟩ ?_))))
  clear h
  rintro n e m ⟨n4, l5, n6, h, rfl, rfl⟩
  rcases n with _ | n
  · cases (show Option.none = some _ from h)
  obtain ⟨rec1, hrec1⟩ : ∃ f, f = q14q F r2 r3 n := ⟨_, rfl⟩
  replace h : q50q F r2 r3 rec1 n4 l5 n6 = some r := hrec1 ▸ h
  unfold q50q at h
  refine LH.seq (LH.seqT [(3, .ptr 7 0), (4, .lst 6 (List.map GBag.lv r2.1)), (5, .lst 9 (List.map Gq0.lv r3.1)), (6, .I n4), (22, .bool (decide (n4 < (r3.1.length : Int))))] [(7, .box [.L l5, .I n6])] R (sMi R (sMl R (sN (oLnL (f := Gq0.lv) te25 R (sN (oLt R R zS)))))) (LH.cond (t := (decide (n4 < (r3.1.length : Int)))) R (fun hc7 => ?_) (fun hc7 => ?_)))
  ·replace h := iteT h hc7
   refine LH.skip (thenN (LH.wk (Wk.eq (el := [(3, .ptr 7 0), (4, .lst 6 (List.map GBag.lv r2.1)), (5, .lst 9 (List.map Gq0.lv r3.1)), (6, .I n4)]) (ml := [(7, .box [.L l5, .I n6])]) R R R R) (LH.seq (LH.block ?_))))
   obtain ⟨x8, hx8, h⟩ := bindS h
   refine LH.seqT [(3, .ptr 7 0), (4, .lst 6 (List.map GBag.lv r2.1)), (5, .lst 9 (List.map Gq0.lv r3.1)), (6, .I n4), (7, .ptr 107 0)] [(7, .box [.L l5, .I n6]), (107, .box (Gq0.lv x8).cells)] R (sMl R (sMi R (sN (oIx (f := Gq0.lv) te25 tk52 ts52 R R Gq0.ok hx8 R (sN (oLdA R tk52 ta52 ts52 R R (sN (oAl (id := 107) R tz52 R R (s_ (oSt R R R tk52 ts52 R R R zS)))))))))) (LH.mid (fun e m => ∃ (n9 : Int) (n10 : Int) (n11 : Int) (l12 : List Int) (n13 : Int), q28q rec1 F r2 n4 x8 n9 n10 n11 l12 n13 = some r ∧ Wk (fun id => Mem.of [] id ≠ .none) e m (Env.of [(3, .ptr 7 0), (4, .lst 6 (List.map GBag.lv r2.1)), (5, .lst 9 (List.map Gq0.lv r3.1)), (6, .I n4), (7, .sptr [.I x8.Stamp.Time, .I x8.Stamp.Source, .I x8.Stamp.Seq, .I x8.Kind, .I n9, .I n10, .I n11, .I x8.To, .L x8.Candidates])]) (Mem.of [(7, .box [.L l12, .I n13])])) ?_ ?_)
   ·obtain ⟨w24, hv, h⟩ := bindS h
    refine LH.seqT [(3, .ptr 7 0), (4, .lst 6 (List.map GBag.lv r2.1)), (5, .lst 9 (List.map Gq0.lv r3.1)), (6, .I n4), (7, .ptr 107 0), (36, .bool w24.1)] [(7, .box [.L w24.2.1, .I w24.2.2]), (107, .box (Gq0.lv x8).cells)] R ?_ ?_
    ·refine sMl R (sN (oLnL (f := GBag.lv) te27 R (sN (oGt R R (sMb R ?_)))))
     by_cases hb25 : (decide ((r2.1.length : Int) > 0)) = true
     ·replace hv := iteT hv hb25
      refine sT R (cB hb25) (oM (v := (.ptr _ _)) R ?_)
      obtain ⟨r26, hr26, hv⟩ := bindS hv
      refine sT R (cB hb25) (oCM (args := [.ptr 7 0, .I 3]) (ml := [(7, .box [.L l5, .I n6])]) (ml' := [(7, .box [.L r26.2.L, .I r26.2.At])]) R isF26 R (sbR (sbR sbN)) (Gq14 hr26) (mC R mN) (newI R newN) R (sT R (cB hb25) (oGt R R (sN (oPkT (cB hb25) (v := (.bool _)) R ?_)))))
      obtain rfl := oI hv
      exact zS
     ·replace hb25 := bF hb25
      replace hv := iteF hv hb25
      refine sF R R hb25 (sF R R hb25 (sF R R hb25 (sN (oPkF (cB hb25) (v := (.bool _)) R ?_))))
      obtain rfl := oI hv
      exact zS
    clear hv
    refine LH.cond (t := w24.1) R (fun hc27 => ?_) (fun hc27 => ?_)
    ·replace h := iteT h hc27
     obtain ⟨r28, hr28, h⟩ := bindS h
     obtain ⟨x29, hx29, h⟩ := bindS h
     refine LH.seqT [(3, .ptr 7 0), (4, .lst 6 (List.map GBag.lv r2.1)), (5, .lst 9 (List.map Gq0.lv r3.1)), (6, .I n4), (7, .ptr 107 0), (8, .sptr (GBag.lv x29).cells)] [(7, .box [.L r28.2.L, .I r28.2.At]), (107, .box (Gq0.lv x8).cells)] R (sMl R (sMp R (sMl R (sN (oLnL (f := GBag.lv) te27 R (sN (oCM (args := [.ptr 7 0, .I (r2.1.length : Int)]) (ml := [(7, .box [.L w24.2.1, .I w24.2.2])]) (ml' := [(7, .box [.L r28.2.L, .I r28.2.At])]) R isF26 R (sbR (sbR sbN)) (Gq14 hr28) (mC R mN) (newI R newN) R (sN (oIx (f := GBag.lv) te27 tk43 ts43 R R GBag.ok hx29 R (sN (oLdA R tk43 ta43 ts43 R R (sN (oAl (id := 108) R tz43 R R (s_ (oSt R R R tk43 ts43 R R R (s0 ((Wk.trans (Wk.eq (el := [(3, .ptr 7 0), (4, .lst 6 (List.map GBag.lv r2.1)), (5, .lst 9 (List.map Gq0.lv r3.1)), (6, .I n4), (7, .ptr 107 0), (8, .ptr 108 0)]) (ml := [(7, .box [.L r28.2.L, .I r28.2.At]), (107, .box (Gq0.lv x8).cells), (108, .box (GBag.lv x29).cells)]) R R R R) (Wk.trans (Wk.frzB 108 (GBag.lv x29).cells R R R (prN R)) (Wk.eq R R R R)))))))))))))))))))) (LH.seqJM mixed [] [0, 0, 0, 0, 0, 100107, 0, 100107] [(3, .ptr 7 0), (4, .lst 6 (List.map GBag.lv r2.1)), (5, .lst 9 (List.map Gq0.lv r3.1)), (6, .I n4), (7, .ptr 107 0), (8, .sptr (GBag.lv x29).cells)] [(7, .box [.L r28.2.L, .I r28.2.At]), (107, .box [.I x8.Stamp.Time, .I x8.Stamp.Source, .I x8.Stamp.Seq, .I x8.Kind, .I x29.Bag, .I x8.Seal, .I x29.Holder, .I x8.To, .L x8.Candidates])] R R (by kernel_rfl) (mN0 (oFaS tf43_0 tk3 ts3 R R R ⟨R, mN0 (oLd R tk3 ta3 ⟨R, mN0 (oFaS tf43_1 tk3 ts3 R R R ⟨R, mN0 (oLd R tk3 ta3 ⟨R, mN0 (oFa tf52_2 tk3 ts3 R R ⟨R, mS R R R (fun _ b _ d => oSt R R R tk3 ts3 b R R d) (mN0 (oFa tf52_4 tk3 ts3 R R ⟨R, mS R R R (fun _ b _ d => oSt R R R tk3 ts3 b R R d) zM⟩))⟩)⟩)⟩)⟩)⟩)) ?_)
     obtain ⟨w33, hv, h⟩ := bindS h
     refine LH.seqT [(3, .ptr 7 0), (4, .lst 6 (List.map GBag.lv r2.1)), (5, .lst 9 (List.map Gq0.lv r3.1)), (6, .I n4), (7, .ptr 107 0), (8, .sptr (GBag.lv x29).cells), (58, .bool w33.1)] [(7, .box [.L w33.2.1, .I w33.2.2]), (107, .box [.I x8.Stamp.Time, .I x8.Stamp.Source, .I x8.Stamp.Seq, .I x8.Kind, .I x29.Bag, .I x8.Seal, .I x29.Holder, .I x8.To, .L x8.Candidates])] R ?_ ?_
     ·refine sN (oFaS tf43_3 tk22 ts22 R R R (sN (oLd R tk22 ta22 (sN (oLnL (f := LV.I) te22 R (sN (oGt R R (sMb R ?_))))))))
      by_cases hb34 : (decide ((x29.Seals.length : Int) > 0)) = true
      ·replace hv := iteT hv hb34
       refine sT R (cB hb34) (oM (v := (.ptr _ _)) R ?_)
       obtain ⟨r35, hr35, hv⟩ := bindS hv
       refine sT R (cB hb34) (oCM (args := [.ptr 7 0, .I 3]) (ml := [(7, .box [.L r28.2.L, .I r28.2.At])]) (ml' := [(7, .box [.L r35.2.L, .I r35.2.At])]) R isF26 R (sbR (sbR sbN)) (Gq14 hr35) (mC R mN) (newI R newN) R (sT R (cB hb34) (oGt R R (sN (oPkT (cB hb34) (v := (.bool _)) R ?_)))))
       obtain rfl := oI hv
       exact zS
      ·replace hb34 := bF hb34
       replace hv := iteF hv hb34
       refine sF R R hb34 (sF R R hb34 (sF R R hb34 (sN (oPkF (cB hb34) (v := (.bool _)) R ?_))))
       obtain rfl := oI hv
       exact zS
     clear hv
     refine LH.cond (t := w33.1) R (fun hc36 => ?_) (fun hc36 => ?_)
     ·replace h := iteT h hc36
      obtain ⟨x37, hx37, h⟩ := bindS h
      exact LH.loneT [(3, .ptr 7 0), (4, .lst 6 (List.map GBag.lv r2.1)), (5, .lst 9 (List.map Gq0.lv r3.1)), (6, .I n4), (7, .sptr [.I x8.Stamp.Time, .I x8.Stamp.Source, .I x8.Stamp.Seq, .I x8.Kind, .I x29.Bag, .I x37, .I x29.Holder, .I x8.To, .L x8.Candidates])] [(7, .box [.L w33.2.1, .I w33.2.2])] R (sN (oFaS tf43_3 tk22 ts22 R R R (sN (oLd R tk22 ta22 (sN (oFaS tf43_3 tk22 ts22 R R R (sN (oLd R tk22 ta22 (sN (oLnL (f := LV.I) te22 R (sN (oSub R R (sN (oIx (f := LV.I) te22 tk3 ts3 R R okI hx37 R (sN (oLd R tk3 ta3 (sN (oFa tf52_3 tk3 ts3 R R (s_ (oSt R R R tk3 ts3 R R R (s0 ((Wk.trans (Wk.eq (el := [(3, .ptr 7 0), (4, .lst 6 (List.map GBag.lv r2.1)), (5, .lst 9 (List.map Gq0.lv r3.1)), (6, .I n4), (7, .ptr 107 0)]) (ml := [(7, .box [.L w33.2.1, .I w33.2.2]), (107, .box [.I x8.Stamp.Time, .I x8.Stamp.Source, .I x8.Stamp.Seq, .I x8.Kind, .I x29.Bag, .I x37, .I x29.Holder, .I x8.To, .L x8.Candidates])]) R R R R) (Wk.trans (Wk.frzB 107 [.I x8.Stamp.Time, .I x8.Stamp.Source, .I x8.Stamp.Seq, .I x8.Kind, .I x29.Bag, .I x37, .I x29.Holder, .I x8.To, .L x8.Candidates] R R R (prN R)) (Wk.eq R R R R))))))))))))))))))))))))) (thenN ⟨x29.Bag, x37, x29.Holder, w33.2.1, w33.2.2, h, Wk.eq R R R R⟩)
     replace h := iteF h hc36
     exact LH.skip (thenN ⟨x29.Bag, x8.Seal, x29.Holder, w33.2.1, w33.2.2, h, (Wk.trans (Wk.eq (el := [(3, .ptr 7 0), (4, .lst 6 (List.map GBag.lv r2.1)), (5, .lst 9 (List.map Gq0.lv r3.1)), (6, .I n4), (7, .ptr 107 0)]) (ml := [(7, .box [.L w33.2.1, .I w33.2.2]), (107, .box [.I x8.Stamp.Time, .I x8.Stamp.Source, .I x8.Stamp.Seq, .I x8.Kind, .I x29.Bag, .I x8.Seal, .I x29.Holder, .I x8.To, .L x8.Candidates])]) R R R R) (Wk.trans (Wk.frzB 107 [.I x8.Stamp.Time, .I x8.Stamp.Source, .I x8.Stamp.Seq, .I x8.Kind, .I x29.Bag, .I x8.Seal, .I x29.Holder, .I x8.To, .L x8.Candidates] R R R (prN R)) (Wk.eq R R R R)))⟩)
    replace h := iteF h hc27
    exact LH.skip (thenN ⟨x8.Bag, x8.Seal, x8.From, w24.2.1, w24.2.2, h, (Wk.trans (Wk.eq (el := [(3, .ptr 7 0), (4, .lst 6 (List.map GBag.lv r2.1)), (5, .lst 9 (List.map Gq0.lv r3.1)), (6, .I n4), (7, .ptr 107 0)]) (ml := [(7, .box [.L w24.2.1, .I w24.2.2]), (107, .box (Gq0.lv x8).cells)]) R R R R) (Wk.trans (Wk.frzB 107 (Gq0.lv x8).cells R R R (prN R)) (Wk.eq R R R R)))⟩)
   clear h
   rintro e m ⟨n9, n10, n11, l12, n13, h, hw⟩
   refine LH.wk hw ?_
   clear hw
   unfold q28q at h
   obtain ⟨r14, hr14, h⟩ := bindS h
   refine LH.seqT [(3, .ptr 7 0), (4, .lst 6 (List.map GBag.lv r2.1)), (5, .lst 9 (List.map Gq0.lv r3.1)), (6, .I n4), (7, .sptr [.I x8.Stamp.Time, .I x8.Stamp.Source, .I x8.Stamp.Seq, .I x8.Kind, .I n9, .I n10, .I n11, .I x8.To, .L x8.Candidates]), (9, .lst 6 (List.map GBag.lv r14.1)), (10, .I r14.2)] [(7, .box [.L l12, .I n13])] R (sMl R (sN (oLdA R tk52 ta52 ts52 R R (sN (oCP (args := [.lst 6 (List.map GBag.lv r2.1), .agg [.I x8.Stamp.Time, .I x8.Stamp.Source, .I x8.Stamp.Seq, .I x8.Kind, .I n9, .I n10, .I n11, .I x8.To, .L x8.Candidates]]) R isF27 R (sbR (sbR sbN)) (q264q hr14) R (sMt R (sN (oEx R R (sN (oEx R R (sAl R (sAi R zS)))))))))))) ?_
   obtain ⟨r15, hr15, h⟩ := bindS h
   refine LH.seqT [(3, .ptr 7 0), (4, .lst 6 (List.map GBag.lv r2.1)), (5, .lst 9 (List.map Gq0.lv r3.1)), (6, .I n4), (9, .lst 6 (List.map GBag.lv r14.1)), (10, .I r14.2), (11, .lst 6 (List.map GBag.lv r15.1)), (12, .I r15.2)] [(7, .box [.L l12, .I n13])] R (sMl R (sN (oLdA R tk52 ta52 ts52 R R (sN (oCP (args := [.lst 6 (List.map GBag.lv r2.1), .agg [.I x8.Stamp.Time, .I x8.Stamp.Source, .I x8.Stamp.Seq, .I x8.Kind, .I n9, .I n10, .I n11, .I x8.To, .L x8.Candidates]]) R isF28 R (sbR (sbR sbN)) (q247q hr15) R (sMt R (sN (oEx R R (sN (oEx R R (sAl R (sAi R zS)))))))))))) ?_
   obtain ⟨w17, hv, h⟩ := bindS h
   refine LH.seqT [(3, .ptr 7 0), (4, .lst 6 (List.map GBag.lv r2.1)), (5, .lst 9 (List.map Gq0.lv r3.1)), (6, .I n4), (88, .bool w17)] [(7, .box [.L l12, .I n13])] R ?_ ?_
   ·refine sMl R (sMl R ?_)
    obtain ⟨r18, hr18, hv⟩ := bindS hv
    refine sN (oCP (args := [.lst 6 (List.map GBag.lv r14.1), .lst 6 (List.map GBag.lv r15.1)]) R isF11 R (sbR (sbR sbN)) (q261q hr18) R (sN (oNot R (sMb R ?_))))
    by_cases hb19 : (!r18) = true
    ·replace hv := iteT hv hb19
     refine sF R R hb19 (sF R R hb19 (sF R R hb19 (sN (oPkT (cB hb19) (v := (.bool _)) R ?_))))
     obtain rfl := oI hv
     exact zS
    ·replace hb19 := bF hb19
     replace hv := iteF hv hb19
     refine sT R (cB hb19) (oM (v := (.int _ _)) R (sT R (cB hb19) (oM (v := (.int _ _)) R (sT R (cB hb19) (oNe R R (sN (oPkF (cB hb19) (v := (.bool _)) R ?_)))))))
     obtain rfl := oI hv
     exact zS
   clear hv
   refine LH.cond (t := w17) R (fun hc20 => ?_) (fun hc20 => ?_)
   ·replace h := iteT h hc20
    refine LH.seqT [(2, .bool false)] [] R (sAb R zS) (LH.ret (blockR (thenR (roundR (blockR (thenR ?_))))))
    obtain rfl := oI h
    exact retE (aT Tryz.results6) (lrT R (lr0 ⟨memN mN, R, prK R, Sub.rfl⟩))
   replace h := iteF h hc20
   refine LH.skip (blockN (thenN (LH.loneT [(3, .ptr 7 0), (4, .lst 6 (List.map GBag.lv r2.1)), (5, .lst 9 (List.map Gq0.lv r3.1)), (6, .I (i64 (n4 + 1)))] [(7, .box [.L l12, .I n13])] R (sMi R (sN (oAdd R R (sAi R zS)))) ?_)))
   exact roundI ⟨(i64 (n4 + 1)), l12, n13, hrec1 ▸ h, R, R⟩ (Wk.eq R R R R)
  replace h := iteF h hc7
  refine LH.exit (thenX (roundX (blockH (thenN ?_))))
  obtain ⟨r38, hr38, h⟩ := bindS h
  refine LH.seqT [(2, .bool r38)] [] R (sN (oCP (args := []) R isF14 R sbN (q278q hr38) R (sAb R zS))) (LH.ret ?_)
  obtain rfl := oI h
  exact retE (aT Tryz.results6) (lrT R (lr0 ⟨memN mN, R, prK R, Sub.rfl⟩))

end Go.Proofs.YtdjkbicmkbnjdaaGreat
