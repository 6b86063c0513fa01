import Derived.Test.YtdjkbicmkbnjdaaGreatZW3
set_option linter.unusedVariables false
set_option linter.unusedSimpArgs false
set_option maxRecDepth 100000
namespace Go.Proofs.YtdjkbicmkbnjdaaGreat
open Go.L Go.Sh
theorem q259q {F : Nat} {p0 : GBag} {p1 : GBag} {r : Bool} (h : q170q F p0 p1 = some r) : LCall Tryz.prog 22 [GBag.lv p0, GBag.lv p1] (Mem.of []) (.bool r) (Mem.of []) := by
  unfold q170q at h
  refine bodyT Tryz.func22 R (nT Tryz.ntmps22 R) (LH.wk (Wk.eq (el := [(0, GBag.lv p0), (1, GBag.lv p1)]) (ml := []) R R R R) (LH.seqT [(2, .sptr (GBag.lv p0).cells), (3, .sptr (GBag.lv p1).cells)] [] R (sB (oBxR R R R R (sB (oBxR R R R R (sAb R zS))))) ?_))
  obtain ⟨w2, hv, h⟩ := bindS h
  refine LH.seqT [(4, .bool w2)] [] R ?_ ?_
  ·refine sN (oFaS tf43_0 tk3 ts3 R R R (sN (oLd R tk3 ta3 (sN (oFaS tf43_0 tk3 ts3 R R R (sN (oLd R tk3 ta3 (sN (oEq R R (sMb R ?_))))))))))
   by_cases hb3 : (p0.Bag == p1.Bag) = true
   ·replace hv := iteT hv hb3
    refine sT R (cB hb3) (oFaS tf43_1 tk3 ts3 R R R (sT R (cB hb3) (oLd R tk3 ta3 (sT R (cB hb3) (oFaS tf43_1 tk3 ts3 R R R (sT R (cB hb3) (oLd R tk3 ta3 (sT R (cB hb3) (oEq R R (sN (oPkT (cB hb3) (v := (.bool _)) R (sMb R ?_))))))))))))
    by_cases hb4 : (p0.Holder == p1.Holder) = true
    ·replace hv := iteT hv hb4
     refine sT R (cB hb4) (oFaS tf43_2 tk4 ts4 R R R (sT R (cB hb4) (oLd R tk4 ta4 (sT R (cB hb4) (oFaS tf43_2 tk4 ts4 R R R (sT R (cB hb4) (oLd R tk4 ta4 (sT R (cB hb4) (oEqB R R tb4 (sN (oPkT (cB hb4) (v := (.bool _)) R (sMb R ?_))))))))))))
     by_cases hb5 : (p0.Open == p1.Open) = true
     ·replace hv := iteT hv hb5
      refine sT R (cB hb5) (oFaS tf43_3 tk22 ts22 R R R (sT R (cB hb5) (oLd R tk22 ta22 (sT R (cB hb5) (oFaS tf43_3 tk22 ts22 R R R (sT R (cB hb5) (oLd R tk22 ta22 ?_)))))))
      obtain ⟨r6, hr6, hv⟩ := bindS hv
      refine sT R (cB hb5) (oCP (args := [.L p0.Seals, .L p1.Seals]) R isF19 R (sbR (sbR sbN)) (q47q hr6) R (sN (oPkT (cB hb5) (v := (.bool _)) R (sMb R ?_))))
      by_cases hb7 : r6 = true
      ·replace hv := iteT hv hb7
       refine sT R (cB hb7) (oFaS tf43_4 tk22 ts22 R R R (sT R (cB hb7) (oLd R tk22 ta22 (sT R (cB hb7) (oFaS tf43_4 tk22 ts22 R R R (sT R (cB hb7) (oLd R tk22 ta22 ?_)))))))
       obtain ⟨r8, hr8, hv⟩ := bindS hv
       refine sT R (cB hb7) (oCP (args := [.L p0.Packed, .L p1.Packed]) R isF19 R (sbR (sbR sbN)) (q47q hr8) R (sN (oPkT (cB hb7) (v := (.bool _)) R (sMb R ?_))))
       by_cases hb9 : r8 = true
       ·replace hv := iteT hv hb9
        refine sT R (cB hb9) (oFaS tf43_5 tk22 ts22 R R R (sT R (cB hb9) (oLd R tk22 ta22 (sT R (cB hb9) (oFaS tf43_5 tk22 ts22 R R R (sT R (cB hb9) (oLd R tk22 ta22 ?_)))))))
        obtain ⟨r10, hr10, hv⟩ := bindS hv
        refine sT R (cB hb9) (oCP (args := [.L p0.Found, .L p1.Found]) R isF19 R (sbR (sbR sbN)) (q47q hr10) R (sN (oPkT (cB hb9) (v := (.bool _)) R (sAb R ?_))))
        obtain rfl := oI hv
        exact zS
       ·replace hb9 := bF hb9
        replace hv := iteF hv hb9
        refine sF R R hb9 (sF R R hb9 (sF R R hb9 (sF R R hb9 (sF R R hb9 (sN (oPkF (cB hb9) (v := (.bool _)) R (sAb R ?_)))))))
        obtain rfl := oI hv
        exact zS
      ·replace hb7 := bF hb7
       replace hv := iteF hv hb7
       refine sF R R hb7 (sF R R hb7 (sF R R hb7 (sF R R hb7 (sF R R hb7 (sN (oPkF (cB hb7) (v := (.bool _)) R (sMb R (sF R R R (sF R R R (sF R R R (sF R R R (sF R R R (sN (oPkF R (v := (.bool _)) R (sAb R ?_)))))))))))))))
       obtain rfl := oI hv
       exact zS
     ·replace hb5 := bF hb5
      replace hv := iteF hv hb5
      refine sF R R hb5 (sF R R hb5 (sF R R hb5 (sF R R hb5 (sF R R hb5 (sN (oPkF (cB hb5) (v := (.bool _)) R (sMb R (sF R R R (sF R R R (sF R R R (sF R R R (sF R R R (sN (oPkF R (v := (.bool _)) R (sMb R (sF R R R (sF R R R (sF R R R (sF R R R (sF R R R (sN (oPkF R (v := (.bool _)) R (sAb R ?_)))))))))))))))))))))))
      obtain rfl := oI hv
      exact zS
    ·replace hb4 := bF hb4
     replace hv := iteF hv hb4
     refine sF R R hb4 (sF R R hb4 (sF R R hb4 (sF R R hb4 (sF R R hb4 (sN (oPkF (cB hb4) (v := (.bool _)) R (sMb R (sF R R R (sF R R R (sF R R R (sF R R R (sF R R R (sN (oPkF R (v := (.bool _)) R (sMb R (sF R R R (sF R R R (sF R R R (sF R R R (sF R R R (sN (oPkF R (v := (.bool _)) R (sMb R (sF R R R (sF R R R (sF R R R (sF R R R (sF R R R (sN (oPkF R (v := (.bool _)) R (sAb R ?_)))))))))))))))))))))))))))))))
     obtain rfl := oI hv
     exact zS
   ·replace hb3 := bF hb3
    replace hv := iteF hv hb3
    refine sF R R hb3 (sF R R hb3 (sF R R hb3 (sF R R hb3 (sF R R hb3 (sN (oPkF (cB hb3) (v := (.bool _)) R (sMb R (sF R R R (sF R R R (sF R R R (sF R R R (sF R R R (sN (oPkF R (v := (.bool _)) R (sMb R (sF R R R (sF R R R (sF R R R (sF R R R (sF R R R (sN (oPkF R (v := (.bool _)) R (sMb R (sF R R R (sF R R R (sF R R R (sF R R R (sF R R R (sN (oPkF R (v := (.bool _)) R (sMb R (sF R R R (sF R R R (sF R R R (sF R R R (sF R R R (sN (oPkF R (v := (.bool _)) R (sAb R ?_)))))))))))))))))))))))))))))))))))))))
    obtain rfl := oI hv
    exact zS
  clear hv
  refine LH.ret ?_
  obtain rfl := oI h
  exact retE (aT Tryz.results22) (lrT R (lr0 ⟨memN mN, R, prK R, Sub.rfl⟩))

set_option maxHeartbeats 4000000 in
theorem q278q {F : Nat} {p0 : GTape} {p1 : Int} {r : List GBag × GTape} (h : q200q F p0 p1 = some r) : LCall Tryz.prog 15 [.ptr 7 0, .I p1] (Mem.of [(7, .box [.L p0.L, .I p0.At])]) (.lst 6 (List.map GBag.lv r.1)) (Mem.of [(7, .box [.L r.2.L, .I r.2.At])]) := by
  unfold q200q at h
  refine bodyT Tryz.func15 R (nT Tryz.ntmps15 R) (LH.wk (Wk.eq (el := [(0, .ptr 7 0), (1, .I p1)]) (ml := [(7, .box [.L p0.L, .I p0.At])]) R R R R) (LH.seqT [(0, .ptr 7 0), (1, .I p1)] [(7, .box [.L p0.L, .I p0.At])] R (sAn R zS) ?_))
  obtain ⟨r1, hr1, h⟩ := bindS h
  obtain ⟨r2, hr2, h⟩ := bindS h
  refine LH.seqT [(0, .ptr 7 0), (1, .I p1), (5, .lst 6 (List.map GBag.lv r2.1))] [(7, .box [.L r1.2.L, .I r1.2.At])] R (sMp R (sN (oCM (args := [.ptr 7 0, .I 10, .I 0]) (ml := [(7, .box [.L p0.L, .I p0.At])]) (ml' := [(7, .box [.L r1.2.L, .I r1.2.At])]) R isF8 R (sbR (sbR (sbR sbN))) (Gq12 hr1) (mC R mN) (newI R newN) R (sN (oCP (args := [.lst 9 (List.map Gq0.lv r1.1), .I 100]) R isF10 R (sbR (sbR sbN)) (q280q hr2) R (sMt R (sN (oEx R R (sN (oEx R R (sN (oEx R R (sAl R (sAl R (sAi R zS))))))))))))))) (LH.seq ?_)
  obtain ⟨w6, hv, h⟩ := bindS h
  refine LH.seqT [(0, .ptr 7 0), (5, .lst 6 (List.map GBag.lv r2.1)), (30, .bool w6.1)] [(7, .box [.L w6.2.1, .I w6.2.2])] R ?_ ?_
  ·refine sMi R (sN (oEq R R (sMb R ?_)))
   by_cases hb7 : (p1 == 0) = true
   ·replace hv := iteT hv hb7
    refine sF R R hb7 (sF R R hb7 (sF R R hb7 (sF R R hb7 (sN (oPkT (cB hb7) (v := (.bool _)) R (sMb R (sF R R R (sF R R R (sF R R R (sN (oPkT R (v := (.bool _)) R ?_)))))))))))
    obtain rfl := oI hv
    exact zS
   ·replace hb7 := bF hb7
    replace hv := iteF hv hb7
    refine sT R (cB hb7) (oM (v := (.ptr _ _)) R (sT R (cB hb7) (oM (v := (.int _ _)) R ?_)))
    obtain ⟨r8, hr8, hv⟩ := bindS hv
    refine sT R (cB hb7) (oCM (args := [.ptr 7 0, .I p1]) (ml := [(7, .box [.L r1.2.L, .I r1.2.At])]) (ml' := [(7, .box [.L r8.2.L, .I r8.2.At])]) R isF31 R (sbR (sbR sbN)) (Gq20 hr8) (mC R mN) (newI R newN) R (sT R (cB hb7) (oNot R (sN (oPkF (cB hb7) (v := (.bool _)) R (sMb R ?_))))))
    by_cases hb9 : (!r8.1) = true
    ·replace hv := iteT hv hb9
     refine sF R R hb9 (sF R R hb9 (sF R R hb9 (sN (oPkT (cB hb9) (v := (.bool _)) R ?_))))
     obtain rfl := oI hv
     exact zS
    ·replace hb9 := bF hb9
     replace hv := iteF hv hb9
     refine sT R (cB hb9) (oM (v := (.lst _ _)) R (sT R (cB hb9) (oLnL (f := GBag.lv) te27 R (sT R (cB hb9) (oEq R R (sN (oPkF (cB hb9) (v := (.bool _)) R ?_)))))))
     obtain rfl := oI hv
     exact zS
  clear hv
  refine LH.cond (t := w6.1) R (fun hc10 => ?_) (fun hc10 => ?_)
  ·replace h := iteT h hc10
   refine LH.seqT [(4, .lst 6 (List.map GBag.lv r2.1))] [(7, .box [.L w6.2.1, .I w6.2.2])] R (sMl R (sAl R zS)) (LH.ret (thenR ?_))
   obtain rfl := oI h
   exact retE (aT Tryz.results15) (lrT R (lr0 ⟨memN (mC R mN), R, prK R, Sub.rfl⟩))
  replace h := iteF h hc10
  refine LH.skip (thenN (LH.seqT [(0, .ptr 7 0), (5, .lst 6 (List.map GBag.lv r2.1)), (8, .nil)] [(7, .box [.L w6.2.1, .I w6.2.2])] R (sAn R zS) ?_))
  obtain ⟨v11, hv11, h⟩ := bindS h
  refine LH.seqT [(0, .ptr 7 0), (8, .arr 134 (List.length v11))] [(7, .box [.L w6.2.1, .I w6.2.2]), (134, .arr 43 6 (List.map GBag.lv v11))] R (sMn R (sMl R (sN (oApN (f := GBag.lv) (id := 134) R te27 tr43 ts43 R R hv11 R (sAa R zS))))) ?_
  obtain ⟨r12, hr12, h⟩ := bindS h
  refine LH.seqT [(0, .ptr 7 0), (8, .arr 134 (List.length v11)), (9, .I r12.1)] [(7, .box [.L r12.2.L, .I r12.2.At]), (134, .arr 43 6 (List.map GBag.lv v11))] R (sMp R (sMa R (sN (oLnA (f := GBag.lv) te27 R R (sN (oCM (args := [.ptr 7 0, .I (v11.length : Int)]) (ml := [(7, .box [.L w6.2.1, .I w6.2.2])]) (ml' := [(7, .box [.L r12.2.L, .I r12.2.At])]) R isF26 R (sbR (sbR sbN)) (Gq18 hr12) (mC R mN) (newI R newN) R (sAi R zS))))))) ?_
  obtain ⟨x13, hx13, h⟩ := bindS h
  refine LH.seqT [(0, .ptr 7 0), (8, .arr 134 (List.length v11)), (9, .I r12.1), (10, .ptr 110 0)] [(7, .box [.L r12.2.L, .I r12.2.At]), (110, .box (GBag.lv x13).cells), (134, .arr 43 6 (List.map GBag.lv v11))] R (sMa R (sMi R (sN (oIxA (f := GBag.lv) te27 tk43 ts43 R R R hx13 (sN (oLdEA (f := GBag.lv) R R (idxOk hx13).2 R R tk43 ta43 ts43 R R (sN (oAl (id := 110) R tz43 R R (s_ (oSt R R R tk43 ts43 R R R zS)))))))))) (LH.seq ?_)
  obtain ⟨r14, hr14, h⟩ := bindS h
  refine LH.seqT [(0, .ptr 7 0), (8, .arr 134 (List.length v11)), (9, .I r12.1), (10, .ptr 110 0), (44, .I r14.1)] [(7, .box [.L r14.2.L, .I r14.2.At]), (110, .box (GBag.lv x13).cells), (134, .arr 43 6 (List.map GBag.lv v11))] R (sMp R (sN (oCM (args := [.ptr 7 0, .I 8]) (ml := [(7, .box [.L r12.2.L, .I r12.2.At])]) (ml' := [(7, .box [.L r14.2.L, .I r14.2.At])]) R isF26 R (sbR (sbR sbN)) (Gq18 hr14) (mC R mN) (newI R newN) R zS))) (LH.block (LH.seqT [(0, .ptr 7 0), (8, .arr 134 (List.length v11)), (9, .I r12.1), (10, .ptr 110 0), (44, .I r14.1), (49, .bool (r14.1 == 0))] [(7, .box [.L r14.2.L, .I r14.2.At]), (110, .box (GBag.lv x13).cells), (134, .arr 43 6 (List.map GBag.lv v11))] R (sN (oEq R R (sAb R zS))) (LH.cond (t := (r14.1 == 0)) R (fun hc15 => ?_) (fun hc15 => ?_))))
  ·replace h := iteT h hc15
   obtain ⟨r16, hr16, h⟩ := bindS h
   refine LH.loneT [(8, .arr 134 (List.length v11)), (9, .I r12.1), (10, .sptr [.I r16.1, .I x13.Holder, .bool x13.Open, .L x13.Seals, .L x13.Packed, .L x13.Found])] [(7, .box [.L r16.2.L, .I r16.2.At]), (134, .arr 43 6 (List.map GBag.lv v11))] R (sMp R (sN (oBS (f := LV.I) (ys := [(-1), 0, 1, 10000]) te22 tr3 ts3 R R R okI (sN (oCM (args := [.ptr 7 0, .L [(-1), 0, 1, 10000]]) (ml := [(7, .box [.L r14.2.L, .I r14.2.At])]) (ml' := [(7, .box [.L r16.2.L, .I r16.2.At])]) R isF29 R (sbR (sbR sbN)) (Gq22 hr16) (mC R mN) (newI R newN) R (sN (oFa tf43_0 tk3 ts3 R R (s_ (oSt R R R tk3 ts3 R R R (s0 ((Wk.trans (Wk.eq (el := [(8, .arr 134 (List.length v11)), (9, .I r12.1), (10, .ptr 110 0)]) (ml := [(7, .box [.L r16.2.L, .I r16.2.At]), (110, .box [.I r16.1, .I x13.Holder, .bool x13.Open, .L x13.Seals, .L x13.Packed, .L x13.Found]), (134, .arr 43 6 (List.map GBag.lv v11))]) R R R R) (Wk.trans (Wk.frzB 110 [.I r16.1, .I x13.Holder, .bool x13.Open, .L x13.Seals, .L x13.Packed, .L x13.Found] R R R (prN R)) (Wk.eq R R R R)))))))))))))) (blockN (thenN ?_))
   obtain ⟨x17, hx17, h⟩ := bindS h
   refine LH.seqT [(8, .lst 6 (List.map GBag.lv (v11.set r12.1.toNat (GBag.mk r16.1 x13.Holder x13.Open x13.Seals x13.Packed x13.Found))))] [(7, .box [.L r16.2.L, .I r16.2.At])] R (sMa R (sMi R (sN (oLdA R tk43 ta43 ts43 R R (sN (oIxA (f := GBag.lv) te27 tk43 ts43 R R R hx17 (s_ (oStE (f := GBag.lv) (z' := (GBag.mk r16.1 x13.Holder x13.Open x13.Seals x13.Packed x13.Found)) R R R R tk43 ts43 R (idxOk hx17).2 R (s0 ((Wk.trans (Wk.to (el := [(8, .arr 134 (List.length (v11.set r12.1.toNat (GBag.mk r16.1 x13.Holder x13.Open x13.Seals x13.Packed x13.Found))))]) (ml := [(7, .box [.L r16.2.L, .I r16.2.At]), (134, .arr 43 6 (List.map GBag.lv (v11.set r12.1.toNat (GBag.mk r16.1 x13.Holder x13.Open x13.Seals x13.Packed x13.Found))))]) (eC (congrArg (LV.arr 134) (by simp)) eN) ⟨R, R, trivial⟩ R (prK R)) (Wk.trans (Wk.frzL (f := GBag.lv) (el' := [(8, .lst 6 (List.map GBag.lv (v11.set r12.1.toNat (GBag.mk r16.1 x13.Holder x13.Open x13.Seals x13.Packed x13.Found))))]) 134 43 6 (v11.set r12.1.toNat (GBag.mk r16.1 x13.Holder x13.Open x13.Seals x13.Packed x13.Found)) R R (prN R) (fZ fN)) (Wk.eq R R R R))))))))))))) (LH.seqT [(4, .lst 6 (List.map GBag.lv (v11.set r12.1.toNat (GBag.mk r16.1 x13.Holder x13.Open x13.Seals x13.Packed x13.Found))))] [(7, .box [.L r16.2.L, .I r16.2.At])] R (sMl R (sAl R zS)) (LH.ret ?_))
   obtain rfl := oI h
   exact retE (aT Tryz.results15) (lrT R (lr0 ⟨memN (mC R mN), R, prK R, Sub.rfl⟩))
  replace h := iteF h hc15
  refine LH.seqT [(0, .ptr 7 0), (8, .arr 134 (List.length v11)), (9, .I r12.1), (10, .ptr 110 0), (44, .I r14.1), (55, .bool (r14.1 == 1))] [(7, .box [.L r14.2.L, .I r14.2.At]), (110, .box (GBag.lv x13).cells), (134, .arr 43 6 (List.map GBag.lv v11))] R (sN (oEq R R (sAb R zS))) (LH.cond (t := (r14.1 == 1)) R (fun hc18 => ?_) (fun hc18 => ?_))
  ·replace h := iteT h hc18
   obtain ⟨r19, hr19, h⟩ := bindS h
   refine LH.loneT [(8, .arr 134 (List.length v11)), (9, .I r12.1), (10, .sptr [.I x13.Bag, .I r19.1, .bool x13.Open, .L x13.Seals, .L x13.Packed, .L x13.Found])] [(7, .box [.L r19.2.L, .I r19.2.At]), (134, .arr 43 6 (List.map GBag.lv v11))] R (sMp R (sN (oBS (f := LV.I) (ys := [(-1), 0, 1, 100]) te22 tr3 ts3 R R R okI (sN (oCM (args := [.ptr 7 0, .L [(-1), 0, 1, 100]]) (ml := [(7, .box [.L r14.2.L, .I r14.2.At])]) (ml' := [(7, .box [.L r19.2.L, .I r19.2.At])]) R isF29 R (sbR (sbR sbN)) (Gq22 hr19) (mC R mN) (newI R newN) R (sN (oFa tf43_1 tk3 ts3 R R (s_ (oSt R R R tk3 ts3 R R R (s0 ((Wk.trans (Wk.eq (el := [(8, .arr 134 (List.length v11)), (9, .I r12.1), (10, .ptr 110 0)]) (ml := [(7, .box [.L r19.2.L, .I r19.2.At]), (110, .box [.I x13.Bag, .I r19.1, .bool x13.Open, .L x13.Seals, .L x13.Packed, .L x13.Found]), (134, .arr 43 6 (List.map GBag.lv v11))]) R R R R) (Wk.trans (Wk.frzB 110 [.I x13.Bag, .I r19.1, .bool x13.Open, .L x13.Seals, .L x13.Packed, .L x13.Found] R R R (prN R)) (Wk.eq R R R R)))))))))))))) (blockN (thenN ?_))
   obtain ⟨x20, hx20, h⟩ := bindS h
   refine LH.seqT [(8, .lst 6 (List.map GBag.lv (v11.set r12.1.toNat (GBag.mk x13.Bag r19.1 x13.Open x13.Seals x13.Packed x13.Found))))] [(7, .box [.L r19.2.L, .I r19.2.At])] R (sMa R (sMi R (sN (oLdA R tk43 ta43 ts43 R R (sN (oIxA (f := GBag.lv) te27 tk43 ts43 R R R hx20 (s_ (oStE (f := GBag.lv) (z' := (GBag.mk x13.Bag r19.1 x13.Open x13.Seals x13.Packed x13.Found)) R R R R tk43 ts43 R (idxOk hx20).2 R (s0 ((Wk.trans (Wk.to (el := [(8, .arr 134 (List.length (v11.set r12.1.toNat (GBag.mk x13.Bag r19.1 x13.Open x13.Seals x13.Packed x13.Found))))]) (ml := [(7, .box [.L r19.2.L, .I r19.2.At]), (134, .arr 43 6 (List.map GBag.lv (v11.set r12.1.toNat (GBag.mk x13.Bag r19.1 x13.Open x13.Seals x13.Packed x13.Found))))]) (eC (congrArg (LV.arr 134) (by simp)) eN) ⟨R, R, trivial⟩ R (prK R)) (Wk.trans (Wk.frzL (f := GBag.lv) (el' := [(8, .lst 6 (List.map GBag.lv (v11.set r12.1.toNat (GBag.mk x13.Bag r19.1 x13.Open x13.Seals x13.Packed x13.Found))))]) 134 43 6 (v11.set r12.1.toNat (GBag.mk x13.Bag r19.1 x13.Open x13.Seals x13.Packed x13.Found)) R R (prN R) (fZ fN)) (Wk.eq R R R R))))))))))))) (LH.seqT [(4, .lst 6 (List.map GBag.lv (v11.set r12.1.toNat (GBag.mk x13.Bag r19.1 x13.Open x13.Seals x13.Packed x13.Found))))] [(7, .box [.L r19.2.L, .I r19.2.At])] R (sMl R (sAl R zS)) (LH.ret ?_))
   obtain rfl := oI h
   exact retE (aT Tryz.results15) (lrT R (lr0 ⟨memN (mC R mN), R, prK R, Sub.rfl⟩))
  replace h := iteF h hc18
  refine LH.seqT [(0, .ptr 7 0), (8, .arr 134 (List.length v11)), (9, .I r12.1), (10, .ptr 110 0), (44, .I r14.1), (61, .bool (r14.1 == 2))] [(7, .box [.L r14.2.L, .I r14.2.At]), (110, .box (GBag.lv x13).cells), (134, .arr 43 6 (List.map GBag.lv v11))] R (sN (oEq R R (sAb R zS))) (LH.cond (t := (r14.1 == 2)) R (fun hc21 => ?_) (fun hc21 => ?_))
  ·replace h := iteT h hc21
   refine LH.loneT [(8, .arr 134 (List.length v11)), (9, .I r12.1), (10, .sptr [.I x13.Bag, .I x13.Holder, .bool (!x13.Open), .L x13.Seals, .L x13.Packed, .L x13.Found])] [(7, .box [.L r14.2.L, .I r14.2.At]), (134, .arr 43 6 (List.map GBag.lv v11))] R (sN (oFa tf43_2 tk4 ts4 R R (sN (oLdP R R R R tk4 ta4 (sN (oNot R (sN (oFa tf43_2 tk4 ts4 R R (s_ (oSt R R R tk4 ts4 R R R (s0 ((Wk.trans (Wk.eq (el := [(8, .arr 134 (List.length v11)), (9, .I r12.1), (10, .ptr 110 0)]) (ml := [(7, .box [.L r14.2.L, .I r14.2.At]), (110, .box [.I x13.Bag, .I x13.Holder, .bool (!x13.Open), .L x13.Seals, .L x13.Packed, .L x13.Found]), (134, .arr 43 6 (List.map GBag.lv v11))]) R R R R) (Wk.trans (Wk.frzB 110 [.I x13.Bag, .I x13.Holder, .bool (!x13.Open), .L x13.Seals, .L x13.Packed, .L x13.Found] R R R (prN R)) (Wk.eq R R R R))))))))))))))) (blockN (thenN ?_))
   obtain ⟨x22, hx22, h⟩ := bindS h
   refine LH.seqT [(8, .lst 6 (List.map GBag.lv (v11.set r12.1.toNat (GBag.mk x13.Bag x13.Holder (!x13.Open) x13.Seals x13.Packed x13.Found))))] [(7, .box [.L r14.2.L, .I r14.2.At])] R (sMa R (sMi R (sN (oLdA R tk43 ta43 ts43 R R (sN (oIxA (f := GBag.lv) te27 tk43 ts43 R R R hx22 (s_ (oStE (f := GBag.lv) (z' := (GBag.mk x13.Bag x13.Holder (!x13.Open) x13.Seals x13.Packed x13.Found)) R R R R tk43 ts43 R (idxOk hx22).2 R (s0 ((Wk.trans (Wk.to (el := [(8, .arr 134 (List.length (v11.set r12.1.toNat (GBag.mk x13.Bag x13.Holder (!x13.Open) x13.Seals x13.Packed x13.Found))))]) (ml := [(7, .box [.L r14.2.L, .I r14.2.At]), (134, .arr 43 6 (List.map GBag.lv (v11.set r12.1.toNat (GBag.mk x13.Bag x13.Holder (!x13.Open) x13.Seals x13.Packed x13.Found))))]) (eC (congrArg (LV.arr 134) (by simp)) eN) ⟨R, R, trivial⟩ R (prK R)) (Wk.trans (Wk.frzL (f := GBag.lv) (el' := [(8, .lst 6 (List.map GBag.lv (v11.set r12.1.toNat (GBag.mk x13.Bag x13.Holder (!x13.Open) x13.Seals x13.Packed x13.Found))))]) 134 43 6 (v11.set r12.1.toNat (GBag.mk x13.Bag x13.Holder (!x13.Open) x13.Seals x13.Packed x13.Found)) R R (prN R) (fZ fN)) (Wk.eq R R R R))))))))))))) (LH.seqT [(4, .lst 6 (List.map GBag.lv (v11.set r12.1.toNat (GBag.mk x13.Bag x13.Holder (!x13.Open) x13.Seals x13.Packed x13.Found))))] [(7, .box [.L r14.2.L, .I r14.2.At])] R (sMl R (sAl R zS)) (LH.ret ?_))
   obtain rfl := oI h
   exact retE (aT Tryz.results15) (lrT R (lr0 ⟨memN (mC R mN), R, prK R, Sub.rfl⟩))
  replace h := iteF h hc21
  refine LH.seqT [(0, .ptr 7 0), (8, .arr 134 (List.length v11)), (9, .I r12.1), (10, .ptr 110 0), (44, .I r14.1), (67, .bool (r14.1 == 3))] [(7, .box [.L r14.2.L, .I r14.2.At]), (110, .box (GBag.lv x13).cells), (134, .arr 43 6 (List.map GBag.lv v11))] R (sN (oEq R R (sAb R zS))) (LH.cond (t := (r14.1 == 3)) R (fun hc23 => ?_) (fun hc23 => ?_))
  ·replace h := iteT h hc23
   obtain ⟨r24, hr24, h⟩ := bindS h
   obtain ⟨v25, hv25, h⟩ := bindS h
   refine LH.loneTM mixed [] [0, 1110, 0, 1110, 0, 0, 1110, 0, 4, 0, 0, 100007, 0, 4, 0, 100110] [(8, .arr 134 (List.length v11)), (9, .I r12.1), (10, .sptr [.I x13.Bag, .I x13.Holder, .bool x13.Open, .L v25, .L x13.Packed, .L x13.Found])] [(7, .box [.L r24.2.L, .I r24.2.At]), (134, .arr 43 6 (List.map GBag.lv v11))] R R (by kernel_rfl) ?_ ?_
   ·exact mN0 (oFa tf43_3 tk22 ts22 R R ⟨R, mD R R R (fun _ b _ d => oLdP R b R R tk22 ta22 d) (mN0 (oFa tf43_3 tk22 ts22 R R ⟨R, mD R R R (fun _ b _ d => oLdP R b R R tk22 ta22 d) (mN0 (oLnL (f := LV.I) te22 R ⟨R, mN0 (oFa tf43_3 tk22 ts22 R R ⟨R, mD R R R (fun _ b _ d => oLdP R b R R tk22 ta22 d) (mN0 (oLnL (f := LV.I) te22 R ⟨R, mM (fun _ => ok_sl3 (f := LV.I) (xs := x13.Seals) te22 tk3 R R R) (mMp R (mN0 (oBS (f := LV.I) (ys := [0, 10, (-1), 1000001]) te22 tr3 ts3 R R R okI ⟨R, mW R R R (fun _ b _ d => oCM (args := [.ptr 7 0, .L [0, 10, (-1), 1000001]]) (ml := [(7, .box [.L r14.2.L, .I r14.2.At])]) (ml' := [(7, .box [.L r24.2.L, .I r24.2.At])]) R isF29 R (sbR (sbR sbN)) (Gq22 hr24) (mC b mN) (newI R newN) R d) (mN0 (oBS (f := LV.I) (ys := [r24.1]) te22 tr3 ts3 R R R okI ⟨R, mM (fun _ => ok_apF (f := LV.I) (xs := x13.Seals) (ys := [r24.1]) te22 tr3 ts3 R R hv25) (mN0 (oFa tf43_3 tk22 ts22 R R ⟨R, mS R R R (fun _ b _ d => oSt R R R tk22 ts22 b R R d) (m0 ((Wk.trans (Wk.eq (el := [(8, .arr 134 (List.length v11)), (9, .I r12.1), (10, .ptr 110 0)]) (ml := [(7, .box [.L r24.2.L, .I r24.2.At]), (110, .box [.I x13.Bag, .I x13.Holder, .bool x13.Open, .L v25, .L x13.Packed, .L x13.Found]), (134, .arr 43 6 (List.map GBag.lv v11))]) R R R R) (Wk.trans (Wk.frzB 110 [.I x13.Bag, .I x13.Holder, .bool x13.Open, .L v25, .L x13.Packed, .L x13.Found] R R R (prN R)) (Wk.eq R R R R)))))⟩))⟩))⟩)))⟩))⟩)⟩))⟩))⟩)
   refine blockN (thenN ?_)
   obtain ⟨x26, hx26, h⟩ := bindS h
   refine LH.seqT [(8, .lst 6 (List.map GBag.lv (v11.set r12.1.toNat (GBag.mk x13.Bag x13.Holder x13.Open v25 x13.Packed x13.Found))))] [(7, .box [.L r24.2.L, .I r24.2.At])] R (sMa R (sMi R (sN (oLdA R tk43 ta43 ts43 R R (sN (oIxA (f := GBag.lv) te27 tk43 ts43 R R R hx26 (s_ (oStE (f := GBag.lv) (z' := (GBag.mk x13.Bag x13.Holder x13.Open v25 x13.Packed x13.Found)) R R R R tk43 ts43 R (idxOk hx26).2 R (s0 ((Wk.trans (Wk.to (el := [(8, .arr 134 (List.length (v11.set r12.1.toNat (GBag.mk x13.Bag x13.Holder x13.Open v25 x13.Packed x13.Found))))]) (ml := [(7, .box [.L r24.2.L, .I r24.2.At]), (134, .arr 43 6 (List.map GBag.lv (v11.set r12.1.toNat (GBag.mk x13.Bag x13.Holder x13.Open v25 x13.Packed x13.Found))))]) (eC (congrArg (LV.arr 134) (by simp)) eN) ⟨R, R, trivial⟩ R (prK R)) (Wk.trans (Wk.frzL (f := GBag.lv) (el' := [(8, .lst 6 (List.map GBag.lv (v11.set r12.1.toNat (GBag.mk x13.Bag x13.Holder x13.Open v25 x13.Packed x13.Found))))]) 134 43 6 (v11.set r12.1.toNat (GBag.mk x13.Bag x13.Holder x13.Open v25 x13.Packed x13.Found)) R R (prN R) (fZ fN)) (Wk.eq R R R R))))))))))))) (LH.seqT [(4, .lst 6 (List.map GBag.lv (v11.set r12.1.toNat (GBag.mk x13.Bag x13.Holder x13.Open v25 x13.Packed x13.Found))))] [(7, .box [.L r24.2.L, .I r24.2.At])] R (sMl R (sAl R zS)) (LH.ret ?_))
   obtain rfl := oI h
   exact retE (aT Tryz.results15) (lrT R (lr0 ⟨memN (mC R mN), R, prK R, Sub.rfl⟩))
  replace h := iteF h hc23
  refine LH.seqT [(0, .ptr 7 0), (8, .arr 134 (List.length v11)), (9, .I r12.1), (10, .ptr 110 0), (44, .I r14.1), (84, .bool (r14.1 == 4))] [(7, .box [.L r14.2.L, .I r14.2.At]), (110, .box (GBag.lv x13).cells), (134, .arr 43 6 (List.map GBag.lv v11))] R (sN (oEq R R (sAb R zS))) (LH.cond (t := (r14.1 == 4)) R (fun hc27 => ?_) (fun hc27 => ?_))
  ·replace h := iteT h hc27
   refine LH.loneT [(8, .arr 134 (List.length v11)), (9, .I r12.1), (10, .sptr [.I x13.Bag, .I x13.Holder, .bool x13.Open, .nil, .L x13.Packed, .L x13.Found])] [(7, .box [.L r14.2.L, .I r14.2.At]), (134, .arr 43 6 (List.map GBag.lv v11))] R (sN (oFa tf43_3 tk22 ts22 R R (s_ (oSt R R R tk22 ts22 R R R (s0 ((Wk.trans (Wk.eq (el := [(8, .arr 134 (List.length v11)), (9, .I r12.1), (10, .ptr 110 0)]) (ml := [(7, .box [.L r14.2.L, .I r14.2.At]), (110, .box [.I x13.Bag, .I x13.Holder, .bool x13.Open, .nil, .L x13.Packed, .L x13.Found]), (134, .arr 43 6 (List.map GBag.lv v11))]) R R R R) (Wk.trans (Wk.frzB 110 [.I x13.Bag, .I x13.Holder, .bool x13.Open, .nil, .L x13.Packed, .L x13.Found] R R R (prN R)) (Wk.eq R R R R))))))))) (blockN (thenN ?_))
   obtain ⟨x28, hx28, h⟩ := bindS h
   refine LH.seqT [(8, .lst 6 (List.map GBag.lv (v11.set r12.1.toNat (GBag.mk x13.Bag x13.Holder x13.Open ([] : List Int) x13.Packed x13.Found))))] [(7, .box [.L r14.2.L, .I r14.2.At])] R (sMa R (sMi R (sN (oLdA R tk43 ta43 ts43 R R (sN (oIxA (f := GBag.lv) te27 tk43 ts43 R R R hx28 (SOps.wk (Wk.eq (el := [(8, .arr 134 (List.length v11)), (123, .agg [.I x13.Bag, .I x13.Holder, .bool x13.Open, .nil, .L x13.Packed, .L x13.Found]), (124, .eptr 134 (List.length v11) r12.1.toNat 0)]) (ml := [(7, .box [.L r14.2.L, .I r14.2.At]), (134, .arr 43 6 (List.map GBag.lv v11))]) R R R R) (SOps.wk (Wk.to (el := [(8, .arr 134 (List.length v11)), (123, .agg [.I x13.Bag, .I x13.Holder, .bool x13.Open, .L ([] : List Int), .L x13.Packed, .L x13.Found]), (124, .eptr 134 (List.length v11) r12.1.toNat 0)]) (ml := [(7, .box [.L r14.2.L, .I r14.2.At]), (134, .arr 43 6 (List.map GBag.lv v11))]) (eC R (eS (Sub.agg (sbR (sbR (sbR (sbL (sbR (sbR sbN))))))) (eC R eN))) ⟨R, R, trivial⟩ R (prK R)) (s_ (oStE (f := GBag.lv) (z' := (GBag.mk x13.Bag x13.Holder x13.Open ([] : List Int) x13.Packed x13.Found)) R R R R tk43 ts43 R (idxOk hx28).2 R (s0 ((Wk.trans (Wk.to (el := [(8, .arr 134 (List.length (v11.set r12.1.toNat (GBag.mk x13.Bag x13.Holder x13.Open ([] : List Int) x13.Packed x13.Found))))]) (ml := [(7, .box [.L r14.2.L, .I r14.2.At]), (134, .arr 43 6 (List.map GBag.lv (v11.set r12.1.toNat (GBag.mk x13.Bag x13.Holder x13.Open ([] : List Int) x13.Packed x13.Found))))]) (eC (congrArg (LV.arr 134) (by simp)) eN) ⟨R, R, trivial⟩ R (prK R)) (Wk.trans (Wk.frzL (f := GBag.lv) (el' := [(8, .lst 6 (List.map GBag.lv (v11.set r12.1.toNat (GBag.mk x13.Bag x13.Holder x13.Open ([] : List Int) x13.Packed x13.Found))))]) 134 43 6 (v11.set r12.1.toNat (GBag.mk x13.Bag x13.Holder x13.Open ([] : List Int) x13.Packed x13.Found)) R R (prN R) (fZ fN)) (Wk.eq R R R R))))))))))))))) (LH.seqT [(4, .lst 6 (List.map GBag.lv (v11.set r12.1.toNat (GBag.mk x13.Bag x13.Holder x13.Open ([] : List Int) x13.Packed x13.Found))))] [(7, .box [.L r14.2.L, .I r14.2.At])] R (sMl R (sAl R zS)) (LH.ret ?_))
   obtain rfl := oI h
   exact retE (aT Tryz.results15) (lrT R (lr0 ⟨memN (mC R mN), R, prK R, Sub.rfl⟩))
  replace h := iteF h hc27
  refine LH.seqT [(0, .ptr 7 0), (8, .arr 134 (List.length v11)), (9, .I r12.1), (10, .ptr 110 0), (44, .I r14.1), (87, .bool (r14.1 == 5))] [(7, .box [.L r14.2.L, .I r14.2.At]), (110, .box (GBag.lv x13).cells), (134, .arr 43 6 (List.map GBag.lv v11))] R (sN (oEq R R (sAb R zS))) (LH.cond (t := (r14.1 == 5)) R (fun hc29 => ?_) (fun hc29 => ?_))
  ·replace h := iteT h hc29
   obtain ⟨r30, hr30, h⟩ := bindS h
   obtain ⟨v31, hv31, h⟩ := bindS h
   refine LH.loneTM mixed [] [0, 1110, 0, 1110, 0, 0, 1110, 0, 4, 0, 0, 100007, 0, 4, 0, 100110] [(8, .arr 134 (List.length v11)), (9, .I r12.1), (10, .sptr [.I x13.Bag, .I x13.Holder, .bool x13.Open, .L x13.Seals, .L v31, .L x13.Found])] [(7, .box [.L r30.2.L, .I r30.2.At]), (134, .arr 43 6 (List.map GBag.lv v11))] R R (by kernel_rfl) ?_ ?_
   ·exact mN0 (oFa tf43_4 tk22 ts22 R R ⟨R, mD R R R (fun _ b _ d => oLdP R b R R tk22 ta22 d) (mN0 (oFa tf43_4 tk22 ts22 R R ⟨R, mD R R R (fun _ b _ d => oLdP R b R R tk22 ta22 d) (mN0 (oLnL (f := LV.I) te22 R ⟨R, mN0 (oFa tf43_4 tk22 ts22 R R ⟨R, mD R R R (fun _ b _ d => oLdP R b R R tk22 ta22 d) (mN0 (oLnL (f := LV.I) te22 R ⟨R, mM (fun _ => ok_sl3 (f := LV.I) (xs := x13.Packed) te22 tk3 R R R) (mMp R (mN0 (oBS (f := LV.I) (ys := [0, 8, 9999, 10000]) te22 tr3 ts3 R R R okI ⟨R, mW R R R (fun _ b _ d => oCM (args := [.ptr 7 0, .L [0, 8, 9999, 10000]]) (ml := [(7, .box [.L r14.2.L, .I r14.2.At])]) (ml' := [(7, .box [.L r30.2.L, .I r30.2.At])]) R isF29 R (sbR (sbR sbN)) (Gq22 hr30) (mC b mN) (newI R newN) R d) (mN0 (oBS (f := LV.I) (ys := [r30.1]) te22 tr3 ts3 R R R okI ⟨R, mM (fun _ => ok_apF (f := LV.I) (xs := x13.Packed) (ys := [r30.1]) te22 tr3 ts3 R R hv31) (mN0 (oFa tf43_4 tk22 ts22 R R ⟨R, mS R R R (fun _ b _ d => oSt R R R tk22 ts22 b R R d) (m0 ((Wk.trans (Wk.eq (el := [(8, .arr 134 (List.length v11)), (9, .I r12.1), (10, .ptr 110 0)]) (ml := [(7, .box [.L r30.2.L, .I r30.2.At]), (110, .box [.I x13.Bag, .I x13.Holder, .bool x13.Open, .L x13.Seals, .L v31, .L x13.Found]), (134, .arr 43 6 (List.map GBag.lv v11))]) R R R R) (Wk.trans (Wk.frzB 110 [.I x13.Bag, .I x13.Holder, .bool x13.Open, .L x13.Seals, .L v31, .L x13.Found] R R R (prN R)) (Wk.eq R R R R)))))⟩))⟩))⟩)))⟩))⟩)⟩))⟩))⟩)
   refine blockN (thenN ?_)
   obtain ⟨x32, hx32, h⟩ := bindS h
   refine LH.seqT [(8, .lst 6 (List.map GBag.lv (v11.set r12.1.toNat (GBag.mk x13.Bag x13.Holder x13.Open x13.Seals v31 x13.Found))))] [(7, .box [.L r30.2.L, .I r30.2.At])] R (sMa R (sMi R (sN (oLdA R tk43 ta43 ts43 R R (sN (oIxA (f := GBag.lv) te27 tk43 ts43 R R R hx32 (s_ (oStE (f := GBag.lv) (z' := (GBag.mk x13.Bag x13.Holder x13.Open x13.Seals v31 x13.Found)) R R R R tk43 ts43 R (idxOk hx32).2 R (s0 ((Wk.trans (Wk.to (el := [(8, .arr 134 (List.length (v11.set r12.1.toNat (GBag.mk x13.Bag x13.Holder x13.Open x13.Seals v31 x13.Found))))]) (ml := [(7, .box [.L r30.2.L, .I r30.2.At]), (134, .arr 43 6 (List.map GBag.lv (v11.set r12.1.toNat (GBag.mk x13.Bag x13.Holder x13.Open x13.Seals v31 x13.Found))))]) (eC (congrArg (LV.arr 134) (by simp)) eN) ⟨R, R, trivial⟩ R (prK R)) (Wk.trans (Wk.frzL (f := GBag.lv) (el' := [(8, .lst 6 (List.map GBag.lv (v11.set r12.1.toNat (GBag.mk x13.Bag x13.Holder x13.Open x13.Seals v31 x13.Found))))]) 134 43 6 (v11.set r12.1.toNat (GBag.mk x13.Bag x13.Holder x13.Open x13.Seals v31 x13.Found)) R R (prN R) (fZ fN)) (Wk.eq R R R R))))))))))))) (LH.seqT [(4, .lst 6 (List.map GBag.lv (v11.set r12.1.toNat (GBag.mk x13.Bag x13.Holder x13.Open x13.Seals v31 x13.Found))))] [(7, .box [.L r30.2.L, .I r30.2.At])] R (sMl R (sAl R zS)) (LH.ret ?_))
   obtain rfl := oI h
   exact retE (aT Tryz.results15) (lrT R (lr0 ⟨memN (mC R mN), R, prK R, Sub.rfl⟩))
  replace h := iteF h hc29
  refine LH.seqT [(0, .ptr 7 0), (8, .arr 134 (List.length v11)), (9, .I r12.1), (10, .ptr 110 0), (104, .bool (r14.1 == 6))] [(7, .box [.L r14.2.L, .I r14.2.At]), (110, .box (GBag.lv x13).cells), (134, .arr 43 6 (List.map GBag.lv v11))] R (sN (oEq R R (sAb R zS))) (LH.cond (t := (r14.1 == 6)) R (fun hc33 => ?_) (fun hc33 => ?_))
  ·replace h := iteT h hc33
   obtain ⟨r34, hr34, h⟩ := bindS h
   obtain ⟨v35, hv35, h⟩ := bindS h
   refine LH.loneTM mixed [] [0, 1110, 0, 1110, 0, 0, 1110, 0, 4, 0, 0, 100007, 0, 4, 0, 100110] [(8, .arr 134 (List.length v11)), (9, .I r12.1), (10, .sptr [.I x13.Bag, .I x13.Holder, .bool x13.Open, .L x13.Seals, .L x13.Packed, .L v35])] [(7, .box [.L r34.2.L, .I r34.2.At]), (134, .arr 43 6 (List.map GBag.lv v11))] R R (by kernel_rfl) ?_ ?_
   ·exact mN0 (oFa tf43_5 tk22 ts22 R R ⟨R, mD R R R (fun _ b _ d => oLdP R b R R tk22 ta22 d) (mN0 (oFa tf43_5 tk22 ts22 R R ⟨R, mD R R R (fun _ b _ d => oLdP R b R R tk22 ta22 d) (mN0 (oLnL (f := LV.I) te22 R ⟨R, mN0 (oFa tf43_5 tk22 ts22 R R ⟨R, mD R R R (fun _ b _ d => oLdP R b R R tk22 ta22 d) (mN0 (oLnL (f := LV.I) te22 R ⟨R, mM (fun _ => ok_sl3 (f := LV.I) (xs := x13.Found) te22 tk3 R R R) (mMp R (mN0 (oBS (f := LV.I) (ys := [0, 8, 9999, 10000]) te22 tr3 ts3 R R R okI ⟨R, mW R R R (fun _ b _ d => oCM (args := [.ptr 7 0, .L [0, 8, 9999, 10000]]) (ml := [(7, .box [.L r14.2.L, .I r14.2.At])]) (ml' := [(7, .box [.L r34.2.L, .I r34.2.At])]) R isF29 R (sbR (sbR sbN)) (Gq22 hr34) (mC b mN) (newI R newN) R d) (mN0 (oBS (f := LV.I) (ys := [r34.1]) te22 tr3 ts3 R R R okI ⟨R, mM (fun _ => ok_apF (f := LV.I) (xs := x13.Found) (ys := [r34.1]) te22 tr3 ts3 R R hv35) (mN0 (oFa tf43_5 tk22 ts22 R R ⟨R, mS R R R (fun _ b _ d => oSt R R R tk22 ts22 b R R d) (m0 ((Wk.trans (Wk.eq (el := [(8, .arr 134 (List.length v11)), (9, .I r12.1), (10, .ptr 110 0)]) (ml := [(7, .box [.L r34.2.L, .I r34.2.At]), (110, .box [.I x13.Bag, .I x13.Holder, .bool x13.Open, .L x13.Seals, .L x13.Packed, .L v35]), (134, .arr 43 6 (List.map GBag.lv v11))]) R R R R) (Wk.trans (Wk.frzB 110 [.I x13.Bag, .I x13.Holder, .bool x13.Open, .L x13.Seals, .L x13.Packed, .L v35] R R R (prN R)) (Wk.eq R R R R)))))⟩))⟩))⟩)))⟩))⟩)⟩))⟩))⟩)
   refine blockN (thenN ?_)
   obtain ⟨x36, hx36, h⟩ := bindS h
   refine LH.seqT [(8, .lst 6 (List.map GBag.lv (v11.set r12.1.toNat (GBag.mk x13.Bag x13.Holder x13.Open x13.Seals x13.Packed v35))))] [(7, .box [.L r34.2.L, .I r34.2.At])] R (sMa R (sMi R (sN (oLdA R tk43 ta43 ts43 R R (sN (oIxA (f := GBag.lv) te27 tk43 ts43 R R R hx36 (s_ (oStE (f := GBag.lv) (z' := (GBag.mk x13.Bag x13.Holder x13.Open x13.Seals x13.Packed v35)) R R R R tk43 ts43 R (idxOk hx36).2 R (s0 ((Wk.trans (Wk.to (el := [(8, .arr 134 (List.length (v11.set r12.1.toNat (GBag.mk x13.Bag x13.Holder x13.Open x13.Seals x13.Packed v35))))]) (ml := [(7, .box [.L r34.2.L, .I r34.2.At]), (134, .arr 43 6 (List.map GBag.lv (v11.set r12.1.toNat (GBag.mk x13.Bag x13.Holder x13.Open x13.Seals x13.Packed v35))))]) (eC (congrArg (LV.arr 134) (by simp)) eN) ⟨R, R, trivial⟩ R (prK R)) (Wk.trans (Wk.frzL (f := GBag.lv) (el' := [(8, .lst 6 (List.map GBag.lv (v11.set r12.1.toNat (GBag.mk x13.Bag x13.Holder x13.Open x13.Seals x13.Packed v35))))]) 134 43 6 (v11.set r12.1.toNat (GBag.mk x13.Bag x13.Holder x13.Open x13.Seals x13.Packed v35)) R R (prN R) (fZ fN)) (Wk.eq R R R R))))))))))))) (LH.seqT [(4, .lst 6 (List.map GBag.lv (v11.set r12.1.toNat (GBag.mk x13.Bag x13.Holder x13.Open x13.Seals x13.Packed v35))))] [(7, .box [.L r34.2.L, .I r34.2.At])] R (sMl R (sAl R zS)) (LH.ret ?_))
   obtain rfl := oI h
   exact retE (aT Tryz.results15) (lrT R (lr0 ⟨memN (mC R mN), R, prK R, Sub.rfl⟩))
  replace h := iteF h hc33
  obtain ⟨v37, hv37, h⟩ := bindS h
  refine LH.loneT [(8, .arr 134 (List.length v37)), (9, .I r12.1), (10, .sptr (GBag.lv x13).cells)] [(7, .box [.L r14.2.L, .I r14.2.At]), (134, .arr 43 6 (List.map GBag.lv v37))] R (sMa R (sN (oLdPA R R R tk43 ta43 ts43 R R (sN (oBS (f := GBag.lv) (ys := [x13]) te27 tr43 ts43 R R R GBag.ok (sN (oAp (f := GBag.lv) te27 tr43 ts43 R R (prN R) R hv37 (sAa R (s0 ((Wk.trans (Wk.eq (el := [(8, .arr 134 (List.length v37)), (9, .I r12.1), (10, .ptr 110 0)]) (ml := [(7, .box [.L r14.2.L, .I r14.2.At]), (110, .box (GBag.lv x13).cells), (134, .arr 43 6 (List.map GBag.lv v37))]) R R R R) (Wk.trans (Wk.frzB 110 (GBag.lv x13).cells R R R (prN R)) (Wk.eq R R R R))))))))))))) (blockN (thenN ?_))
  obtain ⟨x38, hx38, h⟩ := bindS h
  refine LH.seqT [(8, .lst 6 (List.map GBag.lv (v37.set r12.1.toNat x13)))] [(7, .box [.L r14.2.L, .I r14.2.At])] R (sMa R (sMi R (sN (oLdA R tk43 ta43 ts43 R R (sN (oIxA (f := GBag.lv) te27 tk43 ts43 R R R hx38 (s_ (oStE (f := GBag.lv) (z' := x13) R R R R tk43 ts43 R (idxOk hx38).2 R (s0 ((Wk.trans (Wk.to (el := [(8, .arr 134 (List.length (v37.set r12.1.toNat x13)))]) (ml := [(7, .box [.L r14.2.L, .I r14.2.At]), (134, .arr 43 6 (List.map GBag.lv (v37.set r12.1.toNat x13)))]) (eC (congrArg (LV.arr 134) (by simp)) eN) ⟨R, R, trivial⟩ R (prK R)) (Wk.trans (Wk.frzL (f := GBag.lv) (el' := [(8, .lst 6 (List.map GBag.lv (v37.set r12.1.toNat x13)))]) 134 43 6 (v37.set r12.1.toNat x13) R R (prN R) (fZ fN)) (Wk.eq R R R R))))))))))))) (LH.seqT [(4, .lst 6 (List.map GBag.lv (v37.set r12.1.toNat x13)))] [(7, .box [.L r14.2.L, .I r14.2.At])] R (sMl R (sAl R zS)) (LH.ret ?_))
  obtain rfl := oI h
  exact retE (aT Tryz.results15) (lrT R (lr0 ⟨memN (mC R mN), R, prK R, Sub.rfl⟩))

theorem Gq16 {F : Nat} {p0 : GTape} {p1 : Int} {p2 : Int} {p3 : Int} {r : List Int × GTape} (h : Gq13 F p0 p1 p2 p3 = some r) : LCall Tryz.prog 16 [.ptr 7 0, .I p1, .I p2, .I p3] (Mem.of [(7, .box [.L p0.L, .I p0.At])]) (.L r.1) (Mem.of [(7, .box [.L r.2.L, .I r.2.At])]) := by
  unfold Gq13 at h
  refine bodyT Tryz.func16 R (nT Tryz.ntmps16 R) (LH.wk (Wk.eq (el := [(0, .ptr 7 0), (1, .I p1), (2, .I p2), (3, .I p3)]) (ml := [(7, .box [.L p0.L, .I p0.At])]) R R R R) (LH.seqT [(0, .ptr 7 0), (1, .I p1), (2, .I p2), (3, .I p3)] [(7, .box [.L p0.L, .I p0.At])] R (sAn R zS) (LH.seqT [(0, .ptr 7 0), (1, .I p1), (2, .I p2), (3, .I p3), (9, .nil)] [(7, .box [.L p0.L, .I p0.At])] R (sAn R zS) (LH.seq ?_))))
  obtain ⟨r1, hr1, h⟩ := bindS h
  refine LH.seqT [(0, .ptr 7 0), (2, .I p2), (3, .I p3), (9, .nil), (10, .I r1.1)] [(7, .box [.L r1.2.L, .I r1.2.At])] R (sMp R (sMi R (sN (oCM (args := [.ptr 7 0, .I 0, .I p1]) (ml := [(7, .box [.L p0.L, .I p0.At])]) (ml' := [(7, .box [.L r1.2.L, .I r1.2.At])]) R isF13 R (sbR (sbR (sbR sbN))) (Gq24 hr1) (mC R mN) (newI R newN) R (sAi R zS))))) (LH.block (LH.wk ((Wk.trans (Wk.eq (el := [(0, .ptr 7 0), (2, .I p2), (3, .I p3), (9, .nil), (10, .I r1.1)]) (ml := [(7, .box [.L r1.2.L, .I r1.2.At])]) R R R R) (Wk.trans (Wk.eq (el := [(0, .ptr 7 0), (2, .I p2), (3, .I p3), (9, .nil), (10, .I r1.1)]) (ml := [(7, .box [.L r1.2.L, .I r1.2.At])]) R R R R) (Wk.trans (Wk.ownL (el' := [(0, .ptr 7 0), (2, .I p2), (3, .I p3), (9, .arr 124 (List.length ([] : List Int))), (10, .I r1.1)]) 124 3 1 R R (wK (wK (wK (wO (wK wN)))))) (Wk.eq (el := [(0, .ptr 7 0), (2, .I p2), (3, .I p3), (9, .arr 124 (List.length ([] : List Int))), (10, .I r1.1)]) (ml := [(7, .box [.L r1.2.L, .I r1.2.At]), (124, .arr 3 1 (List.map LV.I ([] : List Int)))]) R R R R))))) (LH.loop (fun n e m => ∃ (n2 : Int) (l3 : List Int) (n4 : Int) (l5 : List Int), Gq14 p2 p3 n n2 l3 n4 l5 = some r ∧ e = Env.of [(0, .ptr 7 0), (2, .I p2), (3, .I p3), (9, .arr 124 (List.length l5)), (10, .I n2)] ∧ m = Mem.of [(7, .box [.L l3, .I n4]), (124, .arr 3 1 (List.map LV.I l5))]) F ⟨r1.1, r1.2.L, r1.2.At, ([] : List Int), h, R, R⟩ ?_)))
  clear h
  rintro n e m ⟨n2, l3, n4, l5, h, rfl, rfl⟩
  rcases n with _ | n
  · cases (show Option.none = some _ from h)
  obtain ⟨rec1, hrec1⟩ : ∃ f, f = Gq14 p2 p3 n := ⟨_, rfl⟩
  replace h : Gq15 p2 p3 rec1 n2 l3 n4 l5 = some r := hrec1 ▸ h
  unfold Gq15 at h
  refine LH.seq (LH.seqT [(0, .ptr 7 0), (2, .I p2), (3, .I p3), (9, .arr 124 (List.length l5)), (10, .I n2), (15, .bool (decide (n2 > 0)))] [(7, .box [.L l3, .I n4]), (124, .arr 3 1 (List.map LV.I l5))] R (sMi R (sN (oGt R R zS))) (LH.cond (t := (decide (n2 > 0))) R (fun hc6 => ?_) (fun hc6 => ?_)))
  ·replace h := iteT h hc6
   refine LH.skip (thenN (LH.wk (Wk.eq (el := [(0, .ptr 7 0), (2, .I p2), (3, .I p3), (9, .arr 124 (List.length l5)), (10, .I n2)]) (ml := [(7, .box [.L l3, .I n4]), (124, .arr 3 1 (List.map LV.I l5))]) R R R R) (LH.seq (LH.block ?_))))
   obtain ⟨r7, hr7, h⟩ := bindS h
   obtain ⟨v8, hv8, h⟩ := bindS h
   refine LH.loneT [(0, .ptr 7 0), (2, .I p2), (3, .I p3), (9, .arr 124 (List.length v8)), (10, .I n2)] [(7, .box [.L r7.2.L, .I r7.2.At]), (124, .arr 3 1 (List.map LV.I v8))] R (sMa R (sMp R (sMi R (sMi R (sN (oCM (args := [.ptr 7 0, .I p2, .I p3]) (ml := [(7, .box [.L l3, .I n4])]) (ml' := [(7, .box [.L r7.2.L, .I r7.2.At])]) R isF13 R (sbR (sbR (sbR sbN))) (Gq24 hr7) (mC R mN) (newI R newN) R (sN (oBS (f := LV.I) (ys := [r7.1]) te22 tr3 ts3 R R R okI (sN (oAp (f := LV.I) te22 tr3 ts3 R R (prN R) R hv8 (sAa R zS))))))))))) (blockN (thenN (LH.loneT [(0, .ptr 7 0), (2, .I p2), (3, .I p3), (9, .arr 124 (List.length v8)), (10, .I (i64 (n2 - 1)))] [(7, .box [.L r7.2.L, .I r7.2.At]), (124, .arr 3 1 (List.map LV.I v8))] R (sMi R (sN (oSub R R (sAi R zS)))) ?_)))
   exact roundI ⟨(i64 (n2 - 1)), r7.2.L, r7.2.At, v8, hrec1 ▸ h, R, R⟩ (Wk.eq R R R R)
  replace h := iteF h hc6
  refine LH.exit (thenX (roundX (blockH (thenN (LH.wk ((Wk.trans (Wk.eq (el := [(9, .arr 124 (List.length l5))]) (ml := [(7, .box [.L l3, .I n4]), (124, .arr 3 1 (List.map LV.I l5))]) R R R R) (Wk.trans (Wk.frzL (f := LV.I) (el' := [(9, .L l5)]) 124 3 1 l5 R R (prN R) (fZ fN)) (Wk.eq (el := [(9, .L l5)]) (ml := [(7, .box [.L l3, .I n4])]) R R R R)))) (LH.seqT [(8, .L l5)] [(7, .box [.L l3, .I n4])] R (sMl R (sAl R zS)) (LH.ret ?_)))))))
  obtain rfl := oI h
  exact retE (aT Tryz.results16) (lrT R (lr0 ⟨memN (mC R mN), R, prK R, Sub.rfl⟩))

theorem q275q {F : Nat} {p0 : List GBag} {p1 : Int} {r : Int} (h : q195q F p0 p1 = some r) : LCall Tryz.prog 36 [.lst 6 (List.map GBag.lv p0), .I p1] (Mem.of []) (.I r) (Mem.of []) := by
  unfold q195q at h
  refine bodyT Tryz.func36 R (nT Tryz.ntmps36 R) (LH.wk (Wk.eq (el := [(0, .lst 6 (List.map GBag.lv p0)), (1, .I p1)]) (ml := []) R R R R) (LH.seqT [(0, .lst 6 (List.map GBag.lv p0)), (1, .I p1)] [] R (sAi R zS) (LH.seqT [(0, .lst 6 (List.map GBag.lv p0)), (1, .I p1), (5, .I 0)] [] R (sAi R zS) (LH.seq (LH.seqT [(0, .lst 6 (List.map GBag.lv p0)), (1, .I p1), (5, .I 0), (6, .I 0)] [] R (sAi R zS) (LH.block (LH.loop (fun n e m => ∃ (n1 : Int), q111q F p0 p1 n n1 = some r ∧ e = Env.of [(0, .lst 6 (List.map GBag.lv p0)), (1, .I p1), (5, .I 0), (6, .I n1)] ∧ m = Mem.of []) F ⟨0, h, R, R⟩ ?_)))))))
  clear h
  rintro n e m ⟨n1, h, rfl, rfl⟩
  rcases n with _ | n
  · cases (show Option.none = some _ from h)
  obtain ⟨rec1, hrec1⟩ : ∃ f, f = q111q F p0 p1 n := ⟨_, rfl⟩
  replace h : q153q F p0 p1 rec1 n1 = some r := hrec1 ▸ h
  unfold q153q at h
  refine LH.seq (LH.seqT [(0, .lst 6 (List.map GBag.lv p0)), (1, .I p1), (5, .I 0), (6, .I n1), (11, .bool (decide (n1 < (p0.length : Int))))] [] R (sMi R (sMl R (sN (oLnL (f := GBag.lv) te27 R (sN (oLt R R zS)))))) (LH.cond (t := (decide (n1 < (p0.length : Int)))) R (fun hc2 => ?_) (fun hc2 => ?_)))
  ·replace h := iteT h hc2
   refine LH.skip (thenN (LH.wk (Wk.eq (el := [(0, .lst 6 (List.map GBag.lv p0)), (1, .I p1), (5, .I 0), (6, .I n1)]) (ml := []) R R R R) (LH.seq (LH.block ?_))))
   obtain ⟨x3, hx3, h⟩ := bindS h
   obtain ⟨r4, hr4, h⟩ := bindS h
   refine LH.seqT [(0, .lst 6 (List.map GBag.lv p0)), (1, .I p1), (5, .I 0), (6, .I n1), (20, .bool r4)] [] R (sMl R (sMi R (sN (oIx (f := GBag.lv) te27 tk43 ts43 R R GBag.ok hx3 R (sN (oFaS tf43_5 tk22 ts22 R R R (sN (oLd R tk22 ta22 (sMi R (sN (oCP (args := [.L x3.Found, .I p1]) R isF39 R (sbR (sbR sbN)) (q201q hr4) R zS))))))))))) (LH.cond (t := r4) R (fun hc5 => ?_) (fun hc5 => ?_))
   ·replace h := iteT h hc5
    refine LH.seqT [(4, .I 2)] [] R (sAi R zS) (LH.ret (blockR (thenR (roundR (blockR (thenR ?_))))))
    obtain rfl := oI h
    exact retE (aT Tryz.results36) (lrT R (lr0 ⟨memN mN, R, prK R, Sub.rfl⟩))
   replace h := iteF h hc5
   refine LH.skip (blockN (thenN (LH.loneT [(0, .lst 6 (List.map GBag.lv p0)), (1, .I p1), (5, .I 0), (6, .I (i64 (n1 + 1)))] [] R (sMi R (sN (oAdd R R (sAi R zS)))) ?_)))
   exact roundI ⟨(i64 (n1 + 1)), hrec1 ▸ h, R, R⟩ (Wk.eq R R R R)
  replace h := iteF h hc2
  refine LH.exit (thenX (roundX (blockH (thenN (LH.wk (Wk.eq (el := [(0, .lst 6 (List.map GBag.lv p0)), (1, .I p1), (5, .I 0)]) (ml := []) R R R R) (LH.seq (LH.seqT [(0, .lst 6 (List.map GBag.lv p0)), (1, .I p1), (5, .I 0), (7, .I 0)] [] R (sAi R zS) (LH.block (LH.loop (fun n e m => ∃ (n6 : Int) (n7 : Int), q78q F p0 p1 n n6 n7 = some r ∧ e = Env.of [(0, .lst 6 (List.map GBag.lv p0)), (1, .I p1), (5, .I n6), (7, .I n7)] ∧ m = Mem.of []) F ⟨0, 0, h, R, R⟩ ?_)))))))))
  clear h
  rintro n e m ⟨n6, n7, h, rfl, rfl⟩
  rcases n with _ | n
  · cases (show Option.none = some _ from h)
  obtain ⟨rec2, hrec2⟩ : ∃ f, f = q78q F p0 p1 n := ⟨_, rfl⟩
  replace h : q154q F p0 p1 rec2 n6 n7 = some r := hrec2 ▸ h
  unfold q154q at h
  refine LH.seq (LH.seqT [(0, .lst 6 (List.map GBag.lv p0)), (1, .I p1), (5, .I n6), (7, .I n7), (24, .bool (decide (n7 < (p0.length : Int))))] [] R (sMi R (sMl R (sN (oLnL (f := GBag.lv) te27 R (sN (oLt R R zS)))))) (LH.cond (t := (decide (n7 < (p0.length : Int)))) R (fun hc8 => ?_) (fun hc8 => ?_)))
  ·replace h := iteT h hc8
   refine LH.skip (thenN (LH.wk (Wk.eq (el := [(0, .lst 6 (List.map GBag.lv p0)), (1, .I p1), (5, .I n6), (7, .I n7)]) (ml := []) R R R R) (LH.seq (LH.block ?_))))
   obtain ⟨x9, hx9, h⟩ := bindS h
   obtain ⟨r10, hr10, h⟩ := bindS h
   refine LH.seqT [(0, .lst 6 (List.map GBag.lv p0)), (1, .I p1), (5, .I n6), (7, .I n7), (33, .bool r10)] [] R (sMl R (sMi R (sN (oIx (f := GBag.lv) te27 tk43 ts43 R R GBag.ok hx9 R (sN (oFaS tf43_4 tk22 ts22 R R R (sN (oLd R tk22 ta22 (sMi R (sN (oCP (args := [.L x9.Packed, .I p1]) R isF39 R (sbR (sbR sbN)) (q201q hr10) R zS))))))))))) (LH.cond (t := r10) R (fun hc11 => ?_) (fun hc11 => ?_))
   ·replace h := iteT h hc11
    refine LH.seq ?_
    obtain ⟨x12, hx12, h⟩ := bindS h
    refine LH.seqT [(0, .lst 6 (List.map GBag.lv p0)), (1, .I p1), (7, .I n7), (38, .bool x12.Open)] [] R (sMl R (sMi R (sN (oIx (f := GBag.lv) te27 tk43 ts43 R R GBag.ok hx12 R (sN (oFaS tf43_2 tk4 ts4 R R R (sN (oLd R tk4 ta4 zS)))))))) (LH.cond (t := x12.Open) R (fun hc13 => ?_) (fun hc13 => ?_))
    ·replace h := iteT h hc13
     refine LH.seqT [(4, .I 3)] [] R (sAi R zS) (LH.ret (thenR (blockR (thenR (roundR (blockR (thenR ?_)))))))
     obtain rfl := oI h
     exact retE (aT Tryz.results36) (lrT R (lr0 ⟨memN mN, R, prK R, Sub.rfl⟩))
    replace h := iteF h hc13
    refine LH.skip (thenN (LH.loneT [(0, .lst 6 (List.map GBag.lv p0)), (1, .I p1), (5, .I 1), (7, .I n7)] [] R (sAi R zS) (blockN (thenN (LH.loneT [(0, .lst 6 (List.map GBag.lv p0)), (1, .I p1), (5, .I 1), (7, .I (i64 (n7 + 1)))] [] R (sMi R (sN (oAdd R R (sAi R zS)))) ?_)))))
    exact roundI ⟨1, (i64 (n7 + 1)), hrec2 ▸ h, R, R⟩ (Wk.eq R R R R)
   replace h := iteF h hc11
   refine LH.skip (blockN (thenN (LH.loneT [(0, .lst 6 (List.map GBag.lv p0)), (1, .I p1), (5, .I n6), (7, .I (i64 (n7 + 1)))] [] R (sMi R (sN (oAdd R R (sAi R zS)))) ?_)))
   exact roundI ⟨n6, (i64 (n7 + 1)), hrec2 ▸ h, R, R⟩ (Wk.eq R R R R)
  replace h := iteF h hc8
  refine LH.exit (thenX (roundX (blockH (thenN (LH.seqT [(4, .I n6)] [] R (sMi R (sAi R zS)) (LH.ret ?_))))))
  obtain rfl := oI h
  exact retE (aT Tryz.results36) (lrT R (lr0 ⟨memN mN, R, prK R, Sub.rfl⟩))

theorem q258q {F : Nat} {p0 : List GBag} {p1 : List Int} {r : List Int × List Int × List Int × List Int} (h : q196q F p0 p1 = some r) : LCall Tryz.prog 18 [.lst 6 (List.map GBag.lv p0), .L p1] (Mem.of []) (.tup [.L r.1, .L r.2.1, .L r.2.2.1, .L r.2.2.2]) (Mem.of []) := by
  unfold q196q at h
  refine bodyT Tryz.func18 R (nT Tryz.ntmps18 R) (LH.wk (Wk.eq (el := [(0, .lst 6 (List.map GBag.lv p0)), (1, .L p1)]) (ml := []) R R R R) (LH.seqT [(0, .lst 6 (List.map GBag.lv p0)), (1, .L p1)] [] R (sAn R (sAn R (sAn R (sAn R zS)))) (LH.seqT [(0, .lst 6 (List.map GBag.lv p0)), (1, .L p1), (8, .ptr 108 0)] [(108, .box [.arr 3000 (List.length ([] : List Int)), .arr 3001 (List.length ([] : List Int)), .arr 3002 (List.length ([] : List Int)), .arr 3003 (List.length ([] : List Int))]), (3000, .arr 3 1 (List.map LV.I ([] : List Int))), (3001, .arr 3 1 (List.map LV.I ([] : List Int))), (3002, .arr 3 1 (List.map LV.I ([] : List Int))), (3003, .arr 3 1 (List.map LV.I ([] : List Int)))] R (sN (oAl (id := 108) R tz70 R R (s0 ((Wk.trans (Wk.eq (el := [(0, .lst 6 (List.map GBag.lv p0)), (1, .L p1), (8, .ptr 108 0)]) (ml := [(108, .box [.nil, .nil, .nil, .nil])]) R R R R) (Wk.trans (Wk.eq (el := [(0, .lst 6 (List.map GBag.lv p0)), (1, .L p1), (8, .ptr 108 0)]) (ml := [(108, .box [.nil, .nil, .nil, .nil])]) R R R R) (Wk.trans (Wk.ownBx 3000 3 1 108 0 R R R R R (prN R)) (Wk.trans (Wk.eq (el := [(0, .lst 6 (List.map GBag.lv p0)), (1, .L p1), (8, .ptr 108 0)]) (ml := [(108, .box [.arr 3000 (List.length ([] : List Int)), .nil, .nil, .nil]), (3000, .arr 3 1 (List.map LV.I ([] : List Int)))]) R R R R) (Wk.trans (Wk.ownBx 3001 3 1 108 1 R R R R R (prN R)) (Wk.trans (Wk.eq (el := [(0, .lst 6 (List.map GBag.lv p0)), (1, .L p1), (8, .ptr 108 0)]) (ml := [(108, .box [.arr 3000 (List.length ([] : List Int)), .arr 3001 (List.length ([] : List Int)), .nil, .nil]), (3000, .arr 3 1 (List.map LV.I ([] : List Int))), (3001, .arr 3 1 (List.map LV.I ([] : List Int)))]) R R R R) (Wk.trans (Wk.ownBx 3002 3 1 108 2 R R R R R (prN R)) (Wk.trans (Wk.eq (el := [(0, .lst 6 (List.map GBag.lv p0)), (1, .L p1), (8, .ptr 108 0)]) (ml := [(108, .box [.arr 3000 (List.length ([] : List Int)), .arr 3001 (List.length ([] : List Int)), .arr 3002 (List.length ([] : List Int)), .nil]), (3000, .arr 3 1 (List.map LV.I ([] : List Int))), (3001, .arr 3 1 (List.map LV.I ([] : List Int))), (3002, .arr 3 1 (List.map LV.I ([] : List Int)))]) R R R R) (Wk.trans (Wk.ownBx 3003 3 1 108 3 R R R R R (prN R)) (Wk.eq R R R R)))))))))))))) (LH.seq (LH.seqT [(0, .lst 6 (List.map GBag.lv p0)), (1, .L p1), (8, .ptr 108 0), (9, .I 0)] [(108, .box [.arr 3000 (List.length ([] : List Int)), .arr 3001 (List.length ([] : List Int)), .arr 3002 (List.length ([] : List Int)), .arr 3003 (List.length ([] : List Int))]), (3000, .arr 3 1 (List.map LV.I ([] : List Int))), (3001, .arr 3 1 (List.map LV.I ([] : List Int))), (3002, .arr 3 1 (List.map LV.I ([] : List Int))), (3003, .arr 3 1 (List.map LV.I ([] : List Int)))] R (sAi R zS) (LH.block (LH.loop (fun n e m => ∃ (n1 : Int) (l2 : List Int) (l3 : List Int) (l4 : List Int) (l5 : List Int), q67q F p0 p1 n n1 l2 l3 l4 l5 = some r ∧ e = Env.of [(0, .lst 6 (List.map GBag.lv p0)), (1, .L p1), (8, .ptr 108 0), (9, .I n1)] ∧ m = Mem.of [(108, .box [.arr 3000 (List.length l2), .arr 3001 (List.length l3), .arr 3002 (List.length l4), .arr 3003 (List.length l5)]), (3000, .arr 3 1 (List.map LV.I l2)), (3001, .arr 3 1 (List.map LV.I l3)), (3002, .arr 3 1 (List.map LV.I l4)), (3003, .arr 3 1 (List.map LV.I l5))]) F ⟨0, ([] : List Int), ([] : List Int), ([] : List Int), ([] : List Int), h, R, R⟩ ?_)))))))
  clear h
  rintro n e m ⟨n1, l2, l3, l4, l5, h, rfl, rfl⟩
  rcases n with _ | n
  · cases (show Option.none = some _ from h)
  obtain ⟨rec1, hrec1⟩ : ∃ f, f = q67q F p0 p1 n := ⟨_, rfl⟩
  replace h : q115q F p0 p1 rec1 n1 l2 l3 l4 l5 = some r := hrec1 ▸ h
  unfold q115q at h
  refine LH.seq (LH.seqT [(0, .lst 6 (List.map GBag.lv p0)), (1, .L p1), (8, .ptr 108 0), (9, .I n1), (14, .bool (decide (n1 < (p1.length : Int))))] [(108, .box [.arr 3000 (List.length l2), .arr 3001 (List.length l3), .arr 3002 (List.length l4), .arr 3003 (List.length l5)]), (3000, .arr 3 1 (List.map LV.I l2)), (3001, .arr 3 1 (List.map LV.I l3)), (3002, .arr 3 1 (List.map LV.I l4)), (3003, .arr 3 1 (List.map LV.I l5))] R (sMi R (sMl R (sN (oLnL (f := LV.I) te22 R (sN (oLt R R zS)))))) (LH.cond (t := (decide (n1 < (p1.length : Int)))) R (fun hc6 => ?_) (fun hc6 => ?_)))
  ·replace h := iteT h hc6
   refine LH.skip (thenN (LH.wk (Wk.eq (el := [(0, .lst 6 (List.map GBag.lv p0)), (1, .L p1), (8, .ptr 108 0), (9, .I n1)]) (ml := [(108, .box [.arr 3000 (List.length l2), .arr 3001 (List.length l3), .arr 3002 (List.length l4), .arr 3003 (List.length l5)]), (3000, .arr 3 1 (List.map LV.I l2)), (3001, .arr 3 1 (List.map LV.I l3)), (3002, .arr 3 1 (List.map LV.I l4)), (3003, .arr 3 1 (List.map LV.I l5))]) R R R R) (LH.seq (LH.block ?_))))
   obtain ⟨x7, hx7, h⟩ := bindS h
   obtain ⟨r8, hr8, h⟩ := bindS h
   refine LH.seqT [(0, .lst 6 (List.map GBag.lv p0)), (1, .L p1), (8, .ptr 108 0), (9, .I n1), (10, .I r8)] [(108, .box [.arr 3000 (List.length l2), .arr 3001 (List.length l3), .arr 3002 (List.length l4), .arr 3003 (List.length l5)]), (3000, .arr 3 1 (List.map LV.I l2)), (3001, .arr 3 1 (List.map LV.I l3)), (3002, .arr 3 1 (List.map LV.I l4)), (3003, .arr 3 1 (List.map LV.I l5))] R (sMl R (sMl R (sMi R (sN (oIx (f := LV.I) te22 tk3 ts3 R R okI hx7 R (sN (oLd R tk3 ta3 (sN (oCP (args := [.lst 6 (List.map GBag.lv p0), .I x7]) R isF36 R (sbR (sbR sbN)) (q275q hr8) R (sAi R zS)))))))))) ?_
   obtain ⟨w13, hv, h⟩ := bindS h
   refine LH.loneTM mixed [] [0, 0, 3, 1108, 0, 0, 0, 0, 0, 2, 3, 100108] [(0, .lst 6 (List.map GBag.lv p0)), (1, .L p1), (8, .ptr 108 0), (9, .I n1)] [(108, .box [.arr 3000 (List.length w13.1), .arr 3001 (List.length w13.2.1), .arr 3002 (List.length w13.2.2.1), .arr 3003 (List.length w13.2.2.2)]), (3000, .arr 3 1 (List.map LV.I w13.1)), (3001, .arr 3 1 (List.map LV.I w13.2.1)), (3002, .arr 3 1 (List.map LV.I w13.2.2.1)), (3003, .arr 3 1 (List.map LV.I w13.2.2.2))] R R (by kernel_rfl) ?_ ?_
   ·refine mMi R (mMi R ?_)
    by_cases hb14 : (r8 == 0) = true
    ·replace hv := iteT hv hb14
     refine mX (ok_ixC 0 ty70 R R R (eq_of_beq hb14) R) (mD R R R (fun _ b _ d => oLdP R b R R tk22 ta22 d) (mMl R (mMi R ?_)))
     obtain ⟨x15, hx15, hv⟩ := bindS hv
     refine mN0 (oIx (f := LV.I) te22 tk3 ts3 R R okI hx15 R ⟨R, mN0 (oLd R tk3 ta3 ⟨R, mN0 (oBS (f := LV.I) (ys := [x15]) te22 tr3 ts3 R R R okI ⟨R, ?_⟩)⟩)⟩)
     obtain ⟨v16, hv16, hv⟩ := bindS hv
     refine mN2 (oAp (f := LV.I) te22 tr3 ts3 R R (prN R) R hv16 (mX (ok_ixC 0 ty70 R R R (eq_of_beq hb14) R) (mS R R R (fun _ b _ d => oSt R R R tk22 ts22 b R R d) ?_)))
     obtain rfl := oI hv
     exact zM
    ·replace hb14 := bF hb14
     replace hv := iteF hv hb14
     by_cases hb17 : (r8 == 1) = true
     ·replace hv := iteT hv hb17
      refine mX (ok_ixC 1 ty70 R R R (eq_of_beq hb17) R) (mD R R R (fun _ b _ d => oLdP R b R R tk22 ta22 d) (mMl R (mMi R ?_)))
      obtain ⟨x18, hx18, hv⟩ := bindS hv
      refine mN0 (oIx (f := LV.I) te22 tk3 ts3 R R okI hx18 R ⟨R, mN0 (oLd R tk3 ta3 ⟨R, mN0 (oBS (f := LV.I) (ys := [x18]) te22 tr3 ts3 R R R okI ⟨R, ?_⟩)⟩)⟩)
      obtain ⟨v19, hv19, hv⟩ := bindS hv
      refine mN2 (oAp (f := LV.I) te22 tr3 ts3 R R (prN R) R hv19 (mX (ok_ixC 1 ty70 R R R (eq_of_beq hb17) R) (mS R R R (fun _ b _ d => oSt R R R tk22 ts22 b R R d) ?_)))
      obtain rfl := oI hv
      exact zM
     ·replace hb17 := bF hb17
      replace hv := iteF hv hb17
      by_cases hb20 : (r8 == 2) = true
      ·replace hv := iteT hv hb20
       refine mX (ok_ixC 2 ty70 R R R (eq_of_beq hb20) R) (mD R R R (fun _ b _ d => oLdP R b R R tk22 ta22 d) (mMl R (mMi R ?_)))
       obtain ⟨x21, hx21, hv⟩ := bindS hv
       refine mN0 (oIx (f := LV.I) te22 tk3 ts3 R R okI hx21 R ⟨R, mN0 (oLd R tk3 ta3 ⟨R, mN0 (oBS (f := LV.I) (ys := [x21]) te22 tr3 ts3 R R R okI ⟨R, ?_⟩)⟩)⟩)
       obtain ⟨v22, hv22, hv⟩ := bindS hv
       refine mN2 (oAp (f := LV.I) te22 tr3 ts3 R R (prN R) R hv22 (mX (ok_ixC 2 ty70 R R R (eq_of_beq hb20) R) (mS R R R (fun _ b _ d => oSt R R R tk22 ts22 b R R d) ?_)))
       obtain rfl := oI hv
       exact zM
      ·replace hb20 := bF hb20
       replace hv := iteF hv hb20
       by_cases hb23 : (r8 == 3) = true
       ·replace hv := iteT hv hb23
        refine mX (ok_ixC 3 ty70 R R R (eq_of_beq hb23) R) (mD R R R (fun _ b _ d => oLdP R b R R tk22 ta22 d) (mMl R (mMi R ?_)))
        obtain ⟨x24, hx24, hv⟩ := bindS hv
        refine mN0 (oIx (f := LV.I) te22 tk3 ts3 R R okI hx24 R ⟨R, mN0 (oLd R tk3 ta3 ⟨R, mN0 (oBS (f := LV.I) (ys := [x24]) te22 tr3 ts3 R R R okI ⟨R, ?_⟩)⟩)⟩)
        obtain ⟨v25, hv25, hv⟩ := bindS hv
        refine mN2 (oAp (f := LV.I) te22 tr3 ts3 R R (prN R) R hv25 (mX (ok_ixC 3 ty70 R R R (eq_of_beq hb23) R) (mS R R R (fun _ b _ d => oSt R R R tk22 ts22 b R R d) ?_)))
        obtain rfl := oI hv
        exact zM
       ·replace hb23 := bF hb23
        replace hv := iteF hv hb23
        cases (show Option.none = some _ from hv)
   clear hv
   refine blockN (thenN (LH.loneT [(0, .lst 6 (List.map GBag.lv p0)), (1, .L p1), (8, .ptr 108 0), (9, .I (i64 (n1 + 1)))] [(108, .box [.arr 3000 (List.length w13.1), .arr 3001 (List.length w13.2.1), .arr 3002 (List.length w13.2.2.1), .arr 3003 (List.length w13.2.2.2)]), (3000, .arr 3 1 (List.map LV.I w13.1)), (3001, .arr 3 1 (List.map LV.I w13.2.1)), (3002, .arr 3 1 (List.map LV.I w13.2.2.1)), (3003, .arr 3 1 (List.map LV.I w13.2.2.2))] R (sMi R (sN (oAdd R R (sAi R zS)))) ?_))
   exact roundI ⟨(i64 (n1 + 1)), w13.1, w13.2.1, w13.2.2.1, w13.2.2.2, hrec1 ▸ h, R, R⟩ (Wk.eq R R R R)
  replace h := iteF h hc6
  refine LH.exit (thenX (roundX (blockH (thenN (LH.wk ((Wk.trans (Wk.eq (el := [(8, .ptr 108 0)]) (ml := [(108, .box [.arr 3000 (List.length l2), .arr 3001 (List.length l3), .arr 3002 (List.length l4), .arr 3003 (List.length l5)]), (3000, .arr 3 1 (List.map LV.I l2)), (3001, .arr 3 1 (List.map LV.I l3)), (3002, .arr 3 1 (List.map LV.I l4)), (3003, .arr 3 1 (List.map LV.I l5))]) R R R R) (Wk.trans (Wk.eq (el := [(8, .ptr 108 0)]) (ml := [(108, .box [.arr 3000 (List.length l2), .arr 3001 (List.length l3), .arr 3002 (List.length l4), .arr 3003 (List.length l5)]), (3000, .arr 3 1 (List.map LV.I l2)), (3001, .arr 3 1 (List.map LV.I l3)), (3002, .arr 3 1 (List.map LV.I l4)), (3003, .arr 3 1 (List.map LV.I l5))]) R R R R) (Wk.trans (Wk.trans (Wk.frzBx (f := LV.I) 3000 3 1 l2 108 R R R (frAZ (frAK R (frAK R (frAK R frA0)))) R R (prN R)) (Wk.eq (el := [(8, .ptr 108 0)]) (ml := [(108, .box [.L l2, .arr 3001 (List.length l3), .arr 3002 (List.length l4), .arr 3003 (List.length l5)]), (3001, .arr 3 1 (List.map LV.I l3)), (3002, .arr 3 1 (List.map LV.I l4)), (3003, .arr 3 1 (List.map LV.I l5))]) R R R R)) (Wk.trans (Wk.eq (el := [(8, .ptr 108 0)]) (ml := [(108, .box [.L l2, .arr 3001 (List.length l3), .arr 3002 (List.length l4), .arr 3003 (List.length l5)]), (3001, .arr 3 1 (List.map LV.I l3)), (3002, .arr 3 1 (List.map LV.I l4)), (3003, .arr 3 1 (List.map LV.I l5))]) R R R R) (Wk.trans (Wk.trans (Wk.frzBx (f := LV.I) 3001 3 1 l3 108 R R R (frAK R (frAZ (frAK R (frAK R frA0)))) R R (prN R)) (Wk.eq (el := [(8, .ptr 108 0)]) (ml := [(108, .box [.L l2, .L l3, .arr 3002 (List.length l4), .arr 3003 (List.length l5)]), (3002, .arr 3 1 (List.map LV.I l4)), (3003, .arr 3 1 (List.map LV.I l5))]) R R R R)) (Wk.trans (Wk.eq (el := [(8, .ptr 108 0)]) (ml := [(108, .box [.L l2, .L l3, .arr 3002 (List.length l4), .arr 3003 (List.length l5)]), (3002, .arr 3 1 (List.map LV.I l4)), (3003, .arr 3 1 (List.map LV.I l5))]) R R R R) (Wk.trans (Wk.trans (Wk.frzBx (f := LV.I) 3002 3 1 l4 108 R R R (frAK R (frAK R (frAZ (frAK R frA0)))) R R (prN R)) (Wk.eq (el := [(8, .ptr 108 0)]) (ml := [(108, .box [.L l2, .L l3, .L l4, .arr 3003 (List.length l5)]), (3003, .arr 3 1 (List.map LV.I l5))]) R R R R)) (Wk.trans (Wk.eq (el := [(8, .ptr 108 0)]) (ml := [(108, .box [.L l2, .L l3, .L l4, .arr 3003 (List.length l5)]), (3003, .arr 3 1 (List.map LV.I l5))]) R R R R) (Wk.trans (Wk.trans (Wk.frzBx (f := LV.I) 3003 3 1 l5 108 R R R (frAK R (frAK R (frAK R (frAZ frA0)))) R R (prN R)) (Wk.eq (el := [(8, .ptr 108 0)]) (ml := [(108, .box [.L l2, .L l3, .L l4, .L l5])]) R R R R)) (Wk.trans (Wk.frzB 108 [.L l2, .L l3, .L l4, .L l5] R R R (prN R)) (Wk.eq (el := [(8, .sptr [.L l2, .L l3, .L l4, .L l5])]) (ml := []) R R R R)))))))))))) ?_)))))
  obtain ⟨x26, hx26, h⟩ := bindS h
  obtain ⟨x27, hx27, h⟩ := bindS h
  obtain ⟨x28, hx28, h⟩ := bindS h
  obtain ⟨x29, hx29, h⟩ := bindS h
  refine LH.seqJM mixed [] [4, 0, 4, 0, 4, 0, 4, 0, 0, 0, 0, 0] [(4, .L x26), (5, .L x27), (6, .L x28), (7, .L x29)] [] R R (by kernel_rfl) (mM (fun _ => ok_ixS (f := (lvl 1 LV.I)) (ys := [l2, l3, l4, l5]) ty70 R R R R hx26) (mN0 (oLd R tk22 ta22 ⟨R, mM (fun _ => ok_ixS (f := (lvl 1 LV.I)) (ys := [l2, l3, l4, l5]) ty70 R R R R hx27) (mN0 (oLd R tk22 ta22 ⟨R, mM (fun _ => ok_ixS (f := (lvl 1 LV.I)) (ys := [l2, l3, l4, l5]) ty70 R R R R hx28) (mN0 (oLd R tk22 ta22 ⟨R, mM (fun _ => ok_ixS (f := (lvl 1 LV.I)) (ys := [l2, l3, l4, l5]) ty70 R R R R hx29) (mN0 (oLd R tk22 ta22 ⟨R, mAl R (mAl R (mAl R (mAl R zM)))⟩))⟩))⟩))⟩))) (LH.ret ?_)
  obtain rfl := oI h
  exact retE (aT Tryz.results18) (lrT R (lrT R (lrT R (lrT R (lr0 ⟨memN mN, R, prK R, (Sub.tup (sbR (sbR (sbR (sbR sbN)))))⟩)))))

theorem q264q {F : Nat} {p0 : List GBag} {p1 : Int} {r : GBag × Bool} (h : q198q F p0 p1 = some r) : LCall Tryz.prog 20 [.lst 6 (List.map GBag.lv p0), .I p1] (Mem.of []) (.tup [GBag.lv r.1, .bool r.2]) (Mem.of []) := by
  unfold q198q at h
  refine bodyT Tryz.func20 R (nT Tryz.ntmps20 R) (LH.wk (Wk.eq (el := [(0, .lst 6 (List.map GBag.lv p0)), (1, .I p1)]) (ml := []) R R R R) (LH.seqT [(0, .lst 6 (List.map GBag.lv p0)), (1, .I p1), (4, .ptr 104 0)] [(104, .box [.I 0, .I 0, .bool false, .nil, .nil, .nil])] R (sN (oAl (id := 104) R tz43 R R (sAb R zS))) (LH.seq (LH.seqT [(1, .I p1), (4, .ptr 104 0), (8, .lst 6 (List.map GBag.lv p0)), (9, .I (p0.length : Int)), (10, .I 0)] [(104, .box [.I 0, .I 0, .bool false, .nil, .nil, .nil])] R (sMl R (sN (oLnL (f := GBag.lv) te27 R (sMi R zS)))) (LH.block (LH.loop (fun n e m => ∃ (n1 : Int), q85q F p0 p1 n n1 = some r ∧ e = Env.of [(1, .I p1), (4, .ptr 104 0), (8, .lst 6 (List.map GBag.lv p0)), (9, .I (p0.length : Int)), (10, .I n1)] ∧ m = Mem.of [(104, .box [.I 0, .I 0, .bool false, .nil, .nil, .nil])]) F ⟨0, h, R, R⟩ ?_))))))
  clear h
  rintro n e m ⟨n1, h, rfl, rfl⟩
  rcases n with _ | n
  · cases (show Option.none = some _ from h)
  obtain ⟨rec1, hrec1⟩ : ∃ f, f = q85q F p0 p1 n := ⟨_, rfl⟩
  replace h : q134q F p0 p1 rec1 n1 = some r := hrec1 ▸ h
  unfold q134q at h
  refine LH.seqT [(1, .I p1), (4, .ptr 104 0), (8, .lst 6 (List.map GBag.lv p0)), (9, .I (p0.length : Int)), (10, .I n1), (11, .bool (decide (n1 < (p0.length : Int))))] [(104, .box [.I 0, .I 0, .bool false, .nil, .nil, .nil])] R (sN (oLt R R zS)) (LH.seq (LH.cond (t := (decide (n1 < (p0.length : Int)))) R (fun hc2 => ?_) (fun hc2 => ?_)))
  ·replace h := iteT h hc2
   refine LH.skip (thenN (LH.wk (Wk.eq (el := [(1, .I p1), (4, .ptr 104 0), (8, .lst 6 (List.map GBag.lv p0)), (9, .I (p0.length : Int)), (10, .I n1)]) (ml := [(104, .box [.I 0, .I 0, .bool false, .nil, .nil, .nil])]) R R R R) (LH.seq (LH.block ?_))))
   obtain ⟨x3, hx3, h⟩ := bindS h
   refine LH.seqT [(1, .I p1), (4, .ptr 104 0), (7, .sptr (GBag.lv x3).cells), (8, .lst 6 (List.map GBag.lv p0)), (9, .I (p0.length : Int)), (10, .I n1)] [(104, .box [.I 0, .I 0, .bool false, .nil, .nil, .nil])] R (sN (oIx (f := GBag.lv) te27 tk43 ts43 R R GBag.ok hx3 R (sN (oLdA R tk43 ta43 ts43 R R (sN (oAl (id := 107) R tz43 R R (s_ (oSt R R R tk43 ts43 R R R (s0 ((Wk.trans (Wk.eq (el := [(1, .I p1), (4, .ptr 104 0), (7, .ptr 107 0), (8, .lst 6 (List.map GBag.lv p0)), (9, .I (p0.length : Int)), (10, .I n1)]) (ml := [(104, .box [.I 0, .I 0, .bool false, .nil, .nil, .nil]), (107, .box (GBag.lv x3).cells)]) R R R R) (Wk.trans (Wk.frzB 107 (GBag.lv x3).cells R R R (prN R)) (Wk.eq R R R R))))))))))))) ?_
   obtain ⟨r4, hr4, h⟩ := bindS h
   refine LH.seqT [(1, .I p1), (4, .ptr 104 0), (7, .sptr (GBag.lv x3).cells), (8, .lst 6 (List.map GBag.lv p0)), (9, .I (p0.length : Int)), (10, .I n1), (17, .bool r4)] [(104, .box [.I 0, .I 0, .bool false, .nil, .nil, .nil])] R (sN (oFaS tf43_4 tk22 ts22 R R R (sN (oLd R tk22 ta22 (sMi R (sN (oCP (args := [.L x3.Packed, .I p1]) R isF37 R (sbR (sbR sbN)) (q173q hr4) R zS))))))) (LH.cond (t := r4) R (fun hc5 => ?_) (fun hc5 => ?_))
   ·replace h := iteT h hc5
    obtain ⟨r6, hr6, h⟩ := bindS h
    refine LH.seqT [(4, .sptr (GBag.lv r6).cells), (5, .bool true)] [] R (sN (oLdA R tk43 ta43 ts43 R R (sN (oCM (args := [GBag.lv x3]) (ml := []) (ml' := [(105, .arr 3 1 (List.map LV.I r6.Seals))]) R isF38 R (sbR sbN) (q208q hr6) mN (newF R newN) R (s_ (oSt R R R tk43 ts43 R R R (sAb R (s0 ((Wk.trans (Wk.eq (el := [(4, .ptr 104 0), (5, .bool true)]) (ml := [(104, .box [.I r6.Bag, .I r6.Holder, .bool r6.Open, .arr 105 (List.length r6.Seals), .L r6.Packed, .L r6.Found]), (105, .arr 3 1 (List.map LV.I r6.Seals))]) R R R R) (Wk.trans (Wk.eq (el := [(4, .ptr 104 0), (5, .bool true)]) (ml := [(104, .box [.I r6.Bag, .I r6.Holder, .bool r6.Open, .arr 105 (List.length r6.Seals), .L r6.Packed, .L r6.Found]), (105, .arr 3 1 (List.map LV.I r6.Seals))]) R R R R) (Wk.trans (Wk.trans (Wk.frzBx (f := LV.I) 105 3 1 r6.Seals 104 R R R (frAK R (frAK R (frAK R (frAZ (frAK R (frAK R frA0)))))) R R (prN R)) (Wk.eq (el := [(4, .ptr 104 0), (5, .bool true)]) (ml := [(104, .box (GBag.lv r6).cells)]) R R R R)) (Wk.trans (Wk.frzB 104 (GBag.lv r6).cells R R R (prN R)) (Wk.eq R R R R)))))))))))))) (LH.ret (blockR (thenR (roundR (blockR (thenR ?_))))))
    obtain rfl := oI h
    exact retE (aT Tryz.results20) (lrSA R tk43 ta43 ts43 R R (lrT R (lr0 ⟨memN mN, R, prK R, (Sub.tup (sbR (sbR sbN)))⟩)))
   replace h := iteF h hc5
   refine LH.skip (blockN (thenN (LH.loneT [(1, .I p1), (4, .ptr 104 0), (8, .lst 6 (List.map GBag.lv p0)), (9, .I (p0.length : Int)), (10, .I (i64 (n1 + 1)))] [(104, .box [.I 0, .I 0, .bool false, .nil, .nil, .nil])] R (sN (oAdd R R (sMi R zS))) ?_)))
   exact roundI ⟨(i64 (n1 + 1)), hrec1 ▸ h, R, R⟩ (Wk.eq R R R R)
  replace h := iteF h hc2
  refine LH.exit (thenX (roundX (blockH (thenN (LH.seqT [(4, .sptr [.I 0, .I 0, .bool false, .nil, .nil, .nil]), (5, .bool false)] [] R (sN (oBd (vs := []) tu43 tz43 R lf0 (s_ (oSt R R R tk43 ts43 R R R (sAb R (s0 ((Wk.trans (Wk.eq (el := [(4, .ptr 104 0), (5, .bool false)]) (ml := [(104, .box [.I 0, .I 0, .bool false, .nil, .nil, .nil])]) R R R R) (Wk.trans (Wk.frzB 104 [.I 0, .I 0, .bool false, .nil, .nil, .nil] R R R (prN R)) (Wk.eq R R R R)))))))))) (LH.ret ?_))))))
  obtain rfl := oI h
  exact retE (aT Tryz.results20) (lrSA R tk43 ta43 ts43 R R (lrT R (lr0 ⟨memN mN, R, prK R, (Sub.tup (sbS (Sub.agg (sbR (sbR (sbR (sbL (sbL (sbL sbN))))))) (sbR sbN)))⟩)))

theorem q279q {F : Nat} {p0 : List GBag} {p1 : Int} {r : GBag × Bool} (h : q228q F p0 p1 = some r) : LCall Tryz.prog 21 [.lst 6 (List.map GBag.lv p0), .I p1] (Mem.of []) (.tup [GBag.lv r.1, .bool r.2]) (Mem.of []) := by
  unfold q228q at h
  refine bodyT Tryz.func21 R (nT Tryz.ntmps21 R) (LH.wk (Wk.eq (el := [(0, .lst 6 (List.map GBag.lv p0)), (1, .I p1)]) (ml := []) R R R R) (LH.seqT [(0, .lst 6 (List.map GBag.lv p0)), (1, .I p1), (4, .ptr 104 0)] [(104, .box [.I 0, .I 0, .bool false, .nil, .nil, .nil])] R (sN (oAl (id := 104) R tz43 R R (sAb R zS))) (LH.seq (LH.seqT [(0, .lst 6 (List.map GBag.lv p0)), (1, .I p1), (4, .ptr 104 0), (6, .I 0)] [(104, .box [.I 0, .I 0, .bool false, .nil, .nil, .nil])] R (sAi R zS) (LH.block (LH.loop (fun n e m => ∃ (n1 : Int), q129q F p0 p1 n n1 = some r ∧ e = Env.of [(0, .lst 6 (List.map GBag.lv p0)), (1, .I p1), (4, .ptr 104 0), (6, .I n1)] ∧ m = Mem.of [(104, .box [.I 0, .I 0, .bool false, .nil, .nil, .nil])]) F ⟨0, h, R, R⟩ ?_))))))
  clear h
  rintro n e m ⟨n1, h, rfl, rfl⟩
  rcases n with _ | n
  · cases (show Option.none = some _ from h)
  obtain ⟨rec1, hrec1⟩ : ∃ f, f = q129q F p0 p1 n := ⟨_, rfl⟩
  replace h : q161q F p0 p1 rec1 n1 = some r := hrec1 ▸ h
  unfold q161q at h
  refine LH.seq (LH.seqT [(0, .lst 6 (List.map GBag.lv p0)), (1, .I p1), (4, .ptr 104 0), (6, .I n1), (10, .bool (decide (n1 < (p0.length : Int))))] [(104, .box [.I 0, .I 0, .bool false, .nil, .nil, .nil])] R (sMi R (sMl R (sN (oLnL (f := GBag.lv) te27 R (sN (oLt R R zS)))))) (LH.cond (t := (decide (n1 < (p0.length : Int)))) R (fun hc2 => ?_) (fun hc2 => ?_)))
  ·replace h := iteT h hc2
   refine LH.skip (thenN (LH.wk (Wk.eq (el := [(0, .lst 6 (List.map GBag.lv p0)), (1, .I p1), (4, .ptr 104 0), (6, .I n1)]) (ml := [(104, .box [.I 0, .I 0, .bool false, .nil, .nil, .nil])]) R R R R) (LH.seq (LH.block ?_))))
   obtain ⟨x3, hx3, h⟩ := bindS h
   obtain ⟨r4, hr4, h⟩ := bindS h
   refine LH.seqT [(0, .lst 6 (List.map GBag.lv p0)), (1, .I p1), (4, .ptr 104 0), (6, .I n1), (19, .bool r4)] [(104, .box [.I 0, .I 0, .bool false, .nil, .nil, .nil])] R (sMl R (sMi R (sN (oIx (f := GBag.lv) te27 tk43 ts43 R R GBag.ok hx3 R (sN (oFaS tf43_4 tk22 ts22 R R R (sN (oLd R tk22 ta22 (sMi R (sN (oCP (args := [.L x3.Packed, .I p1]) R isF39 R (sbR (sbR sbN)) (q201q hr4) R zS))))))))))) (LH.cond (t := r4) R (fun hc5 => ?_) (fun hc5 => ?_))
   ·replace h := iteT h hc5
    obtain ⟨x6, hx6, h⟩ := bindS h
    refine LH.seqT [(4, .sptr (GBag.lv x6).cells), (5, .bool true)] [] R (sMl R (sMi R (sN (oIx (f := GBag.lv) te27 tk43 ts43 R R GBag.ok hx6 R (sN (oLdA R tk43 ta43 ts43 R R (s_ (oSt R R R tk43 ts43 R R R (sAb R (s0 ((Wk.trans (Wk.eq (el := [(4, .ptr 104 0), (5, .bool true)]) (ml := [(104, .box (GBag.lv x6).cells)]) R R R R) (Wk.trans (Wk.frzB 104 (GBag.lv x6).cells R R R (prN R)) (Wk.eq R R R R)))))))))))))) (LH.ret (blockR (thenR (roundR (blockR (thenR ?_))))))
    obtain rfl := oI h
    exact retE (aT Tryz.results21) (lrSA R tk43 ta43 ts43 R R (lrT R (lr0 ⟨memN mN, R, prK R, (Sub.tup (sbR (sbR sbN)))⟩)))
   replace h := iteF h hc5
   refine LH.skip (blockN (thenN (LH.loneT [(0, .lst 6 (List.map GBag.lv p0)), (1, .I p1), (4, .ptr 104 0), (6, .I (i64 (n1 + 1)))] [(104, .box [.I 0, .I 0, .bool false, .nil, .nil, .nil])] R (sMi R (sN (oAdd R R (sAi R zS)))) ?_)))
   exact roundI ⟨(i64 (n1 + 1)), hrec1 ▸ h, R, R⟩ (Wk.eq R R R R)
  replace h := iteF h hc2
  refine LH.exit (thenX (roundX (blockH (thenN (LH.seqT [(4, .sptr [.I 0, .I 0, .bool false, .nil, .nil, .nil]), (5, .bool false)] [] R (sN (oBd (vs := []) tu43 tz43 R lf0 (s_ (oSt R R R tk43 ts43 R R R (sAb R (s0 ((Wk.trans (Wk.eq (el := [(4, .ptr 104 0), (5, .bool false)]) (ml := [(104, .box [.I 0, .I 0, .bool false, .nil, .nil, .nil])]) R R R R) (Wk.trans (Wk.frzB 104 [.I 0, .I 0, .bool false, .nil, .nil, .nil] R R R (prN R)) (Wk.eq R R R R)))))))))) (LH.ret ?_))))))
  obtain rfl := oI h
  exact retE (aT Tryz.results21) (lrSA R tk43 ta43 ts43 R R (lrT R (lr0 ⟨memN mN, R, prK R, (Sub.tup (sbS (Sub.agg (sbR (sbR (sbR (sbL (sbL (sbL sbN))))))) (sbR sbN)))⟩)))

theorem q235q {F : Nat} {p0 : List GBag} {p1 : List Int} {p2 : List Int} {r : Bool} (h : q123q F p0 p1 p2 = some r) : LCall Tryz.prog 4 [.lst 6 (List.map GBag.lv p0), .L p1, .L p2] (Mem.of []) (.bool r) (Mem.of []) := by
  unfold q123q at h
  refine bodyT Tryz.func4 R (nT Tryz.ntmps4 R) (LH.wk (Wk.eq (el := [(0, .lst 6 (List.map GBag.lv p0)), (1, .L p1), (2, .L p2)]) (ml := []) R R R R) (LH.seqT [(0, .lst 6 (List.map GBag.lv p0)), (1, .L p1), (2, .L p2)] [] R (sAb R zS) (LH.seq (LH.seqT [(0, .lst 6 (List.map GBag.lv p0)), (1, .L p1), (2, .L p2), (31, .bool ((decide ((p0.length : Int) > 20)) || (decide ((p1.length : Int) > 30))))] [] R ?_ ?_))))
  ·refine sMl R (sN (oLnL (f := GBag.lv) te27 R (sN (oGt R R (sMb R ?_)))))
   by_cases hb2 : (decide ((p0.length : Int) > 20)) = true
   ·exact sF R R hb2 (sF R R hb2 (sF R R hb2 (sN (oPkT (cB hb2) (v := (.bool _)) R (s0 (Wk.to (eC R (eC R (eC R (eC (cB (orT hb2)) eN)))) mN R (prK R)))))))
   ·replace hb2 := bF hb2
    exact sT R (cB hb2) (oM (v := (.lst _ _)) R (sT R (cB hb2) (oLnL (f := LV.I) te22 R (sT R (cB hb2) (oGt R R (sN (oPkF (cB hb2) (v := (.bool _)) R (s0 (Wk.to (eC R (eC R (eC R (eC (cB (orF hb2)) eN)))) mN R (prK R))))))))))
  refine LH.cond (t := ((decide ((p0.length : Int) > 20)) || (decide ((p1.length : Int) > 30)))) R (fun hc3 => ?_) (fun hc3 => ?_)
  ·replace h := iteT h hc3
   refine LH.seqT [(6, .bool true)] [] R (sAb R zS) (LH.ret (thenR ?_))
   obtain rfl := oI h
   exact retE (aT Tryz.results4) (lrT R (lr0 ⟨memN mN, R, prK R, Sub.rfl⟩))
  replace h := iteF h hc3
  refine LH.skip (thenN ?_)
  obtain ⟨r4, hr4, h⟩ := bindS h
  refine LH.seqT [(0, .lst 6 (List.map GBag.lv p0)), (1, .L p1), (7, .ptr 7 0)] [(7, .box [.L r4.L, .I r4.At])] R (sMl R (sN (oCM (args := [.L p2]) (ml := []) (ml' := [(7, .box [.L r4.L, .I r4.At])]) R isF7 R (sbR sbN) (q285q hr4) mN (newF R newN) R (sAp R zS)))) ?_
  obtain ⟨r5, hr5, h⟩ := bindS h
  refine LH.seqT [(0, .lst 6 (List.map GBag.lv p0)), (1, .L p1), (7, .ptr 7 0), (8, .lst 6 (List.map GBag.lv r5.1))] [(7, .box [.L r5.2.L, .I r5.2.At])] R (sMp R (sN (oCM (args := [.ptr 7 0, .I 5]) (ml := [(7, .box [.L r4.L, .I r4.At])]) (ml' := [(7, .box [.L r5.2.L, .I r5.2.At])]) R isF15 R (sbR (sbR sbN)) (q278q hr5) (mC R mN) (newI R newN) R (sAl R zS)))) ?_
  obtain ⟨r6, hr6, h⟩ := bindS h
  refine LH.seqT [(0, .lst 6 (List.map GBag.lv p0)), (1, .L p1), (8, .lst 6 (List.map GBag.lv r5.1)), (9, .L r6.1)] [] R (sMp R (sN (oCM (args := [.ptr 7 0, .I 8, .I 0, .I 10]) (ml := [(7, .box [.L r5.2.L, .I r5.2.At])]) (ml' := [(7, .box [.L r6.2.L, .I r6.2.At])]) R isF16 R (sbR (sbR (sbR (sbR sbN)))) (Gq16 hr6) (mC R mN) (newI R newN) R (sAl R zS)))) (LH.seq (LH.seqT [(0, .lst 6 (List.map GBag.lv p0)), (1, .L p1), (8, .lst 6 (List.map GBag.lv r5.1)), (9, .L r6.1), (10, .I 0)] [] R (sAi R zS) (LH.block (LH.loop (fun n e m => ∃ (l7 : List GBag) (l8 : List Int) (n9 : Int), q10q F r5 r6 n l7 l8 n9 = some r ∧ e = Env.of [(0, .lst 6 (List.map GBag.lv l7)), (1, .L l8), (8, .lst 6 (List.map GBag.lv r5.1)), (9, .L r6.1), (10, .I n9)] ∧ m = Mem.of []) F ⟨p0, p1, 0, h, R, R⟩ ?_))))
  clear h
  rintro n e m ⟨l7, l8, n9, h, rfl, rfl⟩
  rcases n with _ | n
  · cases (show Option.none = some _ from h)
  obtain ⟨rec1, hrec1⟩ : ∃ f, f = q10q F r5 r6 n := ⟨_, rfl⟩
  replace h : q45q F r5 r6 rec1 l7 l8 n9 = some r := hrec1 ▸ h
  unfold q45q at h
  refine LH.seq (LH.seqT [(0, .lst 6 (List.map GBag.lv l7)), (1, .L l8), (8, .lst 6 (List.map GBag.lv r5.1)), (9, .L r6.1), (10, .I n9), (39, .bool (decide (n9 < 2)))] [] R (sMi R (sN (oLt R R zS))) (LH.cond (t := (decide (n9 < 2))) R (fun hc10 => ?_) (fun hc10 => ?_)))
  ·replace h := iteT h hc10
   refine LH.skip (thenN (LH.wk (Wk.eq (el := [(0, .lst 6 (List.map GBag.lv l7)), (1, .L l8), (8, .lst 6 (List.map GBag.lv r5.1)), (9, .L r6.1), (10, .I n9)]) (ml := []) R R R R) (LH.seq (LH.block ?_))))
   obtain ⟨r11, hr11, h⟩ := bindS h
   refine LH.seqT [(0, .lst 6 (List.map GBag.lv l7)), (1, .L l8), (8, .lst 6 (List.map GBag.lv r5.1)), (9, .L r6.1), (10, .I n9), (11, .L r11.1), (12, .L r11.2.1), (13, .L r11.2.2.1), (14, .L r11.2.2.2)] [] R (sMl R (sMl R (sN (oCP (args := [.lst 6 (List.map GBag.lv l7), .L l8]) R isF17 R (sbR (sbR sbN)) (q212q hr11) R (sMt R (sN (oEx R R (sN (oEx R R (sN (oEx R R (sN (oEx R R (sAl R (sAl R (sAl R (sAl R zS))))))))))))))))) ?_
   obtain ⟨r12, hr12, h⟩ := bindS h
   refine LH.seqT [(0, .lst 6 (List.map GBag.lv l7)), (1, .L l8), (8, .lst 6 (List.map GBag.lv r5.1)), (9, .L r6.1), (10, .I n9), (11, .L r11.1), (12, .L r11.2.1), (13, .L r11.2.2.1), (14, .L r11.2.2.2), (15, .L r12.1), (16, .L r12.2.1), (17, .L r12.2.2.1), (18, .L r12.2.2.2)] [] R (sMl R (sMl R (sN (oCP (args := [.lst 6 (List.map GBag.lv l7), .L l8]) R isF18 R (sbR (sbR sbN)) (q258q hr12) R (sMt R (sN (oEx R R (sN (oEx R R (sN (oEx R R (sN (oEx R R (sAl R (sAl R (sAl R (sAl R zS))))))))))))))))) (LH.seq ?_)
   obtain ⟨w14, hv, h⟩ := bindS h
   refine LH.seqT [(0, .lst 6 (List.map GBag.lv l7)), (1, .L l8), (8, .lst 6 (List.map GBag.lv r5.1)), (9, .L r6.1), (10, .I n9), (79, .bool w14)] [] R ?_ ?_
   ·refine sMl R (sMl R ?_)
    obtain ⟨r15, hr15, hv⟩ := bindS hv
    refine sN (oCP (args := [.L r11.1, .L r12.1]) R isF19 R (sbR (sbR sbN)) (q47q hr15) R (sN (oNot R (sMb R ?_))))
    by_cases hb16 : (!r15) = true
    ·replace hv := iteT hv hb16
     refine sF R R hb16 (sF R R hb16 (sF R R hb16 (sF R R hb16 (sN (oPkT (cB hb16) (v := (.bool _)) R (sMb R (sF R R R (sF R R R (sF R R R (sF R R R (sN (oPkT R (v := (.bool _)) R (sMb R (sF R R R (sF R R R (sF R R R (sF R R R (sN (oPkT R (v := (.bool _)) R ?_)))))))))))))))))))
     obtain rfl := oI hv
     exact zS
    ·replace hb16 := bF hb16
     replace hv := iteF hv hb16
     refine sT R (cB hb16) (oM (v := (.lst _ _)) R (sT R (cB hb16) (oM (v := (.lst _ _)) R ?_)))
     obtain ⟨r17, hr17, hv⟩ := bindS hv
     refine sT R (cB hb16) (oCP (args := [.L r11.2.1, .L r12.2.1]) R isF19 R (sbR (sbR sbN)) (q47q hr17) R (sT R (cB hb16) (oNot R (sN (oPkF (cB hb16) (v := (.bool _)) R (sMb R ?_))))))
     by_cases hb18 : (!r17) = true
     ·replace hv := iteT hv hb18
      refine sF R R hb18 (sF R R hb18 (sF R R hb18 (sF R R hb18 (sN (oPkT (cB hb18) (v := (.bool _)) R (sMb R (sF R R R (sF R R R (sF R R R (sF R R R (sN (oPkT R (v := (.bool _)) R ?_))))))))))))
      obtain rfl := oI hv
      exact zS
     ·replace hb18 := bF hb18
      replace hv := iteF hv hb18
      refine sT R (cB hb18) (oM (v := (.lst _ _)) R (sT R (cB hb18) (oM (v := (.lst _ _)) R ?_)))
      obtain ⟨r19, hr19, hv⟩ := bindS hv
      refine sT R (cB hb18) (oCP (args := [.L r11.2.2.1, .L r12.2.2.1]) R isF19 R (sbR (sbR sbN)) (q47q hr19) R (sT R (cB hb18) (oNot R (sN (oPkF (cB hb18) (v := (.bool _)) R (sMb R ?_))))))
      by_cases hb20 : (!r19) = true
      ·replace hv := iteT hv hb20
       refine sF R R hb20 (sF R R hb20 (sF R R hb20 (sF R R hb20 (sN (oPkT (cB hb20) (v := (.bool _)) R ?_)))))
       obtain rfl := oI hv
       exact zS
      ·replace hb20 := bF hb20
       replace hv := iteF hv hb20
       refine sT R (cB hb20) (oM (v := (.lst _ _)) R (sT R (cB hb20) (oM (v := (.lst _ _)) R ?_)))
       obtain ⟨r21, hr21, hv⟩ := bindS hv
       refine sT R (cB hb20) (oCP (args := [.L r11.2.2.2, .L r12.2.2.2]) R isF19 R (sbR (sbR sbN)) (q47q hr21) R (sT R (cB hb20) (oNot R (sN (oPkF (cB hb20) (v := (.bool _)) R ?_)))))
       obtain rfl := oI hv
       exact zS
   clear hv
   refine LH.cond (t := w14) R (fun hc22 => ?_) (fun hc22 => ?_)
   ·replace h := iteT h hc22
    refine LH.seqT [(6, .bool false)] [] R (sAb R zS) (LH.ret (thenR (blockR (thenR (roundR (blockR (thenR ?_)))))))
    obtain rfl := oI h
    exact retE (aT Tryz.results4) (lrT R (lr0 ⟨memN mN, R, prK R, Sub.rfl⟩))
   replace h := iteF h hc22
   refine LH.skip (thenN (LH.wk (Wk.eq (el := [(0, .lst 6 (List.map GBag.lv l7)), (1, .L l8), (8, .lst 6 (List.map GBag.lv r5.1)), (9, .L r6.1), (10, .I n9)]) (ml := []) R R R R) (LH.seq (LH.seqT [(0, .lst 6 (List.map GBag.lv l7)), (1, .L l8), (8, .lst 6 (List.map GBag.lv r5.1)), (9, .L r6.1), (10, .I n9), (19, .I 0)] [] R (sAi R zS) (LH.block (LH.loop (fun n e m => ∃ (n23 : Int), q21q rec1 F r5 r6 l7 l8 n9 n n23 = some r ∧ e = Env.of [(0, .lst 6 (List.map GBag.lv l7)), (1, .L l8), (8, .lst 6 (List.map GBag.lv r5.1)), (9, .L r6.1), (10, .I n9), (19, .I n23)] ∧ m = Mem.of []) F ⟨0, h, R, R⟩ ?_))))))
   clear h
   rintro n e m ⟨n23, h, rfl, rfl⟩
   rcases n with _ | n
   · cases (show Option.none = some _ from h)
   obtain ⟨rec2, hrec2⟩ : ∃ f, f = q21q rec1 F r5 r6 l7 l8 n9 n := ⟨_, rfl⟩
   replace h : q46q rec1 F r5 r6 l7 l8 n9 rec2 n23 = some r := hrec2 ▸ h
   unfold q46q at h
   refine LH.seq (LH.seqT [(0, .lst 6 (List.map GBag.lv l7)), (1, .L l8), (8, .lst 6 (List.map GBag.lv r5.1)), (9, .L r6.1), (10, .I n9), (19, .I n23), (83, .bool (decide (n23 < (l8.length : Int))))] [] R (sMi R (sMl R (sN (oLnL (f := LV.I) te22 R (sN (oLt R R zS)))))) (LH.cond (t := (decide (n23 < (l8.length : Int)))) R (fun hc24 => ?_) (fun hc24 => ?_)))
   ·replace h := iteT h hc24
    refine LH.skip (thenN (LH.wk (Wk.eq (el := [(0, .lst 6 (List.map GBag.lv l7)), (1, .L l8), (8, .lst 6 (List.map GBag.lv r5.1)), (9, .L r6.1), (10, .I n9), (19, .I n23)]) (ml := []) R R R R) (LH.seq (LH.block ?_))))
    obtain ⟨x25, hx25, h⟩ := bindS h
    obtain ⟨r26, hr26, h⟩ := bindS h
    refine LH.seqT [(0, .lst 6 (List.map GBag.lv l7)), (1, .L l8), (8, .lst 6 (List.map GBag.lv r5.1)), (9, .L r6.1), (10, .I n9), (19, .I n23), (20, .sptr (GBag.lv r26.1).cells), (21, .bool r26.2)] [] R (sMl R (sMl R (sMi R (sN (oIx (f := LV.I) te22 tk3 ts3 R R okI hx25 R (sN (oLd R tk3 ta3 (sN (oCP (args := [.lst 6 (List.map GBag.lv l7), .I x25]) R isF20 R (sbR (sbR sbN)) (q264q hr26) R (sMt R (sN (oEx R R (sN (oEx R R (sN (oAl (id := 120) R tz43 R R (s_ (oSt R R R tk43 ts43 R R R (sAb R (s0 ((Wk.trans (Wk.eq (el := [(0, .lst 6 (List.map GBag.lv l7)), (1, .L l8), (8, .lst 6 (List.map GBag.lv r5.1)), (9, .L r6.1), (10, .I n9), (19, .I n23), (20, .ptr 120 0), (21, .bool r26.2)]) (ml := [(120, .box (GBag.lv r26.1).cells)]) R R R R) (Wk.trans (Wk.frzB 120 (GBag.lv r26.1).cells R R R (prN R)) (Wk.eq R R R R)))))))))))))))))))))))) ?_
    obtain ⟨x27, hx27, h⟩ := bindS h
    obtain ⟨r28, hr28, h⟩ := bindS h
    refine LH.seqT [(0, .lst 6 (List.map GBag.lv l7)), (1, .L l8), (8, .lst 6 (List.map GBag.lv r5.1)), (9, .L r6.1), (10, .I n9), (19, .I n23), (20, .sptr (GBag.lv r26.1).cells), (21, .bool r26.2), (22, .sptr (GBag.lv r28.1).cells), (23, .bool r28.2)] [] R (sMl R (sMl R (sMi R (sN (oIx (f := LV.I) te22 tk3 ts3 R R okI hx27 R (sN (oLd R tk3 ta3 (sN (oCP (args := [.lst 6 (List.map GBag.lv l7), .I x27]) R isF21 R (sbR (sbR sbN)) (q279q hr28) R (sMt R (sN (oEx R R (sN (oEx R R (sN (oAl (id := 122) R tz43 R R (s_ (oSt R R R tk43 ts43 R R R (sAb R (s0 ((Wk.trans (Wk.eq (el := [(0, .lst 6 (List.map GBag.lv l7)), (1, .L l8), (8, .lst 6 (List.map GBag.lv r5.1)), (9, .L r6.1), (10, .I n9), (19, .I n23), (20, .sptr (GBag.lv r26.1).cells), (21, .bool r26.2), (22, .ptr 122 0), (23, .bool r28.2)]) (ml := [(122, .box (GBag.lv r28.1).cells)]) R R R R) (Wk.trans (Wk.frzB 122 (GBag.lv r28.1).cells R R R (prN R)) (Wk.eq R R R R)))))))))))))))))))))))) ?_
    obtain ⟨w30, hv, h⟩ := bindS h
    refine LH.seqT [(0, .lst 6 (List.map GBag.lv l7)), (1, .L l8), (8, .lst 6 (List.map GBag.lv r5.1)), (9, .L r6.1), (10, .I n9), (19, .I n23), (112, .bool w30)] [] R ?_ ?_
    ·refine sN (oLdA R tk43 ta43 ts43 R R (sN (oLdA R tk43 ta43 ts43 R R ?_)))
     obtain ⟨r31, hr31, hv⟩ := bindS hv
     refine sN (oCP (args := [GBag.lv r26.1, GBag.lv r28.1]) R isF22 R (sbR (sbR sbN)) (q259q hr31) R (sN (oNot R (sMb R ?_))))
     by_cases hb32 : (!r31) = true
     ·replace hv := iteT hv hb32
      refine sF R R hb32 (sF R R hb32 (sF R R hb32 (sN (oPkT (cB hb32) (v := (.bool _)) R ?_))))
      obtain rfl := oI hv
      exact zS
     ·replace hb32 := bF hb32
      replace hv := iteF hv hb32
      refine sT R (cB hb32) (oM (v := (.bool _)) R (sT R (cB hb32) (oM (v := (.bool _)) R (sT R (cB hb32) (oNeB R R tb4 (sN (oPkF (cB hb32) (v := (.bool _)) R ?_)))))))
      obtain rfl := oI hv
      exact zS
    clear hv
    refine LH.cond (t := w30) R (fun hc33 => ?_) (fun hc33 => ?_)
    ·replace h := iteT h hc33
     refine LH.seqT [(6, .bool false)] [] R (sAb R zS) (LH.ret (blockR (thenR (roundR (blockR (thenR (blockR (thenR (roundR (blockR (thenR ?_)))))))))))
     obtain rfl := oI h
     exact retE (aT Tryz.results4) (lrT R (lr0 ⟨memN mN, R, prK R, Sub.rfl⟩))
    replace h := iteF h hc33
    refine LH.skip (blockN (thenN (LH.loneT [(0, .lst 6 (List.map GBag.lv l7)), (1, .L l8), (8, .lst 6 (List.map GBag.lv r5.1)), (9, .L r6.1), (10, .I n9), (19, .I (i64 (n23 + 1)))] [] R (sMi R (sN (oAdd R R (sAi R zS)))) ?_)))
    exact roundI ⟨(i64 (n23 + 1)), hrec2 ▸ h, R, R⟩ (Wk.eq R R R R)
   replace h := iteF h hc24
   refine LH.exit (thenX (roundX (blockH (thenN (LH.loneT [(0, .lst 6 (List.map GBag.lv r5.1)), (1, .L r6.1), (8, .lst 6 (List.map GBag.lv r5.1)), (9, .L r6.1), (10, .I n9)] [] R (sMl R (sMl R (sAl R (sAl R zS)))) (blockN (thenN (LH.loneT [(0, .lst 6 (List.map GBag.lv r5.1)), (1, .L r6.1), (8, .lst 6 (List.map GBag.lv r5.1)), (9, .L r6.1), (10, .I (i64 (n9 + 1)))] [] R (sMi R (sN (oAdd R R (sAi R zS)))) ?_))))))))
   exact roundI ⟨r5.1, r6.1, (i64 (n9 + 1)), hrec1 ▸ h, R, R⟩ (Wk.eq R R R R)
  replace h := iteF h hc10
  refine LH.exit (thenX (roundX (blockH (thenN ?_))))
  obtain ⟨r34, hr34, h⟩ := bindS h
  refine LH.seqT [(6, .bool r34)] [] R (sN (oCP (args := []) R isF14 R sbN (q272q hr34) R (sAb R zS))) (LH.ret ?_)
  obtain rfl := oI h
  exact retE (aT Tryz.results4) (lrT R (lr0 ⟨memN mN, R, prK R, Sub.rfl⟩))

end Go.Proofs.YtdjkbicmkbnjdaaGreat
