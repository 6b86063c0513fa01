import Derived.Test.YtbicmjeldappjaaZW2
set_option linter.unusedVariables false
set_option linter.unusedSimpArgs false
set_option maxRecDepth 100000
set_option maxHeartbeats 1000000
namespace Go.Proofs.Ytbicmjeldappjaa
open Go.L Go.Sh
theorem q112q {F : Nat} {p0 : List Gq49} {p1 : Int} {r : List Gq49 × Int} (h : q75q F p0 p1 = some r) : LCall Try.prog 17 [.lst 9 (List.map Gq49.lv p0), .I p1] (Mem.of []) (.tup [.lst 9 (List.map Gq49.lv r.1), .I r.2]) (Mem.of []) := by
  unfold q75q at h
  refine bodyT Try.func17 R (nT Try.ntmps17 R) (LH.wk (Wk.eq (el := [(0, .lst 9 (List.map Gq49.lv p0)), (1, .I p1)]) (ml := []) R R R R) (LH.seqT [(0, .lst 9 (List.map Gq49.lv p0)), (1, .I p1)] [] R (sAn R (sAi R zS)) ?_))
  obtain ⟨v1, hv1, h⟩ := bindS h
  obtain ⟨r2, hr2, h⟩ := bindS h
  refine LH.seqT [(4, .lst 9 (List.map Gq49.lv r2.1)), (5, .I r2.2)] [] R (sMl R (sMi R (sX ((ok_max R R).ok) (sMl R (sN (oLnL (f := Gq49.lv) te27 R (sX ((ok_min R R).ok) (sN (oSl (f := Gq49.lv) te27 tk47 ts47 R R R hv1 (sN (oCP (args := [.lst 9 (List.map Gq49.lv v1)]) R isF12 R (sbR sbN) (q10q hr2) R (sN (oEx R R (sN (oEx R R (sAl R (sAi R zS))))))))))))))))) (LH.ret ?_)
  obtain rfl := oI h
  exact retE (aT Try.results17) (lrT R (lrT R (lr0 ⟨memN mN, R, prK R, (Sub.tup (sbR (sbR sbN)))⟩)))

set_option maxHeartbeats 4000000 in
theorem q97q {F : Nat} {p0 : List Int} {p1 : Int} {r : Bool} (h : q42q F p0 p1 = some r) : LCall Try.prog 4 [.L p0, .int .u8 p1] (Mem.of []) (.bool r) (Mem.of []) := by
  unfold q42q at h
  refine bodyT Try.func4 R (nT Try.ntmps4 R) (LH.wk (Wk.eq (el := [(0, .L p0), (1, .int .u8 p1)]) (ml := []) R R R R) (LH.seqT [(0, .L p0), (1, .int .u8 p1)] [] R (sAb R zS) (LH.seq ?_)))
  obtain ⟨r1, hr1, h⟩ := bindS h
  refine LH.seqT [(0, .L p0), (1, .int .u8 p1), (24, .bool (!r1))] [] R (sMl R (sN (oCP (args := [.L p0]) R isF7 R (sbR sbN) (q122q hr1) R (sN (oNot R zS))))) (LH.cond (t := (!r1)) R (fun hc2 => ?_) (fun hc2 => ?_))
  ·replace h := iteT h hc2
   obtain ⟨r3, hr3, h⟩ := bindS h
   refine LH.seqT [(4, .bool r3)] [] R (sN (oCP (args := []) R isF8 R sbN (q91q hr3) R (sAb R zS))) (LH.ret (thenR ?_))
   obtain rfl := oI h
   exact retE (aT Try.results4) (lrT R (lr0 ⟨memN mN, R, prK R, Sub.rfl⟩))
  replace h := iteF h hc2
  refine LH.skip (thenN ?_)
  obtain ⟨r4, hr4, h⟩ := bindS h
  refine LH.seqT [(1, .int .u8 p1), (5, .ptr 9 0)] [(9, .box [.L r4.L, .I r4.At])] R (sMl R (sN (oCM (args := [.L p0]) (ml := []) (ml' := [(9, .box [.L r4.L, .I r4.At])]) R isF9 R (sbR sbN) (q125q hr4) mN (newF R newN) R (sAp R zS)))) ?_
  obtain ⟨r5, hr5, h⟩ := bindS h
  obtain ⟨r6, hr6, h⟩ := bindS h
  refine LH.seqT [(1, .int .u8 p1), (6, .lst 9 (List.map Gq49.lv r6.1))] [] R (sMp R (sMp R (sN (oCM (args := [.ptr 9 0]) (ml := [(9, .box [.L r4.L, .I r4.At])]) (ml' := [(9, .box [.L r5.2.L, .I r5.2.At])]) R isF11 R (sbR sbN) (Gq48 hr5) (mC R mN) (newI R newN) R (sN (oCM (args := [.ptr 9 0, .agg [.lst 5 (List.map Gq50.lv r5.1.Markers), .lst 7 (List.map Gq54.lv r5.1.Scripts), .lst 3 (List.map Gq52.lv r5.1.Papers), .lst 2 (List.map Gq53.lv r5.1.Schemes), .lst 2 (List.map GSeed.lv r5.1.Seeds), .I r5.1.Monitor.Part, .I r5.1.Monitor.Total, .I r5.1.Monitor.Window, .I r5.1.Monitor.Fails], .I 20]) (ml := [(9, .box [.L r5.2.L, .I r5.2.At])]) (ml' := [(9, .box [.L r6.2.L, .I r6.2.At]), (900, .arr 47 9 (List.map Gq49.lv r6.1))]) R isF10 R (sbR (sbR (sbR sbN))) (Gq5 hr6) ⟨R, trivial⟩ (newI R (newF R newN)) R (sAa R (s0 ((Wk.trans (Wk.eq (el := [(1, .int .u8 p1), (6, .arr 900 (List.length r6.1))]) (ml := [(900, .arr 47 9 (List.map Gq49.lv r6.1))]) R R R R) (Wk.trans (Wk.frzL (f := Gq49.lv) (el' := [(1, .int .u8 p1), (6, .lst 9 (List.map Gq49.lv r6.1))]) 900 47 9 r6.1 R R (prN R) (fK R (fZ fN))) (Wk.eq R R R R)))))))))))) ?_
  obtain ⟨r7, hr7, h⟩ := bindS h
  refine LH.seqT [(1, .int .u8 p1), (6, .lst 9 (List.map Gq49.lv r6.1)), (7, .lst 9 (List.map Gq49.lv r7.1)), (8, .I r7.2)] [] R (sMl R (sN (oCP (args := [.lst 9 (List.map Gq49.lv r6.1)]) R isF12 R (sbR sbN) (q10q hr7) R (sMt R (sN (oEx R R (sN (oEx R R (sAl R (sAi R zS)))))))))) (LH.seq (LH.seqT [(1, .int .u8 p1), (6, .lst 9 (List.map Gq49.lv r6.1)), (7, .lst 9 (List.map Gq49.lv r7.1)), (8, .I r7.2), (43, .bool ((r7.2 != 0) || ((r7.1.length : Int) == 0)))] [] R ?_ ?_))
  ·refine sMi R (sN (oNe R R (sMb R ?_)))
   by_cases hb9 : (r7.2 != 0) = true
   ·exact sF R R hb9 (sF R R hb9 (sF R R hb9 (sN (oPkT (cB hb9) (v := (.bool _)) R (s0 (Wk.to (eC R (eC R (eC R (eC R (eC (cB (orT hb9)) eN))))) mN R (prK R)))))))
   ·replace hb9 := bF hb9
    exact sT R (cB hb9) (oM (v := (.lst _ _)) R (sT R (cB hb9) (oLnL (f := Gq49.lv) te27 R (sT R (cB hb9) (oEq R R (sN (oPkF (cB hb9) (v := (.bool _)) R (s0 (Wk.to (eC R (eC R (eC R (eC R (eC (cB (orF hb9)) eN))))) mN R (prK R))))))))))
  refine LH.cond (t := ((r7.2 != 0) || ((r7.1.length : Int) == 0))) R (fun hc10 => ?_) (fun hc10 => ?_)
  ·replace h := iteT h hc10
   obtain ⟨w12, hv, h⟩ := bindS h
   refine LH.seqT [(4, .bool w12)] [] R ?_ ?_
   ·refine sMi R (sN (oEq R R (sMb R ?_)))
    by_cases hb13 : (r7.2 == 0) = true
    ·replace hv := iteT hv hb13
     obtain ⟨r14, hr14, hv⟩ := bindS hv
     refine sT R (cB hb13) (oCP (args := []) R isF8 R sbN (q91q hr14) R (sN (oPkT (cB hb13) (v := (.bool _)) R (sAb R ?_))))
     obtain rfl := oI hv
     exact zS
    ·replace hb13 := bF hb13
     replace hv := iteF hv hb13
     refine sF R R hb13 (sN (oPkF (cB hb13) (v := (.bool _)) R (sAb R ?_)))
     obtain rfl := oI hv
     exact zS
   clear hv
   refine LH.ret (thenR ?_)
   obtain rfl := oI h
   exact retE (aT Try.results4) (lrT R (lr0 ⟨memN mN, R, prK R, Sub.rfl⟩))
  replace h := iteF h hc10
  refine LH.skip (thenN ?_)
  obtain ⟨v15, hv15, h⟩ := bindS h
  obtain ⟨x16, hx16, h⟩ := bindS h
  refine LH.seqT [(6, .lst 9 (List.map Gq49.lv r6.1)), (7, .lst 9 (List.map Gq49.lv r7.1)), (9, .sptr (Gq49.lv x16).cells)] [] R (sMl R (sMi R (sN (oCv tk5 ti3 R (sMl R (sN (oLnL (f := Gq49.lv) te27 R (sN (oRem R R hv15 (sN (oIx (f := Gq49.lv) te27 tk47 ts47 R R Gq49.ok hx16 R (sN (oLdA R tk47 ta47 ts47 R R (sN (oAl (id := 109) R tz47 R R (s_ (oSt R R R tk47 ts47 R R R (s0 ((Wk.trans (Wk.eq (el := [(6, .lst 9 (List.map Gq49.lv r6.1)), (7, .lst 9 (List.map Gq49.lv r7.1)), (9, .ptr 109 0)]) (ml := [(109, .box (Gq49.lv x16).cells)]) R R R R) (Wk.trans (Wk.frzB 109 (Gq49.lv x16).cells R R R (prN R)) (Wk.eq R R R R)))))))))))))))))))))) (LH.seqJM mixed [] [0, 0, 2, 2, 100110, 100111] [(6, .lst 9 (List.map Gq49.lv r6.1)), (7, .lst 9 (List.map Gq49.lv r7.1)), (9, .sptr (Gq49.lv x16).cells), (10, .ptr 110 0), (11, .ptr 111 0)] [(110, .box (Gq49.lv x16).cells), (111, .box (Gq49.lv x16).cells)] R R (by kernel_rfl) (mN0 (oLdA R tk47 ta47 ts47 R R ⟨R, mN0 (oLdA R tk47 ta47 ts47 R R ⟨R, mN2 (oAl (id := 110) R tz47 R R (mN2 (oAl (id := 111) R tz47 R R (mS R R R (fun _ b _ d => oSt R R R tk47 ts47 b R R d) (mS R R R (fun _ b _ d => oSt R R R tk47 ts47 b R R d) zM)))))⟩)⟩)) (LH.seqT [(6, .lst 9 (List.map Gq49.lv r6.1)), (7, .lst 9 (List.map Gq49.lv r7.1)), (9, .sptr (Gq49.lv x16).cells), (10, .sptr [.I (i64 (x16.Stamp.Time + 1)), .I x16.Stamp.Source, .I x16.Stamp.Seq, .I x16.Kind, .I x16.Script, .I x16.Part, .I x16.Value, .I x16.Marker, .L x16.Pages]), (11, .ptr 111 0)] [(111, .box (Gq49.lv x16).cells)] R (sN (oFa tf47_0 tk45 ts45 R R (sN (oFa tf45_0 tk3 ts3 R R (sN (oLdP R R R R tk3 ta3 (sN (oAdd R R (sN (oFa tf47_0 tk45 ts45 R R (sN (oFa tf45_0 tk3 ts3 R R (s_ (oSt R R R tk3 ts3 R R R (s0 ((Wk.trans (Wk.eq (el := [(6, .lst 9 (List.map Gq49.lv r6.1)), (7, .lst 9 (List.map Gq49.lv r7.1)), (9, .sptr (Gq49.lv x16).cells), (10, .ptr 110 0), (11, .ptr 111 0)]) (ml := [(110, .box [.I (i64 (x16.Stamp.Time + 1)), .I x16.Stamp.Source, .I x16.Stamp.Seq, .I x16.Kind, .I x16.Script, .I x16.Part, .I x16.Value, .I x16.Marker, .L x16.Pages]), (111, .box (Gq49.lv x16).cells)]) R R R R) (Wk.trans (Wk.frzB 110 [.I (i64 (x16.Stamp.Time + 1)), .I x16.Stamp.Source, .I x16.Stamp.Seq, .I x16.Kind, .I x16.Script, .I x16.Part, .I x16.Value, .I x16.Marker, .L x16.Pages] R R R (prN R)) (Wk.eq R R R R))))))))))))))))))) (LH.seqT [(6, .lst 9 (List.map Gq49.lv r6.1)), (7, .lst 9 (List.map Gq49.lv r7.1)), (9, .sptr (Gq49.lv x16).cells), (10, .sptr [.I (i64 (x16.Stamp.Time + 1)), .I x16.Stamp.Source, .I x16.Stamp.Seq, .I x16.Kind, .I x16.Script, .I x16.Part, .I x16.Value, .I x16.Marker, .L x16.Pages]), (11, .sptr [.I x16.Stamp.Time, .I x16.Stamp.Source, .I 9999, .I x16.Kind, .I x16.Script, .I x16.Part, .I x16.Value, .I x16.Marker, .L x16.Pages])] [] R (sN (oFa tf47_0 tk45 ts45 R R (sN (oFa tf45_2 tk3 ts3 R R (s_ (oSt R R R tk3 ts3 R R R (s0 ((Wk.trans (Wk.eq (el := [(6, .lst 9 (List.map Gq49.lv r6.1)), (7, .lst 9 (List.map Gq49.lv r7.1)), (9, .sptr (Gq49.lv x16).cells), (10, .sptr [.I (i64 (x16.Stamp.Time + 1)), .I x16.Stamp.Source, .I x16.Stamp.Seq, .I x16.Kind, .I x16.Script, .I x16.Part, .I x16.Value, .I x16.Marker, .L x16.Pages]), (11, .ptr 111 0)]) (ml := [(111, .box [.I x16.Stamp.Time, .I x16.Stamp.Source, .I 9999, .I x16.Kind, .I x16.Script, .I x16.Part, .I x16.Value, .I x16.Marker, .L x16.Pages])]) R R R R) (Wk.trans (Wk.frzB 111 [.I x16.Stamp.Time, .I x16.Stamp.Source, .I 9999, .I x16.Kind, .I x16.Script, .I x16.Part, .I x16.Value, .I x16.Marker, .L x16.Pages] R R R (prN R)) (Wk.eq R R R R))))))))))) ?_)))
  obtain ⟨v17, hv17, h⟩ := bindS h
  obtain ⟨v18, hv18, h⟩ := bindS h
  obtain ⟨r19, hr19, h⟩ := bindS h
  refine LH.seqJM mixed [] [0, 2, 0, 0, 3, 0, 0, 0, 0, 0, 0] [(6, .lst 9 (List.map Gq49.lv r6.1)), (7, .lst 9 (List.map Gq49.lv r7.1)), (9, .sptr (Gq49.lv x16).cells), (10, .sptr [.I (i64 (x16.Stamp.Time + 1)), .I x16.Stamp.Source, .I x16.Stamp.Seq, .I x16.Kind, .I x16.Script, .I x16.Part, .I x16.Value, .I x16.Marker, .L x16.Pages]), (11, .sptr [.I x16.Stamp.Time, .I x16.Stamp.Source, .I 9999, .I x16.Kind, .I x16.Script, .I x16.Part, .I x16.Value, .I x16.Marker, .L x16.Pages]), (12, .lst 9 (List.map Gq49.lv r19.1)), (13, .I r19.2)] [] R R (by kernel_rfl) (mMl R (mN2 (oApN (f := Gq49.lv) (id := 169) R te27 tr47 ts47 R R hv17 R (mN0 (oLdA R tk47 ta47 ts47 R R ⟨R, mN0 (oBS (f := Gq49.lv) (ys := [x16]) te27 tr47 ts47 R R R Gq49.ok ⟨R, mX (OpOk.toR [69, 71] (by simp [Op.operands, Call.operands]) (ok_apZ (f := Gq49.lv) (xs := v17) te27 tr47 ts47 R R (prN R) R hv18)) (mN0 (oCP (args := [.lst 9 (List.map Gq49.lv v18)]) R isF12 R (sbR sbN) (q10q hr19) R ⟨R, mMt R (mN0 (oEx R R ⟨R, mN0 (oEx R R ⟨R, mAl R (mAi R zM)⟩)⟩))⟩))⟩)⟩))))) ?_
  obtain ⟨v20, hv20, h⟩ := bindS h
  obtain ⟨v21, hv21, h⟩ := bindS h
  obtain ⟨r22, hr22, h⟩ := bindS h
  refine LH.seqJM mixed [] [0, 2, 0, 0, 3, 0, 0, 0, 0, 0, 0] [(6, .lst 9 (List.map Gq49.lv r6.1)), (7, .lst 9 (List.map Gq49.lv r7.1)), (9, .sptr (Gq49.lv x16).cells), (10, .sptr [.I (i64 (x16.Stamp.Time + 1)), .I x16.Stamp.Source, .I x16.Stamp.Seq, .I x16.Kind, .I x16.Script, .I x16.Part, .I x16.Value, .I x16.Marker, .L x16.Pages]), (11, .sptr [.I x16.Stamp.Time, .I x16.Stamp.Source, .I 9999, .I x16.Kind, .I x16.Script, .I x16.Part, .I x16.Value, .I x16.Marker, .L x16.Pages]), (12, .lst 9 (List.map Gq49.lv r19.1)), (13, .I r19.2), (14, .lst 9 (List.map Gq49.lv r22.1)), (15, .I r22.2)] [] R R (by kernel_rfl) (mMl R (mN2 (oApN (f := Gq49.lv) (id := 178) R te27 tr47 ts47 R R hv20 R (mN0 (oLdA R tk47 ta47 ts47 R R ⟨R, mN0 (oBS (f := Gq49.lv) (ys := [(Gq49.mk (Gq56.mk (i64 (x16.Stamp.Time + 1)) x16.Stamp.Source x16.Stamp.Seq) x16.Kind x16.Script x16.Part x16.Value x16.Marker x16.Pages)]) te27 tr47 ts47 R R R Gq49.ok ⟨R, mX (OpOk.toR [78, 80] (by simp [Op.operands, Call.operands]) (ok_apZ (f := Gq49.lv) (xs := v20) te27 tr47 ts47 R R (prN R) R hv21)) (mN0 (oCP (args := [.lst 9 (List.map Gq49.lv v21)]) R isF12 R (sbR sbN) (q10q hr22) R ⟨R, mMt R (mN0 (oEx R R ⟨R, mN0 (oEx R R ⟨R, mAl R (mAi R zM)⟩)⟩))⟩))⟩)⟩))))) ?_
  obtain ⟨v23, hv23, h⟩ := bindS h
  obtain ⟨v24, hv24, h⟩ := bindS h
  obtain ⟨r25, hr25, h⟩ := bindS h
  refine LH.seqJM mixed [] [0, 2, 0, 0, 3, 0, 0, 0, 0, 0, 0] [(6, .lst 9 (List.map Gq49.lv r6.1)), (7, .lst 9 (List.map Gq49.lv r7.1)), (9, .sptr (Gq49.lv x16).cells), (10, .sptr [.I (i64 (x16.Stamp.Time + 1)), .I x16.Stamp.Source, .I x16.Stamp.Seq, .I x16.Kind, .I x16.Script, .I x16.Part, .I x16.Value, .I x16.Marker, .L x16.Pages]), (12, .lst 9 (List.map Gq49.lv r19.1)), (13, .I r19.2), (14, .lst 9 (List.map Gq49.lv r22.1)), (15, .I r22.2), (16, .lst 9 (List.map Gq49.lv r25.1)), (17, .I r25.2)] [] R R (by kernel_rfl) (mMl R (mN2 (oApN (f := Gq49.lv) (id := 187) R te27 tr47 ts47 R R hv23 R (mN0 (oLdA R tk47 ta47 ts47 R R ⟨R, mN0 (oBS (f := Gq49.lv) (ys := [(Gq49.mk (Gq56.mk x16.Stamp.Time x16.Stamp.Source 9999) x16.Kind x16.Script x16.Part x16.Value x16.Marker x16.Pages)]) te27 tr47 ts47 R R R Gq49.ok ⟨R, mX (OpOk.toR [87, 89] (by simp [Op.operands, Call.operands]) (ok_apZ (f := Gq49.lv) (xs := v23) te27 tr47 ts47 R R (prN R) R hv24)) (mN0 (oCP (args := [.lst 9 (List.map Gq49.lv v24)]) R isF12 R (sbR sbN) (q10q hr25) R ⟨R, mMt R (mN0 (oEx R R ⟨R, mN0 (oEx R R ⟨R, mAl R (mAi R zM)⟩)⟩))⟩))⟩)⟩))))) ?_
  obtain ⟨v26, hv26, h⟩ := bindS h
  obtain ⟨v27, hv27, h⟩ := bindS h
  obtain ⟨r28, hr28, h⟩ := bindS h
  refine LH.seqJM mixed [] [0, 2, 0, 0, 3, 0, 0, 0, 0, 0, 0, 0, 0] [(7, .lst 9 (List.map Gq49.lv r7.1)), (9, .sptr (Gq49.lv x16).cells), (12, .lst 9 (List.map Gq49.lv r19.1)), (13, .I r19.2), (14, .lst 9 (List.map Gq49.lv r22.1)), (15, .I r22.2), (16, .lst 9 (List.map Gq49.lv r25.1)), (17, .I r25.2), (18, .lst 9 (List.map Gq49.lv r28.1)), (19, .I r28.2)] [] R R (by kernel_rfl) (mMl R (mN2 (oApN (f := Gq49.lv) (id := 196) R te27 tr47 ts47 R R hv26 R (mN0 (oLdA R tk47 ta47 ts47 R R ⟨R, mN0 (oBS (f := Gq49.lv) (ys := [(Gq49.mk (Gq56.mk (i64 (x16.Stamp.Time + 1)) x16.Stamp.Source x16.Stamp.Seq) x16.Kind x16.Script x16.Part x16.Value x16.Marker x16.Pages)]) te27 tr47 ts47 R R R Gq49.ok ⟨R, mX (OpOk.toR [96, 98] (by simp [Op.operands, Call.operands]) (ok_apZ (f := Gq49.lv) (xs := v26) te27 tr47 ts47 R R (prN R) R hv27)) (mMl R (mN0 (oLnL (f := Gq49.lv) te27 R ⟨R, mN0 (oCP (args := [.lst 9 (List.map Gq49.lv v27), .I (r6.1.length : Int)]) R isF17 R (sbR (sbR sbN)) (q112q hr28) R ⟨R, mMt R (mN0 (oEx R R ⟨R, mN0 (oEx R R ⟨R, mAl R (mAi R zM)⟩)⟩))⟩)⟩)))⟩)⟩))))) (LH.seq ?_)
  obtain ⟨w30, hv, h⟩ := bindS h
  refine LH.seqT [(9, .sptr (Gq49.lv x16).cells), (14, .lst 9 (List.map Gq49.lv r22.1)), (146, .bool w30)] [] R ?_ ?_
  ·refine sMi R (sN (oNe R R (sMb R ?_)))
   by_cases hb31 : (r19.2 != 0) = true
   ·replace hv := iteT hv hb31
    refine sF R R hb31 (sF R R hb31 (sN (oPkT (cB hb31) (v := (.bool _)) R (sMb R (sF R R R (sF R R R (sN (oPkT R (v := (.bool _)) R (sMb R (sF R R R (sF R R R (sN (oPkT R (v := (.bool _)) R (sMb R (sF R R R (sF R R R (sF R R R (sF R R R (sN (oPkT R (v := (.bool _)) R (sMb R (sF R R R (sF R R R (sF R R R (sF R R R (sN (oPkT R (v := (.bool _)) R (sMb R (sF R R R (sF R R R (sF R R R (sF R R R (sF R R R (sF R R R (sN (oPkT R (v := (.bool _)) R (sMb R (sF R R R (sF R R R (sF R R R (sF R R R (sF R R R (sF R R R (sN (oPkT R (v := (.bool _)) R ?_)))))))))))))))))))))))))))))))))))))))))))))
    obtain rfl := oI hv
    exact zS
   ·replace hb31 := bF hb31
    replace hv := iteF hv hb31
    refine sT R (cB hb31) (oM (v := (.int _ _)) R (sT R (cB hb31) (oNe R R (sN (oPkF (cB hb31) (v := (.bool _)) R (sMb R ?_))))))
    by_cases hb32 : (r22.2 != 0) = true
    ·replace hv := iteT hv hb32
     refine sF R R hb32 (sF R R hb32 (sN (oPkT (cB hb32) (v := (.bool _)) R (sMb R (sF R R R (sF R R R (sN (oPkT R (v := (.bool _)) R (sMb R (sF R R R (sF R R R (sF R R R (sF R R R (sN (oPkT R (v := (.bool _)) R (sMb R (sF R R R (sF R R R (sF R R R (sF R R R (sN (oPkT R (v := (.bool _)) R (sMb R (sF R R R (sF R R R (sF R R R (sF R R R (sF R R R (sF R R R (sN (oPkT R (v := (.bool _)) R (sMb R (sF R R R (sF R R R (sF R R R (sF R R R (sF R R R (sF R R R (sN (oPkT R (v := (.bool _)) R ?_))))))))))))))))))))))))))))))))))))))))
     obtain rfl := oI hv
     exact zS
    ·replace hb32 := bF hb32
     replace hv := iteF hv hb32
     refine sT R (cB hb32) (oM (v := (.int _ _)) R (sT R (cB hb32) (oNe R R (sN (oPkF (cB hb32) (v := (.bool _)) R (sMb R ?_))))))
     by_cases hb33 : (r25.2 != 0) = true
     ·replace hv := iteT hv hb33
      refine sF R R hb33 (sF R R hb33 (sN (oPkT (cB hb33) (v := (.bool _)) R (sMb R (sF R R R (sF R R R (sF R R R (sF R R R (sN (oPkT R (v := (.bool _)) R (sMb R (sF R R R (sF R R R (sF R R R (sF R R R (sN (oPkT R (v := (.bool _)) R (sMb R (sF R R R (sF R R R (sF R R R (sF R R R (sF R R R (sF R R R (sN (oPkT R (v := (.bool _)) R (sMb R (sF R R R (sF R R R (sF R R R (sF R R R (sF R R R (sF R R R (sN (oPkT R (v := (.bool _)) R ?_)))))))))))))))))))))))))))))))))))
      obtain rfl := oI hv
      exact zS
     ·replace hb33 := bF hb33
      replace hv := iteF hv hb33
      refine sT R (cB hb33) (oM (v := (.int _ _)) R (sT R (cB hb33) (oNe R R (sN (oPkF (cB hb33) (v := (.bool _)) R (sMb R ?_))))))
      by_cases hb34 : (r28.2 != 0) = true
      ·replace hv := iteT hv hb34
       refine sF R R hb34 (sF R R hb34 (sF R R hb34 (sF R R hb34 (sN (oPkT (cB hb34) (v := (.bool _)) R (sMb R (sF R R R (sF R R R (sF R R R (sF R R R (sN (oPkT R (v := (.bool _)) R (sMb R (sF R R R (sF R R R (sF R R R (sF R R R (sF R R R (sF R R R (sN (oPkT R (v := (.bool _)) R (sMb R (sF R R R (sF R R R (sF R R R (sF R R R (sF R R R (sF R R R (sN (oPkT R (v := (.bool _)) R ?_))))))))))))))))))))))))))))))
       obtain rfl := oI hv
       exact zS
      ·replace hb34 := bF hb34
       replace hv := iteF hv hb34
       refine sT R (cB hb34) (oM (v := (.lst _ _)) R (sT R (cB hb34) (oM (v := (.lst _ _)) R ?_)))
       obtain ⟨r35, hr35, hv⟩ := bindS hv
       refine sT R (cB hb34) (oCP (args := [.lst 9 (List.map Gq49.lv r19.1), .lst 9 (List.map Gq49.lv r7.1)]) R isF15 R (sbR (sbR sbN)) (q93q hr35) R (sT R (cB hb34) (oNot R (sN (oPkF (cB hb34) (v := (.bool _)) R (sMb R ?_))))))
       by_cases hb36 : (!r35) = true
       ·replace hv := iteT hv hb36
        refine sF R R hb36 (sF R R hb36 (sF R R hb36 (sF R R hb36 (sN (oPkT (cB hb36) (v := (.bool _)) R (sMb R (sF R R R (sF R R R (sF R R R (sF R R R (sF R R R (sF R R R (sN (oPkT R (v := (.bool _)) R (sMb R (sF R R R (sF R R R (sF R R R (sF R R R (sF R R R (sF R R R (sN (oPkT R (v := (.bool _)) R ?_)))))))))))))))))))))))
        obtain rfl := oI hv
        exact zS
       ·replace hb36 := bF hb36
        replace hv := iteF hv hb36
        refine sT R (cB hb36) (oM (v := (.lst _ _)) R (sT R (cB hb36) (oM (v := (.lst _ _)) R ?_)))
        obtain ⟨r37, hr37, hv⟩ := bindS hv
        refine sT R (cB hb36) (oCP (args := [.lst 9 (List.map Gq49.lv r28.1), .lst 9 (List.map Gq49.lv r7.1)]) R isF15 R (sbR (sbR sbN)) (q93q hr37) R (sT R (cB hb36) (oNot R (sN (oPkF (cB hb36) (v := (.bool _)) R (sMb R ?_))))))
        by_cases hb38 : (!r37) = true
        ·replace hv := iteT hv hb38
         refine sF R R hb38 (sF R R hb38 (sF R R hb38 (sF R R hb38 (sF R R hb38 (sF R R hb38 (sN (oPkT (cB hb38) (v := (.bool _)) R (sMb R (sF R R R (sF R R R (sF R R R (sF R R R (sF R R R (sF R R R (sN (oPkT R (v := (.bool _)) R ?_))))))))))))))))
         obtain rfl := oI hv
         exact zS
        ·replace hb38 := bF hb38
         replace hv := iteF hv hb38
         refine sT R (cB hb38) (oM (v := (.lst _ _)) R (sT R (cB hb38) (oLnL (f := Gq49.lv) te27 R (sT R (cB hb38) (oM (v := (.lst _ _)) R (sT R (cB hb38) (oLnL (f := Gq49.lv) te27 R (sT R (cB hb38) (oSub R R (sT R (cB hb38) (oNe R R (sN (oPkF (cB hb38) (v := (.bool _)) R (sMb R ?_))))))))))))))
         by_cases hb39 : ((r22.1.length : Int) != (i64 ((r7.1.length : Int) - 1))) = true
         ·replace hv := iteT hv hb39
          refine sF R R hb39 (sF R R hb39 (sF R R hb39 (sF R R hb39 (sF R R hb39 (sF R R hb39 (sN (oPkT (cB hb39) (v := (.bool _)) R ?_)))))))
          obtain rfl := oI hv
          exact zS
         ·replace hb39 := bF hb39
          replace hv := iteF hv hb39
          refine sT R (cB hb39) (oM (v := (.lst _ _)) R (sT R (cB hb39) (oLnL (f := Gq49.lv) te27 R (sT R (cB hb39) (oM (v := (.lst _ _)) R (sT R (cB hb39) (oLnL (f := Gq49.lv) te27 R (sT R (cB hb39) (oAdd R R (sT R (cB hb39) (oNe R R (sN (oPkF (cB hb39) (v := (.bool _)) R ?_)))))))))))))
          obtain rfl := oI hv
          exact zS
  clear hv
  refine LH.cond (t := w30) R (fun hc40 => ?_) (fun hc40 => ?_)
  ·replace h := iteT h hc40
   refine LH.seqT [(4, .bool false)] [] R (sAb R zS) (LH.ret (thenR ?_))
   obtain rfl := oI h
   exact retE (aT Try.results4) (lrT R (lr0 ⟨memN mN, R, prK R, Sub.rfl⟩))
  replace h := iteF h hc40
  refine LH.skip (thenN (LH.wk (Wk.eq (el := [(9, .sptr (Gq49.lv x16).cells), (14, .lst 9 (List.map Gq49.lv r22.1))]) (ml := []) R R R R) (LH.seq (LH.seqT [(9, .sptr (Gq49.lv x16).cells), (147, .lst 9 (List.map Gq49.lv r22.1)), (148, .I (r22.1.length : Int)), (149, .I 0)] [] R (sMl R (sN (oLnL (f := Gq49.lv) te27 R (sMi R zS)))) (LH.block (LH.loop (fun n e m => ∃ (n41 : Int), q16q F x16 r22 n n41 = some r ∧ e = Env.of [(9, .sptr (Gq49.lv x16).cells), (147, .lst 9 (List.map Gq49.lv r22.1)), (148, .I (r22.1.length : Int)), (149, .I n41)] ∧ m = Mem.of []) F ⟨0, h, R, R⟩ ?_))))))
  clear h
  rintro n e m ⟨n41, h, rfl, rfl⟩
  rcases n with _ | n
  · cases (show Option.none = some _ from h)
  obtain ⟨rec1, hrec1⟩ : ∃ f, f = q16q F x16 r22 n := ⟨_, rfl⟩
  replace h : q13q F x16 r22 rec1 n41 = some r := hrec1 ▸ h
  unfold q13q at h
  refine LH.seqT [(9, .sptr (Gq49.lv x16).cells), (147, .lst 9 (List.map Gq49.lv r22.1)), (148, .I (r22.1.length : Int)), (149, .I n41), (150, .bool (decide (n41 < (r22.1.length : Int))))] [] R (sN (oLt R R zS)) (LH.seq (LH.cond (t := (decide (n41 < (r22.1.length : Int)))) R (fun hc42 => ?_) (fun hc42 => ?_)))
  ·replace h := iteT h hc42
   refine LH.skip (thenN (LH.wk (Wk.eq (el := [(9, .sptr (Gq49.lv x16).cells), (147, .lst 9 (List.map Gq49.lv r22.1)), (148, .I (r22.1.length : Int)), (149, .I n41)]) (ml := []) R R R R) (LH.seq (LH.block ?_))))
   obtain ⟨x43, hx43, h⟩ := bindS h
   refine LH.seqT [(9, .sptr (Gq49.lv x16).cells), (21, .sptr (Gq49.lv x43).cells), (147, .lst 9 (List.map Gq49.lv r22.1)), (148, .I (r22.1.length : Int)), (149, .I n41)] [] R (sN (oIx (f := Gq49.lv) te27 tk47 ts47 R R Gq49.ok hx43 R (sN (oLdA R tk47 ta47 ts47 R R (sN (oAl (id := 121) R tz47 R R (s_ (oSt R R R tk47 ts47 R R R (s0 ((Wk.trans (Wk.eq (el := [(9, .sptr (Gq49.lv x16).cells), (21, .ptr 121 0), (147, .lst 9 (List.map Gq49.lv r22.1)), (148, .I (r22.1.length : Int)), (149, .I n41)]) (ml := [(121, .box (Gq49.lv x43).cells)]) R R R R) (Wk.trans (Wk.frzB 121 (Gq49.lv x43).cells R R R (prN R)) (Wk.eq R R R R))))))))))))) (LH.seqT [(9, .sptr (Gq49.lv x16).cells), (147, .lst 9 (List.map Gq49.lv r22.1)), (148, .I (r22.1.length : Int)), (149, .I n41), (168, .bool ((x43.Stamp.Source == x16.Stamp.Source) && (x43.Stamp.Seq == x16.Stamp.Seq)))] [] R ?_ ?_)
   ·refine sN (oFaS tf47_0 tk45 ts45 R R R (sN (oFaS tf45_1 tk3 ts3 R R R (sN (oLd R tk3 ta3 (sN (oFaS tf47_0 tk45 ts45 R R R (sN (oFaS tf45_1 tk3 ts3 R R R (sN (oLd R tk3 ta3 (sN (oEq R R (sMb R ?_))))))))))))))
    by_cases hb45 : (x43.Stamp.Source == x16.Stamp.Source) = true
    ·exact sT R (cB hb45) (oFaS tf47_0 tk45 ts45 R R R (sT R (cB hb45) (oFaS tf45_2 tk3 ts3 R R R (sT R (cB hb45) (oLd R tk3 ta3 (sT R (cB hb45) (oFaS tf47_0 tk45 ts45 R R R (sT R (cB hb45) (oFaS tf45_2 tk3 ts3 R R R (sT R (cB hb45) (oLd R tk3 ta3 (sT R (cB hb45) (oEq R R (sN (oPkT (cB hb45) (v := (.bool _)) R (s0 (Wk.to (eC R (eC R (eC R (eC R (eC (cB (andT hb45)) eN))))) mN R (prK R))))))))))))))))))
    ·replace hb45 := bF hb45
     exact sF R R hb45 (sF R R hb45 (sF R R hb45 (sF R R hb45 (sF R R hb45 (sF R R hb45 (sF R R hb45 (sN (oPkF (cB hb45) (v := (.bool _)) R (s0 (Wk.to (eC R (eC R (eC R (eC R (eC (cB (andF hb45)) eN))))) mN R (prK R)))))))))))
   refine LH.cond (t := ((x43.Stamp.Source == x16.Stamp.Source) && (x43.Stamp.Seq == x16.Stamp.Seq))) R (fun hc46 => ?_) (fun hc46 => ?_)
   ·replace h := iteT h hc46
    refine LH.seqT [(4, .bool false)] [] R (sAb R zS) (LH.ret (blockR (thenR (roundR (blockR (thenR ?_))))))
    obtain rfl := oI h
    exact retE (aT Try.results4) (lrT R (lr0 ⟨memN mN, R, prK R, Sub.rfl⟩))
   replace h := iteF h hc46
   refine LH.skip (blockN (thenN (LH.loneT [(9, .sptr (Gq49.lv x16).cells), (147, .lst 9 (List.map Gq49.lv r22.1)), (148, .I (r22.1.length : Int)), (149, .I (i64 (n41 + 1)))] [] R (sN (oAdd R R (sMi R zS))) ?_)))
   exact roundI ⟨(i64 (n41 + 1)), hrec1 ▸ h, R, R⟩ (Wk.eq R R R R)
  replace h := iteF h hc42
  refine LH.exit (thenX (roundX (blockH (thenN ?_))))
  obtain ⟨r47, hr47, h⟩ := bindS h
  refine LH.seqT [(4, .bool r47)] [] R (sN (oCP (args := []) R isF8 R sbN (q91q hr47) R (sAb R zS))) (LH.ret ?_)
  obtain rfl := oI h
  exact retE (aT Try.results4) (lrT R (lr0 ⟨memN mN, R, prK R, Sub.rfl⟩))

end Go.Proofs.Ytbicmjeldappjaa
