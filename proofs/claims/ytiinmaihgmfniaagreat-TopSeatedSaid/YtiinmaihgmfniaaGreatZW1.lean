import Derived.Test.YtiinmaihgmfniaaGreatZLb
import Derived.Test.YtiinmaihgmfniaaGreatZRep
import Derived.Test.YtiinmaihgmfniaaGreatZRow
import Derived.Test.YtiinmaihgmfniaaGreatZFacts
import Derived.Test.YtiinmaihgmfniaaGreatZEqs
import Derived.Test.YtiinmaihgmfniaaGreatZSort
import Derived.Test.YtiinmaihgmfniaaGreatZSh
set_option linter.unusedVariables false
set_option linter.unusedSimpArgs false
set_option maxRecDepth 100000
set_option maxHeartbeats 1000000
namespace Go.Proofs.YtiinmaihgmfniaaGreat
open Go.L Go.Sh
theorem q207q {p0:List Int} {r:GTape} (h:make_New p0=some r):LCall Tryz.prog 6 [.L p0] (Mem.of []) (.ptr 110 0) (Mem.of [(110,.box [.L r.L,.I r.At])]):=by
  unfold make_New at h
  refine bodyT Tryz.func6 R (nT Tryz.ntmps6 R) (LH.wk (Wk.eq (el:=[(0,.L p0)]) (ml:=[]) R R R R) (LH.seqT [(0,.L p0)] [] R (sN (oA (v:=.nilp) R zS)) (LH.seq (LH.seqT [(0,.L p0),(5,.bool (decide ((p0.length:Int) > 600)))] [] R (sMl R (sN (oLnL (f:=LV.I) te22 R (sN (oGt R R zS))))) (LH.cond (t:=(decide ((p0.length:Int) > 600))) R (fun hc1=>?_) (fun hc1=>?_))))))
  ·replace h:=iteT h hc1
   obtain ⟨v2,hv2,h⟩:=bindS h
   refine LH.loneT [(0,.L v2)] [] R (sMl R (sN (oSl (f:=LV.I) te22 tk3 ts3 R R R hv2 (sAl R zS)))) (thenN (LH.seqT [(2,.ptr 110 0)] [(110,.box [.L v2,.I 0])] R (sMl R (sN (oBd (vs:=[(0,.L v2)]) tu129 tz129 R (lf tf129_0 ts22 tk22 R R R lf0) (sN (oBx (id:=110) R R R R R R (sAp R zS)))))) (LH.ret ?_)))
   obtain rfl:=oI h
   exact retE (aT Tryz.results6) (lrT R (lr0 ⟨memN (mC R mN),R,prK R,Sub.rfl⟩))
  replace h:=iteF h hc1
  refine LH.skip (thenN (LH.seqT [(2,.ptr 110 0)] [(110,.box [.L p0,.I 0])] R (sMl R (sN (oBd (vs:=[(0,.L p0)]) tu129 tz129 R (lf tf129_0 ts22 tk22 R R R lf0) (sN (oBx (id:=110) R R R R R R (sAp R zS)))))) (LH.ret ?_)))
  obtain rfl:=oI h
  exact retE (aT Tryz.results6) (lrT R (lr0 ⟨memN (mC R mN),R,prK R,Sub.rfl⟩))
theorem q208q {p0:List Int} {r:GTape} (h:make_New p0=some r):LCall Tryz.prog 6 [.L p0] (Mem.of []) (.ptr 7 0) (Mem.of [(7,.box [.L r.L,.I r.At])]):=LCall.renamePtr 7 rfl (q207q h)

theorem Gq41 {p0:GTape} {r:Int × GTape} (h:Gq40 p0=some r):LCall Tryz.prog 65 [.ptr 7 0] (Mem.of [(7,.box [.L p0.L,.I p0.At])]) (.I r.1) (Mem.of [(7,.box [.L r.2.L,.I r.2.At])]):=by
  unfold Gq40 at h
  refine bodyT Tryz.func65 R (nT Tryz.ntmps65 R) (LH.wk (Wk.eq (el:=[(0,.ptr 7 0)]) (ml:=[(7,.box [.L p0.L,.I p0.At])]) R R R R) (LH.seqT [(0,.ptr 7 0)] [(7,.box [.L p0.L,.I p0.At])] R (sAi R zS) (LH.seq (LH.seqJM mixed [] [0,0,0,1007,0,0,0,1007,0,0] [(0,.ptr 7 0),(12,.bool (decide (p0.At ≥ (p0.L.length:Int))))] [(7,.box [.L p0.L,.I p0.At])] R R (by kernel_rfl) (mMp R (mN0 (oNC R ⟨R,mN0 (oFa tf129_1 tk3 ts3 R R ⟨R,mD R R R (fun _ b _ d=>oLdP R b R R tk3 ta3 d) (mMp R (mN0 (oNC R ⟨R,mN0 (oFa tf129_0 tk22 ts22 R R ⟨R,mD R R R (fun _ b _ d=>oLdP R b R R tk22 ta22 d) (mN0 (oLnL (f:=LV.I) te22 R ⟨R,mN0 (oGe R R ⟨R,zM⟩)⟩))⟩)⟩)))⟩)⟩))) (LH.cond (t:=(decide (p0.At ≥ (p0.L.length:Int)))) R (fun hc1=>?_) (fun hc1=>?_))))))
  ·replace h:=iteT h hc1
   refine LH.seqT [(2,.I 0)] [(7,.box [.L p0.L,.I p0.At])] R (sAi R zS) (LH.ret (thenR ?_))
   obtain rfl:=oI h
   exact retE (aT Tryz.results65) (lrT R (lr0 ⟨memN (mC R mN),R,prK R,Sub.rfl⟩))
  replace h:=iteF h hc1
  refine LH.skip (thenN (LH.seqT [(0,.ptr 7 0)] [(7,.box [.L p0.L,.I (i64 (p0.At+1))])] R (sMp R (sN (oNC R (sN (oFa tf129_1 tk3 ts3 R R (sN (oLdP R R R R tk3 ta3 (sN (oAdd R R (sN (oNC R (sN (oFa tf129_1 tk3 ts3 R R (s_ (oSt R R R tk3 ts3 R R R zS))))))))))))))) ?_))
  obtain ⟨x2,hx2,h⟩:=bindS h
  refine LH.seqJM mixed [] [0,0,0,1007,0,0,0,1007,0,0,0,0] [(2,.I x2)] [(7,.box [.L p0.L,.I (i64 (p0.At+1))])] R R (by kernel_rfl) (mMp R (mN0 (oNC R ⟨R,mN0 (oFa tf129_0 tk22 ts22 R R ⟨R,mD R R R (fun _ b _ d=>oLdP R b R R tk22 ta22 d) (mMp R (mN0 (oNC R ⟨R,mN0 (oFa tf129_1 tk3 ts3 R R ⟨R,mD R R R (fun _ b _ d=>oLdP R b R R tk3 ta3 d) (mN0 (oSub R R ⟨R,mN0 (oIx (f:=LV.I) te22 tk3 ts3 R R okI hx2 R ⟨R,mN0 (oLd R tk3 ta3 ⟨R,mAi R zM⟩)⟩)⟩))⟩)⟩)))⟩)⟩))) (LH.ret ?_)
  obtain rfl:=oI h
  exact retE (aT Tryz.results65) (lrT R (lr0 ⟨memN (mC R mN),R,prK R,Sub.rfl⟩))

theorem q169q {p0:Int} {p1:Int} {r:Int} (h:make_Cut p0 p1=some r):LCall Tryz.prog 12 [.I p0,.I p1] (Mem.of []) (.I r) (Mem.of []):=by
  unfold make_Cut at h
  refine bodyT Tryz.func12 R (nT Tryz.ntmps12 R) (LH.wk (Wk.eq (el:=[(0,.I p0),(1,.I p1)]) (ml:=[]) R R R R) (LH.seqT [(0,.I p0),(1,.I p1)] [] R (sAi R zS) (LH.seq (LH.seqT [(0,.I p0),(1,.I p1),(6,.bool (decide (p1<1)))] [] R (sMi R (sN (oLt R R zS))) (LH.cond (t:=(decide (p1<1))) R (fun hc1=>?_) (fun hc1=>?_))))))
  ·replace h:=iteT h hc1
   refine LH.seqT [(4,.I 0)] [] R (sAi R zS) (LH.ret (thenR ?_))
   obtain rfl:=oI h
   exact retE (aT Tryz.results12) (lrT R (lr0 ⟨memN mN,R,prK R,Sub.rfl⟩))
  replace h:=iteF h hc1
  refine LH.skip (thenN ?_)
  obtain ⟨v2,hv2,h⟩:=bindS h
  refine LH.seqT [(0,.I v2),(1,.I p1)] [] R (sMi R (sMi R (sN (oRem R R hv2 (sAi R zS))))) (LH.seq (LH.seqT [(0,.I v2),(1,.I p1),(11,.bool (decide (v2<0)))] [] R (sMi R (sN (oLt R R zS))) (LH.cond (t:=(decide (v2<0))) R (fun hc3=>?_) (fun hc3=>?_))))
  ·replace h:=iteT h hc3
   refine LH.loneT [(0,.I (i64 (v2+p1)))] [] R (sMi R (sMi R (sN (oAdd R R (sAi R zS))))) (thenN (LH.seqT [(4,.I (i64 (v2+p1)))] [] R (sMi R (sAi R zS)) (LH.ret ?_)))
   obtain rfl:=oI h
   exact retE (aT Tryz.results12) (lrT R (lr0 ⟨memN mN,R,prK R,Sub.rfl⟩))
  replace h:=iteF h hc3
  refine LH.skip (thenN (LH.seqT [(4,.I v2)] [] R (sMi R (sAi R zS)) (LH.ret ?_)))
  obtain rfl:=oI h
  exact retE (aT Tryz.results12) (lrT R (lr0 ⟨memN mN,R,prK R,Sub.rfl⟩))

theorem Gq29 {p0:GTape} {p1:Int} {r:Int × GTape} (h:Gq28 p0 p1=some r):LCall Tryz.prog 23 [.ptr 7 0,.I p1] (Mem.of [(7,.box [.L p0.L,.I p0.At])]) (.I r.1) (Mem.of [(7,.box [.L r.2.L,.I r.2.At])]):=by
  unfold Gq28 at h
  refine bodyT Tryz.func23 R (nT Tryz.ntmps23 R) (LH.wk (Wk.eq (el:=[(0,.ptr 7 0),(1,.I p1)]) (ml:=[(7,.box [.L p0.L,.I p0.At])]) R R R R) (LH.seqT [(0,.ptr 7 0),(1,.I p1)] [(7,.box [.L p0.L,.I p0.At])] R (sAi R zS) ?_))
  obtain ⟨r1,hr1,h⟩:=bindS h
  obtain ⟨r2,hr2,h⟩:=bindS h
  refine LH.seqT [(4,.I r2)] [(7,.box [.L r1.2.L,.I r1.2.At])] R (sMp R (sN (oCM (args:=[.ptr 7 0]) (ml:=[(7,.box [.L p0.L,.I p0.At])]) (ml':=[(7,.box [.L r1.2.L,.I r1.2.At])]) R isF65 R (sbR sbN) (Gq41 hr1) (mC R mN) (newI R newN) R (sMi R (sN (oCP (args:=[.I r1.1,.I p1]) R isF12 R (sbR (sbR sbN)) (q169q hr2) R (sAi R zS))))))) (LH.ret ?_)
  obtain rfl:=oI h
  exact retE (aT Tryz.results23) (lrT R (lr0 ⟨memN (mC R mN),R,prK R,Sub.rfl⟩))

theorem Gq39 {p0:GTape} {p1:Int} {p2:Int} {r:Int × GTape} (h:Gq38 p0 p1 p2=some r):LCall Tryz.prog 34 [.ptr 7 0,.I p1,.I p2] (Mem.of [(7,.box [.L p0.L,.I p0.At])]) (.I r.1) (Mem.of [(7,.box [.L r.2.L,.I r.2.At])]):=by
  unfold Gq38 at h
  refine bodyT Tryz.func34 R (nT Tryz.ntmps34 R) (LH.wk (Wk.eq (el:=[(0,.ptr 7 0),(1,.I p1),(2,.I p2)]) (ml:=[(7,.box [.L p0.L,.I p0.At])]) R R R R) (LH.seqT [(0,.ptr 7 0),(1,.I p1),(2,.I p2)] [(7,.box [.L p0.L,.I p0.At])] R (sAi R zS) ?_))
  obtain ⟨r1,hr1,h⟩:=bindS h
  refine LH.seqT [(6,.I (i64 (p1+r1.1)))] [(7,.box [.L r1.2.L,.I r1.2.At])] R (sMi R (sMp R (sMi R (sMi R (sN (oSub R R (sN (oAdd R R (sN (oCM (args:=[.ptr 7 0,.I (i64 ((i64 (p2 - p1))+1))]) (ml:=[(7,.box [.L p0.L,.I p0.At])]) (ml':=[(7,.box [.L r1.2.L,.I r1.2.At])]) R isF23 R (sbR (sbR sbN)) (Gq29 hr1) (mC R mN) (newI R newN) R (sN (oAdd R R (sAi R zS))))))))))))) (LH.ret ?_)
  obtain rfl:=oI h
  exact retE (aT Tryz.results34) (lrT R (lr0 ⟨memN (mC R mN),R,prK R,Sub.rfl⟩))

theorem Gq31 {p0:GTape} {p1:Int} {r:Bool × GTape} (h:Gq30 p0 p1=some r):LCall Tryz.prog 32 [.ptr 7 0,.I p1] (Mem.of [(7,.box [.L p0.L,.I p0.At])]) (.bool r.1) (Mem.of [(7,.box [.L r.2.L,.I r.2.At])]):=by
  unfold Gq30 at h
  refine bodyT Tryz.func32 R (nT Tryz.ntmps32 R) (LH.wk (Wk.eq (el:=[(0,.ptr 7 0),(1,.I p1)]) (ml:=[(7,.box [.L p0.L,.I p0.At])]) R R R R) (LH.seqT [(0,.ptr 7 0),(1,.I p1)] [(7,.box [.L p0.L,.I p0.At])] R (sAb R zS) ?_))
  obtain ⟨r1,hr1,h⟩:=bindS h
  refine LH.seqT [(4,.bool (r1.1 == (i64 (p1 - 1))))] [(7,.box [.L r1.2.L,.I r1.2.At])] R (sMp R (sMi R (sN (oCM (args:=[.ptr 7 0,.I p1]) (ml:=[(7,.box [.L p0.L,.I p0.At])]) (ml':=[(7,.box [.L r1.2.L,.I r1.2.At])]) R isF23 R (sbR (sbR sbN)) (Gq29 hr1) (mC R mN) (newI R newN) R (sMi R (sN (oSub R R (sN (oEq R R (sAb R zS)))))))))) (LH.ret ?_)
  obtain rfl:=oI h
  exact retE (aT Tryz.results32) (lrT R (lr0 ⟨memN (mC R mN),R,prK R,Sub.rfl⟩))

theorem Gq37 {p0:GTape} {p1:List Int} {r:Int × GTape} (h:Gq36 p0 p1=some r):LCall Tryz.prog 42 [.ptr 7 0,.L p1] (Mem.of [(7,.box [.L p0.L,.I p0.At])]) (.I r.1) (Mem.of [(7,.box [.L r.2.L,.I r.2.At])]):=by
  unfold Gq36 at h
  refine bodyT Tryz.func42 R (nT Tryz.ntmps42 R) (LH.wk (Wk.eq (el:=[(0,.ptr 7 0),(1,.L p1)]) (ml:=[(7,.box [.L p0.L,.I p0.At])]) R R R R) (LH.seqT [(0,.ptr 7 0),(1,.L p1)] [(7,.box [.L p0.L,.I p0.At])] R (sAi R zS) ?_))
  obtain ⟨r1,hr1,h⟩:=bindS h
  obtain ⟨x2,hx2,h⟩:=bindS h
  refine LH.seqT [(4,.I x2)] [(7,.box [.L r1.2.L,.I r1.2.At])] R (sMl R (sMp R (sMl R (sN (oLnL (f:=LV.I) te22 R (sN (oCM (args:=[.ptr 7 0,.I (p1.length:Int)]) (ml:=[(7,.box [.L p0.L,.I p0.At])]) (ml':=[(7,.box [.L r1.2.L,.I r1.2.At])]) R isF23 R (sbR (sbR sbN)) (Gq29 hr1) (mC R mN) (newI R newN) R (sN (oIx (f:=LV.I) te22 tk3 ts3 R R okI hx2 R (sN (oLd R tk3 ta3 (sAi R zS)))))))))))) (LH.ret ?_)
  obtain rfl:=oI h
  exact retE (aT Tryz.results42) (lrT R (lr0 ⟨memN (mC R mN),R,prK R,Sub.rfl⟩))

theorem Gq55 {p0:GTape} {r:Int × GTape} (h:Gq54 p0=some r):LCall Tryz.prog 41 [.ptr 7 0] (Mem.of [(7,.box [.L p0.L,.I p0.At])]) (.I r.1) (Mem.of [(7,.box [.L r.2.L,.I r.2.At])]):=by
  unfold Gq54 at h
  refine bodyT Tryz.func41 R (nT Tryz.ntmps41 R) (LH.wk (Wk.eq (el:=[(0,.ptr 7 0)]) (ml:=[(7,.box [.L p0.L,.I p0.At])]) R R R R) (LH.seqT [(0,.ptr 7 0)] [(7,.box [.L p0.L,.I p0.At])] R (sAi R zS) ?_))
  obtain ⟨r1,hr1,h⟩:=bindS h
  refine LH.seqT [(2,.I r1.1)] [(7,.box [.L r1.2.L,.I r1.2.At])] R (sMp R (sN (oBS (f:=LV.I) (ys:=[(-1),0,1,2,31,32,99,100,200,201,9999,10000,1000000,1000001,1152921504606846976,1152921504606846977,(-1152921504606846976),9223372036854775807,(-9223372036854775808)]) te22 tr3 ts3 R R R okI (sN (oCM (args:=[.ptr 7 0,.L [(-1),0,1,2,31,32,99,100,200,201,9999,10000,1000000,1000001,1152921504606846976,1152921504606846977,(-1152921504606846976),9223372036854775807,(-9223372036854775808)]]) (ml:=[(7,.box [.L p0.L,.I p0.At])]) (ml':=[(7,.box [.L r1.2.L,.I r1.2.At])]) R isF42 R (sbR (sbR sbN)) (Gq37 hr1) (mC R mN) (newI R newN) R (sAi R zS)))))) (LH.ret ?_)
  obtain rfl:=oI h
  exact retE (aT Tryz.results41) (lrT R (lr0 ⟨memN (mC R mN),R,prK R,Sub.rfl⟩))

theorem Gq12 {p0:GTape} {p1:Int} {r:Gq2 × GTape} (h:Gq11 p0 p1=some r):LCall Tryz.prog 7 [.ptr 7 0,.I p1] (Mem.of [(7,.box [.L p0.L,.I p0.At])]) (.agg [.I r.1.Close,.I r.1.Late]) (Mem.of [(7,.box [.L r.2.L,.I r.2.At])]):=by
  unfold Gq11 at h
  refine bodyT Tryz.func7 R (nT Tryz.ntmps7 R) (LH.wk (Wk.eq (el:=[(0,.ptr 7 0),(1,.I p1)]) (ml:=[(7,.box [.L p0.L,.I p0.At])]) R R R R) (LH.seqT [(0,.ptr 7 0),(1,.I p1),(4,.ptr 104 0)] [(7,.box [.L p0.L,.I p0.At]),(104,.box [.I 0,.I 0])] R (sN (oAl (id:=104) R tz26 R R zS)) ?_))
  obtain ⟨r1,hr1,h⟩:=bindS h
  refine LH.seqT [(0,.ptr 7 0),(1,.I p1),(4,.ptr 104 0),(5,.I r1.1)] [(7,.box [.L r1.2.L,.I r1.2.At]),(104,.box [.I 0,.I 0])] R (sMp R (sN (oCM (args:=[.ptr 7 0,.I 4,.I 14]) (ml:=[(7,.box [.L p0.L,.I p0.At])]) (ml':=[(7,.box [.L r1.2.L,.I r1.2.At])]) R isF34 R (sbR (sbR (sbR sbN))) (Gq39 hr1) (mC R mN) (newI R newN) R (sAi R zS)))) ?_
  obtain ⟨r2,hr2,h⟩:=bindS h
  refine LH.seqT [(0,.ptr 7 0),(1,.I p1),(4,.ptr 104 0),(6,.ptr 106 0)] [(7,.box [.L r2.2.L,.I r2.2.At]),(104,.box [.I 0,.I 0]),(106,.box [.I r1.1,.I (i64 (r1.1+r2.1))])] R (sMi R (sMi R (sMp R (sN (oCM (args:=[.ptr 7 0,.I 10]) (ml:=[(7,.box [.L r1.2.L,.I r1.2.At])]) (ml':=[(7,.box [.L r2.2.L,.I r2.2.At])]) R isF23 R (sbR (sbR sbN)) (Gq29 hr2) (mC R mN) (newI R newN) R (sN (oAdd R R (sN (oBd (vs:=[(0,.I r1.1),(1,.I (i64 (r1.1+r2.1)))]) tu26 tz26 R (lf tf26_0 ts3 tk3 R R R (lf tf26_1 ts3 tk3 R R R lf0)) (sN (oAl (id:=106) R tz26 R R (s_ (oSt R R R tk26 ts26 R R R zS))))))))))))) (LH.seq ?_)
  obtain ⟨w6,hv,h⟩:=bindS h
  refine LH.seqT [(0,.ptr 7 0),(4,.ptr 104 0),(6,.ptr 106 0),(21,.bool w6.1)] [(7,.box [.L w6.2.1,.I w6.2.2]),(104,.box [.I 0,.I 0]),(106,.box [.I r1.1,.I (i64 (r1.1+r2.1))])] R ?_ ?_
  ·refine sMi R (sN (oGt R R (sMb R ?_)))
   by_cases hb7:(decide (p1 > 0))=true
   ·replace hv:=iteT hv hb7
    refine sT R (cB hb7) (oM (v:=(.ptr _ _)) R (sT R (cB hb7) (oM (v:=(.int _ _)) R ?_)))
    obtain ⟨r8,hr8,hv⟩:=bindS hv
    refine sT R (cB hb7) (oCM (args:=[.ptr 7 0,.I p1]) (ml:=[(7,.box [.L r2.2.L,.I r2.2.At])]) (ml':=[(7,.box [.L r8.2.L,.I r8.2.At])]) R isF32 R (sbR (sbR sbN)) (Gq31 hr8) (mC R mN) (newI R newN) R (sN (oPkT (cB hb7) (v:=(.bool _)) R ?_)))
    obtain rfl:=oI hv
    exact zS
   ·replace hb7:=bF hb7
    replace hv:=iteF hv hb7
    refine sF R R hb7 (sF R R hb7 (sF R R hb7 (sN (oPkF (cB hb7) (v:=(.bool _)) R ?_))))
    obtain rfl:=oI hv
    exact zS
  clear hv
  refine LH.cond (t:=w6.1) R (fun hc9=>?_) (fun hc9=>?_)
  ·replace h:=iteT h hc9
   obtain ⟨r10,hr10,h⟩:=bindS h
   obtain ⟨r11,hr11,h⟩:=bindS h
   refine LH.loneT [(4,.ptr 104 0),(6,.sptr [.I r10.1,.I r11.1])] [(7,.box [.L r11.2.L,.I r11.2.At]),(104,.box [.I 0,.I 0])] R (sMp R (sN (oCM (args:=[.ptr 7 0]) (ml:=[(7,.box [.L w6.2.1,.I w6.2.2])]) (ml':=[(7,.box [.L r10.2.L,.I r10.2.At])]) R isF41 R (sbR sbN) (Gq55 hr10) (mC R mN) (newI R newN) R (sMp R (sN (oCM (args:=[.ptr 7 0]) (ml:=[(7,.box [.L r10.2.L,.I r10.2.At])]) (ml':=[(7,.box [.L r11.2.L,.I r11.2.At])]) R isF41 R (sbR sbN) (Gq55 hr11) (mC R mN) (newI R newN) R (sN (oBd (vs:=[(0,.I r10.1),(1,.I r11.1)]) tu26 tz26 R (lf tf26_0 ts3 tk3 R R R (lf tf26_1 ts3 tk3 R R R lf0)) (s_ (oSt R R R tk26 ts26 R R R (s0 ((Wk.trans (Wk.eq (el:=[(4,.ptr 104 0),(6,.ptr 106 0)]) (ml:=[(7,.box [.L r11.2.L,.I r11.2.At]),(104,.box [.I 0,.I 0]),(106,.box [.I r10.1,.I r11.1])]) R R R R) (Wk.trans (Wk.frzB 106 [.I r10.1,.I r11.1] R R R (prN R)) (Wk.eq R R R R))))))))))))))) (thenN (LH.seqT [(4,.sptr [.I r10.1,.I r11.1])] [(7,.box [.L r11.2.L,.I r11.2.At])] R (sN (oLdA R tk26 ta26 ts26 R R (s_ (oSt R R R tk26 ts26 R R R (s0 ((Wk.trans (Wk.eq (el:=[(4,.ptr 104 0)]) (ml:=[(7,.box [.L r11.2.L,.I r11.2.At]),(104,.box [.I r10.1,.I r11.1])]) R R R R) (Wk.trans (Wk.frzB 104 [.I r10.1,.I r11.1] R R R (prN R)) (Wk.eq R R R R))))))))) (LH.ret ?_)))
   obtain rfl:=oI h
   exact retE (aT Tryz.results7) (lrSA R tk26 ta26 ts26 R R (lr0 ⟨memN (mC R mN),R,prK R,Sub.rfl⟩))
  replace h:=iteF h hc9
  refine LH.skip (thenN (LH.wk ((Wk.trans (Wk.eq (el:=[(4,.ptr 104 0),(6,.ptr 106 0)]) (ml:=[(7,.box [.L w6.2.1,.I w6.2.2]),(104,.box [.I 0,.I 0]),(106,.box [.I r1.1,.I (i64 (r1.1+r2.1))])]) R R R R) (Wk.trans (Wk.frzB 106 [.I r1.1,.I (i64 (r1.1+r2.1))] R R R (prN R)) (Wk.eq (el:=[(4,.ptr 104 0),(6,.sptr [.I r1.1,.I (i64 (r1.1+r2.1))])]) (ml:=[(7,.box [.L w6.2.1,.I w6.2.2]),(104,.box [.I 0,.I 0])]) R R R R)))) (LH.seqT [(4,.sptr [.I r1.1,.I (i64 (r1.1+r2.1))])] [(7,.box [.L w6.2.1,.I w6.2.2])] R (sN (oLdA R tk26 ta26 ts26 R R (s_ (oSt R R R tk26 ts26 R R R (s0 ((Wk.trans (Wk.eq (el:=[(4,.ptr 104 0)]) (ml:=[(7,.box [.L w6.2.1,.I w6.2.2]),(104,.box [.I r1.1,.I (i64 (r1.1+r2.1))])]) R R R R) (Wk.trans (Wk.frzB 104 [.I r1.1,.I (i64 (r1.1+r2.1))] R R R (prN R)) (Wk.eq R R R R))))))))) (LH.ret ?_))))
  obtain rfl:=oI h
  exact retE (aT Tryz.results7) (lrSA R tk26 ta26 ts26 R R (lr0 ⟨memN (mC R mN),R,prK R,Sub.rfl⟩))

theorem Gq53 {p0:GTape} {p1:Int} {r:Gq10 × GTape} (h:Gq52 p0 p1=some r):LCall Tryz.prog 43 [.ptr 7 0,.I p1] (Mem.of [(7,.box [.L p0.L,.I p0.At])]) (.agg [.I r.1.Time,.I r.1.Source,.I r.1.Seq]) (Mem.of [(7,.box [.L r.2.L,.I r.2.At])]):=by
  unfold Gq52 at h
  refine bodyT Tryz.func43 R (nT Tryz.ntmps43 R) (LH.wk (Wk.eq (el:=[(0,.ptr 7 0),(1,.I p1)]) (ml:=[(7,.box [.L p0.L,.I p0.At])]) R R R R) (LH.seqT [(0,.ptr 7 0),(1,.I p1),(4,.ptr 104 0)] [(7,.box [.L p0.L,.I p0.At]),(104,.box [.I 0,.I 0,.I 0])] R (sN (oAl (id:=104) R tz40 R R zS)) ?_))
  obtain ⟨r1,hr1,h⟩:=bindS h
  obtain ⟨r2,hr2,h⟩:=bindS h
  obtain ⟨r3,hr3,h⟩:=bindS h
  refine LH.seqT [(0,.ptr 7 0),(1,.I p1),(4,.ptr 104 0),(5,.ptr 105 0)] [(7,.box [.L r3.2.L,.I r3.2.At]),(104,.box [.I 0,.I 0,.I 0]),(105,.box [.I r1.1,.I r2.1,.I r3.1])] R (sMp R (sN (oCM (args:=[.ptr 7 0,.I 0,.I 24]) (ml:=[(7,.box [.L p0.L,.I p0.At])]) (ml':=[(7,.box [.L r1.2.L,.I r1.2.At])]) R isF34 R (sbR (sbR (sbR sbN))) (Gq39 hr1) (mC R mN) (newI R newN) R (sMp R (sN (oCM (args:=[.ptr 7 0,.I 0,.I 3]) (ml:=[(7,.box [.L r1.2.L,.I r1.2.At])]) (ml':=[(7,.box [.L r2.2.L,.I r2.2.At])]) R isF34 R (sbR (sbR (sbR sbN))) (Gq39 hr2) (mC R mN) (newI R newN) R (sMp R (sN (oCM (args:=[.ptr 7 0,.I 0,.I 9]) (ml:=[(7,.box [.L r2.2.L,.I r2.2.At])]) (ml':=[(7,.box [.L r3.2.L,.I r3.2.At])]) R isF34 R (sbR (sbR (sbR sbN))) (Gq39 hr3) (mC R mN) (newI R newN) R (sN (oBd (vs:=[(0,.I r1.1),(1,.I r2.1),(2,.I r3.1)]) tu40 tz40 R (lf tf40_0 ts3 tk3 R R R (lf tf40_1 ts3 tk3 R R R (lf tf40_2 ts3 tk3 R R R lf0))) (sN (oAl (id:=105) R tz40 R R (s_ (oSt R R R tk40 ts40 R R R zS))))))))))))))) (LH.seq ?_)
  obtain ⟨w7,hv,h⟩:=bindS h
  refine LH.seqT [(0,.ptr 7 0),(4,.ptr 104 0),(5,.ptr 105 0),(19,.bool w7.1)] [(7,.box [.L w7.2.1,.I w7.2.2]),(104,.box [.I 0,.I 0,.I 0]),(105,.box [.I r1.1,.I r2.1,.I r3.1])] R ?_ ?_
  ·refine sMi R (sN (oGt R R (sMb R ?_)))
   by_cases hb8:(decide (p1 > 0))=true
   ·replace hv:=iteT hv hb8
    refine sT R (cB hb8) (oM (v:=(.ptr _ _)) R (sT R (cB hb8) (oM (v:=(.int _ _)) R ?_)))
    obtain ⟨r9,hr9,hv⟩:=bindS hv
    refine sT R (cB hb8) (oCM (args:=[.ptr 7 0,.I p1]) (ml:=[(7,.box [.L r3.2.L,.I r3.2.At])]) (ml':=[(7,.box [.L r9.2.L,.I r9.2.At])]) R isF32 R (sbR (sbR sbN)) (Gq31 hr9) (mC R mN) (newI R newN) R (sN (oPkT (cB hb8) (v:=(.bool _)) R ?_)))
    obtain rfl:=oI hv
    exact zS
   ·replace hb8:=bF hb8
    replace hv:=iteF hv hb8
    refine sF R R hb8 (sF R R hb8 (sF R R hb8 (sN (oPkF (cB hb8) (v:=(.bool _)) R ?_))))
    obtain rfl:=oI hv
    exact zS
  clear hv
  refine LH.cond (t:=w7.1) R (fun hc10=>?_) (fun hc10=>?_)
  ·replace h:=iteT h hc10
   obtain ⟨r11,hr11,h⟩:=bindS h
   refine LH.seqT [(0,.ptr 7 0),(4,.ptr 104 0),(5,.ptr 105 0),(21,.I r11.1)] [(7,.box [.L r11.2.L,.I r11.2.At]),(104,.box [.I 0,.I 0,.I 0]),(105,.box [.I r1.1,.I r2.1,.I r3.1])] R (sMp R (sN (oCM (args:=[.ptr 7 0,.I 3]) (ml:=[(7,.box [.L w7.2.1,.I w7.2.2])]) (ml':=[(7,.box [.L r11.2.L,.I r11.2.At])]) R isF23 R (sbR (sbR sbN)) (Gq29 hr11) (mC R mN) (newI R newN) R zS))) (LH.block (LH.seqT [(0,.ptr 7 0),(4,.ptr 104 0),(5,.ptr 105 0),(21,.I r11.1),(25,.bool (r11.1 == 0))] [(7,.box [.L r11.2.L,.I r11.2.At]),(104,.box [.I 0,.I 0,.I 0]),(105,.box [.I r1.1,.I r2.1,.I r3.1])] R (sN (oEq R R (sAb R zS))) (LH.cond (t:=(r11.1 == 0)) R (fun hc12=>?_) (fun hc12=>?_))))
   ·replace h:=iteT h hc12
    obtain ⟨r13,hr13,h⟩:=bindS h
    refine LH.loneT [(4,.ptr 104 0),(5,.sptr [.I r13.1,.I r2.1,.I r3.1])] [(7,.box [.L r13.2.L,.I r13.2.At]),(104,.box [.I 0,.I 0,.I 0])] R (sMp R (sN (oCM (args:=[.ptr 7 0]) (ml:=[(7,.box [.L r11.2.L,.I r11.2.At])]) (ml':=[(7,.box [.L r13.2.L,.I r13.2.At])]) R isF41 R (sbR sbN) (Gq55 hr13) (mC R mN) (newI R newN) R (sN (oFa tf40_0 tk3 ts3 R R (s_ (oSt R R R tk3 ts3 R R R (s0 ((Wk.trans (Wk.eq (el:=[(4,.ptr 104 0),(5,.ptr 105 0)]) (ml:=[(7,.box [.L r13.2.L,.I r13.2.At]),(104,.box [.I 0,.I 0,.I 0]),(105,.box [.I r13.1,.I r2.1,.I r3.1])]) R R R R) (Wk.trans (Wk.frzB 105 [.I r13.1,.I r2.1,.I r3.1] R R R (prN R)) (Wk.eq R R R R)))))))))))) (blockN (thenN (LH.seqT [(4,.sptr [.I r13.1,.I r2.1,.I r3.1])] [(7,.box [.L r13.2.L,.I r13.2.At])] R (sN (oLdA R tk40 ta40 ts40 R R (s_ (oSt R R R tk40 ts40 R R R (s0 ((Wk.trans (Wk.eq (el:=[(4,.ptr 104 0)]) (ml:=[(7,.box [.L r13.2.L,.I r13.2.At]),(104,.box [.I r13.1,.I r2.1,.I r3.1])]) R R R R) (Wk.trans (Wk.frzB 104 [.I r13.1,.I r2.1,.I r3.1] R R R (prN R)) (Wk.eq R R R R))))))))) (LH.ret ?_))))
    obtain rfl:=oI h
    exact retE (aT Tryz.results43) (lrSA R tk40 ta40 ts40 R R (lr0 ⟨memN (mC R mN),R,prK R,Sub.rfl⟩))
   replace h:=iteF h hc12
   refine LH.seqT [(0,.ptr 7 0),(4,.ptr 104 0),(5,.ptr 105 0),(30,.bool (r11.1 == 1))] [(7,.box [.L r11.2.L,.I r11.2.At]),(104,.box [.I 0,.I 0,.I 0]),(105,.box [.I r1.1,.I r2.1,.I r3.1])] R (sN (oEq R R (sAb R zS))) (LH.cond (t:=(r11.1 == 1)) R (fun hc14=>?_) (fun hc14=>?_))
   ·replace h:=iteT h hc14
    obtain ⟨r15,hr15,h⟩:=bindS h
    refine LH.loneT [(4,.ptr 104 0),(5,.sptr [.I r1.1,.I r15.1,.I r3.1])] [(7,.box [.L r15.2.L,.I r15.2.At]),(104,.box [.I 0,.I 0,.I 0])] R (sMp R (sN (oCM (args:=[.ptr 7 0]) (ml:=[(7,.box [.L r11.2.L,.I r11.2.At])]) (ml':=[(7,.box [.L r15.2.L,.I r15.2.At])]) R isF41 R (sbR sbN) (Gq55 hr15) (mC R mN) (newI R newN) R (sN (oFa tf40_1 tk3 ts3 R R (s_ (oSt R R R tk3 ts3 R R R (s0 ((Wk.trans (Wk.eq (el:=[(4,.ptr 104 0),(5,.ptr 105 0)]) (ml:=[(7,.box [.L r15.2.L,.I r15.2.At]),(104,.box [.I 0,.I 0,.I 0]),(105,.box [.I r1.1,.I r15.1,.I r3.1])]) R R R R) (Wk.trans (Wk.frzB 105 [.I r1.1,.I r15.1,.I r3.1] R R R (prN R)) (Wk.eq R R R R)))))))))))) (blockN (thenN (LH.seqT [(4,.sptr [.I r1.1,.I r15.1,.I r3.1])] [(7,.box [.L r15.2.L,.I r15.2.At])] R (sN (oLdA R tk40 ta40 ts40 R R (s_ (oSt R R R tk40 ts40 R R R (s0 ((Wk.trans (Wk.eq (el:=[(4,.ptr 104 0)]) (ml:=[(7,.box [.L r15.2.L,.I r15.2.At]),(104,.box [.I r1.1,.I r15.1,.I r3.1])]) R R R R) (Wk.trans (Wk.frzB 104 [.I r1.1,.I r15.1,.I r3.1] R R R (prN R)) (Wk.eq R R R R))))))))) (LH.ret ?_))))
    obtain rfl:=oI h
    exact retE (aT Tryz.results43) (lrSA R tk40 ta40 ts40 R R (lr0 ⟨memN (mC R mN),R,prK R,Sub.rfl⟩))
   replace h:=iteF h hc14
   obtain ⟨r16,hr16,h⟩:=bindS h
   refine LH.loneT [(4,.ptr 104 0),(5,.sptr [.I r1.1,.I r2.1,.I r16.1])] [(7,.box [.L r16.2.L,.I r16.2.At]),(104,.box [.I 0,.I 0,.I 0])] R (sMp R (sN (oCM (args:=[.ptr 7 0]) (ml:=[(7,.box [.L r11.2.L,.I r11.2.At])]) (ml':=[(7,.box [.L r16.2.L,.I r16.2.At])]) R isF41 R (sbR sbN) (Gq55 hr16) (mC R mN) (newI R newN) R (sN (oFa tf40_2 tk3 ts3 R R (s_ (oSt R R R tk3 ts3 R R R (s0 ((Wk.trans (Wk.eq (el:=[(4,.ptr 104 0),(5,.ptr 105 0)]) (ml:=[(7,.box [.L r16.2.L,.I r16.2.At]),(104,.box [.I 0,.I 0,.I 0]),(105,.box [.I r1.1,.I r2.1,.I r16.1])]) R R R R) (Wk.trans (Wk.frzB 105 [.I r1.1,.I r2.1,.I r16.1] R R R (prN R)) (Wk.eq R R R R)))))))))))) (blockN (thenN (LH.seqT [(4,.sptr [.I r1.1,.I r2.1,.I r16.1])] [(7,.box [.L r16.2.L,.I r16.2.At])] R (sN (oLdA R tk40 ta40 ts40 R R (s_ (oSt R R R tk40 ts40 R R R (s0 ((Wk.trans (Wk.eq (el:=[(4,.ptr 104 0)]) (ml:=[(7,.box [.L r16.2.L,.I r16.2.At]),(104,.box [.I r1.1,.I r2.1,.I r16.1])]) R R R R) (Wk.trans (Wk.frzB 104 [.I r1.1,.I r2.1,.I r16.1] R R R (prN R)) (Wk.eq R R R R))))))))) (LH.ret ?_))))
   obtain rfl:=oI h
   exact retE (aT Tryz.results43) (lrSA R tk40 ta40 ts40 R R (lr0 ⟨memN (mC R mN),R,prK R,Sub.rfl⟩))
  replace h:=iteF h hc10
  refine LH.skip (thenN (LH.wk ((Wk.trans (Wk.eq (el:=[(4,.ptr 104 0),(5,.ptr 105 0)]) (ml:=[(7,.box [.L w7.2.1,.I w7.2.2]),(104,.box [.I 0,.I 0,.I 0]),(105,.box [.I r1.1,.I r2.1,.I r3.1])]) R R R R) (Wk.trans (Wk.frzB 105 [.I r1.1,.I r2.1,.I r3.1] R R R (prN R)) (Wk.eq (el:=[(4,.ptr 104 0),(5,.sptr [.I r1.1,.I r2.1,.I r3.1])]) (ml:=[(7,.box [.L w7.2.1,.I w7.2.2]),(104,.box [.I 0,.I 0,.I 0])]) R R R R)))) (LH.seqT [(4,.sptr [.I r1.1,.I r2.1,.I r3.1])] [(7,.box [.L w7.2.1,.I w7.2.2])] R (sN (oLdA R tk40 ta40 ts40 R R (s_ (oSt R R R tk40 ts40 R R R (s0 ((Wk.trans (Wk.eq (el:=[(4,.ptr 104 0)]) (ml:=[(7,.box [.L w7.2.1,.I w7.2.2]),(104,.box [.I r1.1,.I r2.1,.I r3.1])]) R R R R) (Wk.trans (Wk.frzB 104 [.I r1.1,.I r2.1,.I r3.1] R R R (prN R)) (Wk.eq R R R R))))))))) (LH.ret ?_))))
  obtain rfl:=oI h
  exact retE (aT Tryz.results43) (lrSA R tk40 ta40 ts40 R R (lr0 ⟨memN (mC R mN),R,prK R,Sub.rfl⟩))

set_option maxHeartbeats 4000000 in
theorem Gq19 {F:Nat} {p0:GTape} {p1:Int} {p2:Int} {r:List Gq5 × GTape} (h:Gq13 F p0 p1 p2=some r):LCall Tryz.prog 8 [.ptr 7 0,.I p1,.I p2] (Mem.of [(7,.box [.L p0.L,.I p0.At])]) (.lst 8 (List.map Gq5.lv r.1)) (Mem.of [(7,.box [.L r.2.L,.I r.2.At])]):=by
  unfold Gq13 at h
  refine bodyT Tryz.func8 R (nT Tryz.ntmps8 R) (LH.wk (Wk.eq (el:=[(0,.ptr 7 0),(1,.I p1),(2,.I p2)]) (ml:=[(7,.box [.L p0.L,.I p0.At])]) R R R R) (LH.seqT [(0,.ptr 7 0),(1,.I p1),(2,.I p2)] [(7,.box [.L p0.L,.I p0.At])] R (sAn R zS) (LH.seqT [(0,.ptr 7 0),(1,.I p1),(2,.I p2),(7,.nil)] [(7,.box [.L p0.L,.I p0.At])] R (sAn R zS) (LH.seq ?_))))
  obtain ⟨r1,hr1,h⟩:=bindS h
  refine LH.seqT [(0,.ptr 7 0),(2,.I p2),(7,.nil),(8,.I r1.1)] [(7,.box [.L r1.2.L,.I r1.2.At])] R (sMp R (sMi R (sN (oCM (args:=[.ptr 7 0,.I 0,.I p1]) (ml:=[(7,.box [.L p0.L,.I p0.At])]) (ml':=[(7,.box [.L r1.2.L,.I r1.2.At])]) R isF34 R (sbR (sbR (sbR sbN))) (Gq39 hr1) (mC R mN) (newI R newN) R (sAi R zS))))) (LH.block (LH.wk ((Wk.trans (Wk.eq (el:=[(0,.ptr 7 0),(2,.I p2),(7,.nil),(8,.I r1.1)]) (ml:=[(7,.box [.L r1.2.L,.I r1.2.At])]) R R R R) (Wk.trans (Wk.eq (el:=[(0,.ptr 7 0),(2,.I p2),(7,.nil),(8,.I r1.1)]) (ml:=[(7,.box [.L r1.2.L,.I r1.2.At])]) R R R R) (Wk.trans (Wk.ownL (el':=[(0,.ptr 7 0),(2,.I p2),(7,.arr 197 (List.length ([]:List Gq5))),(8,.I r1.1)]) 197 44 8 R R (wK (wK (wO (wK wN))))) (Wk.eq (el:=[(0,.ptr 7 0),(2,.I p2),(7,.arr 197 (List.length ([]:List Gq5))),(8,.I r1.1)]) (ml:=[(7,.box [.L r1.2.L,.I r1.2.At]),(197,.arr 44 8 (List.map Gq5.lv ([]:List Gq5)))]) R R R R))))) (LH.loop (fun n e m=>∃ (n2:Int) (l3:List Int) (n4:Int) (l5:List Gq5),Gq17 p2 n n2 l3 n4 l5=some r∧e=Env.of [(0,.ptr 7 0),(2,.I p2),(7,.arr 197 (List.length l5)),(8,.I n2)]∧m=Mem.of [(7,.box [.L l3,.I n4]),(197,.arr 44 8 (List.map Gq5.lv l5))]) F ⟨r1.1,r1.2.L,r1.2.At,([]:List Gq5),h,R,R⟩ ?_)))
  clear h
  rintro n e m ⟨n2,l3,n4,l5,h,rfl,rfl⟩
  rcases n with _ | n
  · cases (show Option.none=some _ from h)
  obtain ⟨rec1,hrec1⟩:∃ f,f=Gq17 p2 n:=⟨_,rfl⟩
  replace h:Gq18 p2 rec1 n2 l3 n4 l5=some r:=hrec1 ▸ h
  unfold Gq18 at h
  refine LH.seq (LH.seqT [(0,.ptr 7 0),(2,.I p2),(7,.arr 197 (List.length l5)),(8,.I n2),(15,.bool (decide (n2 > 0)))] [(7,.box [.L l3,.I n4]),(197,.arr 44 8 (List.map Gq5.lv l5))] R (sMi R (sN (oGt R R zS))) (LH.cond (t:=(decide (n2 > 0))) R (fun hc6=>?_) (fun hc6=>?_)))
  ·replace h:=iteT h hc6
   refine LH.skip (thenN (LH.wk (Wk.eq (el:=[(0,.ptr 7 0),(2,.I p2),(7,.arr 197 (List.length l5)),(8,.I n2)]) (ml:=[(7,.box [.L l3,.I n4]),(197,.arr 44 8 (List.map Gq5.lv l5))]) R R R R) (LH.seq (LH.block ?_))))
   obtain ⟨r7,hr7,h⟩:=bindS h
   refine LH.seqT [(0,.ptr 7 0),(2,.I p2),(7,.arr 197 (List.length l5)),(8,.I n2),(9,.I r7.1)] [(7,.box [.L r7.2.L,.I r7.2.At]),(197,.arr 44 8 (List.map Gq5.lv l5))] R (sMp R (sN (oCM (args:=[.ptr 7 0,.I 1,.I 3]) (ml:=[(7,.box [.L l3,.I n4])]) (ml':=[(7,.box [.L r7.2.L,.I r7.2.At])]) R isF34 R (sbR (sbR (sbR sbN))) (Gq39 hr7) (mC R mN) (newI R newN) R (sAi R zS)))) ?_
   obtain ⟨r8,hr8,h⟩:=bindS h
   obtain ⟨r9,hr9,h⟩:=bindS h
   obtain ⟨r10,hr10,h⟩:=bindS h
   obtain ⟨r11,hr11,h⟩:=bindS h
   refine LH.seqT [(0,.ptr 7 0),(2,.I p2),(7,.arr 197 (List.length l5)),(8,.I n2),(9,.I r7.1),(10,.ptr 110 0)] [(7,.box [.L r11.2.L,.I r11.2.At]),(110,.box [.I r8.1,.I r7.1,.I (l5.length:Int),.I r9.1,.I r10.1,.I r7.1,.I r11.1,.I 0]),(197,.arr 44 8 (List.map Gq5.lv l5))] R ?_ ?_
   ·exact sMp R (sN (oCM (args:=[.ptr 7 0,.I 0,.I 24]) (ml:=[(7,.box [.L r7.2.L,.I r7.2.At])]) (ml':=[(7,.box [.L r8.2.L,.I r8.2.At])]) R isF34 R (sbR (sbR (sbR sbN))) (Gq39 hr8) (mC R mN) (newI R newN) R (sMi R (sMa R (sN (oLnA (f:=Gq5.lv) te28 R R (sN (oBd (vs:=[(0,.I r8.1),(1,.I r7.1),(2,.I (l5.length:Int))]) tu40 tz40 R (lf tf40_0 ts3 tk3 R R R (lf tf40_1 ts3 tk3 R R R (lf tf40_2 ts3 tk3 R R R lf0))) (sMp R (sN (oBS (f:=LV.I) (ys:=[1,1,1,2,3]) te22 tr3 ts3 R R R okI (sN (oCM (args:=[.ptr 7 0,.L [1,1,1,2,3]]) (ml:=[(7,.box [.L r8.2.L,.I r8.2.At])]) (ml':=[(7,.box [.L r9.2.L,.I r9.2.At])]) R isF42 R (sbR (sbR sbN)) (Gq37 hr9) (mC R mN) (newI R newN) R (sMp R (sN (oCM (args:=[.ptr 7 0,.I 4]) (ml:=[(7,.box [.L r9.2.L,.I r9.2.At])]) (ml':=[(7,.box [.L r10.2.L,.I r10.2.At])]) R isF23 R (sbR (sbR sbN)) (Gq29 hr10) (mC R mN) (newI R newN) R (sMi R (sMp R (sN (oCM (args:=[.ptr 7 0,.I 2]) (ml:=[(7,.box [.L r10.2.L,.I r10.2.At])]) (ml':=[(7,.box [.L r11.2.L,.I r11.2.At])]) R isF23 R (sbR (sbR sbN)) (Gq29 hr11) (mC R mN) (newI R newN) R (sN (oBd (vs:=[(0,.I r10.1),(1,.I r7.1),(2,.I r11.1)]) tu42 tz42 R (lf tf42_0 ts3 tk3 R R R (lf tf42_1 ts3 tk3 R R R (lf tf42_2 ts3 tk3 R R R lf0))) (sN (oBd (vs:=[(0,.agg [.I r8.1,.I r7.1,.I (l5.length:Int)]),(1,.I r9.1),(2,.agg [.I r10.1,.I r7.1,.I r11.1])]) tu44 tz44 R (lf tf44_0 ts40 tk40 R R R (lf tf44_1 ts3 tk3 R R R (lf tf44_2 ts42 tk42 R R R lf0))) (sN (oAl (id:=110) R tz44 R R (s_ (oSt R R R tk44 ts44 R R R zS))))))))))))))))))))))))))))
   refine LH.mid (fun e m=>∃ (l12:List Int) (n13:Int) (n14:Int),Gq14 rec1 p2 n2 l5 r7 r8 r9 r10 r11 l12 n13 n14=some r∧Wk (fun id=>Mem.of [(7,.box [.L p0.L,.I p0.At])] id ≠ .none) e m (Env.of [(0,.ptr 7 0),(2,.I p2),(7,.arr 197 (List.length l5)),(8,.I n2),(9,.I r7.1),(10,.ptr 110 0)]) (Mem.of [(7,.box [.L l12,.I n13]),(110,.box [.I r8.1,.I n14,.I (l5.length:Int),.I r9.1,.I r10.1,.I r7.1,.I r11.1,.I 0]),(197,.arr 44 8 (List.map Gq5.lv l5))])) ?_ ?_
   ·obtain ⟨r56,hr56,h⟩:=bindS h
    refine LH.seqT [(0,.ptr 7 0),(2,.I p2),(7,.arr 197 (List.length l5)),(8,.I n2),(9,.I r7.1),(10,.ptr 110 0),(37,.bool r56.1)] [(7,.box [.L r56.2.L,.I r56.2.At]),(110,.box [.I r8.1,.I r7.1,.I (l5.length:Int),.I r9.1,.I r10.1,.I r7.1,.I r11.1,.I 0]),(197,.arr 44 8 (List.map Gq5.lv l5))] R (sMp R (sN (oCM (args:=[.ptr 7 0,.I 6]) (ml:=[(7,.box [.L r11.2.L,.I r11.2.At])]) (ml':=[(7,.box [.L r56.2.L,.I r56.2.At])]) R isF32 R (sbR (sbR sbN)) (Gq31 hr56) (mC R mN) (newI R newN) R zS))) (LH.cond (t:=r56.1) R (fun hc57=>?_) (fun hc57=>?_))
    ·replace h:=iteT h hc57
     exact LH.loneT [(0,.ptr 7 0),(2,.I p2),(7,.arr 197 (List.length l5)),(8,.I n2),(9,.I r7.1),(10,.ptr 110 0)] [(7,.box [.L r56.2.L,.I r56.2.At]),(110,.box [.I r8.1,.I 0,.I (l5.length:Int),.I r9.1,.I r10.1,.I r7.1,.I r11.1,.I 0]),(197,.arr 44 8 (List.map Gq5.lv l5))] R (sN (oFa tf44_0 tk40 ts40 R R (sN (oFa tf40_1 tk3 ts3 R R (s_ (oSt R R R tk3 ts3 R R R zS)))))) (thenN ⟨r56.2.L,r56.2.At,0,h,Wk.eq R R R R⟩)
    replace h:=iteF h hc57
    exact LH.skip (thenN ⟨r56.2.L,r56.2.At,r7.1,h,Wk.eq R R R R⟩)
   clear h
   rintro e m ⟨l12,n13,n14,h,hw⟩
   refine LH.wk hw ?_
   clear hw
   unfold Gq14 at h
   refine LH.mid (fun e m=>∃ (l15:List Int) (n16:Int) (n17:Int),Gq15 rec1 p2 n2 l5 r7 r8 r9 r10 r11 n14 l15 n16 n17=some r∧Wk (fun id=>Mem.of [(7,.box [.L p0.L,.I p0.At])] id ≠ .none) e m (Env.of [(0,.ptr 7 0),(2,.I p2),(7,.arr 197 (List.length l5)),(8,.I n2),(9,.I r7.1),(10,.ptr 110 0)]) (Mem.of [(7,.box [.L l15,.I n16]),(110,.box [.I r8.1,.I n14,.I (l5.length:Int),.I r9.1,.I r10.1,.I r7.1,.I r11.1,.I n17]),(197,.arr 44 8 (List.map Gq5.lv l5))])) ?_ ?_
   ·refine LH.seqT [(0,.ptr 7 0),(2,.I p2),(7,.arr 197 (List.length l5)),(8,.I n2),(9,.I r7.1),(10,.ptr 110 0),(42,.bool (r9.1 == 3))] [(7,.box [.L l12,.I n13]),(110,.box [.I r8.1,.I n14,.I (l5.length:Int),.I r9.1,.I r10.1,.I r7.1,.I r11.1,.I 0]),(197,.arr 44 8 (List.map Gq5.lv l5))] R (sN (oFa tf44_1 tk3 ts3 R R (sN (oLdP R R R R tk3 ta3 (sN (oEq R R zS)))))) (LH.cond (t:=(r9.1 == 3)) R (fun hc53=>?_) (fun hc53=>?_))
    ·replace h:=iteT h hc53
     obtain ⟨r54,hr54,h⟩:=bindS h
     obtain ⟨r55,hr55,h⟩:=bindS h
     exact LH.loneT [(0,.ptr 7 0),(2,.I p2),(7,.arr 197 (List.length l5)),(8,.I n2),(9,.I r7.1),(10,.ptr 110 0)] [(7,.box [.L r54.2.L,.I r54.2.At]),(110,.box [.I r8.1,.I n14,.I (l5.length:Int),.I r9.1,.I r10.1,.I r7.1,.I r11.1,.I (i64 (1+r55))]),(197,.arr 44 8 (List.map Gq5.lv l5))] R (sMi R (sMp R (sN (oCM (args:=[.ptr 7 0,.I 2]) (ml:=[(7,.box [.L l12,.I n13])]) (ml':=[(7,.box [.L r54.2.L,.I r54.2.At])]) R isF23 R (sbR (sbR sbN)) (Gq29 hr54) (mC R mN) (newI R newN) R (sN (oAdd R R (sN (oCP (args:=[.I (i64 (r7.1+r54.1)),.I 3]) R isF12 R (sbR (sbR sbN)) (q169q hr55) R (sN (oAdd R R (sN (oFa tf44_3 tk3 ts3 R R (s_ (oSt R R R tk3 ts3 R R R zS)))))))))))))) (thenN ⟨r54.2.L,r54.2.At,(i64 (1+r55)),h,Wk.eq R R R R⟩)
    replace h:=iteF h hc53
    exact LH.skip (thenN ⟨l12,n13,0,h,Wk.eq R R R R⟩)
   clear h
   rintro e m ⟨l15,n16,n17,h,hw⟩
   refine LH.wk hw ?_
   clear hw
   unfold Gq15 at h
   refine LH.mid (fun e m=>∃ (n18:Int) (n19:Int) (n20:Int) (n21:Int) (n22:Int) (n23:Int) (n24:Int) (n25:Int) (l26:List Int) (n27:Int),Gq16 rec1 n2 l5 n18 n19 n20 n21 n22 n23 n24 n25 l26 n27=some r∧Wk (fun id=>Mem.of [(7,.box [.L p0.L,.I p0.At])] id ≠ .none) e m (Env.of [(0,.ptr 7 0),(2,.I p2),(7,.arr 197 (List.length l5)),(8,.I n2),(10,.sptr [.I n18,.I n19,.I n20,.I n21,.I n22,.I n23,.I n24,.I n25])]) (Mem.of [(7,.box [.L l26,.I n27]),(197,.arr 44 8 (List.map Gq5.lv l5))])) ?_ ?_
   ·obtain ⟨w37,hv,h⟩:=bindS h
    refine LH.seqT [(0,.ptr 7 0),(2,.I p2),(7,.arr 197 (List.length l5)),(8,.I n2),(9,.I r7.1),(10,.ptr 110 0),(56,.bool w37.1)] [(7,.box [.L w37.2.1,.I w37.2.2]),(110,.box [.I r8.1,.I n14,.I (l5.length:Int),.I r9.1,.I r10.1,.I r7.1,.I r11.1,.I n17]),(197,.arr 44 8 (List.map Gq5.lv l5))] R ?_ ?_
    ·refine sMi R (sN (oGt R R (sMb R ?_)))
     by_cases hb38:(decide (p2 > 0))=true
     ·replace hv:=iteT hv hb38
      refine sT R (cB hb38) (oM (v:=(.ptr _ _)) R (sT R (cB hb38) (oM (v:=(.int _ _)) R ?_)))
      obtain ⟨r39,hr39,hv⟩:=bindS hv
      refine sT R (cB hb38) (oCM (args:=[.ptr 7 0,.I p2]) (ml:=[(7,.box [.L l15,.I n16])]) (ml':=[(7,.box [.L r39.2.L,.I r39.2.At])]) R isF32 R (sbR (sbR sbN)) (Gq31 hr39) (mC R mN) (newI R newN) R (sN (oPkT (cB hb38) (v:=(.bool _)) R ?_)))
      obtain rfl:=oI hv
      exact zS
     ·replace hb38:=bF hb38
      replace hv:=iteF hv hb38
      refine sF R R hb38 (sF R R hb38 (sF R R hb38 (sN (oPkF (cB hb38) (v:=(.bool _)) R ?_))))
      obtain rfl:=oI hv
      exact zS
    clear hv
    refine LH.cond (t:=w37.1) R (fun hc40=>?_) (fun hc40=>?_)
    ·replace h:=iteT h hc40
     obtain ⟨r41,hr41,h⟩:=bindS h
     refine LH.seqT [(0,.ptr 7 0),(2,.I p2),(7,.arr 197 (List.length l5)),(8,.I n2),(9,.I r7.1),(10,.ptr 110 0),(58,.I r41.1)] [(7,.box [.L r41.2.L,.I r41.2.At]),(110,.box [.I r8.1,.I n14,.I (l5.length:Int),.I r9.1,.I r10.1,.I r7.1,.I r11.1,.I n17]),(197,.arr 44 8 (List.map Gq5.lv l5))] R (sMp R (sN (oCM (args:=[.ptr 7 0,.I 6]) (ml:=[(7,.box [.L w37.2.1,.I w37.2.2])]) (ml':=[(7,.box [.L r41.2.L,.I r41.2.At])]) R isF23 R (sbR (sbR sbN)) (Gq29 hr41) (mC R mN) (newI R newN) R zS))) (LH.block (LH.seqT [(0,.ptr 7 0),(2,.I p2),(7,.arr 197 (List.length l5)),(8,.I n2),(9,.I r7.1),(10,.ptr 110 0),(58,.I r41.1),(64,.bool (r41.1 == 0))] [(7,.box [.L r41.2.L,.I r41.2.At]),(110,.box [.I r8.1,.I n14,.I (l5.length:Int),.I r9.1,.I r10.1,.I r7.1,.I r11.1,.I n17]),(197,.arr 44 8 (List.map Gq5.lv l5))] R (sN (oEq R R (sAb R zS))) (LH.cond (t:=(r41.1 == 0)) R (fun hc42=>?_) (fun hc42=>?_))))
     ·replace h:=iteT h hc42
      obtain ⟨r43,hr43,h⟩:=bindS h
      exact LH.loneT [(0,.ptr 7 0),(2,.I p2),(7,.arr 197 (List.length l5)),(8,.I n2),(10,.sptr [.I r8.1,.I n14,.I (l5.length:Int),.I r43.1,.I r10.1,.I r7.1,.I r11.1,.I n17])] [(7,.box [.L r43.2.L,.I r43.2.At]),(197,.arr 44 8 (List.map Gq5.lv l5))] R (sMp R (sN (oCM (args:=[.ptr 7 0,.I (-1),.I 4]) (ml:=[(7,.box [.L r41.2.L,.I r41.2.At])]) (ml':=[(7,.box [.L r43.2.L,.I r43.2.At])]) R isF34 R (sbR (sbR (sbR sbN))) (Gq39 hr43) (mC R mN) (newI R newN) R (sN (oFa tf44_1 tk3 ts3 R R (s_ (oSt R R R tk3 ts3 R R R (s0 ((Wk.trans (Wk.eq (el:=[(0,.ptr 7 0),(2,.I p2),(7,.arr 197 (List.length l5)),(8,.I n2),(10,.ptr 110 0)]) (ml:=[(7,.box [.L r43.2.L,.I r43.2.At]),(110,.box [.I r8.1,.I n14,.I (l5.length:Int),.I r43.1,.I r10.1,.I r7.1,.I r11.1,.I n17]),(197,.arr 44 8 (List.map Gq5.lv l5))]) R R R R) (Wk.trans (Wk.frzB 110 [.I r8.1,.I n14,.I (l5.length:Int),.I r43.1,.I r10.1,.I r7.1,.I r11.1,.I n17] R R R (prN R)) (Wk.eq R R R R)))))))))))) (blockN (thenN ⟨r8.1,n14,(l5.length:Int),r43.1,r10.1,r7.1,r11.1,n17,r43.2.L,r43.2.At,h,Wk.eq R R R R⟩))
     replace h:=iteF h hc42
     refine LH.seqT [(0,.ptr 7 0),(2,.I p2),(7,.arr 197 (List.length l5)),(8,.I n2),(9,.I r7.1),(10,.ptr 110 0),(58,.I r41.1),(69,.bool (r41.1 == 1))] [(7,.box [.L r41.2.L,.I r41.2.At]),(110,.box [.I r8.1,.I n14,.I (l5.length:Int),.I r9.1,.I r10.1,.I r7.1,.I r11.1,.I n17]),(197,.arr 44 8 (List.map Gq5.lv l5))] R (sN (oEq R R (sAb R zS))) (LH.cond (t:=(r41.1 == 1)) R (fun hc44=>?_) (fun hc44=>?_))
     ·replace h:=iteT h hc44
      obtain ⟨r45,hr45,h⟩:=bindS h
      exact LH.loneT [(0,.ptr 7 0),(2,.I p2),(7,.arr 197 (List.length l5)),(8,.I n2),(10,.sptr [.I r8.1,.I n14,.I (l5.length:Int),.I r9.1,.I r45.1,.I r7.1,.I r11.1,.I n17])] [(7,.box [.L r45.2.L,.I r45.2.At]),(197,.arr 44 8 (List.map Gq5.lv l5))] R (sMp R (sN (oCM (args:=[.ptr 7 0]) (ml:=[(7,.box [.L r41.2.L,.I r41.2.At])]) (ml':=[(7,.box [.L r45.2.L,.I r45.2.At])]) R isF41 R (sbR sbN) (Gq55 hr45) (mC R mN) (newI R newN) R (sN (oFa tf44_2 tk42 ts42 R R (sN (oFa tf42_0 tk3 ts3 R R (s_ (oSt R R R tk3 ts3 R R R (s0 ((Wk.trans (Wk.eq (el:=[(0,.ptr 7 0),(2,.I p2),(7,.arr 197 (List.length l5)),(8,.I n2),(10,.ptr 110 0)]) (ml:=[(7,.box [.L r45.2.L,.I r45.2.At]),(110,.box [.I r8.1,.I n14,.I (l5.length:Int),.I r9.1,.I r45.1,.I r7.1,.I r11.1,.I n17]),(197,.arr 44 8 (List.map Gq5.lv l5))]) R R R R) (Wk.trans (Wk.frzB 110 [.I r8.1,.I n14,.I (l5.length:Int),.I r9.1,.I r45.1,.I r7.1,.I r11.1,.I n17] R R R (prN R)) (Wk.eq R R R R)))))))))))))) (blockN (thenN ⟨r8.1,n14,(l5.length:Int),r9.1,r45.1,r7.1,r11.1,n17,r45.2.L,r45.2.At,h,Wk.eq R R R R⟩))
     replace h:=iteF h hc44
     refine LH.seqT [(0,.ptr 7 0),(2,.I p2),(7,.arr 197 (List.length l5)),(8,.I n2),(9,.I r7.1),(10,.ptr 110 0),(58,.I r41.1),(75,.bool (r41.1 == 2))] [(7,.box [.L r41.2.L,.I r41.2.At]),(110,.box [.I r8.1,.I n14,.I (l5.length:Int),.I r9.1,.I r10.1,.I r7.1,.I r11.1,.I n17]),(197,.arr 44 8 (List.map Gq5.lv l5))] R (sN (oEq R R (sAb R zS))) (LH.cond (t:=(r41.1 == 2)) R (fun hc46=>?_) (fun hc46=>?_))
     ·replace h:=iteT h hc46
      obtain ⟨r47,hr47,h⟩:=bindS h
      exact LH.loneT [(0,.ptr 7 0),(2,.I p2),(7,.arr 197 (List.length l5)),(8,.I n2),(10,.sptr [.I r8.1,.I n14,.I (l5.length:Int),.I r9.1,.I r10.1,.I r47.1,.I r11.1,.I n17])] [(7,.box [.L r47.2.L,.I r47.2.At]),(197,.arr 44 8 (List.map Gq5.lv l5))] R (sMp R (sN (oBS (f:=LV.I) (ys:=[0,1,99,100]) te22 tr3 ts3 R R R okI (sN (oCM (args:=[.ptr 7 0,.L [0,1,99,100]]) (ml:=[(7,.box [.L r41.2.L,.I r41.2.At])]) (ml':=[(7,.box [.L r47.2.L,.I r47.2.At])]) R isF42 R (sbR (sbR sbN)) (Gq37 hr47) (mC R mN) (newI R newN) R (sN (oFa tf44_2 tk42 ts42 R R (sN (oFa tf42_1 tk3 ts3 R R (s_ (oSt R R R tk3 ts3 R R R (s0 ((Wk.trans (Wk.eq (el:=[(0,.ptr 7 0),(2,.I p2),(7,.arr 197 (List.length l5)),(8,.I n2),(10,.ptr 110 0)]) (ml:=[(7,.box [.L r47.2.L,.I r47.2.At]),(110,.box [.I r8.1,.I n14,.I (l5.length:Int),.I r9.1,.I r10.1,.I r47.1,.I r11.1,.I n17]),(197,.arr 44 8 (List.map Gq5.lv l5))]) R R R R) (Wk.trans (Wk.frzB 110 [.I r8.1,.I n14,.I (l5.length:Int),.I r9.1,.I r10.1,.I r47.1,.I r11.1,.I n17] R R R (prN R)) (Wk.eq R R R R)))))))))))))))) (blockN (thenN ⟨r8.1,n14,(l5.length:Int),r9.1,r10.1,r47.1,r11.1,n17,r47.2.L,r47.2.At,h,Wk.eq R R R R⟩))
     replace h:=iteF h hc46
     refine LH.seqT [(0,.ptr 7 0),(2,.I p2),(7,.arr 197 (List.length l5)),(8,.I n2),(9,.I r7.1),(10,.ptr 110 0),(58,.I r41.1),(82,.bool (r41.1 == 3))] [(7,.box [.L r41.2.L,.I r41.2.At]),(110,.box [.I r8.1,.I n14,.I (l5.length:Int),.I r9.1,.I r10.1,.I r7.1,.I r11.1,.I n17]),(197,.arr 44 8 (List.map Gq5.lv l5))] R (sN (oEq R R (sAb R zS))) (LH.cond (t:=(r41.1 == 3)) R (fun hc48=>?_) (fun hc48=>?_))
     ·replace h:=iteT h hc48
      obtain ⟨r49,hr49,h⟩:=bindS h
      exact LH.loneT [(0,.ptr 7 0),(2,.I p2),(7,.arr 197 (List.length l5)),(8,.I n2),(10,.sptr [.I r8.1,.I n14,.I (l5.length:Int),.I r9.1,.I r10.1,.I r7.1,.I r49.1,.I n17])] [(7,.box [.L r49.2.L,.I r49.2.At]),(197,.arr 44 8 (List.map Gq5.lv l5))] R (sMp R (sN (oBS (f:=LV.I) (ys:=[(-1),31,32]) te22 tr3 ts3 R R R okI (sN (oCM (args:=[.ptr 7 0,.L [(-1),31,32]]) (ml:=[(7,.box [.L r41.2.L,.I r41.2.At])]) (ml':=[(7,.box [.L r49.2.L,.I r49.2.At])]) R isF42 R (sbR (sbR sbN)) (Gq37 hr49) (mC R mN) (newI R newN) R (sN (oFa tf44_2 tk42 ts42 R R (sN (oFa tf42_2 tk3 ts3 R R (s_ (oSt R R R tk3 ts3 R R R (s0 ((Wk.trans (Wk.eq (el:=[(0,.ptr 7 0),(2,.I p2),(7,.arr 197 (List.length l5)),(8,.I n2),(10,.ptr 110 0)]) (ml:=[(7,.box [.L r49.2.L,.I r49.2.At]),(110,.box [.I r8.1,.I n14,.I (l5.length:Int),.I r9.1,.I r10.1,.I r7.1,.I r49.1,.I n17]),(197,.arr 44 8 (List.map Gq5.lv l5))]) R R R R) (Wk.trans (Wk.frzB 110 [.I r8.1,.I n14,.I (l5.length:Int),.I r9.1,.I r10.1,.I r7.1,.I r49.1,.I n17] R R R (prN R)) (Wk.eq R R R R)))))))))))))))) (blockN (thenN ⟨r8.1,n14,(l5.length:Int),r9.1,r10.1,r7.1,r49.1,n17,r49.2.L,r49.2.At,h,Wk.eq R R R R⟩))
     replace h:=iteF h hc48
     refine LH.seqT [(0,.ptr 7 0),(2,.I p2),(7,.arr 197 (List.length l5)),(8,.I n2),(9,.I r7.1),(10,.ptr 110 0),(89,.bool (r41.1 == 4))] [(7,.box [.L r41.2.L,.I r41.2.At]),(110,.box [.I r8.1,.I n14,.I (l5.length:Int),.I r9.1,.I r10.1,.I r7.1,.I r11.1,.I n17]),(197,.arr 44 8 (List.map Gq5.lv l5))] R (sN (oEq R R (sAb R zS))) (LH.cond (t:=(r41.1 == 4)) R (fun hc50=>?_) (fun hc50=>?_))
     ·replace h:=iteT h hc50
      obtain ⟨r51,hr51,h⟩:=bindS h
      exact LH.loneT [(0,.ptr 7 0),(2,.I p2),(7,.arr 197 (List.length l5)),(8,.I n2),(10,.sptr [.I r51.1.Time,.I r51.1.Source,.I r51.1.Seq,.I r9.1,.I r10.1,.I r7.1,.I r11.1,.I n17])] [(7,.box [.L r51.2.L,.I r51.2.At]),(197,.arr 44 8 (List.map Gq5.lv l5))] R (sMp R (sN (oCM (args:=[.ptr 7 0,.I 4]) (ml:=[(7,.box [.L r41.2.L,.I r41.2.At])]) (ml':=[(7,.box [.L r51.2.L,.I r51.2.At])]) R isF43 R (sbR (sbR sbN)) (Gq53 hr51) (mC R mN) (newI R newN) R (sN (oFa tf44_0 tk40 ts40 R R (s_ (oSt R R R tk40 ts40 R R R (s0 ((Wk.trans (Wk.eq (el:=[(0,.ptr 7 0),(2,.I p2),(7,.arr 197 (List.length l5)),(8,.I n2),(10,.ptr 110 0)]) (ml:=[(7,.box [.L r51.2.L,.I r51.2.At]),(110,.box [.I r51.1.Time,.I r51.1.Source,.I r51.1.Seq,.I r9.1,.I r10.1,.I r7.1,.I r11.1,.I n17]),(197,.arr 44 8 (List.map Gq5.lv l5))]) R R R R) (Wk.trans (Wk.frzB 110 [.I r51.1.Time,.I r51.1.Source,.I r51.1.Seq,.I r9.1,.I r10.1,.I r7.1,.I r11.1,.I n17] R R R (prN R)) (Wk.eq R R R R)))))))))))) (blockN (thenN ⟨r51.1.Time,r51.1.Source,r51.1.Seq,r9.1,r10.1,r7.1,r11.1,n17,r51.2.L,r51.2.At,h,Wk.eq R R R R⟩))
     replace h:=iteF h hc50
     obtain ⟨r52,hr52,h⟩:=bindS h
     exact LH.loneT [(0,.ptr 7 0),(2,.I p2),(7,.arr 197 (List.length l5)),(8,.I n2),(10,.sptr [.I r8.1,.I n14,.I (l5.length:Int),.I r9.1,.I r10.1,.I r7.1,.I r11.1,.I r52.1])] [(7,.box [.L r52.2.L,.I r52.2.At]),(197,.arr 44 8 (List.map Gq5.lv l5))] R (sMp R (sMi R (sN (oBS (f:=LV.I) (ys:=[0,99,100,r7.1]) te22 tr3 ts3 R R R okI (sN (oCM (args:=[.ptr 7 0,.L [0,99,100,r7.1]]) (ml:=[(7,.box [.L r41.2.L,.I r41.2.At])]) (ml':=[(7,.box [.L r52.2.L,.I r52.2.At])]) R isF42 R (sbR (sbR sbN)) (Gq37 hr52) (mC R mN) (newI R newN) R (sN (oFa tf44_3 tk3 ts3 R R (s_ (oSt R R R tk3 ts3 R R R (s0 ((Wk.trans (Wk.eq (el:=[(0,.ptr 7 0),(2,.I p2),(7,.arr 197 (List.length l5)),(8,.I n2),(10,.ptr 110 0)]) (ml:=[(7,.box [.L r52.2.L,.I r52.2.At]),(110,.box [.I r8.1,.I n14,.I (l5.length:Int),.I r9.1,.I r10.1,.I r7.1,.I r11.1,.I r52.1]),(197,.arr 44 8 (List.map Gq5.lv l5))]) R R R R) (Wk.trans (Wk.frzB 110 [.I r8.1,.I n14,.I (l5.length:Int),.I r9.1,.I r10.1,.I r7.1,.I r11.1,.I r52.1] R R R (prN R)) (Wk.eq R R R R))))))))))))))) (blockN (thenN ⟨r8.1,n14,(l5.length:Int),r9.1,r10.1,r7.1,r11.1,r52.1,r52.2.L,r52.2.At,h,Wk.eq R R R R⟩))
    replace h:=iteF h hc40
    exact LH.skip (thenN ⟨r8.1,n14,(l5.length:Int),r9.1,r10.1,r7.1,r11.1,n17,w37.2.1,w37.2.2,h,(Wk.trans (Wk.eq (el:=[(0,.ptr 7 0),(2,.I p2),(7,.arr 197 (List.length l5)),(8,.I n2),(10,.ptr 110 0)]) (ml:=[(7,.box [.L w37.2.1,.I w37.2.2]),(110,.box [.I r8.1,.I n14,.I (l5.length:Int),.I r9.1,.I r10.1,.I r7.1,.I r11.1,.I n17]),(197,.arr 44 8 (List.map Gq5.lv l5))]) R R R R) (Wk.trans (Wk.frzB 110 [.I r8.1,.I n14,.I (l5.length:Int),.I r9.1,.I r10.1,.I r7.1,.I r11.1,.I n17] R R R (prN R)) (Wk.eq R R R R)))⟩)
   clear h
   rintro e m ⟨n18,n19,n20,n21,n22,n23,n24,n25,l26,n27,h,hw⟩
   refine LH.wk hw ?_
   clear hw
   unfold Gq16 at h
   obtain ⟨v28,hv28,h⟩:=bindS h
   refine LH.seqT [(0,.ptr 7 0),(2,.I p2),(7,.arr 197 (List.length v28)),(8,.I n2)] [(7,.box [.L l26,.I n27]),(197,.arr 44 8 (List.map Gq5.lv v28))] R (sMa R (sN (oLdA R tk44 ta44 ts44 R R (sN (oBS (f:=Gq5.lv) (ys:=[(Gq5.mk (Gq10.mk n18 n19 n20) n21 (Gq4.mk n22 n23 n24) n25)]) te28 tr44 ts44 R R R Gq5.ok (sN (oAp (f:=Gq5.lv) te28 tr44 ts44 R R (prN R) R hv28 (sAa R zS)))))))) ?_
   obtain ⟨r29,hr29,h⟩:=bindS h
   refine LH.seqT [(0,.ptr 7 0),(2,.I p2),(7,.arr 197 (List.length v28)),(8,.I n2),(99,.bool r29.1)] [(7,.box [.L r29.2.L,.I r29.2.At]),(197,.arr 44 8 (List.map Gq5.lv v28))] R (sMp R (sN (oCM (args:=[.ptr 7 0,.I 8]) (ml:=[(7,.box [.L l26,.I n27])]) (ml':=[(7,.box [.L r29.2.L,.I r29.2.At])]) R isF32 R (sbR (sbR sbN)) (Gq31 hr29) (mC R mN) (newI R newN) R zS))) (LH.cond (t:=r29.1) R (fun hc30=>?_) (fun hc30=>?_))
   ·replace h:=iteT h hc30
    obtain ⟨r31,hr31,h⟩:=bindS h
    obtain ⟨x32,hx32,h⟩:=bindS h
    obtain ⟨v33,hv33,h⟩:=bindS h
    refine LH.loneT [(0,.ptr 7 0),(2,.I p2),(7,.arr 197 (List.length v33)),(8,.I n2)] [(7,.box [.L r31.2.L,.I r31.2.At]),(197,.arr 44 8 (List.map Gq5.lv v33))] R (sMa R (sMa R (sMp R (sMa R (sN (oLnA (f:=Gq5.lv) te28 R R (sN (oCM (args:=[.ptr 7 0,.I (v28.length:Int)]) (ml:=[(7,.box [.L r29.2.L,.I r29.2.At])]) (ml':=[(7,.box [.L r31.2.L,.I r31.2.At])]) R isF23 R (sbR (sbR sbN)) (Gq29 hr31) (mC R mN) (newI R newN) R (sN (oIxA (f:=Gq5.lv) te28 tk44 ts44 R R R hx32 (sN (oLdEA (f:=Gq5.lv) R R (idxOk hx32).2 R R tk44 ta44 ts44 R R (sN (oBS (f:=Gq5.lv) (ys:=[x32]) te28 tr44 ts44 R R R Gq5.ok (sN (oAp (f:=Gq5.lv) te28 tr44 ts44 R R (prN R) R hv33 (sAa R zS))))))))))))))))) (blockN (thenN (LH.loneT [(0,.ptr 7 0),(2,.I p2),(7,.arr 197 (List.length v33)),(8,.I (i64 (n2 - 1)))] [(7,.box [.L r31.2.L,.I r31.2.At]),(197,.arr 44 8 (List.map Gq5.lv v33))] R (sMi R (sN (oSub R R (sAi R zS)))) ?_)))
    exact roundI ⟨(i64 (n2 - 1)),r31.2.L,r31.2.At,v33,hrec1 ▸ h,R,R⟩ (Wk.eq R R R R)
   replace h:=iteF h hc30
   refine LH.skip (blockN (thenN (LH.loneT [(0,.ptr 7 0),(2,.I p2),(7,.arr 197 (List.length v28)),(8,.I (i64 (n2 - 1)))] [(7,.box [.L r29.2.L,.I r29.2.At]),(197,.arr 44 8 (List.map Gq5.lv v28))] R (sMi R (sN (oSub R R (sAi R zS)))) ?_)))
   exact roundI ⟨(i64 (n2 - 1)),r29.2.L,r29.2.At,v28,hrec1 ▸ h,R,R⟩ (Wk.eq R R R R)
  replace h:=iteF h hc6
  refine LH.exit (thenX (roundX (blockH (thenN (LH.wk ((Wk.trans (Wk.eq (el:=[(7,.arr 197 (List.length l5))]) (ml:=[(7,.box [.L l3,.I n4]),(197,.arr 44 8 (List.map Gq5.lv l5))]) R R R R) (Wk.trans (Wk.frzL (f:=Gq5.lv) (el':=[(7,.lst 8 (List.map Gq5.lv l5))]) 197 44 8 l5 R R (prN R) (fZ fN)) (Wk.eq (el:=[(7,.lst 8 (List.map Gq5.lv l5))]) (ml:=[(7,.box [.L l3,.I n4])]) R R R R)))) (LH.seqT [(6,.lst 8 (List.map Gq5.lv l5))] [(7,.box [.L l3,.I n4])] R (sMl R (sAl R zS)) (LH.ret ?_)))))))
  obtain rfl:=oI h
  exact retE (aT Tryz.results8) (lrT R (lr0 ⟨memN (mC R mN),R,prK R,Sub.rfl⟩))

theorem Gq49 {F:Nat} {p0:GTape} {p1:Int} {r:List Gq1 × GTape} (h:Gq46 F p0 p1=some r):LCall Tryz.prog 9 [.ptr 7 0,.I p1] (Mem.of [(7,.box [.L p0.L,.I p0.At])]) (.lst 4 (List.map Gq1.lv r.1)) (Mem.of [(7,.box [.L r.2.L,.I r.2.At])]):=by
  unfold Gq46 at h
  refine bodyT Tryz.func9 R (nT Tryz.ntmps9 R) (LH.wk (Wk.eq (el:=[(0,.ptr 7 0),(1,.I p1)]) (ml:=[(7,.box [.L p0.L,.I p0.At])]) R R R R) (LH.seqT [(0,.ptr 7 0),(1,.I p1)] [(7,.box [.L p0.L,.I p0.At])] R (sAn R zS) (LH.seqT [(0,.ptr 7 0),(1,.I p1),(5,.nil)] [(7,.box [.L p0.L,.I p0.At])] R (sAn R zS) (LH.seq ?_))))
  obtain ⟨r1,hr1,h⟩:=bindS h
  refine LH.seqT [(0,.ptr 7 0),(1,.I p1),(5,.nil),(6,.I r1.1)] [(7,.box [.L r1.2.L,.I r1.2.At])] R (sMp R (sN (oCM (args:=[.ptr 7 0,.I 6]) (ml:=[(7,.box [.L p0.L,.I p0.At])]) (ml':=[(7,.box [.L r1.2.L,.I r1.2.At])]) R isF23 R (sbR (sbR sbN)) (Gq29 hr1) (mC R mN) (newI R newN) R (sAi R zS)))) (LH.block (LH.wk ((Wk.trans (Wk.eq (el:=[(0,.ptr 7 0),(1,.I p1),(5,.nil),(6,.I r1.1)]) (ml:=[(7,.box [.L r1.2.L,.I r1.2.At])]) R R R R) (Wk.trans (Wk.eq (el:=[(0,.ptr 7 0),(1,.I p1),(5,.nil),(6,.I r1.1)]) (ml:=[(7,.box [.L r1.2.L,.I r1.2.At])]) R R R R) (Wk.trans (Wk.ownL (el':=[(0,.ptr 7 0),(1,.I p1),(5,.arr 126 (List.length ([]:List Gq1))),(6,.I r1.1)]) 126 134 4 R R (wK (wK (wO (wK wN))))) (Wk.eq (el:=[(0,.ptr 7 0),(1,.I p1),(5,.arr 126 (List.length ([]:List Gq1))),(6,.I r1.1)]) (ml:=[(7,.box [.L r1.2.L,.I r1.2.At]),(126,.arr 134 4 (List.map Gq1.lv ([]:List Gq1)))]) R R R R))))) (LH.loop (fun n e m=>∃ (n2:Int) (l3:List Int) (n4:Int) (l5:List Gq1),Gq47 p1 n n2 l3 n4 l5=some r∧e=Env.of [(0,.ptr 7 0),(1,.I p1),(5,.arr 126 (List.length l5)),(6,.I n2)]∧m=Mem.of [(7,.box [.L l3,.I n4]),(126,.arr 134 4 (List.map Gq1.lv l5))]) F ⟨r1.1,r1.2.L,r1.2.At,([]:List Gq1),h,R,R⟩ ?_)))
  clear h
  rintro n e m ⟨n2,l3,n4,l5,h,rfl,rfl⟩
  rcases n with _ | n
  · cases (show Option.none=some _ from h)
  obtain ⟨rec1,hrec1⟩:∃ f,f=Gq47 p1 n:=⟨_,rfl⟩
  replace h:Gq48 p1 rec1 n2 l3 n4 l5=some r:=hrec1 ▸ h
  unfold Gq48 at h
  refine LH.seq (LH.seqT [(0,.ptr 7 0),(1,.I p1),(5,.arr 126 (List.length l5)),(6,.I n2),(10,.bool (decide (n2 > 0)))] [(7,.box [.L l3,.I n4]),(126,.arr 134 4 (List.map Gq1.lv l5))] R (sMi R (sN (oGt R R zS))) (LH.cond (t:=(decide (n2 > 0))) R (fun hc6=>?_) (fun hc6=>?_)))
  ·replace h:=iteT h hc6
   refine LH.skip (thenN (LH.wk (Wk.eq (el:=[(0,.ptr 7 0),(1,.I p1),(5,.arr 126 (List.length l5)),(6,.I n2)]) (ml:=[(7,.box [.L l3,.I n4]),(126,.arr 134 4 (List.map Gq1.lv l5))]) R R R R) (LH.seq (LH.block ?_))))
   obtain ⟨r7,hr7,h⟩:=bindS h
   obtain ⟨r8,hr8,h⟩:=bindS h
   obtain ⟨r9,hr9,h⟩:=bindS h
   obtain ⟨r10,hr10,h⟩:=bindS h
   obtain ⟨v11,hv11,h⟩:=bindS h
   refine LH.loneT [(0,.ptr 7 0),(1,.I p1),(5,.arr 126 (List.length v11)),(6,.I n2)] [(7,.box [.L r10.2.L,.I r10.2.At]),(126,.arr 134 4 (List.map Gq1.lv v11))] R ?_ ?_
   ·exact sMa R (sMp R (sN (oCM (args:=[.ptr 7 0,.I 1,.I 3]) (ml:=[(7,.box [.L l3,.I n4])]) (ml':=[(7,.box [.L r7.2.L,.I r7.2.At])]) R isF34 R (sbR (sbR (sbR sbN))) (Gq39 hr7) (mC R mN) (newI R newN) R (sMp R (sN (oCM (args:=[.ptr 7 0,.I 1,.I 9]) (ml:=[(7,.box [.L r7.2.L,.I r7.2.At])]) (ml':=[(7,.box [.L r8.2.L,.I r8.2.At])]) R isF34 R (sbR (sbR (sbR sbN))) (Gq39 hr8) (mC R mN) (newI R newN) R (sMp R (sN (oBS (f:=LV.I) (ys:=[0,10,25,26,50,100]) te22 tr3 ts3 R R R okI (sN (oCM (args:=[.ptr 7 0,.L [0,10,25,26,50,100]]) (ml:=[(7,.box [.L r8.2.L,.I r8.2.At])]) (ml':=[(7,.box [.L r9.2.L,.I r9.2.At])]) R isF42 R (sbR (sbR sbN)) (Gq37 hr9) (mC R mN) (newI R newN) R (sMp R (sN (oBS (f:=LV.I) (ys:=[0,2,4,8,16,32,6,63]) te22 tr3 ts3 R R R okI (sN (oCM (args:=[.ptr 7 0,.L [0,2,4,8,16,32,6,63]]) (ml:=[(7,.box [.L r9.2.L,.I r9.2.At])]) (ml':=[(7,.box [.L r10.2.L,.I r10.2.At])]) R isF42 R (sbR (sbR sbN)) (Gq37 hr10) (mC R mN) (newI R newN) R (sN (oBd (vs:=[(0,.I r7.1),(1,.I r8.1),(2,.I r9.1),(3,.I r10.1)]) tu134 tz134 R (lf tf134_0 ts3 tk3 R R R (lf tf134_1 ts3 tk3 R R R (lf tf134_2 ts3 tk3 R R R (lf tf134_3 ts3 tk3 R R R lf0)))) (sN (oBS (f:=Gq1.lv) (ys:=[(Gq1.mk r7.1 r8.1 r9.1 r10.1)]) te30 tr134 ts134 R R R Gq1.ok (sN (oAp (f:=Gq1.lv) te30 tr134 ts134 R R (prN R) R hv11 (sAa R zS)))))))))))))))))))))))
   refine blockN (thenN (LH.loneT [(0,.ptr 7 0),(1,.I p1),(5,.arr 126 (List.length v11)),(6,.I (i64 (n2 - 1)))] [(7,.box [.L r10.2.L,.I r10.2.At]),(126,.arr 134 4 (List.map Gq1.lv v11))] R (sMi R (sN (oSub R R (sAi R zS)))) ?_))
   exact roundI ⟨(i64 (n2 - 1)),r10.2.L,r10.2.At,v11,hrec1 ▸ h,R,R⟩ (Wk.eq R R R R)
  replace h:=iteF h hc6
  refine LH.exit (thenX (roundX (blockH (thenN (LH.wk (Wk.eq (el:=[(0,.ptr 7 0),(1,.I p1),(5,.arr 126 (List.length l5))]) (ml:=[(7,.box [.L l3,.I n4]),(126,.arr 134 4 (List.map Gq1.lv l5))]) R R R R) (LH.seq ?_))))))
  obtain ⟨w15,hv,h⟩:=bindS h
  refine LH.seqT [(0,.ptr 7 0),(5,.arr 126 (List.length l5)),(33,.bool w15.1)] [(7,.box [.L w15.2.1,.I w15.2.2]),(126,.arr 134 4 (List.map Gq1.lv l5))] R ?_ ?_
  ·refine sMi R (sN (oGt R R (sMb R ?_)))
   by_cases hb16:(decide (p1 > 0))=true
   ·replace hv:=iteT hv hb16
    refine sT R (cB hb16) (oM (v:=(.ptr _ _)) R (sT R (cB hb16) (oM (v:=(.int _ _)) R ?_)))
    obtain ⟨r17,hr17,hv⟩:=bindS hv
    refine sT R (cB hb16) (oCM (args:=[.ptr 7 0,.I p1]) (ml:=[(7,.box [.L l3,.I n4])]) (ml':=[(7,.box [.L r17.2.L,.I r17.2.At])]) R isF32 R (sbR (sbR sbN)) (Gq31 hr17) (mC R mN) (newI R newN) R (sN (oPkT (cB hb16) (v:=(.bool _)) R ?_)))
    obtain rfl:=oI hv
    exact zS
   ·replace hb16:=bF hb16
    replace hv:=iteF hv hb16
    refine sF R R hb16 (sF R R hb16 (sF R R hb16 (sN (oPkF (cB hb16) (v:=(.bool _)) R ?_))))
    obtain rfl:=oI hv
    exact zS
  clear hv
  refine LH.cond (t:=w15.1) R (fun hc18=>?_) (fun hc18=>?_)
  ·replace h:=iteT h hc18
   obtain ⟨r19,hr19,h⟩:=bindS h
   obtain ⟨r20,hr20,h⟩:=bindS h
   obtain ⟨r21,hr21,h⟩:=bindS h
   obtain ⟨r22,hr22,h⟩:=bindS h
   obtain ⟨v23,hv23,h⟩:=bindS h
   refine LH.loneT [(5,.lst 4 (List.map Gq1.lv v23))] [(7,.box [.L r22.2.L,.I r22.2.At])] R ?_ ?_
   ·exact sMa R (sMp R (sN (oBS (f:=LV.I) (ys:=[0,1,9,10]) te22 tr3 ts3 R R R okI (sN (oCM (args:=[.ptr 7 0,.L [0,1,9,10]]) (ml:=[(7,.box [.L w15.2.1,.I w15.2.2])]) (ml':=[(7,.box [.L r19.2.L,.I r19.2.At])]) R isF42 R (sbR (sbR sbN)) (Gq37 hr19) (mC R mN) (newI R newN) R (sMp R (sN (oBS (f:=LV.I) (ys:=[0,1,9,10]) te22 tr3 ts3 R R R okI (sN (oCM (args:=[.ptr 7 0,.L [0,1,9,10]]) (ml:=[(7,.box [.L r19.2.L,.I r19.2.At])]) (ml':=[(7,.box [.L r20.2.L,.I r20.2.At])]) R isF42 R (sbR (sbR sbN)) (Gq37 hr20) (mC R mN) (newI R newN) R (sMp R (sN (oBS (f:=LV.I) (ys:=[(-1),0,100,101]) te22 tr3 ts3 R R R okI (sN (oCM (args:=[.ptr 7 0,.L [(-1),0,100,101]]) (ml:=[(7,.box [.L r20.2.L,.I r20.2.At])]) (ml':=[(7,.box [.L r21.2.L,.I r21.2.At])]) R isF42 R (sbR (sbR sbN)) (Gq37 hr21) (mC R mN) (newI R newN) R (sMp R (sN (oBS (f:=LV.I) (ys:=[(-1),0,63,64]) te22 tr3 ts3 R R R okI (sN (oCM (args:=[.ptr 7 0,.L [(-1),0,63,64]]) (ml:=[(7,.box [.L r21.2.L,.I r21.2.At])]) (ml':=[(7,.box [.L r22.2.L,.I r22.2.At])]) R isF42 R (sbR (sbR sbN)) (Gq37 hr22) (mC R mN) (newI R newN) R (sN (oBd (vs:=[(0,.I r19.1),(1,.I r20.1),(2,.I r21.1),(3,.I r22.1)]) tu134 tz134 R (lf tf134_0 ts3 tk3 R R R (lf tf134_1 ts3 tk3 R R R (lf tf134_2 ts3 tk3 R R R (lf tf134_3 ts3 tk3 R R R lf0)))) (sN (oBS (f:=Gq1.lv) (ys:=[(Gq1.mk r19.1 r20.1 r21.1 r22.1)]) te30 tr134 ts134 R R R Gq1.ok (sN (oAp (f:=Gq1.lv) te30 tr134 ts134 R R (prN R) R hv23 (sAa R (s0 ((Wk.trans (Wk.eq (el:=[(5,.arr 126 (List.length v23))]) (ml:=[(7,.box [.L r22.2.L,.I r22.2.At]),(126,.arr 134 4 (List.map Gq1.lv v23))]) R R R R) (Wk.trans (Wk.frzL (f:=Gq1.lv) (el':=[(5,.lst 4 (List.map Gq1.lv v23))]) 126 134 4 v23 R R (prN R) (fZ fN)) (Wk.eq R R R R))))))))))))))))))))))))))))))))
   refine thenN (LH.seqT [(4,.lst 4 (List.map Gq1.lv v23))] [(7,.box [.L r22.2.L,.I r22.2.At])] R (sMl R (sAl R zS)) (LH.ret ?_))
   obtain rfl:=oI h
   exact retE (aT Tryz.results9) (lrT R (lr0 ⟨memN (mC R mN),R,prK R,Sub.rfl⟩))
  replace h:=iteF h hc18
  refine LH.skip (thenN (LH.wk ((Wk.trans (Wk.eq (el:=[(5,.arr 126 (List.length l5))]) (ml:=[(7,.box [.L w15.2.1,.I w15.2.2]),(126,.arr 134 4 (List.map Gq1.lv l5))]) R R R R) (Wk.trans (Wk.frzL (f:=Gq1.lv) (el':=[(5,.lst 4 (List.map Gq1.lv l5))]) 126 134 4 l5 R R (prN R) (fZ fN)) (Wk.eq (el:=[(5,.lst 4 (List.map Gq1.lv l5))]) (ml:=[(7,.box [.L w15.2.1,.I w15.2.2])]) R R R R)))) (LH.seqT [(4,.lst 4 (List.map Gq1.lv l5))] [(7,.box [.L w15.2.1,.I w15.2.2])] R (sMl R (sAl R zS)) (LH.ret ?_))))
  obtain rfl:=oI h
  exact retE (aT Tryz.results9) (lrT R (lr0 ⟨memN (mC R mN),R,prK R,Sub.rfl⟩))

theorem Gq51 {p0:GTape} {p1:Int} {p2:Int} {r:Int × GTape} (h:Gq50 p0 p1 p2=some r):LCall Tryz.prog 44 [.ptr 7 0,.I p1,.I p2] (Mem.of [(7,.box [.L p0.L,.I p0.At])]) (.I r.1) (Mem.of [(7,.box [.L r.2.L,.I r.2.At])]):=by
  unfold Gq50 at h
  refine bodyT Tryz.func44 R (nT Tryz.ntmps44 R) (LH.wk (Wk.eq (el:=[(0,.ptr 7 0),(1,.I p1),(2,.I p2)]) (ml:=[(7,.box [.L p0.L,.I p0.At])]) R R R R) (LH.seqT [(0,.ptr 7 0),(1,.I p1),(2,.I p2)] [(7,.box [.L p0.L,.I p0.At])] R (sAi R zS) (LH.seq ?_)))
  obtain ⟨w4,hv,h⟩:=bindS h
  refine LH.seqT [(0,.ptr 7 0),(1,.I p1),(13,.bool w4.1)] [(7,.box [.L w4.2.1,.I w4.2.2])] R ?_ ?_
  ·refine sMi R (sN (oGt R R (sMb R ?_)))
   by_cases hb5:(decide (p2 > 0))=true
   ·replace hv:=iteT hv hb5
    refine sT R (cB hb5) (oM (v:=(.ptr _ _)) R (sT R (cB hb5) (oM (v:=(.int _ _)) R ?_)))
    obtain ⟨r6,hr6,hv⟩:=bindS hv
    refine sT R (cB hb5) (oCM (args:=[.ptr 7 0,.I p2]) (ml:=[(7,.box [.L p0.L,.I p0.At])]) (ml':=[(7,.box [.L r6.2.L,.I r6.2.At])]) R isF32 R (sbR (sbR sbN)) (Gq31 hr6) (mC R mN) (newI R newN) R (sN (oPkT (cB hb5) (v:=(.bool _)) R ?_)))
    obtain rfl:=oI hv
    exact zS
   ·replace hb5:=bF hb5
    replace hv:=iteF hv hb5
    refine sF R R hb5 (sF R R hb5 (sF R R hb5 (sN (oPkF (cB hb5) (v:=(.bool _)) R ?_))))
    obtain rfl:=oI hv
    exact zS
  clear hv
  refine LH.cond (t:=w4.1) R (fun hc7=>?_) (fun hc7=>?_)
  ·replace h:=iteT h hc7
   obtain ⟨r8,hr8,h⟩:=bindS h
   refine LH.seqT [(6,.I r8.1)] [(7,.box [.L r8.2.L,.I r8.2.At])] R (sMp R (sN (oCM (args:=[.ptr 7 0]) (ml:=[(7,.box [.L w4.2.1,.I w4.2.2])]) (ml':=[(7,.box [.L r8.2.L,.I r8.2.At])]) R isF41 R (sbR sbN) (Gq55 hr8) (mC R mN) (newI R newN) R (sAi R zS)))) (LH.ret (thenR ?_))
   obtain rfl:=oI h
   exact retE (aT Tryz.results44) (lrT R (lr0 ⟨memN (mC R mN),R,prK R,Sub.rfl⟩))
  replace h:=iteF h hc7
  refine LH.skip (thenN (LH.seqT [(6,.I p1)] [(7,.box [.L w4.2.1,.I w4.2.2])] R (sMi R (sAi R zS)) (LH.ret ?_)))
  obtain rfl:=oI h
  exact retE (aT Tryz.results44) (lrT R (lr0 ⟨memN (mC R mN),R,prK R,Sub.rfl⟩))

theorem Gq23 {F:Nat} {p0:GTape} {r:List Gq6 × GTape} (h:Gq20 F p0=some r):LCall Tryz.prog 10 [.ptr 7 0] (Mem.of [(7,.box [.L p0.L,.I p0.At])]) (.lst 5 (List.map Gq6.lv r.1)) (Mem.of [(7,.box [.L r.2.L,.I r.2.At])]):=by
  unfold Gq20 at h
  refine bodyT Tryz.func10 R (nT Tryz.ntmps10 R) (LH.wk (Wk.eq (el:=[(0,.ptr 7 0)]) (ml:=[(7,.box [.L p0.L,.I p0.At])]) R R R R) (LH.seqT [(0,.ptr 7 0)] [(7,.box [.L p0.L,.I p0.At])] R (sAn R zS) (LH.seqT [(0,.ptr 7 0),(3,.nil)] [(7,.box [.L p0.L,.I p0.At])] R (sAn R zS) (LH.seq ?_))))
  obtain ⟨r1,hr1,h⟩:=bindS h
  refine LH.seqT [(0,.ptr 7 0),(3,.nil),(4,.I r1.1)] [(7,.box [.L r1.2.L,.I r1.2.At])] R (sMp R (sN (oCM (args:=[.ptr 7 0,.I 7]) (ml:=[(7,.box [.L p0.L,.I p0.At])]) (ml':=[(7,.box [.L r1.2.L,.I r1.2.At])]) R isF23 R (sbR (sbR sbN)) (Gq29 hr1) (mC R mN) (newI R newN) R (sAi R zS)))) (LH.block (LH.wk ((Wk.trans (Wk.eq (el:=[(0,.ptr 7 0),(3,.nil),(4,.I r1.1)]) (ml:=[(7,.box [.L r1.2.L,.I r1.2.At])]) R R R R) (Wk.trans (Wk.eq (el:=[(0,.ptr 7 0),(3,.nil),(4,.I r1.1)]) (ml:=[(7,.box [.L r1.2.L,.I r1.2.At])]) R R R R) (Wk.trans (Wk.ownL (el':=[(0,.ptr 7 0),(3,.arr 132 (List.length ([]:List Gq6))),(4,.I r1.1)]) 132 46 5 R R (wK (wO (wK wN)))) (Wk.eq (el:=[(0,.ptr 7 0),(3,.arr 132 (List.length ([]:List Gq6))),(4,.I r1.1)]) (ml:=[(7,.box [.L r1.2.L,.I r1.2.At]),(132,.arr 46 5 (List.map Gq6.lv ([]:List Gq6)))]) R R R R))))) (LH.loop (fun n e m=>∃ (n2:Int) (l3:List Int) (n4:Int) (l5:List Gq6),Gq21 n n2 l3 n4 l5=some r∧e=Env.of [(0,.ptr 7 0),(3,.arr 132 (List.length l5)),(4,.I n2)]∧m=Mem.of [(7,.box [.L l3,.I n4]),(132,.arr 46 5 (List.map Gq6.lv l5))]) F ⟨r1.1,r1.2.L,r1.2.At,([]:List Gq6),h,R,R⟩ ?_)))
  clear h
  rintro n e m ⟨n2,l3,n4,l5,h,rfl,rfl⟩
  rcases n with _ | n
  · cases (show Option.none=some _ from h)
  obtain ⟨rec1,hrec1⟩:∃ f,f=Gq21 n:=⟨_,rfl⟩
  replace h:Gq22 rec1 n2 l3 n4 l5=some r:=hrec1 ▸ h
  unfold Gq22 at h
  refine LH.seq (LH.seqT [(0,.ptr 7 0),(3,.arr 132 (List.length l5)),(4,.I n2),(9,.bool (decide (n2 > 0)))] [(7,.box [.L l3,.I n4]),(132,.arr 46 5 (List.map Gq6.lv l5))] R (sMi R (sN (oGt R R zS))) (LH.cond (t:=(decide (n2 > 0))) R (fun hc6=>?_) (fun hc6=>?_)))
  ·replace h:=iteT h hc6
   refine LH.skip (thenN (LH.wk (Wk.eq (el:=[(0,.ptr 7 0),(3,.arr 132 (List.length l5)),(4,.I n2)]) (ml:=[(7,.box [.L l3,.I n4]),(132,.arr 46 5 (List.map Gq6.lv l5))]) R R R R) (LH.seq (LH.block ?_))))
   obtain ⟨r7,hr7,h⟩:=bindS h
   refine LH.seqT [(0,.ptr 7 0),(3,.arr 132 (List.length l5)),(4,.I n2),(5,.I r7.1)] [(7,.box [.L r7.2.L,.I r7.2.At]),(132,.arr 46 5 (List.map Gq6.lv l5))] R (sMp R (sN (oCM (args:=[.ptr 7 0,.I 0,.I 20]) (ml:=[(7,.box [.L l3,.I n4])]) (ml':=[(7,.box [.L r7.2.L,.I r7.2.At])]) R isF34 R (sbR (sbR (sbR sbN))) (Gq39 hr7) (mC R mN) (newI R newN) R (sAi R zS)))) ?_
   obtain ⟨r8,hr8,h⟩:=bindS h
   obtain ⟨r9,hr9,h⟩:=bindS h
   obtain ⟨r10,hr10,h⟩:=bindS h
   obtain ⟨r11,hr11,h⟩:=bindS h
   obtain ⟨r12,hr12,h⟩:=bindS h
   obtain ⟨r13,hr13,h⟩:=bindS h
   obtain ⟨v14,hv14,h⟩:=bindS h
   refine LH.loneT [(0,.ptr 7 0),(3,.arr 132 (List.length v14)),(4,.I n2)] [(7,.box [.L r13.2.L,.I r13.2.At]),(132,.arr 46 5 (List.map Gq6.lv v14))] R ?_ ?_
   ·exact sMa R (sMp R (sN (oCM (args:=[.ptr 7 0,.I 2]) (ml:=[(7,.box [.L r7.2.L,.I r7.2.At])]) (ml':=[(7,.box [.L r8.2.L,.I r8.2.At])]) R isF23 R (sbR (sbR sbN)) (Gq29 hr8) (mC R mN) (newI R newN) R (sMp R (sMp R (sN (oCM (args:=[.ptr 7 0,.I 1,.I 3]) (ml:=[(7,.box [.L r8.2.L,.I r8.2.At])]) (ml':=[(7,.box [.L r9.2.L,.I r9.2.At])]) R isF34 R (sbR (sbR (sbR sbN))) (Gq39 hr9) (mC R mN) (newI R newN) R (sN (oCM (args:=[.ptr 7 0,.I r9.1,.I 10]) (ml:=[(7,.box [.L r9.2.L,.I r9.2.At])]) (ml':=[(7,.box [.L r10.2.L,.I r10.2.At])]) R isF44 R (sbR (sbR (sbR sbN))) (Gq51 hr10) (mC R mN) (newI R newN) R (sMp R (sMp R (sN (oCM (args:=[.ptr 7 0,.I 1,.I 9]) (ml:=[(7,.box [.L r10.2.L,.I r10.2.At])]) (ml':=[(7,.box [.L r11.2.L,.I r11.2.At])]) R isF34 R (sbR (sbR (sbR sbN))) (Gq39 hr11) (mC R mN) (newI R newN) R (sN (oCM (args:=[.ptr 7 0,.I r11.1,.I 10]) (ml:=[(7,.box [.L r11.2.L,.I r11.2.At])]) (ml':=[(7,.box [.L r12.2.L,.I r12.2.At])]) R isF44 R (sbR (sbR (sbR sbN))) (Gq51 hr12) (mC R mN) (newI R newN) R (sMi R (sMi R (sMp R (sN (oCM (args:=[.ptr 7 0,.I (-1),.I 12]) (ml:=[(7,.box [.L r12.2.L,.I r12.2.At])]) (ml':=[(7,.box [.L r13.2.L,.I r13.2.At])]) R isF34 R (sbR (sbR (sbR sbN))) (Gq39 hr13) (mC R mN) (newI R newN) R (sN (oAdd R R (sN (oBd (vs:=[(0,.I r8.1),(1,.I r10.1),(2,.I r12.1),(3,.I r7.1),(4,.I (i64 (r7.1+r13.1)))]) tu46 tz46 R (lf tf46_0 ts3 tk3 R R R (lf tf46_1 ts3 tk3 R R R (lf tf46_2 ts3 tk3 R R R (lf tf46_3 ts3 tk3 R R R (lf tf46_4 ts3 tk3 R R R lf0))))) (sN (oBS (f:=Gq6.lv) (ys:=[(Gq6.mk r8.1 r10.1 r12.1 r7.1 (i64 (r7.1+r13.1)))]) te32 tr46 ts46 R R R Gq6.ok (sN (oAp (f:=Gq6.lv) te32 tr46 ts46 R R (prN R) R hv14 (sAa R zS)))))))))))))))))))))))))))))
   refine blockN (thenN (LH.loneT [(0,.ptr 7 0),(3,.arr 132 (List.length v14)),(4,.I (i64 (n2 - 1)))] [(7,.box [.L r13.2.L,.I r13.2.At]),(132,.arr 46 5 (List.map Gq6.lv v14))] R (sMi R (sN (oSub R R (sAi R zS)))) ?_))
   exact roundI ⟨(i64 (n2 - 1)),r13.2.L,r13.2.At,v14,hrec1 ▸ h,R,R⟩ (Wk.eq R R R R)
  replace h:=iteF h hc6
  refine LH.exit (thenX (roundX (blockH (thenN (LH.wk ((Wk.trans (Wk.eq (el:=[(3,.arr 132 (List.length l5))]) (ml:=[(7,.box [.L l3,.I n4]),(132,.arr 46 5 (List.map Gq6.lv l5))]) R R R R) (Wk.trans (Wk.frzL (f:=Gq6.lv) (el':=[(3,.lst 5 (List.map Gq6.lv l5))]) 132 46 5 l5 R R (prN R) (fZ fN)) (Wk.eq (el:=[(3,.lst 5 (List.map Gq6.lv l5))]) (ml:=[(7,.box [.L l3,.I n4])]) R R R R)))) (LH.seqT [(2,.lst 5 (List.map Gq6.lv l5))] [(7,.box [.L l3,.I n4])] R (sMl R (sAl R zS)) (LH.ret ?_)))))))
  obtain rfl:=oI h
  exact retE (aT Tryz.results10) (lrT R (lr0 ⟨memN (mC R mN),R,prK R,Sub.rfl⟩))

theorem Gq45 {F:Nat} {p0:GTape} {p1:Int} {r:List GRoom × GTape} (h:Gq42 F p0 p1=some r):LCall Tryz.prog 11 [.ptr 7 0,.I p1] (Mem.of [(7,.box [.L p0.L,.I p0.At])]) (.lst 3 (List.map GRoom.lv r.1)) (Mem.of [(7,.box [.L r.2.L,.I r.2.At])]):=by
  unfold Gq42 at h
  refine bodyT Tryz.func11 R (nT Tryz.ntmps11 R) (LH.wk (Wk.eq (el:=[(0,.ptr 7 0),(1,.I p1)]) (ml:=[(7,.box [.L p0.L,.I p0.At])]) R R R R) (LH.seqT [(0,.ptr 7 0),(1,.I p1)] [(7,.box [.L p0.L,.I p0.At])] R (sAn R zS) (LH.seqT [(0,.ptr 7 0),(1,.I p1),(5,.nil)] [(7,.box [.L p0.L,.I p0.At])] R (sAn R zS) (LH.seq ?_))))
  obtain ⟨r1,hr1,h⟩:=bindS h
  refine LH.seqT [(0,.ptr 7 0),(1,.I p1),(5,.nil),(6,.I r1.1)] [(7,.box [.L r1.2.L,.I r1.2.At])] R (sMp R (sN (oCM (args:=[.ptr 7 0,.I 5]) (ml:=[(7,.box [.L p0.L,.I p0.At])]) (ml':=[(7,.box [.L r1.2.L,.I r1.2.At])]) R isF23 R (sbR (sbR sbN)) (Gq29 hr1) (mC R mN) (newI R newN) R (sAi R zS)))) (LH.block (LH.wk ((Wk.trans (Wk.eq (el:=[(0,.ptr 7 0),(1,.I p1),(5,.nil),(6,.I r1.1)]) (ml:=[(7,.box [.L r1.2.L,.I r1.2.At])]) R R R R) (Wk.trans (Wk.eq (el:=[(0,.ptr 7 0),(1,.I p1),(5,.nil),(6,.I r1.1)]) (ml:=[(7,.box [.L r1.2.L,.I r1.2.At])]) R R R R) (Wk.trans (Wk.ownL (el':=[(0,.ptr 7 0),(1,.I p1),(5,.arr 131 (List.length ([]:List GRoom))),(6,.I r1.1)]) 131 72 3 R R (wK (wK (wO (wK wN))))) (Wk.eq (el:=[(0,.ptr 7 0),(1,.I p1),(5,.arr 131 (List.length ([]:List GRoom))),(6,.I r1.1)]) (ml:=[(7,.box [.L r1.2.L,.I r1.2.At]),(131,.arr 72 3 (List.map GRoom.lv ([]:List GRoom)))]) R R R R))))) (LH.loop (fun n e m=>∃ (n2:Int) (l3:List Int) (n4:Int) (l5:List GRoom),Gq43 p1 n n2 l3 n4 l5=some r∧e=Env.of [(0,.ptr 7 0),(1,.I p1),(5,.arr 131 (List.length l5)),(6,.I n2)]∧m=Mem.of [(7,.box [.L l3,.I n4]),(131,.arr 72 3 (List.map GRoom.lv l5))]) F ⟨r1.1,r1.2.L,r1.2.At,([]:List GRoom),h,R,R⟩ ?_)))
  clear h
  rintro n e m ⟨n2,l3,n4,l5,h,rfl,rfl⟩
  rcases n with _ | n
  · cases (show Option.none=some _ from h)
  obtain ⟨rec1,hrec1⟩:∃ f,f=Gq43 p1 n:=⟨_,rfl⟩
  replace h:Gq44 p1 rec1 n2 l3 n4 l5=some r:=hrec1 ▸ h
  unfold Gq44 at h
  refine LH.seq (LH.seqT [(0,.ptr 7 0),(1,.I p1),(5,.arr 131 (List.length l5)),(6,.I n2),(11,.bool (decide (n2 > 0)))] [(7,.box [.L l3,.I n4]),(131,.arr 72 3 (List.map GRoom.lv l5))] R (sMi R (sN (oGt R R zS))) (LH.cond (t:=(decide (n2 > 0))) R (fun hc6=>?_) (fun hc6=>?_)))
  ·replace h:=iteT h hc6
   refine LH.skip (thenN (LH.wk (Wk.eq (el:=[(0,.ptr 7 0),(1,.I p1),(5,.arr 131 (List.length l5)),(6,.I n2)]) (ml:=[(7,.box [.L l3,.I n4]),(131,.arr 72 3 (List.map GRoom.lv l5))]) R R R R) (LH.seq (LH.block ?_))))
   obtain ⟨r7,hr7,h⟩:=bindS h
   obtain ⟨r8,hr8,h⟩:=bindS h
   obtain ⟨r9,hr9,h⟩:=bindS h
   refine LH.seqT [(0,.ptr 7 0),(1,.I p1),(5,.arr 131 (List.length l5)),(6,.I n2),(7,.ptr 107 0)] [(7,.box [.L r9.2.L,.I r9.2.At]),(107,.box [.I r7.1,.I r8.1,.I r9.1]),(131,.arr 72 3 (List.map GRoom.lv l5))] R (sMp R (sN (oCM (args:=[.ptr 7 0,.I 1,.I 2]) (ml:=[(7,.box [.L l3,.I n4])]) (ml':=[(7,.box [.L r7.2.L,.I r7.2.At])]) R isF34 R (sbR (sbR (sbR sbN))) (Gq39 hr7) (mC R mN) (newI R newN) R (sMp R (sN (oCM (args:=[.ptr 7 0,.I 1,.I 3]) (ml:=[(7,.box [.L r7.2.L,.I r7.2.At])]) (ml':=[(7,.box [.L r8.2.L,.I r8.2.At])]) R isF34 R (sbR (sbR (sbR sbN))) (Gq39 hr8) (mC R mN) (newI R newN) R (sMp R (sN (oBS (f:=LV.I) (ys:=[0,2,4,6,8,62]) te22 tr3 ts3 R R R okI (sN (oCM (args:=[.ptr 7 0,.L [0,2,4,6,8,62]]) (ml:=[(7,.box [.L r8.2.L,.I r8.2.At])]) (ml':=[(7,.box [.L r9.2.L,.I r9.2.At])]) R isF42 R (sbR (sbR sbN)) (Gq37 hr9) (mC R mN) (newI R newN) R (sN (oBd (vs:=[(0,.I r7.1),(1,.I r8.1),(2,.I r9.1)]) tu72 tz72 R (lf tf72_0 ts3 tk3 R R R (lf tf72_1 ts3 tk3 R R R (lf tf72_2 ts3 tk3 R R R lf0))) (sN (oAl (id:=107) R tz72 R R (s_ (oSt R R R tk72 ts72 R R R zS))))))))))))))))) (LH.seq ?_)
   obtain ⟨r10,hr10,h⟩:=bindS h
   refine LH.seqT [(0,.ptr 7 0),(1,.I p1),(5,.arr 131 (List.length l5)),(6,.I n2),(7,.ptr 107 0),(23,.bool r10.1)] [(7,.box [.L r10.2.L,.I r10.2.At]),(107,.box [.I r7.1,.I r8.1,.I r9.1]),(131,.arr 72 3 (List.map GRoom.lv l5))] R (sMp R (sN (oCM (args:=[.ptr 7 0,.I 3]) (ml:=[(7,.box [.L r9.2.L,.I r9.2.At])]) (ml':=[(7,.box [.L r10.2.L,.I r10.2.At])]) R isF32 R (sbR (sbR sbN)) (Gq31 hr10) (mC R mN) (newI R newN) R zS))) (LH.cond (t:=r10.1) R (fun hc11=>?_) (fun hc11=>?_))
   ·replace h:=iteT h hc11
    obtain ⟨r12,hr12,h⟩:=bindS h
    refine LH.loneT [(0,.ptr 7 0),(1,.I p1),(5,.arr 131 (List.length l5)),(6,.I n2),(7,.sptr [.I 1,.I 1,.I r12.1])] [(7,.box [.L r12.2.L,.I r12.2.At]),(131,.arr 72 3 (List.map GRoom.lv l5))] R (sMp R (sN (oBS (f:=LV.I) (ys:=[1,3,63,9]) te22 tr3 ts3 R R R okI (sN (oCM (args:=[.ptr 7 0,.L [1,3,63,9]]) (ml:=[(7,.box [.L r10.2.L,.I r10.2.At])]) (ml':=[(7,.box [.L r12.2.L,.I r12.2.At])]) R isF42 R (sbR (sbR sbN)) (Gq37 hr12) (mC R mN) (newI R newN) R (sN (oBd (vs:=[(0,.I 1),(1,.I 1),(2,.I r12.1)]) tu72 tz72 R (lf tf72_0 ts3 tk3 R R R (lf tf72_1 ts3 tk3 R R R (lf tf72_2 ts3 tk3 R R R lf0))) (s_ (oSt R R R tk72 ts72 R R R (s0 ((Wk.trans (Wk.eq (el:=[(0,.ptr 7 0),(1,.I p1),(5,.arr 131 (List.length l5)),(6,.I n2),(7,.ptr 107 0)]) (ml:=[(7,.box [.L r12.2.L,.I r12.2.At]),(107,.box [.I 1,.I 1,.I r12.1]),(131,.arr 72 3 (List.map GRoom.lv l5))]) R R R R) (Wk.trans (Wk.frzB 107 [.I 1,.I 1,.I r12.1] R R R (prN R)) (Wk.eq R R R R)))))))))))))) (thenN ?_)
    obtain ⟨v13,hv13,h⟩:=bindS h
    refine LH.loneT [(0,.ptr 7 0),(1,.I p1),(5,.arr 131 (List.length v13)),(6,.I n2)] [(7,.box [.L r12.2.L,.I r12.2.At]),(131,.arr 72 3 (List.map GRoom.lv v13))] R (sMa R (sN (oLdA R tk72 ta72 ts72 R R (sN (oBS (f:=GRoom.lv) (ys:=[(GRoom.mk 1 1 r12.1)]) te34 tr72 ts72 R R R GRoom.ok (sN (oAp (f:=GRoom.lv) te34 tr72 ts72 R R (prN R) R hv13 (sAa R zS)))))))) (blockN (thenN (LH.loneT [(0,.ptr 7 0),(1,.I p1),(5,.arr 131 (List.length v13)),(6,.I (i64 (n2 - 1)))] [(7,.box [.L r12.2.L,.I r12.2.At]),(131,.arr 72 3 (List.map GRoom.lv v13))] R (sMi R (sN (oSub R R (sAi R zS)))) ?_)))
    exact roundI ⟨(i64 (n2 - 1)),r12.2.L,r12.2.At,v13,hrec1 ▸ h,R,R⟩ (Wk.eq R R R R)
   replace h:=iteF h hc11
   refine LH.skip (thenN (LH.wk ((Wk.trans (Wk.eq (el:=[(0,.ptr 7 0),(1,.I p1),(5,.arr 131 (List.length l5)),(6,.I n2),(7,.ptr 107 0)]) (ml:=[(7,.box [.L r10.2.L,.I r10.2.At]),(107,.box [.I r7.1,.I r8.1,.I r9.1]),(131,.arr 72 3 (List.map GRoom.lv l5))]) R R R R) (Wk.trans (Wk.frzB 107 [.I r7.1,.I r8.1,.I r9.1] R R R (prN R)) (Wk.eq (el:=[(0,.ptr 7 0),(1,.I p1),(5,.arr 131 (List.length l5)),(6,.I n2),(7,.sptr [.I r7.1,.I r8.1,.I r9.1])]) (ml:=[(7,.box [.L r10.2.L,.I r10.2.At]),(131,.arr 72 3 (List.map GRoom.lv l5))]) R R R R)))) ?_))
   obtain ⟨v14,hv14,h⟩:=bindS h
   refine LH.loneT [(0,.ptr 7 0),(1,.I p1),(5,.arr 131 (List.length v14)),(6,.I n2)] [(7,.box [.L r10.2.L,.I r10.2.At]),(131,.arr 72 3 (List.map GRoom.lv v14))] R (sMa R (sN (oLdA R tk72 ta72 ts72 R R (sN (oBS (f:=GRoom.lv) (ys:=[(GRoom.mk r7.1 r8.1 r9.1)]) te34 tr72 ts72 R R R GRoom.ok (sN (oAp (f:=GRoom.lv) te34 tr72 ts72 R R (prN R) R hv14 (sAa R zS)))))))) (blockN (thenN (LH.loneT [(0,.ptr 7 0),(1,.I p1),(5,.arr 131 (List.length v14)),(6,.I (i64 (n2 - 1)))] [(7,.box [.L r10.2.L,.I r10.2.At]),(131,.arr 72 3 (List.map GRoom.lv v14))] R (sMi R (sN (oSub R R (sAi R zS)))) ?_)))
   exact roundI ⟨(i64 (n2 - 1)),r10.2.L,r10.2.At,v14,hrec1 ▸ h,R,R⟩ (Wk.eq R R R R)
  replace h:=iteF h hc6
  refine LH.exit (thenX (roundX (blockH (thenN (LH.wk (Wk.eq (el:=[(0,.ptr 7 0),(1,.I p1),(5,.arr 131 (List.length l5))]) (ml:=[(7,.box [.L l3,.I n4]),(131,.arr 72 3 (List.map GRoom.lv l5))]) R R R R) (LH.seq ?_))))))
  obtain ⟨w18,hv,h⟩:=bindS h
  refine LH.seqT [(0,.ptr 7 0),(5,.arr 131 (List.length l5)),(38,.bool w18.1)] [(7,.box [.L w18.2.1,.I w18.2.2]),(131,.arr 72 3 (List.map GRoom.lv l5))] R ?_ ?_
  ·refine sMi R (sN (oGt R R (sMb R ?_)))
   by_cases hb19:(decide (p1 > 0))=true
   ·replace hv:=iteT hv hb19
    refine sT R (cB hb19) (oM (v:=(.ptr _ _)) R (sT R (cB hb19) (oM (v:=(.int _ _)) R ?_)))
    obtain ⟨r20,hr20,hv⟩:=bindS hv
    refine sT R (cB hb19) (oCM (args:=[.ptr 7 0,.I p1]) (ml:=[(7,.box [.L l3,.I n4])]) (ml':=[(7,.box [.L r20.2.L,.I r20.2.At])]) R isF32 R (sbR (sbR sbN)) (Gq31 hr20) (mC R mN) (newI R newN) R (sN (oPkT (cB hb19) (v:=(.bool _)) R ?_)))
    obtain rfl:=oI hv
    exact zS
   ·replace hb19:=bF hb19
    replace hv:=iteF hv hb19
    refine sF R R hb19 (sF R R hb19 (sF R R hb19 (sN (oPkF (cB hb19) (v:=(.bool _)) R ?_))))
    obtain rfl:=oI hv
    exact zS
  clear hv
  refine LH.cond (t:=w18.1) R (fun hc21=>?_) (fun hc21=>?_)
  ·replace h:=iteT h hc21
   obtain ⟨r22,hr22,h⟩:=bindS h
   obtain ⟨r23,hr23,h⟩:=bindS h
   obtain ⟨r24,hr24,h⟩:=bindS h
   obtain ⟨v25,hv25,h⟩:=bindS h
   refine LH.loneT [(5,.lst 3 (List.map GRoom.lv v25))] [(7,.box [.L r24.2.L,.I r24.2.At])] R (sMa R (sMp R (sN (oCM (args:=[.ptr 7 0,.I 0,.I 9]) (ml:=[(7,.box [.L w18.2.1,.I w18.2.2])]) (ml':=[(7,.box [.L r22.2.L,.I r22.2.At])]) R isF34 R (sbR (sbR (sbR sbN))) (Gq39 hr22) (mC R mN) (newI R newN) R (sMp R (sN (oCM (args:=[.ptr 7 0,.I 0,.I 9]) (ml:=[(7,.box [.L r22.2.L,.I r22.2.At])]) (ml':=[(7,.box [.L r23.2.L,.I r23.2.At])]) R isF34 R (sbR (sbR (sbR sbN))) (Gq39 hr23) (mC R mN) (newI R newN) R (sMp R (sN (oBS (f:=LV.I) (ys:=[(-1),1,64,0]) te22 tr3 ts3 R R R okI (sN (oCM (args:=[.ptr 7 0,.L [(-1),1,64,0]]) (ml:=[(7,.box [.L r23.2.L,.I r23.2.At])]) (ml':=[(7,.box [.L r24.2.L,.I r24.2.At])]) R isF42 R (sbR (sbR sbN)) (Gq37 hr24) (mC R mN) (newI R newN) R (sN (oBd (vs:=[(0,.I r22.1),(1,.I r23.1),(2,.I r24.1)]) tu72 tz72 R (lf tf72_0 ts3 tk3 R R R (lf tf72_1 ts3 tk3 R R R (lf tf72_2 ts3 tk3 R R R lf0))) (sN (oBS (f:=GRoom.lv) (ys:=[(GRoom.mk r22.1 r23.1 r24.1)]) te34 tr72 ts72 R R R GRoom.ok (sN (oAp (f:=GRoom.lv) te34 tr72 ts72 R R (prN R) R hv25 (sAa R (s0 ((Wk.trans (Wk.eq (el:=[(5,.arr 131 (List.length v25))]) (ml:=[(7,.box [.L r24.2.L,.I r24.2.At]),(131,.arr 72 3 (List.map GRoom.lv v25))]) R R R R) (Wk.trans (Wk.frzL (f:=GRoom.lv) (el':=[(5,.lst 3 (List.map GRoom.lv v25))]) 131 72 3 v25 R R (prN R) (fZ fN)) (Wk.eq R R R R)))))))))))))))))))))))) (thenN (LH.seqT [(4,.lst 3 (List.map GRoom.lv v25))] [(7,.box [.L r24.2.L,.I r24.2.At])] R (sMl R (sAl R zS)) (LH.ret ?_)))
   obtain rfl:=oI h
   exact retE (aT Tryz.results11) (lrT R (lr0 ⟨memN (mC R mN),R,prK R,Sub.rfl⟩))
  replace h:=iteF h hc21
  refine LH.skip (thenN (LH.wk ((Wk.trans (Wk.eq (el:=[(5,.arr 131 (List.length l5))]) (ml:=[(7,.box [.L w18.2.1,.I w18.2.2]),(131,.arr 72 3 (List.map GRoom.lv l5))]) R R R R) (Wk.trans (Wk.frzL (f:=GRoom.lv) (el':=[(5,.lst 3 (List.map GRoom.lv l5))]) 131 72 3 l5 R R (prN R) (fZ fN)) (Wk.eq (el:=[(5,.lst 3 (List.map GRoom.lv l5))]) (ml:=[(7,.box [.L w18.2.1,.I w18.2.2])]) R R R R)))) (LH.seqT [(4,.lst 3 (List.map GRoom.lv l5))] [(7,.box [.L w18.2.1,.I w18.2.2])] R (sMl R (sAl R zS)) (LH.ret ?_))))
  obtain rfl:=oI h
  exact retE (aT Tryz.results11) (lrT R (lr0 ⟨memN (mC R mN),R,prK R,Sub.rfl⟩))

theorem Gq35 {F:Nat} {p0:GTape} {p1:Int} {r:List Int × GTape} (h:Gq32 F p0 p1=some r):LCall Tryz.prog 45 [.ptr 7 0,.I p1] (Mem.of [(7,.box [.L p0.L,.I p0.At])]) (.L r.1) (Mem.of [(7,.box [.L r.2.L,.I r.2.At])]):=by
  unfold Gq32 at h
  refine bodyT Tryz.func45 R (nT Tryz.ntmps45 R) (LH.wk (Wk.eq (el:=[(0,.ptr 7 0),(1,.I p1)]) (ml:=[(7,.box [.L p0.L,.I p0.At])]) R R R R) (LH.seqT [(0,.ptr 7 0),(1,.I p1)] [(7,.box [.L p0.L,.I p0.At])] R (sAn R zS) (LH.seqT [(0,.ptr 7 0),(1,.I p1),(5,.nil)] [(7,.box [.L p0.L,.I p0.At])] R (sAn R zS) (LH.seq (LH.seqT [(0,.ptr 7 0),(1,.I p1),(5,.nil),(6,.I 0)] [(7,.box [.L p0.L,.I p0.At])] R (sAi R zS) (LH.block (LH.wk (Wk.to (el:=[(0,.ptr 7 0),(1,.I p1),(5,.L ([]:List Int)),(6,.I 0)]) (ml:=[(7,.box [.L p0.L,.I p0.At])]) (eC R (eC R (eL R (eC R eN)))) ⟨R,trivial⟩ R (prK R)) (LH.loop (fun n e m=>∃ (l1:List Int) (n2:Int) (l3:List Int) (n4:Int),Gq33 p1 n l1 n2 l3 n4=some r∧e=Env.of [(0,.ptr 7 0),(1,.I p1),(5,.L l1),(6,.I n2)]∧m=Mem.of [(7,.box [.L l3,.I n4])]) F ⟨([]:List Int),0,p0.L,p0.At,h,R,R⟩ ?_))))))))
  clear h
  rintro n e m ⟨l1,n2,l3,n4,h,rfl,rfl⟩
  rcases n with _ | n
  · cases (show Option.none=some _ from h)
  obtain ⟨rec1,hrec1⟩:∃ f,f=Gq33 p1 n:=⟨_,rfl⟩
  replace h:Gq34 p1 rec1 l1 n2 l3 n4=some r:=hrec1 ▸ h
  unfold Gq34 at h
  refine LH.seq (LH.seqT [(0,.ptr 7 0),(1,.I p1),(5,.L l1),(6,.I n2),(11,.bool (decide (n2<p1)))] [(7,.box [.L l3,.I n4])] R (sMi R (sMi R (sN (oLt R R zS)))) (LH.cond (t:=(decide (n2<p1))) R (fun hc5=>?_) (fun hc5=>?_)))
  ·replace h:=iteT h hc5
   refine LH.skip (thenN (LH.wk (Wk.eq (el:=[(0,.ptr 7 0),(1,.I p1),(5,.L l1),(6,.I n2)]) (ml:=[(7,.box [.L l3,.I n4])]) R R R R) (LH.seq (LH.block ?_))))
   obtain ⟨r6,hr6,h⟩:=bindS h
   refine LH.seqT [(0,.ptr 7 0),(1,.I p1),(5,.L l1),(6,.I n2),(7,.I r6.1)] [(7,.box [.L r6.2.L,.I r6.2.At])] R (sMp R (sMi R (sN (oAdd R R (sN (oCM (args:=[.ptr 7 0,.I (i64 (n2+1))]) (ml:=[(7,.box [.L l3,.I n4])]) (ml':=[(7,.box [.L r6.2.L,.I r6.2.At])]) R isF23 R (sbR (sbR sbN)) (Gq29 hr6) (mC R mN) (newI R newN) R (sAi R zS))))))) (LH.seqT [(0,.ptr 7 0),(1,.I p1),(5,.L l1),(6,.I n2),(7,.I r6.1),(8,.nil)] [(7,.box [.L r6.2.L,.I r6.2.At])] R (sAn R zS) ?_)
   obtain ⟨v7,hv7,h⟩:=bindS h
   obtain ⟨v8,hv8,h⟩:=bindS h
   refine LH.seqT [(0,.ptr 7 0),(1,.I p1),(5,.L l1),(6,.I n2),(7,.I r6.1),(8,.arr 122 (List.length v8))] [(7,.box [.L r6.2.L,.I r6.2.At]),(122,.arr 3 1 (List.map LV.I v8))] R (sMn R (sMl R (sMi R (sN (oSl (f:=LV.I) te22 tk3 ts3 R R R hv7 (sN (oApN (f:=LV.I) (id:=122) R te22 tr3 ts3 R R hv8 R (sAa R zS)))))))) ?_
   obtain ⟨v9,hv9,h⟩:=bindS h
   refine LH.seqT [(0,.ptr 7 0),(1,.I p1),(5,.L l1),(6,.I n2),(7,.I r6.1),(8,.arr 122 (List.length v9))] [(7,.box [.L r6.2.L,.I r6.2.At]),(122,.arr 3 1 (List.map LV.I v9))] R (sMa R (sMi R (sN (oBS (f:=LV.I) (ys:=[n2]) te22 tr3 ts3 R R R okI (sN (oAp (f:=LV.I) te22 tr3 ts3 R R (prN R) R hv9 (sAa R zS))))))) ?_
   obtain ⟨v10,hv10,h⟩:=bindS h
   obtain ⟨v11,hv11,h⟩:=bindS h
   refine LH.loneT [(0,.ptr 7 0),(1,.I p1),(5,.L v11),(6,.I n2)] [(7,.box [.L r6.2.L,.I r6.2.At])] R (sMa R (sMl R (sMi R (sN (oSl (f:=LV.I) te22 tk3 ts3 R R R hv10 (sN (oAp (f:=LV.I) te22 tr3 ts3 R R (prN R) R hv11 (sAa R (s0 ((Wk.trans (Wk.eq (el:=[(0,.ptr 7 0),(1,.I p1),(5,.arr 122 (List.length v11)),(6,.I n2)]) (ml:=[(7,.box [.L r6.2.L,.I r6.2.At]),(122,.arr 3 1 (List.map LV.I v11))]) R R R R) (Wk.trans (Wk.frzL (f:=LV.I) (el':=[(0,.ptr 7 0),(1,.I p1),(5,.L v11),(6,.I n2)]) 122 3 1 v11 R R (prN R) (fK R (fK R (fZ (fK R fN))))) (Wk.eq R R R R))))))))))))) (blockN (thenN (LH.loneT [(0,.ptr 7 0),(1,.I p1),(5,.L v11),(6,.I (i64 (n2+1)))] [(7,.box [.L r6.2.L,.I r6.2.At])] R (sMi R (sN (oAdd R R (sAi R zS)))) ?_)))
   exact roundI ⟨v11,(i64 (n2+1)),r6.2.L,r6.2.At,hrec1 ▸ h,R,R⟩ (Wk.eq R R R R)
  replace h:=iteF h hc5
  refine LH.exit (thenX (roundX (blockH (thenN (LH.seqT [(4,.L l1)] [(7,.box [.L l3,.I n4])] R (sMl R (sAl R zS)) (LH.ret ?_))))))
  obtain rfl:=oI h
  exact retE (aT Tryz.results45) (lrT R (lr0 ⟨memN (mC R mN),R,prK R,Sub.rfl⟩))

theorem Gq27 {F:Nat} {p0:GTape} {p1:Int} {r:List Int × GTape} (h:Gq24 F p0 p1=some r):LCall Tryz.prog 13 [.ptr 7 0,.I p1] (Mem.of [(7,.box [.L p0.L,.I p0.At])]) (.L r.1) (Mem.of [(7,.box [.L r.2.L,.I r.2.At])]):=by
  unfold Gq24 at h
  refine bodyT Tryz.func13 R (nT Tryz.ntmps13 R) (LH.wk (Wk.eq (el:=[(0,.ptr 7 0),(1,.I p1)]) (ml:=[(7,.box [.L p0.L,.I p0.At])]) R R R R) (LH.seqT [(0,.ptr 7 0),(1,.I p1)] [(7,.box [.L p0.L,.I p0.At])] R (sAn R zS) ?_))
  obtain ⟨r1,hr1,h⟩:=bindS h
  refine LH.seqT [(0,.ptr 7 0),(1,.I p1),(5,.L r1.1)] [(7,.box [.L r1.2.L,.I r1.2.At])] R (sMp R (sMi R (sN (oCM (args:=[.ptr 7 0,.I p1]) (ml:=[(7,.box [.L p0.L,.I p0.At])]) (ml':=[(7,.box [.L r1.2.L,.I r1.2.At])]) R isF45 R (sbR (sbR sbN)) (Gq35 hr1) (mC R mN) (newI R newN) R (sAl R zS))))) (LH.seq ?_)
  obtain ⟨r2,hr2,h⟩:=bindS h
  refine LH.seqT [(0,.ptr 7 0),(1,.I p1),(5,.L r1.1),(6,.I r2.1)] [(7,.box [.L r2.2.L,.I r2.2.At])] R (sMp R (sN (oCM (args:=[.ptr 7 0,.I 4]) (ml:=[(7,.box [.L r1.2.L,.I r1.2.At])]) (ml':=[(7,.box [.L r2.2.L,.I r2.2.At])]) R isF23 R (sbR (sbR sbN)) (Gq29 hr2) (mC R mN) (newI R newN) R (sAi R zS)))) (LH.block (LH.loop (fun n e m=>∃ (l3:List Int) (n4:Int) (l5:List Int) (n6:Int),Gq25 p1 n l3 n4 l5 n6=some r∧e=Env.of [(0,.ptr 7 0),(1,.I p1),(5,.L l3),(6,.I n4)]∧m=Mem.of [(7,.box [.L l5,.I n6])]) F ⟨r1.1,r2.1,r2.2.L,r2.2.At,h,R,R⟩ ?_))
  clear h
  rintro n e m ⟨l3,n4,l5,n6,h,rfl,rfl⟩
  rcases n with _ | n
  · cases (show Option.none=some _ from h)
  obtain ⟨rec1,hrec1⟩:∃ f,f=Gq25 p1 n:=⟨_,rfl⟩
  replace h:Gq26 p1 rec1 l3 n4 l5 n6=some r:=hrec1 ▸ h
  unfold Gq26 at h
  refine LH.seq (LH.seqT [(0,.ptr 7 0),(1,.I p1),(5,.L l3),(6,.I n4),(20,.bool ((decide (n4 > 0)) && (decide (p1 > 0))))] [(7,.box [.L l5,.I n6])] R ?_ ?_)
  ·refine sMi R (sN (oGt R R (sMb R ?_)))
   by_cases hb8:(decide (n4 > 0))=true
   ·exact sT R (cB hb8) (oM (v:=(.int _ _)) R (sT R (cB hb8) (oGt R R (sN (oPkT (cB hb8) (v:=(.bool _)) R (s0 (Wk.to (eC R (eC R (eC R (eC R (eC (cB (andT hb8)) eN))))) ⟨R,trivial⟩ R (prK R))))))))
   ·replace hb8:=bF hb8
    exact sF R R hb8 (sF R R hb8 (sN (oPkF (cB hb8) (v:=(.bool _)) R (s0 (Wk.to (eC R (eC R (eC R (eC R (eC (cB (andF hb8)) eN))))) ⟨R,trivial⟩ R (prK R))))))
  refine LH.cond (t:=((decide (n4 > 0)) && (decide (p1 > 0)))) R (fun hc9=>?_) (fun hc9=>?_)
  ·replace h:=iteT h hc9
   refine LH.skip (thenN (LH.wk (Wk.eq (el:=[(0,.ptr 7 0),(1,.I p1),(5,.L l3),(6,.I n4)]) (ml:=[(7,.box [.L l5,.I n6])]) R R R R) (LH.seq (LH.block ?_))))
   obtain ⟨r10,hr10,h⟩:=bindS h
   obtain ⟨r11,hr11,h⟩:=bindS h
   refine LH.seqT [(0,.ptr 7 0),(1,.I p1),(5,.L l3),(6,.I n4),(7,.I r10.1),(8,.I r11.1)] [(7,.box [.L r11.2.L,.I r11.2.At])] R (sMp R (sMl R (sN (oLnL (f:=LV.I) te22 R (sN (oAdd R R (sN (oCM (args:=[.ptr 7 0,.I (i64 ((l3.length:Int)+1))]) (ml:=[(7,.box [.L l5,.I n6])]) (ml':=[(7,.box [.L r10.2.L,.I r10.2.At])]) R isF23 R (sbR (sbR sbN)) (Gq29 hr10) (mC R mN) (newI R newN) R (sMp R (sMi R (sN (oCM (args:=[.ptr 7 0,.I p1]) (ml:=[(7,.box [.L r10.2.L,.I r10.2.At])]) (ml':=[(7,.box [.L r11.2.L,.I r11.2.At])]) R isF23 R (sbR (sbR sbN)) (Gq29 hr11) (mC R mN) (newI R newN) R (sAi R (sAi R zS)))))))))))))) (LH.seqT [(0,.ptr 7 0),(1,.I p1),(5,.L l3),(6,.I n4),(7,.I r10.1),(8,.I r11.1),(9,.nil)] [(7,.box [.L r11.2.L,.I r11.2.At])] R (sAn R zS) ?_)
   obtain ⟨v12,hv12,h⟩:=bindS h
   obtain ⟨v13,hv13,h⟩:=bindS h
   refine LH.seqT [(0,.ptr 7 0),(1,.I p1),(5,.L l3),(6,.I n4),(7,.I r10.1),(8,.I r11.1),(9,.arr 135 (List.length v13))] [(7,.box [.L r11.2.L,.I r11.2.At]),(135,.arr 3 1 (List.map LV.I v13))] R (sMn R (sMl R (sMi R (sN (oSl (f:=LV.I) te22 tk3 ts3 R R R hv12 (sN (oApN (f:=LV.I) (id:=135) R te22 tr3 ts3 R R hv13 R (sAa R zS)))))))) ?_
   obtain ⟨v14,hv14,h⟩:=bindS h
   refine LH.seqT [(0,.ptr 7 0),(1,.I p1),(5,.L l3),(6,.I n4),(7,.I r10.1),(9,.arr 135 (List.length v14))] [(7,.box [.L r11.2.L,.I r11.2.At]),(135,.arr 3 1 (List.map LV.I v14))] R (sMa R (sMi R (sN (oBS (f:=LV.I) (ys:=[r11.1]) te22 tr3 ts3 R R R okI (sN (oAp (f:=LV.I) te22 tr3 ts3 R R (prN R) R hv14 (sAa R zS))))))) ?_
   obtain ⟨v15,hv15,h⟩:=bindS h
   obtain ⟨v16,hv16,h⟩:=bindS h
   refine LH.loneT [(0,.ptr 7 0),(1,.I p1),(5,.L v16),(6,.I n4)] [(7,.box [.L r11.2.L,.I r11.2.At])] R (sMa R (sMl R (sMi R (sN (oSl (f:=LV.I) te22 tk3 ts3 R R R hv15 (sN (oAp (f:=LV.I) te22 tr3 ts3 R R (prN R) R hv16 (sAa R (s0 ((Wk.trans (Wk.eq (el:=[(0,.ptr 7 0),(1,.I p1),(5,.arr 135 (List.length v16)),(6,.I n4)]) (ml:=[(7,.box [.L r11.2.L,.I r11.2.At]),(135,.arr 3 1 (List.map LV.I v16))]) R R R R) (Wk.trans (Wk.frzL (f:=LV.I) (el':=[(0,.ptr 7 0),(1,.I p1),(5,.L v16),(6,.I n4)]) 135 3 1 v16 R R (prN R) (fK R (fK R (fZ (fK R fN))))) (Wk.eq R R R R))))))))))))) (blockN (thenN (LH.loneT [(0,.ptr 7 0),(1,.I p1),(5,.L v16),(6,.I (i64 (n4 - 1)))] [(7,.box [.L r11.2.L,.I r11.2.At])] R (sMi R (sN (oSub R R (sAi R zS)))) ?_)))
   exact roundI ⟨v16,(i64 (n4 - 1)),r11.2.L,r11.2.At,hrec1 ▸ h,R,R⟩ (Wk.eq R R R R)
  replace h:=iteF h hc9
  refine LH.exit (thenX (roundX (blockH (thenN (LH.seqT [(4,.L l3)] [(7,.box [.L l5,.I n6])] R (sMl R (sAl R zS)) (LH.ret ?_))))))
  obtain rfl:=oI h
  exact retE (aT Tryz.results13) (lrT R (lr0 ⟨memN (mC R mN),R,prK R,Sub.rfl⟩))

theorem q166q {p0:Gq2} {r:Bool} (h:q99q p0=some r):LCall Tryz.prog 46 [.agg [.I p0.Close,.I p0.Late]] (Mem.of []) (.bool r) (Mem.of []):=by
  unfold q99q at h
  refine bodyT Tryz.func46 R (nT Tryz.ntmps46 R) (LH.wk (Wk.eq (el:=[(0,.agg [.I p0.Close,.I p0.Late])]) (ml:=[]) R R R R) (LH.seqT [(1,.sptr [.I p0.Close,.I p0.Late])] [] R (sB (oBxR R R R R (sAb R zS))) (LH.seqT [(2,.bool ((decide (p0.Close ≥ 0)) && ((decide (p0.Close≤p0.Late)) && (decide (p0.Late≤1000000)))))] [] R ?_ ?_)))
  ·refine sN (oFaS tf26_0 tk3 ts3 R R R (sN (oLd R tk3 ta3 (sN (oGe R R (sMb R ?_))))))
   by_cases hb2:(decide (p0.Close ≥ 0))=true
   ·refine sT R (cB hb2) (oFaS tf26_0 tk3 ts3 R R R (sT R (cB hb2) (oLd R tk3 ta3 (sT R (cB hb2) (oFaS tf26_1 tk3 ts3 R R R (sT R (cB hb2) (oLd R tk3 ta3 (sT R (cB hb2) (oLe R R (sN (oPkT (cB hb2) (v:=(.bool _)) R (sMb R ?_))))))))))))
    by_cases hb3:(decide (p0.Close≤p0.Late))=true
    ·exact sT R (cB hb3) (oFaS tf26_1 tk3 ts3 R R R (sT R (cB hb3) (oLd R tk3 ta3 (sT R (cB hb3) (oLe R R (sN (oPkT (cB hb3) (v:=(.bool _)) R (sAb R (s0 (Wk.to (eC (cB (Eq.trans (andT hb3) (andT hb2))) eN) mN R (prK R)))))))))))
    ·replace hb3:=bF hb3
     exact sF R R hb3 (sF R R hb3 (sF R R hb3 (sN (oPkF (cB hb3) (v:=(.bool _)) R (sAb R (s0 (Wk.to (eC (cB (Eq.trans (andF hb3) (andT hb2))) eN) mN R (prK R))))))))
   ·replace hb2:=bF hb2
    exact sF R R hb2 (sF R R hb2 (sF R R hb2 (sF R R hb2 (sF R R hb2 (sN (oPkF (cB hb2) (v:=(.bool _)) R (sMb R (sF R R R (sF R R R (sF R R R (sN (oPkF R (v:=(.bool _)) R (sAb R (s0 (Wk.to (eC (cB (andF hb2)) eN) mN R (prK R))))))))))))))))
  refine LH.ret ?_
  obtain rfl:=oI h
  exact retE (aT Tryz.results46) (lrT R (lr0 ⟨memN mN,R,prK R,Sub.rfl⟩))

theorem q161q {F:Nat} {p0:List Gq5} {p1:(Gq5→Option Gq10)} {p2:(Gq5→Gq5→Option Bool)} {r:List Gq10 × List Int} {p1_f:Nat} {p1_c:List LV} (p1_i:IsF Tryz.prog p1_f) (p1_q:LV.pureL p1_c=true) (p1_k:∀ (x0:Gq5) (q:Gq10),p1 x0=some q→LCall Tryz.prog p1_f ([.agg [.I x0.Stamp.Time,.I x0.Stamp.Source,.I x0.Stamp.Seq,.I x0.Kind,.I x0.Entry.Candidate,.I x0.Entry.Centre,.I x0.Entry.Paper,.I x0.To]]++p1_c) (Mem.of []) (.agg [.I q.Time,.I q.Source,.I q.Seq]) (Mem.of [])) {p2_f:Nat} {p2_c:List LV} (p2_i:IsF Tryz.prog p2_f) (p2_q:LV.pureL p2_c=true) (p2_k:∀ (x0:Gq5) (x1:Gq5) (q:Bool),p2 x0 x1=some q→LCall Tryz.prog p2_f ([.agg [.I x0.Stamp.Time,.I x0.Stamp.Source,.I x0.Stamp.Seq,.I x0.Kind,.I x0.Entry.Candidate,.I x0.Entry.Centre,.I x0.Entry.Paper,.I x0.To],.agg [.I x1.Stamp.Time,.I x1.Stamp.Source,.I x1.Stamp.Seq,.I x1.Kind,.I x1.Entry.Candidate,.I x1.Entry.Centre,.I x1.Entry.Paper,.I x1.To]]++p2_c) (Mem.of []) (.bool q) (Mem.of [])) (h:q34q F p0 p1 p2=some r):LCall Tryz.prog 155 [.lst 8 (List.map Gq5.lv p0),.fn p1_f p1_c,.fn p2_f p2_c] (Mem.of []) (.tup [.lst 3 (List.map Gq10.lv r.1),.L r.2]) (Mem.of []):=by
  have p2_p:∀ {l:List LV},LV.pureL l=true→LV.pureL (l++p2_c)=true:=pnC p2_q
  have p2_r:LV.refsL p2_c=[]:=refsL_pure p2_q
  have p1_p:∀ {l:List LV},LV.pureL l=true→LV.pureL (l++p1_c)=true:=pnC p1_q
  have p1_r:LV.refsL p1_c=[]:=refsL_pure p1_q
  unfold q34q at h
  refine bodyT Tryz.func155 R (nT Tryz.ntmps155 R) (LH.wk (Wk.to (el:=[(0,.lst 8 (List.map Gq5.lv p0)),(1,.fn p1_f p1_c),(2,.fn p2_f p2_c)]) (ml:=[]) (eQ ⟨R,R,R,trivial⟩) mN (by simp [keptRefs,LV.refs,LV.refsL,LV.cells,lev,Env.args,Env.of,Env.put,Env.drop,p1_r,p2_r]) (prK R)) (LH.seqT [(0,.lst 8 (List.map Gq5.lv p0)),(1,.fn p1_f p1_c),(2,.fn p2_f p2_c)] [] R (sAn R (sAn R (s0 (Wk.to (eQ ⟨R,R,R,trivial⟩) mN (by simp [keptRefs,LV.refs,LV.refsL,LV.cells,lev,Env.args,Env.of,Env.put,Env.drop,p1_r,p2_r]) (prK R))))) ?_))
  obtain ⟨v1,hv1,h⟩:=bindS h
  refine LH.seqT [(0,.lst 8 (List.map Gq5.lv p0)),(1,.fn p1_f p1_c),(2,.fn p2_f p2_c),(8,.arr 117 (List.length v1))] [(117,.arr 40 3 (List.map Gq10.lv v1))] R (sMl R (sN (oLnL (f:=Gq5.lv) te28 R (sN (oMk (f:=Gq10.lv) (z:=(Gq10.mk 0 0 0)) (id:=117) R te254 tz40 tr40 ts40 R R R hv1 R (sAa R (s0 (Wk.to (eQ ⟨R,R,R,R,trivial⟩) ⟨R,trivial⟩ (by simp [keptRefs,LV.refs,LV.refsL,LV.cells,lev,Env.args,Env.of,Env.put,Env.drop,p1_r,p2_r]) (prK R))))))))) ?_
  obtain ⟨v2,hv2,h⟩:=bindS h
  refine LH.seqT [(0,.lst 8 (List.map Gq5.lv p0)),(1,.fn p1_f p1_c),(2,.fn p2_f p2_c),(8,.arr 117 (List.length v1)),(9,.arr 120 (List.length v2))] [(117,.arr 40 3 (List.map Gq10.lv v1)),(120,.arr 3 1 (List.map LV.I v2))] R (sMl R (sN (oLnL (f:=Gq5.lv) te28 R (sN (oMk (f:=LV.I) (z:=0) (id:=120) R te22 tz3 tr3 ts3 R R R hv2 R (sAa R (s0 (Wk.to (eQ ⟨R,R,R,R,R,trivial⟩) ⟨R,R,trivial⟩ (by simp [keptRefs,LV.refs,LV.refsL,LV.cells,lev,Env.args,Env.of,Env.put,Env.drop,p1_r,p2_r]) (prK R))))))))) (LH.seqT [(0,.lst 8 (List.map Gq5.lv p0)),(1,.fn p1_f p1_c),(2,.fn p2_f p2_c),(8,.arr 117 (List.length v1)),(9,.arr 120 (List.length v2)),(10,.mp 121)] [(117,.arr 40 3 (List.map Gq10.lv v1)),(120,.arr 3 1 (List.map LV.I v2)),(121,.map 40 3 (mlv Gq10.lv LV.I ([]:List (Gq10 × Int))))] R (sX ((ok_makeMap (kt:=40) (vt:=3) (id:=121) R).ok) (sN (oA (v:=(.mp _)) R (s0 (Wk.to (eQ ⟨R,R,R,R,R,R,trivial⟩) ⟨R,R,R,trivial⟩ (by simp [keptRefs,LV.refs,LV.refsL,LV.cells,lev,Env.args,Env.of,Env.put,Env.drop,p1_r,p2_r]) (prK R)))))) (LH.seq (LH.seqT [(0,.lst 8 (List.map Gq5.lv p0)),(1,.fn p1_f p1_c),(2,.fn p2_f p2_c),(8,.arr 117 (List.length v1)),(9,.arr 120 (List.length v2)),(10,.mp 121),(22,.lst 8 (List.map Gq5.lv p0)),(23,.I (p0.length:Int)),(24,.I 0)] [(117,.arr 40 3 (List.map Gq10.lv v1)),(120,.arr 3 1 (List.map LV.I v2)),(121,.map 40 3 (mlv Gq10.lv LV.I ([]:List (Gq10 × Int))))] R (sMl R (sN (oLnL (f:=Gq5.lv) te28 R (sMi R (s0 (Wk.to (eQ ⟨R,R,R,R,R,R,R,R,R,trivial⟩) ⟨R,R,R,trivial⟩ (by simp [keptRefs,LV.refs,LV.refsL,LV.cells,lev,Env.args,Env.of,Env.put,Env.drop,p1_r,p2_r]) (prK R))))))) (LH.block (LH.loop (fun n e m=>∃ (n3:Int) (l4:List Gq10) (l5:List Int) (m6:List (Gq10 × Int)),q9q p0 p1 p2 n n3 l4 l5 m6=some r∧e=Env.of [(0,.lst 8 (List.map Gq5.lv p0)),(1,.fn p1_f p1_c),(2,.fn p2_f p2_c),(8,.arr 117 (List.length l4)),(9,.arr 120 (List.length l5)),(10,.mp 121),(22,.lst 8 (List.map Gq5.lv p0)),(23,.I (p0.length:Int)),(24,.I n3)]∧m=Mem.of [(117,.arr 40 3 (List.map Gq10.lv l4)),(120,.arr 3 1 (List.map LV.I l5)),(121,.map 40 3 (mlv Gq10.lv LV.I m6))]) F ⟨0,v1,v2,([]:List (Gq10 × Int)),h,R,R⟩ ?_)))))
  clear h
  rintro n e m ⟨n3,l4,l5,m6,h,rfl,rfl⟩
  rcases n with _ | n
  · cases (show Option.none=some _ from h)
  obtain ⟨rec1,hrec1⟩:∃ f,f=q9q p0 p1 p2 n:=⟨_,rfl⟩
  replace h:q21q p0 p1 p2 rec1 n3 l4 l5 m6=some r:=hrec1 ▸ h
  unfold q21q at h
  refine LH.seqT [(0,.lst 8 (List.map Gq5.lv p0)),(1,.fn p1_f p1_c),(2,.fn p2_f p2_c),(8,.arr 117 (List.length l4)),(9,.arr 120 (List.length l5)),(10,.mp 121),(22,.lst 8 (List.map Gq5.lv p0)),(23,.I (p0.length:Int)),(24,.I n3),(25,.bool (decide (n3<(p0.length:Int))))] [(117,.arr 40 3 (List.map Gq10.lv l4)),(120,.arr 3 1 (List.map LV.I l5)),(121,.map 40 3 (mlv Gq10.lv LV.I m6))] R (sN (oLt R R (s0 (Wk.to (eQ ⟨R,R,R,R,R,R,R,R,R,R,trivial⟩) ⟨R,R,R,trivial⟩ (by simp [keptRefs,LV.refs,LV.refsL,LV.cells,lev,Env.args,Env.of,Env.put,Env.drop,p1_r,p2_r]) (prK R))))) (LH.seq (LH.cond (t:=(decide (n3<(p0.length:Int)))) R (fun hc7=>?_) (fun hc7=>?_)))
  ·replace h:=iteT h hc7
   refine LH.skip (thenN (LH.wk (Wk.to (el:=[(0,.lst 8 (List.map Gq5.lv p0)),(1,.fn p1_f p1_c),(2,.fn p2_f p2_c),(8,.arr 117 (List.length l4)),(9,.arr 120 (List.length l5)),(10,.mp 121),(22,.lst 8 (List.map Gq5.lv p0)),(23,.I (p0.length:Int)),(24,.I n3)]) (ml:=[(117,.arr 40 3 (List.map Gq10.lv l4)),(120,.arr 3 1 (List.map LV.I l5)),(121,.map 40 3 (mlv Gq10.lv LV.I m6))]) (eQ ⟨R,R,R,R,R,R,R,R,R,trivial⟩) ⟨R,R,R,trivial⟩ (by simp [keptRefs,LV.refs,LV.refsL,LV.cells,lev,Env.args,Env.of,Env.put,Env.drop,p1_r,p2_r]) (prK R)) (LH.seq (LH.block ?_))))
   obtain ⟨x8,hx8,h⟩:=bindS h
   refine LH.seqT [(0,.lst 8 (List.map Gq5.lv p0)),(1,.fn p1_f p1_c),(2,.fn p2_f p2_c),(8,.arr 117 (List.length l4)),(9,.arr 120 (List.length l5)),(10,.mp 121),(11,.I n3),(12,.ptr 112 0),(22,.lst 8 (List.map Gq5.lv p0)),(23,.I (p0.length:Int)),(24,.I n3)] [(112,.box [.I x8.Stamp.Time,.I x8.Stamp.Source,.I x8.Stamp.Seq,.I x8.Kind,.I x8.Entry.Candidate,.I x8.Entry.Centre,.I x8.Entry.Paper,.I x8.To]),(117,.arr 40 3 (List.map Gq10.lv l4)),(120,.arr 3 1 (List.map LV.I l5)),(121,.map 40 3 (mlv Gq10.lv LV.I m6))] R (sMi R (sN (oIx (f:=Gq5.lv) te28 tk44 ts44 R R Gq5.ok hx8 R (sN (oLdA R tk44 ta44 ts44 R R (sN (oAl (id:=112) R tz44 R R (sAi R (s_ (oSt R R R tk44 ts44 R R R (s0 (Wk.to (eQ ⟨R,R,R,R,R,R,R,R,R,R,R,trivial⟩) ⟨R,R,R,R,trivial⟩ (by simp [keptRefs,LV.refs,LV.refsL,LV.cells,lev,Env.args,Env.of,Env.put,Env.drop,p1_r,p2_r]) (prK R))))))))))))) ?_
   obtain ⟨r9,hr9,h⟩:=bindS h
   obtain ⟨x10,hx10,h⟩:=bindS h
   refine LH.seqT [(0,.lst 8 (List.map Gq5.lv p0)),(1,.fn p1_f p1_c),(2,.fn p2_f p2_c),(8,.arr 117 (List.length (l4.set n3.toNat r9))),(9,.arr 120 (List.length l5)),(10,.mp 121),(11,.I n3),(12,.ptr 112 0),(22,.lst 8 (List.map Gq5.lv p0)),(23,.I (p0.length:Int)),(24,.I n3)] [(112,.box [.I x8.Stamp.Time,.I x8.Stamp.Source,.I x8.Stamp.Seq,.I x8.Kind,.I x8.Entry.Candidate,.I x8.Entry.Centre,.I x8.Entry.Paper,.I x8.To]),(117,.arr 40 3 (List.map Gq10.lv (l4.set n3.toNat r9))),(120,.arr 3 1 (List.map LV.I l5)),(121,.map 40 3 (mlv Gq10.lv LV.I m6))] R ?_ ?_
   ·refine sMa R (sMi R (sN (oM (v:=(.fn _ _)) R (sN (oLdPA R R R tk44 ta44 ts44 R R (sN (oCP (args:=[.agg [.I x8.Stamp.Time,.I x8.Stamp.Source,.I x8.Stamp.Seq,.I x8.Kind,.I x8.Entry.Candidate,.I x8.Entry.Centre,.I x8.Entry.Paper,.I x8.To]]++p1_c) (args':=[.agg [.I x8.Stamp.Time,.I x8.Stamp.Source,.I x8.Stamp.Seq,.I x8.Kind,.I x8.Entry.Candidate,.I x8.Entry.Centre,.I x8.Entry.Paper,.I x8.To]]++p1_c) R p1_i R SubL.rfl (p1_k _ _ hr9) (p1_p R) ?_)))))))
    exact sN (oIxA (f:=Gq10.lv) te254 tk40 ts40 R R R hx10 (s_ (oStE (f:=Gq10.lv) (z':=r9) R R R R tk40 ts40 R (idxOk hx10).2 R (s0 (Wk.to (eC R (eC R (eC R (eC (congrArg (LV.arr 117) (by simp)) (eC R (eC R (eC R (eC R (eC R (eC R (eC R eN))))))))))) ⟨R,R,R,R,trivial⟩ (by simp [keptRefs,LV.refs,LV.refsL,LV.cells,lev,Env.args,Env.of,Env.put,Env.drop,p1_r,p2_r]) (prK R))))))
   obtain ⟨x11,hx11,h⟩:=bindS h
   refine LH.seqT [(0,.lst 8 (List.map Gq5.lv p0)),(1,.fn p1_f p1_c),(2,.fn p2_f p2_c),(8,.arr 117 (List.length (l4.set n3.toNat r9))),(9,.arr 120 (List.length l5)),(10,.mp 121),(11,.I n3),(12,.ptr 112 0),(13,.I ((mget m6 x11).getD 0)),(14,.bool ((mget m6 x11).isSome)),(22,.lst 8 (List.map Gq5.lv p0)),(23,.I (p0.length:Int)),(24,.I n3)] [(112,.box [.I x8.Stamp.Time,.I x8.Stamp.Source,.I x8.Stamp.Seq,.I x8.Kind,.I x8.Entry.Candidate,.I x8.Entry.Centre,.I x8.Entry.Paper,.I x8.To]),(117,.arr 40 3 (List.map Gq10.lv (l4.set n3.toNat r9))),(120,.arr 3 1 (List.map LV.I l5)),(121,.map 40 3 (mlv Gq10.lv LV.I m6))] R (sN (oM (v:=(.mp _)) R (sMa R (sMi R (sN (oIxA (f:=Gq10.lv) te254 tk40 ts40 R R R hx11 (sN (oLdEA (f:=Gq10.lv) R R (idxOk hx11).2 R R tk40 ta40 ts40 R R (sX ((ok_lookup2 (f:=Gq10.lv) (g:=LV.I) (xs:=m6) (key:=x11) (z:=0) tm295 kok40 kf40 R R R tz3).ok) (sMt R (sN (oEx R R (sN (oEx R R (sAi R (sAb R (s0 (Wk.to (eQ ⟨R,R,R,R,R,R,R,R,R,R,R,R,R,trivial⟩) ⟨R,R,R,R,trivial⟩ (by simp [keptRefs,LV.refs,LV.refsL,LV.cells,lev,Env.args,Env.of,Env.put,Env.drop,p1_r,p2_r]) (prK R))))))))))))))))))) (LH.seqT [(0,.lst 8 (List.map Gq5.lv p0)),(1,.fn p1_f p1_c),(2,.fn p2_f p2_c),(8,.arr 117 (List.length (l4.set n3.toNat r9))),(9,.arr 120 (List.length l5)),(10,.mp 121),(11,.I n3),(12,.ptr 112 0),(13,.I ((mget m6 x11).getD 0)),(22,.lst 8 (List.map Gq5.lv p0)),(23,.I (p0.length:Int)),(24,.I n3),(45,.bool (!((mget m6 x11).isSome)))] [(112,.box [.I x8.Stamp.Time,.I x8.Stamp.Source,.I x8.Stamp.Seq,.I x8.Kind,.I x8.Entry.Candidate,.I x8.Entry.Centre,.I x8.Entry.Paper,.I x8.To]),(117,.arr 40 3 (List.map Gq10.lv (l4.set n3.toNat r9))),(120,.arr 3 1 (List.map LV.I l5)),(121,.map 40 3 (mlv Gq10.lv LV.I m6))] R (sMb R (sN (oNot R (s0 (Wk.to (eQ ⟨R,R,R,R,R,R,R,R,R,R,R,R,R,trivial⟩) ⟨R,R,R,R,trivial⟩ (by simp [keptRefs,LV.refs,LV.refsL,LV.cells,lev,Env.args,Env.of,Env.put,Env.drop,p1_r,p2_r]) (prK R)))))) (LH.cond (t:=(!((mget m6 x11).isSome))) R (fun hc12=>?_) (fun hc12=>?_)))
   ·replace h:=iteT h hc12
    obtain ⟨x13,hx13,h⟩:=bindS h
    refine LH.loneT [(0,.lst 8 (List.map Gq5.lv p0)),(1,.fn p1_f p1_c),(2,.fn p2_f p2_c),(8,.arr 117 (List.length (l4.set n3.toNat r9))),(9,.arr 120 (List.length l5)),(10,.mp 121),(22,.lst 8 (List.map Gq5.lv p0)),(23,.I (p0.length:Int)),(24,.I n3)] [(117,.arr 40 3 (List.map Gq10.lv (l4.set n3.toNat r9))),(120,.arr 3 1 (List.map LV.I l5)),(121,.map 40 3 (mlv Gq10.lv LV.I (mput m6 x13 n3)))] R (sN (oM (v:=(.mp _)) R (sMa R (sMi R (sN (oIxA (f:=Gq10.lv) te254 tk40 ts40 R R R hx13 (sN (oLdEA (f:=Gq10.lv) R R (idxOk hx13).2 R R tk40 ta40 ts40 R R (sMi R (sX_ ((ok_update (f:=Gq10.lv) (g:=LV.I) (xs:=m6) (key:=x13) (val:=n3) (.inl R) tm295 kok40 kf40 (fun _=>R) R R R R).ok) (s0 (Wk.to (eQ ⟨R,R,R,R,R,R,R,R,R,trivial⟩) ⟨R,R,R,trivial⟩ (by simp [keptRefs,LV.refs,LV.refsL,LV.cells,lev,Env.args,Env.of,Env.put,Env.drop,p1_r,p2_r]) (prK R))))))))))))) (blockN (thenN (LH.loneT [(0,.lst 8 (List.map Gq5.lv p0)),(1,.fn p1_f p1_c),(2,.fn p2_f p2_c),(8,.arr 117 (List.length (l4.set n3.toNat r9))),(9,.arr 120 (List.length l5)),(10,.mp 121),(22,.lst 8 (List.map Gq5.lv p0)),(23,.I (p0.length:Int)),(24,.I (i64 (n3+1)))] [(117,.arr 40 3 (List.map Gq10.lv (l4.set n3.toNat r9))),(120,.arr 3 1 (List.map LV.I l5)),(121,.map 40 3 (mlv Gq10.lv LV.I (mput m6 x13 n3)))] R (sN (oAdd R R (sMi R (s0 (Wk.to (eQ ⟨R,R,R,R,R,R,R,R,R,trivial⟩) ⟨R,R,R,trivial⟩ (by simp [keptRefs,LV.refs,LV.refsL,LV.cells,lev,Env.args,Env.of,Env.put,Env.drop,p1_r,p2_r]) (prK R)))))) ?_)))
    exact roundI ⟨(i64 (n3+1)),(l4.set n3.toNat r9),l5,(mput m6 x13 n3),hrec1 ▸ h,R,R⟩ (Wk.to (eQ ⟨R,R,R,R,R,R,R,R,R,trivial⟩) ⟨R,R,R,trivial⟩ (by simp [keptRefs,LV.refs,LV.refsL,LV.cells,lev,Env.args,Env.of,Env.put,Env.drop,p1_r,p2_r]) (prK R))
   replace h:=iteF h hc12
   obtain ⟨x14,hx14,h⟩:=bindS h
   obtain ⟨r15,hr15,h⟩:=bindS h
   refine LH.seqJM mixed [] [0,0,0,0,0,1112,0,0] [(0,.lst 8 (List.map Gq5.lv p0)),(1,.fn p1_f p1_c),(2,.fn p2_f p2_c),(8,.arr 117 (List.length (l4.set n3.toNat r9))),(9,.arr 120 (List.length l5)),(10,.mp 121),(11,.I n3),(22,.lst 8 (List.map Gq5.lv p0)),(23,.I (p0.length:Int)),(24,.I n3),(59,.bool (!r15))] [(117,.arr 40 3 (List.map Gq10.lv (l4.set n3.toNat r9))),(120,.arr 3 1 (List.map LV.I l5)),(121,.map 40 3 (mlv Gq10.lv LV.I m6))] R R (by kernel_rfl) ?_ ?_
   ·refine mMf R (mMl R (mMi R (mN0 (oIx (f:=Gq5.lv) te28 tk44 ts44 R R Gq5.ok hx14 R ⟨R,mN0 (oLdA R tk44 ta44 ts44 R R ⟨R,mD R R R (fun _ b _ d=>oLdPA R b R tk44 ta44 ts44 R R d) (mN0 (oCP (args:=[.agg [.I x14.Stamp.Time,.I x14.Stamp.Source,.I x14.Stamp.Seq,.I x14.Kind,.I x14.Entry.Candidate,.I x14.Entry.Centre,.I x14.Entry.Paper,.I x14.To],.agg [.I x8.Stamp.Time,.I x8.Stamp.Source,.I x8.Stamp.Seq,.I x8.Kind,.I x8.Entry.Candidate,.I x8.Entry.Centre,.I x8.Entry.Paper,.I x8.To]]++p2_c) (args':=[.agg [.I x14.Stamp.Time,.I x14.Stamp.Source,.I x14.Stamp.Seq,.I x14.Kind,.I x14.Entry.Candidate,.I x14.Entry.Centre,.I x14.Entry.Paper,.I x14.To],.agg [.I x8.Stamp.Time,.I x8.Stamp.Source,.I x8.Stamp.Seq,.I x8.Kind,.I x8.Entry.Candidate,.I x8.Entry.Centre,.I x8.Entry.Paper,.I x8.To]]++p2_c) R p2_i R SubL.rfl (p2_k _ _ _ hr15) (p2_p R) ⟨R,?_⟩))⟩)⟩))))
    exact mN0 (oNot R ⟨R,m0 (Wk.to (eQ ⟨R,R,R,R,R,R,R,R,R,R,R,trivial⟩) ⟨R,R,R,trivial⟩ (by simp [keptRefs,LV.refs,LV.refsL,LV.cells,lev,Env.args,Env.of,Env.put,Env.drop,p1_r,p2_r]) (prK R))⟩)
   refine LH.cond (t:=(!r15)) R (fun hc16=>?_) (fun hc16=>?_)
   ·replace h:=iteT h hc16
    obtain ⟨x17,hx17,h⟩:=bindS h
    refine LH.loneT [(0,.lst 8 (List.map Gq5.lv p0)),(1,.fn p1_f p1_c),(2,.fn p2_f p2_c),(8,.arr 117 (List.length (l4.set n3.toNat r9))),(9,.arr 120 (List.length (l5.set n3.toNat 1))),(10,.mp 121),(22,.lst 8 (List.map Gq5.lv p0)),(23,.I (p0.length:Int)),(24,.I n3)] [(117,.arr 40 3 (List.map Gq10.lv (l4.set n3.toNat r9))),(120,.arr 3 1 (List.map LV.I (l5.set n3.toNat 1))),(121,.map 40 3 (mlv Gq10.lv LV.I m6))] R (sMa R (sMi R (sN (oIxA (f:=LV.I) te22 tk3 ts3 R R R hx17 (s_ (oStE (f:=LV.I) (z':=1) R R R R tk3 ts3 R (idxOk hx17).2 R (s0 (Wk.to (eC R (eC R (eC R (eC R (eC (congrArg (LV.arr 120) (by simp)) (eC R (eC R (eC R (eC R eN))))))))) ⟨R,R,R,trivial⟩ (by simp [keptRefs,LV.refs,LV.refsL,LV.cells,lev,Env.args,Env.of,Env.put,Env.drop,p1_r,p2_r]) (prK R))))))))) (blockN (thenN (LH.loneT [(0,.lst 8 (List.map Gq5.lv p0)),(1,.fn p1_f p1_c),(2,.fn p2_f p2_c),(8,.arr 117 (List.length (l4.set n3.toNat r9))),(9,.arr 120 (List.length (l5.set n3.toNat 1))),(10,.mp 121),(22,.lst 8 (List.map Gq5.lv p0)),(23,.I (p0.length:Int)),(24,.I (i64 (n3+1)))] [(117,.arr 40 3 (List.map Gq10.lv (l4.set n3.toNat r9))),(120,.arr 3 1 (List.map LV.I (l5.set n3.toNat 1))),(121,.map 40 3 (mlv Gq10.lv LV.I m6))] R (sN (oAdd R R (sMi R (s0 (Wk.to (eQ ⟨R,R,R,R,R,R,R,R,R,trivial⟩) ⟨R,R,R,trivial⟩ (by simp [keptRefs,LV.refs,LV.refsL,LV.cells,lev,Env.args,Env.of,Env.put,Env.drop,p1_r,p2_r]) (prK R)))))) ?_)))
    exact roundI ⟨(i64 (n3+1)),(l4.set n3.toNat r9),(l5.set n3.toNat 1),m6,hrec1 ▸ h,R,R⟩ (Wk.to (eQ ⟨R,R,R,R,R,R,R,R,R,trivial⟩) ⟨R,R,R,trivial⟩ (by simp [keptRefs,LV.refs,LV.refsL,LV.cells,lev,Env.args,Env.of,Env.put,Env.drop,p1_r,p2_r]) (prK R))
   replace h:=iteF h hc16
   refine LH.skip (blockN (thenN (LH.loneT [(0,.lst 8 (List.map Gq5.lv p0)),(1,.fn p1_f p1_c),(2,.fn p2_f p2_c),(8,.arr 117 (List.length (l4.set n3.toNat r9))),(9,.arr 120 (List.length l5)),(10,.mp 121),(22,.lst 8 (List.map Gq5.lv p0)),(23,.I (p0.length:Int)),(24,.I (i64 (n3+1)))] [(117,.arr 40 3 (List.map Gq10.lv (l4.set n3.toNat r9))),(120,.arr 3 1 (List.map LV.I l5)),(121,.map 40 3 (mlv Gq10.lv LV.I m6))] R (sN (oAdd R R (sMi R (s0 (Wk.to (eQ ⟨R,R,R,R,R,R,R,R,R,trivial⟩) ⟨R,R,R,trivial⟩ (by simp [keptRefs,LV.refs,LV.refsL,LV.cells,lev,Env.args,Env.of,Env.put,Env.drop,p1_r,p2_r]) (prK R)))))) ?_)))
   exact roundI ⟨(i64 (n3+1)),(l4.set n3.toNat r9),l5,m6,hrec1 ▸ h,R,R⟩ (Wk.to (eQ ⟨R,R,R,R,R,R,R,R,R,trivial⟩) ⟨R,R,R,trivial⟩ (by simp [keptRefs,LV.refs,LV.refsL,LV.cells,lev,Env.args,Env.of,Env.put,Env.drop,p1_r,p2_r]) (prK R))
  replace h:=iteF h hc7
  refine LH.exit (thenX (roundX (blockH (thenN (LH.wk ((Wk.trans (Wk.to (el:=[(8,.arr 117 (List.length l4)),(9,.arr 120 (List.length l5))]) (ml:=[(117,.arr 40 3 (List.map Gq10.lv l4)),(120,.arr 3 1 (List.map LV.I l5))]) (eQ ⟨R,R,trivial⟩) ⟨R,R,trivial⟩ (by simp [keptRefs,LV.refs,LV.refsL,LV.cells,lev,Env.args,Env.of,Env.put,Env.drop,p1_r,p2_r]) (prK R)) (Wk.trans (Wk.frzL (f:=Gq10.lv) (el':=[(8,.lst 3 (List.map Gq10.lv l4)),(9,.arr 120 (List.length l5))]) 117 40 3 l4 R R (prN R) (fZ (fK R fN))) (Wk.trans (Wk.frzL (f:=LV.I) (el':=[(8,.lst 3 (List.map Gq10.lv l4)),(9,.L l5)]) 120 3 1 l5 R R (prN R) (fK R (fZ fN))) (Wk.to (el:=[(8,.lst 3 (List.map Gq10.lv l4)),(9,.L l5)]) (ml:=[]) (eQ ⟨R,R,trivial⟩) mN (by simp [keptRefs,LV.refs,LV.refsL,LV.cells,lev,Env.args,Env.of,Env.put,Env.drop,p1_r,p2_r]) (prK R)))))) (LH.seqT [(6,.lst 3 (List.map Gq10.lv l4)),(7,.L l5)] [] R (sMl R (sMl R (sAl R (sAl R (s0 (Wk.to (eQ ⟨R,R,trivial⟩) mN (by simp [keptRefs,LV.refs,LV.refsL,LV.cells,lev,Env.args,Env.of,Env.put,Env.drop,p1_r,p2_r]) (prK R))))))) (LH.ret ?_)))))))
  obtain rfl:=oI h
  exact retE (aT Tryz.results155) (lrT R (lrT R (lr0 ⟨memN mN,R,prK R,(Sub.tup (sbR (sbR sbN)))⟩)))

theorem q203q {p0:Gq10} {r:Bool} (h:q159q p0=some r):LCall Tryz.prog 218 [.agg [.I p0.Time,.I p0.Source,.I p0.Seq]] (Mem.of []) (.bool r) (Mem.of []):=by
  unfold q159q at h
  refine bodyT Tryz.func218 R (nT Tryz.ntmps218 R) (LH.wk (Wk.eq (el:=[(0,.agg [.I p0.Time,.I p0.Source,.I p0.Seq])]) (ml:=[]) R R R R) (LH.seqT [(1,.sptr [.I p0.Time,.I p0.Source,.I p0.Seq])] [] R (sB (oBxR R R R R (sAb R zS))) (LH.seqT [(2,.bool ((decide (p0.Time ≥ 0)) && ((decide (p0.Time≤1000000)) && ((decide (p0.Source ≥ 0)) && ((decide (p0.Source≤99)) && ((decide (p0.Seq ≥ 0)) && (decide (p0.Seq≤9999))))))))] [] R ?_ ?_)))
  ·refine sN (oFaS tf40_0 tk3 ts3 R R R (sN (oLd R tk3 ta3 (sN (oGe R R (sMb R ?_))))))
   by_cases hb2:(decide (p0.Time ≥ 0))=true
   ·refine sT R (cB hb2) (oFaS tf40_0 tk3 ts3 R R R (sT R (cB hb2) (oLd R tk3 ta3 (sT R (cB hb2) (oLe R R (sN (oPkT (cB hb2) (v:=(.bool _)) R (sMb R ?_))))))))
    by_cases hb3:(decide (p0.Time≤1000000))=true
    ·refine sT R (cB hb3) (oFaS tf40_1 tk3 ts3 R R R (sT R (cB hb3) (oLd R tk3 ta3 (sT R (cB hb3) (oGe R R (sN (oPkT (cB hb3) (v:=(.bool _)) R (sMb R ?_))))))))
     by_cases hb4:(decide (p0.Source ≥ 0))=true
     ·refine sT R (cB hb4) (oFaS tf40_1 tk3 ts3 R R R (sT R (cB hb4) (oLd R tk3 ta3 (sT R (cB hb4) (oLe R R (sN (oPkT (cB hb4) (v:=(.bool _)) R (sMb R ?_))))))))
      by_cases hb5:(decide (p0.Source≤99))=true
      ·refine sT R (cB hb5) (oFaS tf40_2 tk3 ts3 R R R (sT R (cB hb5) (oLd R tk3 ta3 (sT R (cB hb5) (oGe R R (sN (oPkT (cB hb5) (v:=(.bool _)) R (sMb R ?_))))))))
       by_cases hb6:(decide (p0.Seq ≥ 0))=true
       ·exact sT R (cB hb6) (oFaS tf40_2 tk3 ts3 R R R (sT R (cB hb6) (oLd R tk3 ta3 (sT R (cB hb6) (oLe R R (sN (oPkT (cB hb6) (v:=(.bool _)) R (sAb R (s0 (Wk.to (eC (cB (Eq.trans (Eq.trans (Eq.trans (Eq.trans (andT hb6) (andT hb5)) (andT hb4)) (andT hb3)) (andT hb2))) eN) mN R (prK R)))))))))))
       ·replace hb6:=bF hb6
        exact sF R R hb6 (sF R R hb6 (sF R R hb6 (sN (oPkF (cB hb6) (v:=(.bool _)) R (sAb R (s0 (Wk.to (eC (cB (Eq.trans (Eq.trans (Eq.trans (Eq.trans (andF hb6) (andT hb5)) (andT hb4)) (andT hb3)) (andT hb2))) eN) mN R (prK R))))))))
      ·replace hb5:=bF hb5
       exact sF R R hb5 (sF R R hb5 (sF R R hb5 (sN (oPkF (cB hb5) (v:=(.bool _)) R (sMb R (sF R R R (sF R R R (sF R R R (sN (oPkF R (v:=(.bool _)) R (sAb R (s0 (Wk.to (eC (cB (Eq.trans (Eq.trans (Eq.trans (andF hb5) (andT hb4)) (andT hb3)) (andT hb2))) eN) mN R (prK R))))))))))))))
     ·replace hb4:=bF hb4
      exact sF R R hb4 (sF R R hb4 (sF R R hb4 (sN (oPkF (cB hb4) (v:=(.bool _)) R (sMb R (sF R R R (sF R R R (sF R R R (sN (oPkF R (v:=(.bool _)) R (sMb R (sF R R R (sF R R R (sF R R R (sN (oPkF R (v:=(.bool _)) R (sAb R (s0 (Wk.to (eC (cB (Eq.trans (Eq.trans (andF hb4) (andT hb3)) (andT hb2))) eN) mN R (prK R))))))))))))))))))))
    ·replace hb3:=bF hb3
     exact sF R R hb3 (sF R R hb3 (sF R R hb3 (sN (oPkF (cB hb3) (v:=(.bool _)) R (sMb R (sF R R R (sF R R R (sF R R R (sN (oPkF R (v:=(.bool _)) R (sMb R (sF R R R (sF R R R (sF R R R (sN (oPkF R (v:=(.bool _)) R (sMb R (sF R R R (sF R R R (sF R R R (sN (oPkF R (v:=(.bool _)) R (sAb R (s0 (Wk.to (eC (cB (Eq.trans (andF hb3) (andT hb2))) eN) mN R (prK R))))))))))))))))))))))))))
   ·replace hb2:=bF hb2
    exact sF R R hb2 (sF R R hb2 (sF R R hb2 (sN (oPkF (cB hb2) (v:=(.bool _)) R (sMb R (sF R R R (sF R R R (sF R R R (sN (oPkF R (v:=(.bool _)) R (sMb R (sF R R R (sF R R R (sF R R R (sN (oPkF R (v:=(.bool _)) R (sMb R (sF R R R (sF R R R (sF R R R (sN (oPkF R (v:=(.bool _)) R (sMb R (sF R R R (sF R R R (sF R R R (sN (oPkF R (v:=(.bool _)) R (sAb R (s0 (Wk.to (eC (cB (andF hb2)) eN) mN R (prK R))))))))))))))))))))))))))))))))
  refine LH.ret ?_
  obtain rfl:=oI h
  exact retE (aT Tryz.results218) (lrT R (lr0 ⟨memN mN,R,prK R,Sub.rfl⟩))

theorem cmp_isNaN_int_ok {p0:Int} {r:Bool} (h:cmp_isNaN_int p0=some r):LCall Tryz.prog 203 [.I p0] (Mem.of []) (.bool r) (Mem.of []):=by
  unfold cmp_isNaN_int at h
  refine bodyT Tryz.func203 R (nT Tryz.ntmps203 R) (LH.wk (Wk.eq (el:=[(0,.I p0)]) (ml:=[]) R R R R) (LH.seqT [(0,.I p0)] [] R (sAb R zS) (LH.seqT [(2,.bool (p0 != p0))] [] R (sMi R (sMi R (sN (oNe R R (sAb R zS))))) (LH.ret ?_))))
  obtain rfl:=oI h
  exact retE (aT Tryz.results203) (lrT R (lr0 ⟨memN mN,R,prK R,Sub.rfl⟩))

theorem cmp_Compare_int_ok {p0:Int} {p1:Int} {r:Int} (h:cmp_Compare_int p0 p1=some r):LCall Tryz.prog 160 [.I p0,.I p1] (Mem.of []) (.I r) (Mem.of []):=by
  unfold cmp_Compare_int at h
  refine bodyT Tryz.func160 R (nT Tryz.ntmps160 R) (LH.wk (Wk.eq (el:=[(0,.I p0),(1,.I p1)]) (ml:=[]) R R R R) (LH.seqT [(0,.I p0),(1,.I p1)] [] R (sAi R zS) ?_))
  obtain ⟨r1,hr1,h⟩:=bindS h
  refine LH.seqT [(0,.I p0),(1,.I p1),(5,.bool r1)] [] R (sMi R (sN (oCP (args:=[.I p0]) R isF203 R (sbR sbN) (cmp_isNaN_int_ok hr1) R (sAb R zS)))) ?_
  obtain ⟨r2,hr2,h⟩:=bindS h
  refine LH.seqT [(0,.I p0),(1,.I p1),(5,.bool r1),(6,.bool r2)] [] R (sMi R (sN (oCP (args:=[.I p1]) R isF203 R (sbR sbN) (cmp_isNaN_int_ok hr2) R (sAb R zS)))) (LH.seq (LH.seqT [(0,.I p0),(1,.I p1),(6,.bool r2),(11,.bool r1)] [] R (sMb R zS) (LH.cond (t:=r1) R (fun hc3=>?_) (fun hc3=>?_))))
  ·replace h:=iteT h hc3
   refine LH.seq (LH.seqT [(12,.bool r2)] [] R (sMb R zS) (LH.cond (t:=r2) R (fun hc4=>?_) (fun hc4=>?_)))
   ·replace h:=iteT h hc4
    refine LH.seqT [(4,.I 0)] [] R (sAi R zS) (LH.ret (thenR (thenR ?_)))
    obtain rfl:=oI h
    exact retE (aT Tryz.results160) (lrT R (lr0 ⟨memN mN,R,prK R,Sub.rfl⟩))
   replace h:=iteF h hc4
   refine LH.skip (thenN (LH.seqT [(4,.I (-1))] [] R (sAi R zS) (LH.ret (thenR ?_))))
   obtain rfl:=oI h
   exact retE (aT Tryz.results160) (lrT R (lr0 ⟨memN mN,R,prK R,Sub.rfl⟩))
  replace h:=iteF h hc3
  refine LH.skip (thenN (LH.wk (Wk.eq (el:=[(0,.I p0),(1,.I p1),(6,.bool r2)]) (ml:=[]) R R R R) (LH.seq (LH.seqT [(0,.I p0),(1,.I p1),(13,.bool r2)] [] R (sMb R zS) (LH.cond (t:=r2) R (fun hc5=>?_) (fun hc5=>?_))))))
  ·replace h:=iteT h hc5
   refine LH.seqT [(4,.I 1)] [] R (sAi R zS) (LH.ret (thenR ?_))
   obtain rfl:=oI h
   exact retE (aT Tryz.results160) (lrT R (lr0 ⟨memN mN,R,prK R,Sub.rfl⟩))
  replace h:=iteF h hc5
  refine LH.skip (thenN (LH.wk (Wk.eq (el:=[(0,.I p0),(1,.I p1)]) (ml:=[]) R R R R) (LH.seq (LH.seqT [(0,.I p0),(1,.I p1),(16,.bool (decide (p0<p1)))] [] R (sMi R (sMi R (sN (oLt R R zS)))) (LH.cond (t:=(decide (p0<p1))) R (fun hc6=>?_) (fun hc6=>?_))))))
  ·replace h:=iteT h hc6
   refine LH.seqT [(4,.I (-1))] [] R (sAi R zS) (LH.ret (thenR ?_))
   obtain rfl:=oI h
   exact retE (aT Tryz.results160) (lrT R (lr0 ⟨memN mN,R,prK R,Sub.rfl⟩))
  replace h:=iteF h hc6
  refine LH.skip (thenN (LH.wk (Wk.eq (el:=[(0,.I p0),(1,.I p1)]) (ml:=[]) R R R R) (LH.seq (LH.seqT [(19,.bool (decide (p0 > p1)))] [] R (sMi R (sMi R (sN (oGt R R zS)))) (LH.cond (t:=(decide (p0 > p1))) R (fun hc7=>?_) (fun hc7=>?_))))))
  ·replace h:=iteT h hc7
   refine LH.seqT [(4,.I 1)] [] R (sAi R zS) (LH.ret (thenR ?_))
   obtain rfl:=oI h
   exact retE (aT Tryz.results160) (lrT R (lr0 ⟨memN mN,R,prK R,Sub.rfl⟩))
  replace h:=iteF h hc7
  refine LH.skip (thenN (LH.seqT [(4,.I 0)] [] R (sAi R zS) (LH.ret ?_)))
  obtain rfl:=oI h
  exact retE (aT Tryz.results160) (lrT R (lr0 ⟨memN mN,R,prK R,Sub.rfl⟩))

theorem cmp_Or_int_ok {F:Nat} {p0:List Int} {r:Int} (h:cmp_Or_int F p0=some r):LCall Tryz.prog 159 [.L p0] (Mem.of []) (.I r) (Mem.of []):=by
  unfold cmp_Or_int at h
  refine bodyT Tryz.func159 R (nT Tryz.ntmps159 R) (LH.wk (Wk.eq (el:=[(0,.L p0)]) (ml:=[]) R R R R) (LH.seqT [(0,.L p0)] [] R (sAi R zS) (LH.seqT [(0,.L p0),(3,.I 0)] [] R (sAi R zS) (LH.seq (LH.seqT [(3,.I 0),(6,.L p0),(7,.I (p0.length:Int)),(8,.I 0)] [] R (sMl R (sN (oLnL (f:=LV.I) te22 R (sMi R zS)))) (LH.block (LH.loop (fun n e m=>∃ (n1:Int),cmp_Or_int_L1 p0 n n1=some r∧e=Env.of [(3,.I 0),(6,.L p0),(7,.I (p0.length:Int)),(8,.I n1)]∧m=Mem.of []) F ⟨0,h,R,R⟩ ?_)))))))
  clear h
  rintro n e m ⟨n1,h,rfl,rfl⟩
  rcases n with _ | n
  · cases (show Option.none=some _ from h)
  obtain ⟨rec1,hrec1⟩:∃ f,f=cmp_Or_int_L1 p0 n:=⟨_,rfl⟩
  replace h:cmp_Or_int_L1_B p0 rec1 n1=some r:=hrec1 ▸ h
  unfold cmp_Or_int_L1_B at h
  refine LH.seqT [(3,.I 0),(6,.L p0),(7,.I (p0.length:Int)),(8,.I n1),(9,.bool (decide (n1<(p0.length:Int))))] [] R (sN (oLt R R zS)) (LH.seq (LH.cond (t:=(decide (n1<(p0.length:Int)))) R (fun hc2=>?_) (fun hc2=>?_)))
  ·replace h:=iteT h hc2
   refine LH.skip (thenN (LH.wk (Wk.eq (el:=[(3,.I 0),(6,.L p0),(7,.I (p0.length:Int)),(8,.I n1)]) (ml:=[]) R R R R) (LH.seq (LH.block ?_))))
   obtain ⟨x3,hx3,h⟩:=bindS h
   refine LH.seqT [(3,.I 0),(5,.I x3),(6,.L p0),(7,.I (p0.length:Int)),(8,.I n1)] [] R (sN (oIx (f:=LV.I) te22 tk3 ts3 R R okI hx3 R (sN (oLd R tk3 ta3 (sAi R zS))))) (LH.seqT [(3,.I 0),(5,.I x3),(6,.L p0),(7,.I (p0.length:Int)),(8,.I n1),(14,.bool (x3 != 0))] [] R (sMi R (sMi R (sN (oNe R R zS)))) (LH.cond (t:=(x3 != 0)) R (fun hc4=>?_) (fun hc4=>?_)))
   ·replace h:=iteT h hc4
    refine LH.seqT [(2,.I x3)] [] R (sMi R (sAi R zS)) (LH.ret (blockR (thenR (roundR (blockR (thenR ?_))))))
    obtain rfl:=oI h
    exact retE (aT Tryz.results159) (lrT R (lr0 ⟨memN mN,R,prK R,Sub.rfl⟩))
   replace h:=iteF h hc4
   refine LH.skip (blockN (thenN (LH.loneT [(3,.I 0),(6,.L p0),(7,.I (p0.length:Int)),(8,.I (i64 (n1+1)))] [] R (sN (oAdd R R (sMi R zS))) ?_)))
   exact roundI ⟨(i64 (n1+1)),hrec1 ▸ h,R,R⟩ (Wk.eq R R R R)
  replace h:=iteF h hc2
  refine LH.exit (thenX (roundX (blockH (thenN (LH.seqT [(2,.I 0)] [] R (sMi R (sAi R zS)) (LH.ret ?_))))))
  obtain rfl:=oI h
  exact retE (aT Tryz.results159) (lrT R (lr0 ⟨memN mN,R,prK R,Sub.rfl⟩))

theorem q143q {F:Nat} {p0:Gq10} {p1:Gq10} {r:Int} (h:q28q F p0 p1=some r):LCall Tryz.prog 220 [.agg [.I p0.Time,.I p0.Source,.I p0.Seq],.agg [.I p1.Time,.I p1.Source,.I p1.Seq]] (Mem.of []) (.I r) (Mem.of []):=by
  unfold q28q at h
  refine bodyT Tryz.func220 R (nT Tryz.ntmps220 R) (LH.wk (Wk.eq (el:=[(0,.agg [.I p0.Time,.I p0.Source,.I p0.Seq]),(1,.agg [.I p1.Time,.I p1.Source,.I p1.Seq])]) (ml:=[]) R R R R) (LH.seqT [(2,.sptr [.I p0.Time,.I p0.Source,.I p0.Seq]),(3,.sptr [.I p1.Time,.I p1.Source,.I p1.Seq])] [] R (sB (oBxR R R R R (sB (oBxR R R R R (sAi R zS))))) ?_))
  obtain ⟨r1,hr1,h⟩:=bindS h
  obtain ⟨r2,hr2,h⟩:=bindS h
  obtain ⟨r3,hr3,h⟩:=bindS h
  refine LH.seqJM mixed [] [0,0,0,0,0,0,0,0,0,0,0,0,0] [(4,.I r3)] [] R R (by kernel_rfl) (mN0 (oFaS tf40_1 tk3 ts3 R R R ⟨R,mN0 (oLd R tk3 ta3 ⟨R,mN0 (oFaS tf40_1 tk3 ts3 R R R ⟨R,mN0 (oLd R tk3 ta3 ⟨R,mN0 (oCP (args:=[.I p0.Source,.I p1.Source]) R isF160 R (sbR (sbR sbN)) (cmp_Compare_int_ok hr1) R ⟨R,mN0 (oFaS tf40_2 tk3 ts3 R R R ⟨R,mN0 (oLd R tk3 ta3 ⟨R,mN0 (oFaS tf40_2 tk3 ts3 R R R ⟨R,mN0 (oLd R tk3 ta3 ⟨R,mN0 (oCP (args:=[.I p0.Seq,.I p1.Seq]) R isF160 R (sbR (sbR sbN)) (cmp_Compare_int_ok hr2) R ⟨R,mN0 (oBS (f:=LV.I) (ys:=[r1,r2]) te22 tr3 ts3 R R R okI ⟨R,mN0 (oCP (args:=[.L [r1,r2]]) R isF159 R (sbR sbN) (cmp_Or_int_ok hr3) R ⟨R,mAi R zM⟩)⟩)⟩)⟩)⟩)⟩)⟩)⟩)⟩)⟩)⟩)⟩)) (LH.ret ?_)
  obtain rfl:=oI h
  exact retE (aT Tryz.results220) (lrT R (lr0 ⟨memN mN,R,prK R,Sub.rfl⟩))

theorem q188q {F:Nat} {p0:Int} {p1:Int} {c0:List Gq10} {r:Int} (h:q105q F p0 p1 c0=some r):LCall Tryz.prog 219 [.I p0,.I p1,.sptr [.lst 3 (List.map Gq10.lv c0)]] (Mem.of []) (.I r) (Mem.of []):=by
  unfold q105q at h
  refine bodyT Tryz.func219 R (nT Tryz.ntmps219 R) (LH.wk (Wk.eq (el:=[(0,.I p0),(1,.I p1),(2,.sptr [.lst 3 (List.map Gq10.lv c0)])]) (ml:=[]) R R R R) (LH.seqT [(0,.I p0),(1,.I p1),(2,.sptr [.lst 3 (List.map Gq10.lv c0)])] [] R (sAi R zS) ?_))
  obtain ⟨x1,hx1,h⟩:=bindS h
  obtain ⟨x2,hx2,h⟩:=bindS h
  obtain ⟨r3,hr3,h⟩:=bindS h
  obtain ⟨r4,hr4,h⟩:=bindS h
  obtain ⟨r5,hr5,h⟩:=bindS h
  refine LH.seqJM mixed [] [0,0,0,0,0,0,0,0,0,0,0,0,0,0,0] [(5,.I r5)] [] R R (by kernel_rfl) ?_ ?_
  ·exact mN0 (oLd R tk254 ta254 ⟨R,mMi R (mN0 (oIx (f:=Gq10.lv) te254 tk40 ts40 R R Gq10.ok hx1 R ⟨R,mN0 (oLdA R tk40 ta40 ts40 R R ⟨R,mN0 (oLd R tk254 ta254 ⟨R,mMi R (mN0 (oIx (f:=Gq10.lv) te254 tk40 ts40 R R Gq10.ok hx2 R ⟨R,mN0 (oLdA R tk40 ta40 ts40 R R ⟨R,mN0 (oCP (args:=[.agg [.I x1.Time,.I x1.Source,.I x1.Seq],.agg [.I x2.Time,.I x2.Source,.I x2.Seq]]) R isF220 R (sbR (sbR sbN)) (q143q hr3) R ⟨R,mMi R (mMi R (mN0 (oCP (args:=[.I p0,.I p1]) R isF160 R (sbR (sbR sbN)) (cmp_Compare_int_ok hr4) R ⟨R,mN0 (oBS (f:=LV.I) (ys:=[r3,r4]) te22 tr3 ts3 R R R okI ⟨R,mN0 (oCP (args:=[.L [r3,r4]]) R isF159 R (sbR sbN) (cmp_Or_int_ok hr5) R ⟨R,mAi R zM⟩)⟩)⟩)))⟩)⟩)⟩))⟩)⟩)⟩))⟩)
  refine LH.ret ?_
  obtain rfl:=oI h
  exact retE (aT Tryz.results219) (lrT R (lr0 ⟨memN mN,R,prK R,Sub.rfl⟩))

theorem q197q {F:Nat} {p0:List Gq10} {p1:List Int} {r:List q0q} (h:q156q F p0 p1=some r):LCall Tryz.prog 199 [.lst 3 (List.map Gq10.lv p0),.L p1] (Mem.of []) (.lst 2 (List.map q0q.lv r)) (Mem.of []):=by
  unfold q156q at h
  refine bodyT Tryz.func199 R (nT Tryz.ntmps199 R) (LH.wk (Wk.eq (el:=[(0,.lst 3 (List.map Gq10.lv p0)),(1,.L p1)]) (ml:=[]) R R R R) (LH.seqT [(1,.L p1),(2,.sptr [.lst 3 (List.map Gq10.lv p0)])] [] R (sB (oBxR R R R R (sAn R zS))) (LH.seqT [(1,.L p1),(2,.sptr [.lst 3 (List.map Gq10.lv p0)]),(5,.nil)] [] R (sAn R zS) (LH.seq (LH.seqT [(1,.L p1),(2,.sptr [.lst 3 (List.map Gq10.lv p0)]),(5,.nil),(13,.lst 3 (List.map Gq10.lv p0)),(14,.I (p0.length:Int)),(15,.I 0)] [] R (sN (oLd R tk254 ta254 (sN (oLnL (f:=Gq10.lv) te254 R (sMi R zS))))) (LH.block (LH.wk ((Wk.trans (Wk.eq (el:=[(1,.L p1),(2,.sptr [.lst 3 (List.map Gq10.lv p0)]),(5,.nil),(13,.lst 3 (List.map Gq10.lv p0)),(14,.I (p0.length:Int)),(15,.I 0)]) (ml:=[]) R R R R) (Wk.trans (Wk.eq (el:=[(1,.L p1),(2,.sptr [.lst 3 (List.map Gq10.lv p0)]),(5,.nil),(13,.lst 3 (List.map Gq10.lv p0)),(14,.I (p0.length:Int)),(15,.I 0)]) (ml:=[]) R R R R) (Wk.trans (Wk.ownL (el':=[(1,.L p1),(2,.sptr [.lst 3 (List.map Gq10.lv p0)]),(5,.arr 125 (List.length ([]:List Int))),(13,.lst 3 (List.map Gq10.lv p0)),(14,.I (p0.length:Int)),(15,.I 0)]) 125 3 1 R R (wK (wK (wO (wK (wK (wK wN))))))) (Wk.eq (el:=[(1,.L p1),(2,.sptr [.lst 3 (List.map Gq10.lv p0)]),(5,.arr 125 (List.length ([]:List Int))),(13,.lst 3 (List.map Gq10.lv p0)),(14,.I (p0.length:Int)),(15,.I 0)]) (ml:=[(125,.arr 3 1 (List.map LV.I ([]:List Int)))]) R R R R))))) (LH.loop (fun n e m=>∃ (n1:Int) (l2:List Int),q83q F p0 p1 n n1 l2=some r∧e=Env.of [(1,.L p1),(2,.sptr [.lst 3 (List.map Gq10.lv p0)]),(5,.arr 125 (List.length l2)),(13,.lst 3 (List.map Gq10.lv p0)),(14,.I (p0.length:Int)),(15,.I n1)]∧m=Mem.of [(125,.arr 3 1 (List.map LV.I l2))]) F ⟨0,([]:List Int),h,R,R⟩ ?_))))))))
  clear h
  rintro n e m ⟨n1,l2,h,rfl,rfl⟩
  rcases n with _ | n
  · cases (show Option.none=some _ from h)
  obtain ⟨rec1,hrec1⟩:∃ f,f=q83q F p0 p1 n:=⟨_,rfl⟩
  replace h:q97q F p0 p1 rec1 n1 l2=some r:=hrec1 ▸ h
  unfold q97q at h
  refine LH.seqT [(1,.L p1),(2,.sptr [.lst 3 (List.map Gq10.lv p0)]),(5,.arr 125 (List.length l2)),(13,.lst 3 (List.map Gq10.lv p0)),(14,.I (p0.length:Int)),(15,.I n1),(16,.bool (decide (n1<(p0.length:Int))))] [(125,.arr 3 1 (List.map LV.I l2))] R (sN (oLt R R zS)) (LH.seq (LH.cond (t:=(decide (n1<(p0.length:Int)))) R (fun hc3=>?_) (fun hc3=>?_)))
  ·replace h:=iteT h hc3
   refine LH.skip (thenN (LH.wk (Wk.eq (el:=[(1,.L p1),(2,.sptr [.lst 3 (List.map Gq10.lv p0)]),(5,.arr 125 (List.length l2)),(13,.lst 3 (List.map Gq10.lv p0)),(14,.I (p0.length:Int)),(15,.I n1)]) (ml:=[(125,.arr 3 1 (List.map LV.I l2))]) R R R R) (LH.seq (LH.block ?_))))
   obtain ⟨x4,hx4,h⟩:=bindS h
   refine LH.seqT [(1,.L p1),(2,.sptr [.lst 3 (List.map Gq10.lv p0)]),(5,.arr 125 (List.length l2)),(6,.I n1),(7,.sptr [.I x4.Time,.I x4.Source,.I x4.Seq]),(13,.lst 3 (List.map Gq10.lv p0)),(14,.I (p0.length:Int)),(15,.I n1)] [(125,.arr 3 1 (List.map LV.I l2))] R (sMi R (sN (oIx (f:=Gq10.lv) te254 tk40 ts40 R R Gq10.ok hx4 R (sN (oLdA R tk40 ta40 ts40 R R (sN (oAl (id:=107) R tz40 R R (sAi R (s_ (oSt R R R tk40 ts40 R R R (s0 ((Wk.trans (Wk.eq (el:=[(1,.L p1),(2,.sptr [.lst 3 (List.map Gq10.lv p0)]),(5,.arr 125 (List.length l2)),(6,.I n1),(7,.ptr 107 0),(13,.lst 3 (List.map Gq10.lv p0)),(14,.I (p0.length:Int)),(15,.I n1)]) (ml:=[(107,.box [.I x4.Time,.I x4.Source,.I x4.Seq]),(125,.arr 3 1 (List.map LV.I l2))]) R R R R) (Wk.trans (Wk.frzB 107 [.I x4.Time,.I x4.Source,.I x4.Seq] R R R (prN R)) (Wk.eq R R R R))))))))))))))) ?_
   obtain ⟨r5,hr5,h⟩:=bindS h
   refine LH.seqT [(1,.L p1),(2,.sptr [.lst 3 (List.map Gq10.lv p0)]),(5,.arr 125 (List.length l2)),(6,.I n1),(13,.lst 3 (List.map Gq10.lv p0)),(14,.I (p0.length:Int)),(15,.I n1),(21,.bool r5)] [(125,.arr 3 1 (List.map LV.I l2))] R (sN (oLdA R tk40 ta40 ts40 R R (sN (oCP (args:=[.agg [.I x4.Time,.I x4.Source,.I x4.Seq]]) R isF218 R (sbR sbN) (q203q hr5) R zS)))) (LH.cond (t:=r5) R (fun hc6=>?_) (fun hc6=>?_))
   ·replace h:=iteT h hc6
    obtain ⟨v7,hv7,h⟩:=bindS h
    refine LH.loneT [(1,.L p1),(2,.sptr [.lst 3 (List.map Gq10.lv p0)]),(5,.arr 125 (List.length v7)),(13,.lst 3 (List.map Gq10.lv p0)),(14,.I (p0.length:Int)),(15,.I n1)] [(125,.arr 3 1 (List.map LV.I v7))] R (sMa R (sMi R (sN (oBS (f:=LV.I) (ys:=[n1]) te22 tr3 ts3 R R R okI (sN (oAp (f:=LV.I) te22 tr3 ts3 R R (prN R) R hv7 (sAa R zS))))))) (blockN (thenN (LH.loneT [(1,.L p1),(2,.sptr [.lst 3 (List.map Gq10.lv p0)]),(5,.arr 125 (List.length v7)),(13,.lst 3 (List.map Gq10.lv p0)),(14,.I (p0.length:Int)),(15,.I (i64 (n1+1)))] [(125,.arr 3 1 (List.map LV.I v7))] R (sN (oAdd R R (sMi R zS))) ?_)))
    exact roundI ⟨(i64 (n1+1)),v7,hrec1 ▸ h,R,R⟩ (Wk.eq R R R R)
   replace h:=iteF h hc6
   refine LH.skip (blockN (thenN (LH.loneT [(1,.L p1),(2,.sptr [.lst 3 (List.map Gq10.lv p0)]),(5,.arr 125 (List.length l2)),(13,.lst 3 (List.map Gq10.lv p0)),(14,.I (p0.length:Int)),(15,.I (i64 (n1+1)))] [(125,.arr 3 1 (List.map LV.I l2))] R (sN (oAdd R R (sMi R zS))) ?_)))
   exact roundI ⟨(i64 (n1+1)),l2,hrec1 ▸ h,R,R⟩ (Wk.eq R R R R)
  replace h:=iteF h hc3
  refine LH.exit (thenX (roundX (blockH (thenN ?_))))
  obtain ⟨l8,hl8,h⟩:=bindS h
  refine LH.seqT [(1,.L p1),(2,.sptr [.lst 3 (List.map Gq10.lv p0)]),(5,.L l8)] [] R (sMa R (sN (oMF (vs:=[.sptr [.lst 3 (List.map Gq10.lv p0)]]) R (sN (oCM (args:=[.arr 125 (List.length l2),.fn 219 [.sptr [.lst 3 (List.map Gq10.lv p0)]]]) (ml:=[(125,.arr 3 1 (List.map LV.I l2))]) (ml':=[(125,.arr 3 1 (List.map LV.I l8))]) R isF200 R (sbR (sbR sbN)) (sortI_ok Tryz.sortL R isF219 R (fun _ _ _ h=>q188q h) 125 3 hl8) (mC R mN) (newI R newN) R (s0 ((Wk.trans (Wk.to (el:=[(1,.L p1),(2,.sptr [.lst 3 (List.map Gq10.lv p0)]),(5,.arr 125 (List.length l8))]) (ml:=[(125,.arr 3 1 (List.map LV.I l8))]) (eC R (eC R (eC (congrArg (LV.arr 125) (sortF_len hl8)) eN))) ⟨R,trivial⟩ R (prK R)) (Wk.trans (Wk.frzL (f:=LV.I) (el':=[(1,.L p1),(2,.sptr [.lst 3 (List.map Gq10.lv p0)]),(5,.L l8)]) 125 3 1 l8 R R (prN R) (fK R (fK R (fZ fN)))) (Wk.eq R R R R)))))))))) (LH.seqT [(1,.L p1),(2,.sptr [.lst 3 (List.map Gq10.lv p0)]),(5,.L l8),(8,.nil)] [] R (sAn R zS) (LH.seq (LH.seqT [(1,.L p1),(2,.sptr [.lst 3 (List.map Gq10.lv p0)]),(8,.nil),(30,.L l8),(31,.I (l8.length:Int)),(32,.I 0)] [] R (sMl R (sN (oLnL (f:=LV.I) te22 R (sMi R zS)))) (LH.block (LH.wk ((Wk.trans (Wk.eq (el:=[(1,.L p1),(2,.sptr [.lst 3 (List.map Gq10.lv p0)]),(8,.nil),(30,.L l8),(31,.I (l8.length:Int)),(32,.I 0)]) (ml:=[]) R R R R) (Wk.trans (Wk.eq (el:=[(1,.L p1),(2,.sptr [.lst 3 (List.map Gq10.lv p0)]),(8,.nil),(30,.L l8),(31,.I (l8.length:Int)),(32,.I 0)]) (ml:=[]) R R R R) (Wk.trans (Wk.ownL (el':=[(1,.L p1),(2,.sptr [.lst 3 (List.map Gq10.lv p0)]),(8,.arr 161 (List.length ([]:List q0q))),(30,.L l8),(31,.I (l8.length:Int)),(32,.I 0)]) 161 299 2 R R (wK (wK (wO (wK (wK (wK wN))))))) (Wk.eq (el:=[(1,.L p1),(2,.sptr [.lst 3 (List.map Gq10.lv p0)]),(8,.arr 161 (List.length ([]:List q0q))),(30,.L l8),(31,.I (l8.length:Int)),(32,.I 0)]) (ml:=[(161,.arr 299 2 (List.map q0q.lv ([]:List q0q)))]) R R R R))))) (LH.loop (fun n e m=>∃ (n9:Int) (l10:List q0q),q84q F p0 p1 l8 n n9 l10=some r∧e=Env.of [(1,.L p1),(2,.sptr [.lst 3 (List.map Gq10.lv p0)]),(8,.arr 161 (List.length l10)),(30,.L l8),(31,.I (l8.length:Int)),(32,.I n9)]∧m=Mem.of [(161,.arr 299 2 (List.map q0q.lv l10))]) F ⟨0,([]:List q0q),h,R,R⟩ ?_))))))
  clear h
  rintro n e m ⟨n9,l10,h,rfl,rfl⟩
  rcases n with _ | n
  · cases (show Option.none=some _ from h)
  obtain ⟨rec2,hrec2⟩:∃ f,f=q84q F p0 p1 l8 n:=⟨_,rfl⟩
  replace h:q98q F p0 p1 l8 rec2 n9 l10=some r:=hrec2 ▸ h
  unfold q98q at h
  refine LH.seqT [(1,.L p1),(2,.sptr [.lst 3 (List.map Gq10.lv p0)]),(8,.arr 161 (List.length l10)),(30,.L l8),(31,.I (l8.length:Int)),(32,.I n9),(33,.bool (decide (n9<(l8.length:Int))))] [(161,.arr 299 2 (List.map q0q.lv l10))] R (sN (oLt R R zS)) (LH.seq (LH.cond (t:=(decide (n9<(l8.length:Int)))) R (fun hc11=>?_) (fun hc11=>?_)))
  ·replace h:=iteT h hc11
   refine LH.skip (thenN (LH.wk (Wk.eq (el:=[(1,.L p1),(2,.sptr [.lst 3 (List.map Gq10.lv p0)]),(8,.arr 161 (List.length l10)),(30,.L l8),(31,.I (l8.length:Int)),(32,.I n9)]) (ml:=[(161,.arr 299 2 (List.map q0q.lv l10))]) R R R R) (LH.seq (LH.block ?_))))
   obtain ⟨x12,hx12,h⟩:=bindS h
   refine LH.seqT [(1,.L p1),(2,.sptr [.lst 3 (List.map Gq10.lv p0)]),(8,.arr 161 (List.length l10)),(10,.I x12),(30,.L l8),(31,.I (l8.length:Int)),(32,.I n9)] [(161,.arr 299 2 (List.map q0q.lv l10))] R (sN (oIx (f:=LV.I) te22 tk3 ts3 R R okI hx12 R (sN (oLd R tk3 ta3 (sAi R zS))))) (LH.seqT [(1,.L p1),(2,.sptr [.lst 3 (List.map Gq10.lv p0)]),(8,.arr 161 (List.length l10)),(10,.I x12),(11,.I (i64 ((l10.length:Int) - 1))),(30,.L l8),(31,.I (l8.length:Int)),(32,.I n9)] [(161,.arr 299 2 (List.map q0q.lv l10))] R (sMa R (sN (oLnA (f:=q0q.lv) te296 R R (sN (oSub R R (sAi R zS)))))) (LH.seq ?_))
   obtain ⟨w14,hv,h⟩:=bindS h
   refine LH.seqJM mixed [] [0,0,0,0,0,0,1,1,1,0,0,0,0,0,0,0,0,0] [(1,.L p1),(2,.sptr [.lst 3 (List.map Gq10.lv p0)]),(8,.arr 161 (List.length l10)),(10,.I x12),(11,.I (i64 ((l10.length:Int) - 1))),(30,.L l8),(31,.I (l8.length:Int)),(32,.I n9),(56,.bool w14)] [(161,.arr 299 2 (List.map q0q.lv l10))] R R (by kernel_rfl) ?_ ?_
   ·refine mMi R (mN0 (oLt R R ⟨R,mMb R ?_⟩))
    by_cases hb15:(decide ((i64 ((l10.length:Int) - 1))<0))=true
    ·replace hv:=iteT hv hb15
     refine mF R R hb15 (mF R R hb15 (mF R R hb15 (mF R R hb15 (mF R R hb15 (mF R R hb15 (mF R R hb15 (mF R R hb15 (mF R R hb15 (mF R R hb15 (mF R R hb15 (mF R R hb15 (mF R R hb15 (mF R R hb15 (mN0 (oPkT (cB hb15) (v:=(.bool _)) R ⟨R,?_⟩)))))))))))))))
     obtain rfl:=oI hv
     exact zM
    ·replace hb15:=bF hb15
     replace hv:=iteF hv hb15
     refine mT R (cB hb15) (mN0 (oLd R tk254 ta254 ⟨R,mT R (cB hb15) (mMa R (mT R (cB hb15) (mMi R ?_)))⟩))
     obtain ⟨x16,hx16,hv⟩:=bindS hv
     refine mT R (cB hb15) (mN1 (oIxA (f:=q0q.lv) te296 tk299 ts299 R R R hx16 ⟨R,mT R (cB hb15) (mN1 (oFaE (f:=q0q.lv) tf299_0 tk3 ts3 R R R ⟨R,mT R (cB hb15) (mN1 (oLdE (f:=q0q.lv) R R (idxOk hx16).2 R R R tk3 ta3 ⟨R,?_⟩))⟩))⟩))
     obtain ⟨x17,hx17,hv⟩:=bindS hv
     refine mT R (cB hb15) (mN0 (oIx (f:=Gq10.lv) te254 tk40 ts40 R R Gq10.ok hx17 R ⟨R,mT R (cB hb15) (mN0 (oLdA R tk40 ta40 ts40 R R ⟨R,mT R (cB hb15) (mN0 (oLd R tk254 ta254 ⟨R,mT R (cB hb15) (mMi R ?_)⟩))⟩))⟩))
     obtain ⟨x18,hx18,hv⟩:=bindS hv
     refine mT R (cB hb15) (mN0 (oIx (f:=Gq10.lv) te254 tk40 ts40 R R Gq10.ok hx18 R ⟨R,mT R (cB hb15) (mN0 (oLdA R tk40 ta40 ts40 R R ⟨R,?_⟩))⟩))
     obtain ⟨r19,hr19,hv⟩:=bindS hv
     refine mT R (cB hb15) (mN0 (oCP (args:=[.agg [.I x17.Time,.I x17.Source,.I x17.Seq],.agg [.I x18.Time,.I x18.Source,.I x18.Seq]]) R isF220 R (sbR (sbR sbN)) (q143q hr19) R ⟨R,mT R (cB hb15) (mN0 (oNe R R ⟨R,mN0 (oPkF (cB hb15) (v:=(.bool _)) R ⟨R,?_⟩)⟩))⟩))
     obtain rfl:=oI hv
     exact zM
   clear hv
   refine LH.cond (t:=w14) R (fun hc20=>?_) (fun hc20=>?_)
   ·replace h:=iteT h hc20
    obtain ⟨v21,hv21,h⟩:=bindS h
    refine LH.seqT [(1,.L p1),(2,.sptr [.lst 3 (List.map Gq10.lv p0)]),(8,.arr 161 (List.length v21)),(30,.L l8),(31,.I (l8.length:Int)),(32,.I n9)] [(161,.arr 299 2 (List.map q0q.lv v21))] R (sMa R (sMi R (sN (oBd (vs:=[(0,.I x12),(1,.bool false)]) tu299 tz299 R (lf tf299_0 ts3 tk3 R R R (lf tf299_1 ts4 tk4 R R R lf0)) (sN (oBS (f:=q0q.lv) (ys:=[(q0q.mk x12 false)]) te296 tr299 ts299 R R R q0q.ok (sN (oAp (f:=q0q.lv) te296 tr299 ts299 R R (prN R) R hv21 (sAa R zS))))))))) (LH.exit (thenX (blockH (thenN (LH.loneT [(1,.L p1),(2,.sptr [.lst 3 (List.map Gq10.lv p0)]),(8,.arr 161 (List.length v21)),(30,.L l8),(31,.I (l8.length:Int)),(32,.I (i64 (n9+1)))] [(161,.arr 299 2 (List.map q0q.lv v21))] R (sN (oAdd R R (sMi R zS))) ?_)))))
    exact roundI ⟨(i64 (n9+1)),v21,hrec2 ▸ h,R,R⟩ (Wk.eq R R R R)
   replace h:=iteF h hc20
   refine LH.skip (thenN ?_)
   obtain ⟨x22,hx22,h⟩:=bindS h
   refine LH.seqT [(1,.L p1),(2,.sptr [.lst 3 (List.map Gq10.lv p0)]),(8,.arr 161 (List.length l10)),(10,.I x12),(11,.I (i64 ((l10.length:Int) - 1))),(12,.I x22.first),(30,.L l8),(31,.I (l8.length:Int)),(32,.I n9)] [(161,.arr 299 2 (List.map q0q.lv l10))] R (sMa R (sMi R (sN (oIxA (f:=q0q.lv) te296 tk299 ts299 R R R hx22 (sN (oFaE (f:=q0q.lv) tf299_0 tk3 ts3 R R R (sN (oLdE (f:=q0q.lv) R R (idxOk hx22).2 R R R tk3 ta3 (sAi R zS))))))))) ?_
   obtain ⟨w24,hv,h⟩:=bindS h
   refine LH.seqJM mixed [] [0,0,0,0,0,0,0,0,0,0,0,0,0,0,0,0,0,0,0,0] [(1,.L p1),(2,.sptr [.lst 3 (List.map Gq10.lv p0)]),(8,.arr 161 (List.length l10)),(11,.I (i64 ((l10.length:Int) - 1))),(30,.L l8),(31,.I (l8.length:Int)),(32,.I n9),(86,.bool w24)] [(161,.arr 299 2 (List.map q0q.lv l10))] R R (by kernel_rfl) ?_ ?_
   ·refine mN0 (oLd R tk254 ta254 ⟨R,mMi R ?_⟩)
    obtain ⟨x25,hx25,hv⟩:=bindS hv
    refine mN0 (oIx (f:=Gq10.lv) te254 tk40 ts40 R R Gq10.ok hx25 R ⟨R,mN0 (oLdA R tk40 ta40 ts40 R R ⟨R,mN0 (oLd R tk254 ta254 ⟨R,mMi R ?_⟩)⟩)⟩)
    obtain ⟨x26,hx26,hv⟩:=bindS hv
    refine mN0 (oIx (f:=Gq10.lv) te254 tk40 ts40 R R Gq10.ok hx26 R ⟨R,mN0 (oLdA R tk40 ta40 ts40 R R ⟨R,mN0 (oNeA R R (ae40 x25 x26) ⟨R,mMb R ?_⟩)⟩)⟩)
    by_cases hb27:(!(decide (x25=x26)))=true
    ·replace hv:=iteT hv hb27
     refine mF R R hb27 (mF R R hb27 (mF R R hb27 (mF R R hb27 (mF R R hb27 (mF R R hb27 (mF R R hb27 (mF R R hb27 (mF R R hb27 (mN0 (oPkT (cB hb27) (v:=(.bool _)) R ⟨R,?_⟩))))))))))
     obtain rfl:=oI hv
     exact zM
    ·replace hb27:=bF hb27
     replace hv:=iteF hv hb27
     refine mT R (cB hb27) (mMl R (mT R (cB hb27) (mMi R ?_)))
     obtain ⟨x28,hx28,hv⟩:=bindS hv
     refine mT R (cB hb27) (mN0 (oIx (f:=LV.I) te22 tk3 ts3 R R okI hx28 R ⟨R,mT R (cB hb27) (mN0 (oLd R tk3 ta3 ⟨R,mT R (cB hb27) (mMl R (mT R (cB hb27) (mMi R ?_)))⟩))⟩))
     obtain ⟨x29,hx29,hv⟩:=bindS hv
     refine mT R (cB hb27) (mN0 (oIx (f:=LV.I) te22 tk3 ts3 R R okI hx29 R ⟨R,mT R (cB hb27) (mN0 (oLd R tk3 ta3 ⟨R,mT R (cB hb27) (mN0 (oNe R R ⟨R,mN0 (oPkF (cB hb27) (v:=(.bool _)) R ⟨R,?_⟩)⟩))⟩))⟩))
     obtain rfl:=oI hv
     exact zM
   clear hv
   refine LH.cond (t:=w24) R (fun hc30=>?_) (fun hc30=>?_)
   ·replace h:=iteT h hc30
    obtain ⟨x31,hx31,h⟩:=bindS h
    refine LH.loneT [(1,.L p1),(2,.sptr [.lst 3 (List.map Gq10.lv p0)]),(8,.arr 161 (List.length (l10.set ((i64 ((l10.length:Int) - 1)).toNat) (q0q.mk x31.first true)))),(30,.L l8),(31,.I (l8.length:Int)),(32,.I n9)] [(161,.arr 299 2 (List.map q0q.lv (l10.set ((i64 ((l10.length:Int) - 1)).toNat) (q0q.mk x31.first true))))] R (sMa R (sMi R (sN (oIxA (f:=q0q.lv) te296 tk299 ts299 R R R hx31 (sN (oFaE (f:=q0q.lv) tf299_1 tk4 ts4 R R R (s_ (oStE (f:=q0q.lv) (z':=(q0q.mk x31.first true)) R R R R tk4 ts4 R (idxOk hx31).2 R (s0 (Wk.to (eC R (eC R (eC (congrArg (LV.arr 161) (by simp)) (eC R (eC R (eC R eN)))))) ⟨R,trivial⟩ R (prK R))))))))))) (blockN (thenN (LH.loneT [(1,.L p1),(2,.sptr [.lst 3 (List.map Gq10.lv p0)]),(8,.arr 161 (List.length (l10.set ((i64 ((l10.length:Int) - 1)).toNat) (q0q.mk x31.first true)))),(30,.L l8),(31,.I (l8.length:Int)),(32,.I (i64 (n9+1)))] [(161,.arr 299 2 (List.map q0q.lv (l10.set ((i64 ((l10.length:Int) - 1)).toNat) (q0q.mk x31.first true))))] R (sN (oAdd R R (sMi R zS))) ?_)))
    exact roundI ⟨(i64 (n9+1)),(l10.set ((i64 ((l10.length:Int) - 1)).toNat) (q0q.mk x31.first true)),hrec2 ▸ h,R,R⟩ (Wk.eq R R R R)
   replace h:=iteF h hc30
   refine LH.skip (blockN (thenN (LH.loneT [(1,.L p1),(2,.sptr [.lst 3 (List.map Gq10.lv p0)]),(8,.arr 161 (List.length l10)),(30,.L l8),(31,.I (l8.length:Int)),(32,.I (i64 (n9+1)))] [(161,.arr 299 2 (List.map q0q.lv l10))] R (sN (oAdd R R (sMi R zS))) ?_)))
   exact roundI ⟨(i64 (n9+1)),l10,hrec2 ▸ h,R,R⟩ (Wk.eq R R R R)
  replace h:=iteF h hc11
  refine LH.exit (thenX (roundX (blockH (thenN (LH.wk ((Wk.trans (Wk.eq (el:=[(8,.arr 161 (List.length l10))]) (ml:=[(161,.arr 299 2 (List.map q0q.lv l10))]) R R R R) (Wk.trans (Wk.frzL (f:=q0q.lv) (el':=[(8,.lst 2 (List.map q0q.lv l10))]) 161 299 2 l10 R R (prN R) (fZ fN)) (Wk.eq (el:=[(8,.lst 2 (List.map q0q.lv l10))]) (ml:=[]) R R R R)))) (LH.seqT [(4,.lst 2 (List.map q0q.lv l10))] [] R (sMl R (sAl R zS)) (LH.ret ?_)))))))
  obtain rfl:=oI h
  exact retE (aT Tryz.results199) (lrT R (lr0 ⟨memN mN,R,prK R,Sub.rfl⟩))

theorem q193q {F:Nat} {p0:Gq10} {p1:Gq10} {r:Int} (h:q136q F p0 p1=some r):LCall Tryz.prog 202 [.agg [.I p0.Time,.I p0.Source,.I p0.Seq],.agg [.I p1.Time,.I p1.Source,.I p1.Seq]] (Mem.of []) (.I r) (Mem.of []):=by
  unfold q136q at h
  refine bodyT Tryz.func202 R (nT Tryz.ntmps202 R) (LH.wk (Wk.eq (el:=[(0,.agg [.I p0.Time,.I p0.Source,.I p0.Seq]),(1,.agg [.I p1.Time,.I p1.Source,.I p1.Seq])]) (ml:=[]) R R R R) (LH.seqT [(2,.sptr [.I p0.Time,.I p0.Source,.I p0.Seq]),(3,.sptr [.I p1.Time,.I p1.Source,.I p1.Seq])] [] R (sB (oBxR R R R R (sB (oBxR R R R R (sAi R zS))))) ?_))
  obtain ⟨r1,hr1,h⟩:=bindS h
  obtain ⟨r2,hr2,h⟩:=bindS h
  obtain ⟨r3,hr3,h⟩:=bindS h
  obtain ⟨r4,hr4,h⟩:=bindS h
  refine LH.seqJM mixed [] [0,0,0,0,0,0,0,0,0,0,0,0,0,0,0,0,0,0] [(4,.I r4)] [] R R (by kernel_rfl) ?_ ?_
  ·exact mN0 (oFaS tf40_0 tk3 ts3 R R R ⟨R,mN0 (oLd R tk3 ta3 ⟨R,mN0 (oFaS tf40_0 tk3 ts3 R R R ⟨R,mN0 (oLd R tk3 ta3 ⟨R,mN0 (oCP (args:=[.I p0.Time,.I p1.Time]) R isF160 R (sbR (sbR sbN)) (cmp_Compare_int_ok hr1) R ⟨R,mN0 (oFaS tf40_1 tk3 ts3 R R R ⟨R,mN0 (oLd R tk3 ta3 ⟨R,mN0 (oFaS tf40_1 tk3 ts3 R R R ⟨R,mN0 (oLd R tk3 ta3 ⟨R,mN0 (oCP (args:=[.I p0.Source,.I p1.Source]) R isF160 R (sbR (sbR sbN)) (cmp_Compare_int_ok hr2) R ⟨R,mN0 (oFaS tf40_2 tk3 ts3 R R R ⟨R,mN0 (oLd R tk3 ta3 ⟨R,mN0 (oFaS tf40_2 tk3 ts3 R R R ⟨R,mN0 (oLd R tk3 ta3 ⟨R,mN0 (oCP (args:=[.I p0.Seq,.I p1.Seq]) R isF160 R (sbR (sbR sbN)) (cmp_Compare_int_ok hr3) R ⟨R,mN0 (oBS (f:=LV.I) (ys:=[r1,r2,r3]) te22 tr3 ts3 R R R okI ⟨R,mN0 (oCP (args:=[.L [r1,r2,r3]]) R isF159 R (sbR sbN) (cmp_Or_int_ok hr4) R ⟨R,mAi R zM⟩)⟩)⟩)⟩)⟩)⟩)⟩)⟩)⟩)⟩)⟩)⟩)⟩)⟩)⟩)⟩)⟩)
  refine LH.ret ?_
  obtain rfl:=oI h
  exact retE (aT Tryz.results202) (lrT R (lr0 ⟨memN mN,R,prK R,Sub.rfl⟩))

theorem q175q {F:Nat} {p0:Int} {p1:Int} {c0:List Gq10} {r:Int} (h:q46q F p0 p1 c0=some r):LCall Tryz.prog 201 [.I p0,.I p1,.sptr [.lst 3 (List.map Gq10.lv c0)]] (Mem.of []) (.I r) (Mem.of []):=by
  unfold q46q at h
  refine bodyT Tryz.func201 R (nT Tryz.ntmps201 R) (LH.wk (Wk.eq (el:=[(0,.I p0),(1,.I p1),(2,.sptr [.lst 3 (List.map Gq10.lv c0)])]) (ml:=[]) R R R R) (LH.seqT [(0,.I p0),(1,.I p1),(2,.sptr [.lst 3 (List.map Gq10.lv c0)])] [] R (sAi R zS) ?_))
  obtain ⟨x1,hx1,h⟩:=bindS h
  obtain ⟨x2,hx2,h⟩:=bindS h
  obtain ⟨r3,hr3,h⟩:=bindS h
  refine LH.seqJM mixed [] [0,0,0,0,0,0,0,0,0,0] [(5,.I r3)] [] R R (by kernel_rfl) (mN0 (oLd R tk254 ta254 ⟨R,mMi R (mN0 (oIx (f:=Gq10.lv) te254 tk40 ts40 R R Gq10.ok hx1 R ⟨R,mN0 (oLdA R tk40 ta40 ts40 R R ⟨R,mN0 (oLd R tk254 ta254 ⟨R,mMi R (mN0 (oIx (f:=Gq10.lv) te254 tk40 ts40 R R Gq10.ok hx2 R ⟨R,mN0 (oLdA R tk40 ta40 ts40 R R ⟨R,mN0 (oCP (args:=[.agg [.I x1.Time,.I x1.Source,.I x1.Seq],.agg [.I x2.Time,.I x2.Source,.I x2.Seq]]) R isF202 R (sbR (sbR sbN)) (q193q hr3) R ⟨R,mAi R zM⟩)⟩)⟩))⟩)⟩)⟩))⟩)) (LH.ret ?_)
  obtain rfl:=oI h
  exact retE (aT Tryz.results201) (lrT R (lr0 ⟨memN mN,R,prK R,Sub.rfl⟩))

theorem q183q {F:Nat} {p0:List Gq10} {p1:List Int} {r:List Int × Int} (h:q82q F p0 p1=some r):LCall Tryz.prog 156 [.lst 3 (List.map Gq10.lv p0),.L p1] (Mem.of []) (.tup [.L r.1,.I r.2]) (Mem.of []):=by
  unfold q82q at h
  refine bodyT Tryz.func156 R (nT Tryz.ntmps156 R) (LH.wk (Wk.eq (el:=[(0,.lst 3 (List.map Gq10.lv p0)),(1,.L p1)]) (ml:=[]) R R R R) (LH.seqT [(1,.L p1),(2,.sptr [.lst 3 (List.map Gq10.lv p0)])] [] R (sB (oBxR R R R R (sAn R (sAi R zS)))) (LH.seq (LH.seqT [(1,.L p1),(2,.sptr [.lst 3 (List.map Gq10.lv p0)]),(13,.bool ((p0.length:Int) != (p1.length:Int)))] [] R (sN (oLd R tk254 ta254 (sN (oLnL (f:=Gq10.lv) te254 R (sMl R (sN (oLnL (f:=LV.I) te22 R (sN (oNe R R zS))))))))) (LH.cond (t:=((p0.length:Int) != (p1.length:Int))) R (fun hc1=>?_) (fun hc1=>?_))))))
  ·replace h:=iteT h hc1
   refine LH.seqT [(4,.nil),(5,.I 1)] [] R (sAn R (sAi R zS)) (LH.ret (thenR ?_))
   obtain rfl:=oI h
   exact retE (aT Tryz.results156) (lrT R (lrT R (lr0 ⟨memN mN,R,prK R,(Sub.tup (sbL (sbR sbN)))⟩)))
  replace h:=iteF h hc1
  refine LH.skip (thenN (LH.seqT [(1,.L p1),(2,.sptr [.lst 3 (List.map Gq10.lv p0)]),(6,.nil)] [] R (sAn R zS) (LH.seq ?_)))
  obtain ⟨r2,hr2,h⟩:=bindS h
  refine LH.seqT [(2,.sptr [.lst 3 (List.map Gq10.lv p0)]),(6,.nil),(16,.lst 2 (List.map q0q.lv r2)),(17,.I (r2.length:Int)),(18,.I 0)] [] R (sN (oLd R tk254 ta254 (sMl R (sN (oCP (args:=[.lst 3 (List.map Gq10.lv p0),.L p1]) R isF199 R (sbR (sbR sbN)) (q197q hr2) R (sN (oLnL (f:=q0q.lv) te296 R (sMi R zS)))))))) (LH.block (LH.wk ((Wk.trans (Wk.eq (el:=[(2,.sptr [.lst 3 (List.map Gq10.lv p0)]),(6,.nil),(16,.lst 2 (List.map q0q.lv r2)),(17,.I (r2.length:Int)),(18,.I 0)]) (ml:=[]) R R R R) (Wk.trans (Wk.eq (el:=[(2,.sptr [.lst 3 (List.map Gq10.lv p0)]),(6,.nil),(16,.lst 2 (List.map q0q.lv r2)),(17,.I (r2.length:Int)),(18,.I 0)]) (ml:=[]) R R R R) (Wk.trans (Wk.ownL (el':=[(2,.sptr [.lst 3 (List.map Gq10.lv p0)]),(6,.arr 129 (List.length ([]:List Int))),(16,.lst 2 (List.map q0q.lv r2)),(17,.I (r2.length:Int)),(18,.I 0)]) 129 3 1 R R (wK (wO (wK (wK (wK wN)))))) (Wk.eq (el:=[(2,.sptr [.lst 3 (List.map Gq10.lv p0)]),(6,.arr 129 (List.length ([]:List Int))),(16,.lst 2 (List.map q0q.lv r2)),(17,.I (r2.length:Int)),(18,.I 0)]) (ml:=[(129,.arr 3 1 (List.map LV.I ([]:List Int)))]) R R R R))))) (LH.loop (fun n e m=>∃ (n3:Int) (l4:List Int),q39q F p0 r2 n n3 l4=some r∧e=Env.of [(2,.sptr [.lst 3 (List.map Gq10.lv p0)]),(6,.arr 129 (List.length l4)),(16,.lst 2 (List.map q0q.lv r2)),(17,.I (r2.length:Int)),(18,.I n3)]∧m=Mem.of [(129,.arr 3 1 (List.map LV.I l4))]) F ⟨0,([]:List Int),h,R,R⟩ ?_)))
  clear h
  rintro n e m ⟨n3,l4,h,rfl,rfl⟩
  rcases n with _ | n
  · cases (show Option.none=some _ from h)
  obtain ⟨rec1,hrec1⟩:∃ f,f=q39q F p0 r2 n:=⟨_,rfl⟩
  replace h:q45q F p0 r2 rec1 n3 l4=some r:=hrec1 ▸ h
  unfold q45q at h
  refine LH.seqT [(2,.sptr [.lst 3 (List.map Gq10.lv p0)]),(6,.arr 129 (List.length l4)),(16,.lst 2 (List.map q0q.lv r2)),(17,.I (r2.length:Int)),(18,.I n3),(19,.bool (decide (n3<(r2.length:Int))))] [(129,.arr 3 1 (List.map LV.I l4))] R (sN (oLt R R zS)) (LH.seq (LH.cond (t:=(decide (n3<(r2.length:Int)))) R (fun hc5=>?_) (fun hc5=>?_)))
  ·replace h:=iteT h hc5
   refine LH.skip (thenN (LH.wk (Wk.eq (el:=[(2,.sptr [.lst 3 (List.map Gq10.lv p0)]),(6,.arr 129 (List.length l4)),(16,.lst 2 (List.map q0q.lv r2)),(17,.I (r2.length:Int)),(18,.I n3)]) (ml:=[(129,.arr 3 1 (List.map LV.I l4))]) R R R R) (LH.seq (LH.block ?_))))
   obtain ⟨x6,hx6,h⟩:=bindS h
   refine LH.seqT [(2,.sptr [.lst 3 (List.map Gq10.lv p0)]),(6,.arr 129 (List.length l4)),(8,.sptr [.I x6.first,.bool x6.disputed]),(16,.lst 2 (List.map q0q.lv r2)),(17,.I (r2.length:Int)),(18,.I n3)] [(129,.arr 3 1 (List.map LV.I l4))] R (sN (oIx (f:=q0q.lv) te296 tk299 ts299 R R q0q.ok hx6 R (sN (oLdA R tk299 ta299 ts299 R R (sN (oAl (id:=108) R tz299 R R (s_ (oSt R R R tk299 ts299 R R R (s0 ((Wk.trans (Wk.eq (el:=[(2,.sptr [.lst 3 (List.map Gq10.lv p0)]),(6,.arr 129 (List.length l4)),(8,.ptr 108 0),(16,.lst 2 (List.map q0q.lv r2)),(17,.I (r2.length:Int)),(18,.I n3)]) (ml:=[(108,.box [.I x6.first,.bool x6.disputed]),(129,.arr 3 1 (List.map LV.I l4))]) R R R R) (Wk.trans (Wk.frzB 108 [.I x6.first,.bool x6.disputed] R R R (prN R)) (Wk.eq R R R R))))))))))))) (LH.seqT [(2,.sptr [.lst 3 (List.map Gq10.lv p0)]),(6,.arr 129 (List.length l4)),(8,.sptr [.I x6.first,.bool x6.disputed]),(16,.lst 2 (List.map q0q.lv r2)),(17,.I (r2.length:Int)),(18,.I n3),(24,.bool (!x6.disputed))] [(129,.arr 3 1 (List.map LV.I l4))] R (sN (oFaS tf299_1 tk4 ts4 R R R (sN (oLd R tk4 ta4 (sN (oNot R zS)))))) (LH.cond (t:=(!x6.disputed)) R (fun hc7=>?_) (fun hc7=>?_)))
   ·replace h:=iteT h hc7
    obtain ⟨v8,hv8,h⟩:=bindS h
    refine LH.loneT [(2,.sptr [.lst 3 (List.map Gq10.lv p0)]),(6,.arr 129 (List.length v8)),(16,.lst 2 (List.map q0q.lv r2)),(17,.I (r2.length:Int)),(18,.I n3)] [(129,.arr 3 1 (List.map LV.I v8))] R (sMa R (sN (oFaS tf299_0 tk3 ts3 R R R (sN (oLd R tk3 ta3 (sN (oBS (f:=LV.I) (ys:=[x6.first]) te22 tr3 ts3 R R R okI (sN (oAp (f:=LV.I) te22 tr3 ts3 R R (prN R) R hv8 (sAa R zS)))))))))) (blockN (thenN (LH.loneT [(2,.sptr [.lst 3 (List.map Gq10.lv p0)]),(6,.arr 129 (List.length v8)),(16,.lst 2 (List.map q0q.lv r2)),(17,.I (r2.length:Int)),(18,.I (i64 (n3+1)))] [(129,.arr 3 1 (List.map LV.I v8))] R (sN (oAdd R R (sMi R zS))) ?_)))
    exact roundI ⟨(i64 (n3+1)),v8,hrec1 ▸ h,R,R⟩ (Wk.eq R R R R)
   replace h:=iteF h hc7
   refine LH.skip (blockN (thenN (LH.loneT [(2,.sptr [.lst 3 (List.map Gq10.lv p0)]),(6,.arr 129 (List.length l4)),(16,.lst 2 (List.map q0q.lv r2)),(17,.I (r2.length:Int)),(18,.I (i64 (n3+1)))] [(129,.arr 3 1 (List.map LV.I l4))] R (sN (oAdd R R (sMi R zS))) ?_)))
   exact roundI ⟨(i64 (n3+1)),l4,hrec1 ▸ h,R,R⟩ (Wk.eq R R R R)
  replace h:=iteF h hc5
  refine LH.exit (thenX (roundX (blockH (thenN (LH.wk (Wk.eq (el:=[(2,.sptr [.lst 3 (List.map Gq10.lv p0)]),(6,.arr 129 (List.length l4))]) (ml:=[(129,.arr 3 1 (List.map LV.I l4))]) R R R R) (LH.seq (LH.seqT [(2,.sptr [.lst 3 (List.map Gq10.lv p0)]),(6,.arr 129 (List.length l4)),(33,.bool (decide ((l4.length:Int) > 300)))] [(129,.arr 3 1 (List.map LV.I l4))] R (sMa R (sN (oLnA (f:=LV.I) te22 R R (sN (oGt R R zS))))) (LH.cond (t:=(decide ((l4.length:Int) > 300))) R (fun hc9=>?_) (fun hc9=>?_)))))))))
  ·replace h:=iteT h hc9
   refine LH.seqT [(4,.nil),(5,.I 3)] [] R (sAn R (sAi R zS)) (LH.ret (thenR ?_))
   obtain rfl:=oI h
   exact retE (aT Tryz.results156) (lrT R (lrT R (lr0 ⟨memN mN,R,prK R,(Sub.tup (sbL (sbR sbN)))⟩)))
  replace h:=iteF h hc9
  refine LH.skip (thenN ?_)
  obtain ⟨l10,hl10,h⟩:=bindS h
  refine LH.seqT [(6,.L l10)] [] R (sMa R (sN (oMF (vs:=[.sptr [.lst 3 (List.map Gq10.lv p0)]]) R (sN (oCM (args:=[.arr 129 (List.length l4),.fn 201 [.sptr [.lst 3 (List.map Gq10.lv p0)]]]) (ml:=[(129,.arr 3 1 (List.map LV.I l4))]) (ml':=[(129,.arr 3 1 (List.map LV.I l10))]) R isF200 R (sbR (sbR sbN)) (sortI_ok Tryz.sortL R isF201 R (fun _ _ _ h=>q175q h) 129 3 hl10) (mC R mN) (newI R newN) R (s0 ((Wk.trans (Wk.to (el:=[(6,.arr 129 (List.length l10))]) (ml:=[(129,.arr 3 1 (List.map LV.I l10))]) (eC (congrArg (LV.arr 129) (sortF_len hl10)) eN) ⟨R,trivial⟩ R (prK R)) (Wk.trans (Wk.frzL (f:=LV.I) (el':=[(6,.L l10)]) 129 3 1 l10 R R (prN R) (fZ fN)) (Wk.eq R R R R)))))))))) (LH.seqT [(4,.L l10),(5,.I 0)] [] R (sMl R (sAl R (sAi R zS))) (LH.ret ?_))
  obtain rfl:=oI h
  exact retE (aT Tryz.results156) (lrT R (lrT R (lr0 ⟨memN mN,R,prK R,(Sub.tup (sbR (sbR sbN)))⟩)))

theorem q153q {F:Nat} {p0:List Gq5} {p1:(Gq5→Option Gq10)} {p2:(Gq5→Gq5→Option Bool)} {r:List Int × Int} {p1_f:Nat} {p1_c:List LV} (p1_i:IsF Tryz.prog p1_f) (p1_q:LV.pureL p1_c=true) (p1_k:∀ (x0:Gq5) (q:Gq10),p1 x0=some q→LCall Tryz.prog p1_f ([.agg [.I x0.Stamp.Time,.I x0.Stamp.Source,.I x0.Stamp.Seq,.I x0.Kind,.I x0.Entry.Candidate,.I x0.Entry.Centre,.I x0.Entry.Paper,.I x0.To]]++p1_c) (Mem.of []) (.agg [.I q.Time,.I q.Source,.I q.Seq]) (Mem.of [])) {p2_f:Nat} {p2_c:List LV} (p2_i:IsF Tryz.prog p2_f) (p2_q:LV.pureL p2_c=true) (p2_k:∀ (x0:Gq5) (x1:Gq5) (q:Bool),p2 x0 x1=some q→LCall Tryz.prog p2_f ([.agg [.I x0.Stamp.Time,.I x0.Stamp.Source,.I x0.Stamp.Seq,.I x0.Kind,.I x0.Entry.Candidate,.I x0.Entry.Centre,.I x0.Entry.Paper,.I x0.To],.agg [.I x1.Stamp.Time,.I x1.Stamp.Source,.I x1.Stamp.Seq,.I x1.Kind,.I x1.Entry.Candidate,.I x1.Entry.Centre,.I x1.Entry.Paper,.I x1.To]]++p2_c) (Mem.of []) (.bool q) (Mem.of [])) (h:q22q F p0 p1 p2=some r):LCall Tryz.prog 90 [.lst 8 (List.map Gq5.lv p0),.fn p1_f p1_c,.fn p2_f p2_c] (Mem.of []) (.tup [.L r.1,.I r.2]) (Mem.of []):=by
  have p2_p:∀ {l:List LV},LV.pureL l=true→LV.pureL (l++p2_c)=true:=pnC p2_q
  have p2_r:LV.refsL p2_c=[]:=refsL_pure p2_q
  have p1_p:∀ {l:List LV},LV.pureL l=true→LV.pureL (l++p1_c)=true:=pnC p1_q
  have p1_r:LV.refsL p1_c=[]:=refsL_pure p1_q
  unfold q22q at h
  refine bodyT Tryz.func90 R (nT Tryz.ntmps90 R) (LH.wk (Wk.to (el:=[(0,.lst 8 (List.map Gq5.lv p0)),(1,.fn p1_f p1_c),(2,.fn p2_f p2_c)]) (ml:=[]) (eQ ⟨R,R,R,trivial⟩) mN (by simp [keptRefs,LV.refs,LV.refsL,LV.cells,lev,Env.args,Env.of,Env.put,Env.drop,p1_r,p2_r]) (prK R)) (LH.seqT [(0,.lst 8 (List.map Gq5.lv p0)),(1,.fn p1_f p1_c),(2,.fn p2_f p2_c)] [] R (sAn R (sAi R (s0 (Wk.to (eQ ⟨R,R,R,trivial⟩) mN (by simp [keptRefs,LV.refs,LV.refsL,LV.cells,lev,Env.args,Env.of,Env.put,Env.drop,p1_r,p2_r]) (prK R))))) ?_))
  obtain ⟨r1,hr1,h⟩:=bindS h
  refine LH.seqT [(8,.lst 3 (List.map Gq10.lv r1.1)),(9,.L r1.2)] [] R (sMl R (sN (oM (v:=(.fn _ _)) R (sN (oM (v:=(.fn _ _)) R (sN (oCP (args:=[.lst 8 (List.map Gq5.lv p0),.fn p1_f p1_c,.fn p2_f p2_c]) R isF155 R (sbR (sbR (sbR sbN))) (q161q p1_i p1_q p1_k p2_i p2_q p2_k hr1) (by simp [LV.pure,LV.pureL,p1_q,p2_q]) (sMt R (sN (oEx R R (sN (oEx R R (sAl R (sAl R (s0 (Wk.to (eQ ⟨R,R,trivial⟩) mN (by simp [keptRefs,LV.refs,LV.refsL,LV.cells,lev,Env.args,Env.of,Env.put,Env.drop,p1_r,p2_r]) (prK R))))))))))))))))) ?_
  obtain ⟨r2,hr2,h⟩:=bindS h
  refine LH.seqT [(6,.L r2.1),(7,.I r2.2)] [] R (sMl R (sMl R (sN (oCP (args:=[.lst 3 (List.map Gq10.lv r1.1),.L r1.2]) R isF156 R (sbR (sbR sbN)) (q183q hr2) R (sN (oEx R R (sN (oEx R R (sAl R (sAi R (s0 (Wk.to (eQ ⟨R,R,trivial⟩) mN (by simp [keptRefs,LV.refs,LV.refsL,LV.cells,lev,Env.args,Env.of,Env.put,Env.drop,p1_r,p2_r]) (prK R))))))))))))) (LH.ret ?_)
  obtain rfl:=oI h
  exact retE (aT Tryz.results90) (lrT R (lrT R (lr0 ⟨memN mN,R,prK R,(Sub.tup (sbR (sbR sbN)))⟩)))

theorem q174q {p0:Gq5} {r:Gq10} (h:q126q p0=some r):LCall Tryz.prog 91 [Gq5.lv p0] (Mem.of []) (.agg [.I r.Time,.I r.Source,.I r.Seq]) (Mem.of []):=by
  unfold q126q at h
  refine bodyT Tryz.func91 R (nT Tryz.ntmps91 R) (LH.wk (Wk.eq (el:=[(0,Gq5.lv p0)]) (ml:=[]) R R R R) (LH.seqT [(1,.sptr (Gq5.lv p0).cells),(2,.ptr 102 0)] [(102,.box [.I 0,.I 0,.I 0])] R (sB (oBxR R R R R (sN (oAl (id:=102) R tz40 R R zS)))) (LH.seqT [(2,.sptr [.I p0.Stamp.Time,.I p0.Stamp.Source,.I p0.Stamp.Seq])] [] R (sN (oFaS tf44_0 tk40 ts40 R R R (sN (oLdA R tk40 ta40 ts40 R R (s_ (oSt R R R tk40 ts40 R R R (s0 ((Wk.trans (Wk.eq (el:=[(2,.ptr 102 0)]) (ml:=[(102,.box [.I p0.Stamp.Time,.I p0.Stamp.Source,.I p0.Stamp.Seq])]) R R R R) (Wk.trans (Wk.frzB 102 [.I p0.Stamp.Time,.I p0.Stamp.Source,.I p0.Stamp.Seq] R R R (prN R)) (Wk.eq R R R R))))))))))) (LH.ret ?_))))
  obtain rfl:=oI h
  exact retE (aT Tryz.results91) (lrSA R tk40 ta40 ts40 R R (lr0 ⟨memN mN,R,prK R,Sub.rfl⟩))

theorem q204q {p0:Gq5} {p1:Gq5} {r:Bool} (h:q164q p0 p1=some r):LCall Tryz.prog 92 [Gq5.lv p0,Gq5.lv p1] (Mem.of []) (.bool r) (Mem.of []):=by
  unfold q164q at h
  refine bodyT Tryz.func92 R (nT Tryz.ntmps92 R) (LH.wk (Wk.eq (el:=[(0,Gq5.lv p0),(1,Gq5.lv p1)]) (ml:=[]) R R R R) (LH.seqT [(2,.sptr (Gq5.lv p0).cells),(3,.sptr (Gq5.lv p1).cells)] [] R (sB (oBxR R R R R (sB (oBxR R R R R (sAb R zS))))) (LH.seqT [(4,.bool (decide (p0=p1)))] [] R (sN (oLdA R tk44 ta44 ts44 R R (sN (oLdA R tk44 ta44 ts44 R R (sN (oEqA R R (ae44 p0 p1) (sAb R zS))))))) (LH.ret ?_))))
  obtain rfl:=oI h
  exact retE (aT Tryz.results92) (lrT R (lr0 ⟨memN mN,R,prK R,Sub.rfl⟩))

theorem q179q {F:Nat} {p0:List Gq5} {r:List Gq5 × Int} (h:q124q F p0=some r):LCall Tryz.prog 47 [.lst 8 (List.map Gq5.lv p0)] (Mem.of []) (.tup [.lst 8 (List.map Gq5.lv r.1),.I r.2]) (Mem.of []):=by
  unfold q124q at h
  refine bodyT Tryz.func47 R (nT Tryz.ntmps47 R) (LH.wk (Wk.eq (el:=[(0,.lst 8 (List.map Gq5.lv p0))]) (ml:=[]) R R R R) (LH.seqT [(0,.lst 8 (List.map Gq5.lv p0))] [] R (sAn R (sAi R zS)) ?_))
  obtain ⟨r1,hr1,h⟩:=bindS h
  refine LH.seqT [(0,.lst 8 (List.map Gq5.lv p0)),(4,.L r1.1),(5,.I r1.2)] [] R (sMl R (sN (oCP (args:=[.lst 8 (List.map Gq5.lv p0),.fn 91 [],.fn 92 []]) R isF90 R (sbR (sbR (sbR sbN))) (q153q (p1_f:=91) (p1_c:=[]) isF91 R (fun _ _ h=>q174q h) (p2_f:=92) (p2_c:=[]) isF92 R (fun _ _ _ h=>q204q h) hr1) R (sMt R (sN (oEx R R (sN (oEx R R (sAl R (sAi R zS)))))))))) (LH.seq (LH.seqT [(0,.lst 8 (List.map Gq5.lv p0)),(4,.L r1.1),(5,.I r1.2),(15,.bool (r1.2 != 0))] [] R (sMi R (sN (oNe R R zS))) (LH.cond (t:=(r1.2 != 0)) R (fun hc2=>?_) (fun hc2=>?_))))
  ·replace h:=iteT h hc2
   refine LH.seqT [(2,.nil),(3,.I r1.2)] [] R (sMi R (sAn R (sAi R zS))) (LH.ret (thenR ?_))
   obtain rfl:=oI h
   exact retE (aT Tryz.results47) (lrT R (lrT R (lr0 ⟨memN mN,R,prK R,(Sub.tup (sbL (sbR sbN)))⟩)))
  replace h:=iteF h hc2
  refine LH.skip (thenN ?_)
  obtain ⟨v3,hv3,h⟩:=bindS h
  refine LH.seqT [(0,.lst 8 (List.map Gq5.lv p0)),(4,.L r1.1),(6,.arr 119 (List.length v3))] [(119,.arr 44 8 (List.map Gq5.lv v3))] R (sMl R (sN (oLnL (f:=LV.I) te22 R (sN (oMk (f:=Gq5.lv) (z:=(Gq5.mk (Gq10.mk 0 0 0) 0 (Gq4.mk 0 0 0) 0)) (id:=119) R te28 tz44 tr44 ts44 R R R hv3 R (sAa R zS)))))) (LH.seq (LH.seqT [(0,.lst 8 (List.map Gq5.lv p0)),(6,.arr 119 (List.length v3)),(20,.L r1.1),(21,.I (r1.1.length:Int)),(22,.I 0)] [(119,.arr 44 8 (List.map Gq5.lv v3))] R (sMl R (sN (oLnL (f:=LV.I) te22 R (sMi R zS)))) (LH.block (LH.loop (fun n e m=>∃ (n4:Int) (l5:List Gq5),q29q p0 r1 n n4 l5=some r∧e=Env.of [(0,.lst 8 (List.map Gq5.lv p0)),(6,.arr 119 (List.length l5)),(20,.L r1.1),(21,.I (r1.1.length:Int)),(22,.I n4)]∧m=Mem.of [(119,.arr 44 8 (List.map Gq5.lv l5))]) F ⟨0,v3,h,R,R⟩ ?_))))
  clear h
  rintro n e m ⟨n4,l5,h,rfl,rfl⟩
  rcases n with _ | n
  · cases (show Option.none=some _ from h)
  obtain ⟨rec1,hrec1⟩:∃ f,f=q29q p0 r1 n:=⟨_,rfl⟩
  replace h:q41q p0 r1 rec1 n4 l5=some r:=hrec1 ▸ h
  unfold q41q at h
  refine LH.seqT [(0,.lst 8 (List.map Gq5.lv p0)),(6,.arr 119 (List.length l5)),(20,.L r1.1),(21,.I (r1.1.length:Int)),(22,.I n4),(23,.bool (decide (n4<(r1.1.length:Int))))] [(119,.arr 44 8 (List.map Gq5.lv l5))] R (sN (oLt R R zS)) (LH.seq (LH.cond (t:=(decide (n4<(r1.1.length:Int)))) R (fun hc6=>?_) (fun hc6=>?_)))
  ·replace h:=iteT h hc6
   refine LH.skip (thenN (LH.wk (Wk.eq (el:=[(0,.lst 8 (List.map Gq5.lv p0)),(6,.arr 119 (List.length l5)),(20,.L r1.1),(21,.I (r1.1.length:Int)),(22,.I n4)]) (ml:=[(119,.arr 44 8 (List.map Gq5.lv l5))]) R R R R) (LH.seq (LH.block ?_))))
   obtain ⟨x7,hx7,h⟩:=bindS h
   refine LH.seqT [(0,.lst 8 (List.map Gq5.lv p0)),(6,.arr 119 (List.length l5)),(7,.I n4),(8,.I x7),(20,.L r1.1),(21,.I (r1.1.length:Int)),(22,.I n4)] [(119,.arr 44 8 (List.map Gq5.lv l5))] R (sMi R (sN (oIx (f:=LV.I) te22 tk3 ts3 R R okI hx7 R (sN (oLd R tk3 ta3 (sAi R (sAi R zS))))))) ?_
   obtain ⟨x8,hx8,h⟩:=bindS h
   obtain ⟨x9,hx9,h⟩:=bindS h
   refine LH.loneT [(0,.lst 8 (List.map Gq5.lv p0)),(6,.arr 119 (List.length (l5.set n4.toNat x8))),(20,.L r1.1),(21,.I (r1.1.length:Int)),(22,.I n4)] [(119,.arr 44 8 (List.map Gq5.lv (l5.set n4.toNat x8)))] R (sMa R (sMi R (sMl R (sMi R (sN (oIx (f:=Gq5.lv) te28 tk44 ts44 R R Gq5.ok hx8 R (sN (oLdA R tk44 ta44 ts44 R R (sN (oIxA (f:=Gq5.lv) te28 tk44 ts44 R R R hx9 (s_ (oStE (f:=Gq5.lv) (z':=x8) R R R R tk44 ts44 R (idxOk hx9).2 R (s0 (Wk.to (eC R (eC (congrArg (LV.arr 119) (by simp)) (eC R (eC R (eC R eN))))) ⟨R,trivial⟩ R (prK R))))))))))))))) (blockN (thenN (LH.loneT [(0,.lst 8 (List.map Gq5.lv p0)),(6,.arr 119 (List.length (l5.set n4.toNat x8))),(20,.L r1.1),(21,.I (r1.1.length:Int)),(22,.I (i64 (n4+1)))] [(119,.arr 44 8 (List.map Gq5.lv (l5.set n4.toNat x8)))] R (sN (oAdd R R (sMi R zS))) ?_)))
   exact roundI ⟨(i64 (n4+1)),(l5.set n4.toNat x8),hrec1 ▸ h,R,R⟩ (Wk.eq R R R R)
  replace h:=iteF h hc6
  refine LH.exit (thenX (roundX (blockH (thenN (LH.wk ((Wk.trans (Wk.eq (el:=[(6,.arr 119 (List.length l5))]) (ml:=[(119,.arr 44 8 (List.map Gq5.lv l5))]) R R R R) (Wk.trans (Wk.frzL (f:=Gq5.lv) (el':=[(6,.lst 8 (List.map Gq5.lv l5))]) 119 44 8 l5 R R (prN R) (fZ fN)) (Wk.eq (el:=[(6,.lst 8 (List.map Gq5.lv l5))]) (ml:=[]) R R R R)))) (LH.seqT [(2,.lst 8 (List.map Gq5.lv l5)),(3,.I 0)] [] R (sMl R (sAl R (sAi R zS))) (LH.ret ?_)))))))
  obtain rfl:=oI h
  exact retE (aT Tryz.results47) (lrT R (lrT R (lr0 ⟨memN mN,R,prK R,(Sub.tup (sbR (sbR sbN)))⟩)))

theorem q162q {p0:Int} {r:Bool} (h:q104q p0=some r):LCall Tryz.prog 158 [.I p0] (Mem.of []) (.bool r) (Mem.of []):=by
  unfold q104q at h
  refine bodyT Tryz.func158 R (nT Tryz.ntmps158 R) (LH.wk (Wk.eq (el:=[(0,.I p0)]) (ml:=[]) R R R R) (LH.seqT [(0,.I p0)] [] R (sAb R zS) (LH.seqT [(2,.bool ((decide (p0 ≥ 1)) && (decide (p0≤99))))] [] R ?_ ?_)))
  ·refine sMi R (sN (oGe R R (sMb R ?_)))
   by_cases hb2:(decide (p0 ≥ 1))=true
   ·exact sT R (cB hb2) (oM (v:=(.int _ _)) R (sT R (cB hb2) (oLe R R (sN (oPkT (cB hb2) (v:=(.bool _)) R (sAb R (s0 (Wk.to (eC (cB (andT hb2)) eN) mN R (prK R)))))))))
   ·replace hb2:=bF hb2
    exact sF R R hb2 (sF R R hb2 (sN (oPkF (cB hb2) (v:=(.bool _)) R (sAb R (s0 (Wk.to (eC (cB (andF hb2)) eN) mN R (prK R)))))))
  refine LH.ret ?_
  obtain rfl:=oI h
  exact retE (aT Tryz.results158) (lrT R (lr0 ⟨memN mN,R,prK R,Sub.rfl⟩))

theorem q157q {p0:Gq4} {r:Bool} (h:q52q p0=some r):LCall Tryz.prog 157 [.agg [.I p0.Candidate,.I p0.Centre,.I p0.Paper]] (Mem.of []) (.bool r) (Mem.of []):=by
  unfold q52q at h
  refine bodyT Tryz.func157 R (nT Tryz.ntmps157 R) (LH.wk (Wk.eq (el:=[(0,.agg [.I p0.Candidate,.I p0.Centre,.I p0.Paper])]) (ml:=[]) R R R R) (LH.seqT [(1,.sptr [.I p0.Candidate,.I p0.Centre,.I p0.Paper])] [] R (sB (oBxR R R R R (sAb R zS))) ?_))
  obtain ⟨w2,hv,h⟩:=bindS h
  refine LH.seqT [(2,.bool w2)] [] R ?_ ?_
  ·refine sN (oFaS tf42_0 tk3 ts3 R R R (sN (oLd R tk3 ta3 (sN (oGe R R (sMb R ?_))))))
   by_cases hb3:(decide (p0.Candidate ≥ 0))=true
   ·replace hv:=iteT hv hb3
    refine sT R (cB hb3) (oFaS tf42_0 tk3 ts3 R R R (sT R (cB hb3) (oLd R tk3 ta3 (sT R (cB hb3) (oLe R R (sN (oPkT (cB hb3) (v:=(.bool _)) R (sMb R ?_))))))))
    by_cases hb4:(decide (p0.Candidate≤9999))=true
    ·replace hv:=iteT hv hb4
     refine sT R (cB hb4) (oFaS tf42_1 tk3 ts3 R R R (sT R (cB hb4) (oLd R tk3 ta3 ?_)))
     obtain ⟨r5,hr5,hv⟩:=bindS hv
     refine sT R (cB hb4) (oCP (args:=[.I p0.Centre]) R isF158 R (sbR sbN) (q162q hr5) R (sN (oPkT (cB hb4) (v:=(.bool _)) R (sMb R ?_))))
     by_cases hb6:r5=true
     ·replace hv:=iteT hv hb6
      refine sT R (cB hb6) (oFaS tf42_2 tk3 ts3 R R R (sT R (cB hb6) (oLd R tk3 ta3 (sT R (cB hb6) (oGe R R (sN (oPkT (cB hb6) (v:=(.bool _)) R (sMb R ?_))))))))
      by_cases hb7:(decide (p0.Paper ≥ 0))=true
      ·replace hv:=iteT hv hb7
       refine sT R (cB hb7) (oFaS tf42_2 tk3 ts3 R R R (sT R (cB hb7) (oLd R tk3 ta3 (sT R (cB hb7) (oLe R R (sN (oPkT (cB hb7) (v:=(.bool _)) R (sAb R ?_))))))))
       obtain rfl:=oI hv
       exact zS
      ·replace hb7:=bF hb7
       replace hv:=iteF hv hb7
       refine sF R R hb7 (sF R R hb7 (sF R R hb7 (sN (oPkF (cB hb7) (v:=(.bool _)) R (sAb R ?_)))))
       obtain rfl:=oI hv
       exact zS
     ·replace hb6:=bF hb6
      replace hv:=iteF hv hb6
      refine sF R R hb6 (sF R R hb6 (sF R R hb6 (sN (oPkF (cB hb6) (v:=(.bool _)) R (sMb R (sF R R R (sF R R R (sF R R R (sN (oPkF R (v:=(.bool _)) R (sAb R ?_)))))))))))
      obtain rfl:=oI hv
      exact zS
    ·replace hb4:=bF hb4
     replace hv:=iteF hv hb4
     refine sF R R hb4 (sF R R hb4 (sF R R hb4 (sN (oPkF (cB hb4) (v:=(.bool _)) R (sMb R (sF R R R (sF R R R (sF R R R (sN (oPkF R (v:=(.bool _)) R (sMb R (sF R R R (sF R R R (sF R R R (sN (oPkF R (v:=(.bool _)) R (sAb R ?_)))))))))))))))))
     obtain rfl:=oI hv
     exact zS
   ·replace hb3:=bF hb3
    replace hv:=iteF hv hb3
    refine sF R R hb3 (sF R R hb3 (sF R R hb3 (sN (oPkF (cB hb3) (v:=(.bool _)) R (sMb R (sF R R R (sF R R R (sF R R R (sN (oPkF R (v:=(.bool _)) R (sMb R (sF R R R (sF R R R (sF R R R (sN (oPkF R (v:=(.bool _)) R (sMb R (sF R R R (sF R R R (sF R R R (sN (oPkF R (v:=(.bool _)) R (sAb R ?_)))))))))))))))))))))))
    obtain rfl:=oI hv
    exact zS
  clear hv
  refine LH.ret ?_
  obtain rfl:=oI h
  exact retE (aT Tryz.results157) (lrT R (lr0 ⟨memN mN,R,prK R,Sub.rfl⟩))

theorem q177q {p0:Gq5} {r:Bool} (h:q113q p0=some r):LCall Tryz.prog 93 [Gq5.lv p0] (Mem.of []) (.bool r) (Mem.of []):=by
  unfold q113q at h
  refine bodyT Tryz.func93 R (nT Tryz.ntmps93 R) (LH.wk (Wk.eq (el:=[(0,Gq5.lv p0)]) (ml:=[]) R R R R) (LH.seqT [(1,.sptr (Gq5.lv p0).cells)] [] R (sB (oBxR R R R R (sAb R zS))) (LH.seq (LH.seqT [(1,.sptr (Gq5.lv p0).cells),(4,.I p0.Kind)] [] R (sN (oFaS tf44_1 tk3 ts3 R R R (sN (oLd R tk3 ta3 zS)))) (LH.block (LH.mid (fun e m=>∃ (b1:Bool),q48q p0 b1=some r∧Wk (fun id=>Mem.of [] id ≠ .none) e m (Env.of [(1,.sptr (Gq5.lv p0).cells),(4,.I p0.Kind),(5,.bool b1)]) (Mem.of [])) ?_ ?_))))))
  ·refine LH.seqT [(1,.sptr (Gq5.lv p0).cells),(4,.I p0.Kind),(5,.bool (p0.Kind == 1))] [] R (sN (oEq R R (sAb R zS))) (LH.cond (t:=(p0.Kind == 1)) R (fun hc11=>?_) (fun hc11=>?_))
   ·replace h:=iteT h hc11
    exact LH.skip (thenN ⟨(p0.Kind == 1),h,Wk.eq R R R R⟩)
   replace h:=iteF h hc11
   exact LH.loneT [(1,.sptr (Gq5.lv p0).cells),(4,.I p0.Kind),(5,.bool (p0.Kind == 2))] [] R (sN (oEq R R (sAb R zS))) (thenN ⟨(p0.Kind == 2),h,Wk.eq R R R R⟩)
  clear h
  rintro e m ⟨b1,h,hw⟩
  refine LH.wk hw ?_
  clear hw
  unfold q48q at h
  refine LH.cond (t:=b1) R (fun hc2=>?_) (fun hc2=>?_)
  ·replace h:=iteT h hc2
   obtain ⟨r3,hr3,h⟩:=bindS h
   refine LH.seqT [(2,.bool r3)] [] R (sN (oFaS tf44_2 tk42 ts42 R R R (sN (oLdA R tk42 ta42 ts42 R R (sN (oCP (args:=[.agg [.I p0.Entry.Candidate,.I p0.Entry.Centre,.I p0.Entry.Paper]]) R isF157 R (sbR sbN) (q157q hr3) R (sAb R zS))))))) (LH.ret (blockR (thenR ?_)))
   obtain rfl:=oI h
   exact retE (aT Tryz.results93) (lrT R (lr0 ⟨memN mN,R,prK R,Sub.rfl⟩))
  replace h:=iteF h hc2
  refine LH.seqT [(1,.sptr (Gq5.lv p0).cells),(11,.bool (p0.Kind == 3))] [] R (sN (oEq R R (sAb R zS))) (LH.cond (t:=(p0.Kind == 3)) R (fun hc4=>?_) (fun hc4=>?_))
  ·replace h:=iteT h hc4
   obtain ⟨w6,hv,h⟩:=bindS h
   refine LH.seqT [(2,.bool w6)] [] R ?_ ?_
   ·refine sN (oFaS tf44_2 tk42 ts42 R R R (sN (oLdA R tk42 ta42 ts42 R R ?_)))
    obtain ⟨r7,hr7,hv⟩:=bindS hv
    refine sN (oCP (args:=[.agg [.I p0.Entry.Candidate,.I p0.Entry.Centre,.I p0.Entry.Paper]]) R isF157 R (sbR sbN) (q157q hr7) R (sMb R ?_))
    by_cases hb8:r7=true
    ·replace hv:=iteT hv hb8
     refine sT R (cB hb8) (oFaS tf44_3 tk3 ts3 R R R (sT R (cB hb8) (oLd R tk3 ta3 ?_)))
     obtain ⟨r9,hr9,hv⟩:=bindS hv
     refine sT R (cB hb8) (oCP (args:=[.I p0.To]) R isF158 R (sbR sbN) (q162q hr9) R (sN (oPkT (cB hb8) (v:=(.bool _)) R (sMb R ?_))))
     by_cases hb10:r9=true
     ·replace hv:=iteT hv hb10
      refine sT R (cB hb10) (oFaS tf44_3 tk3 ts3 R R R (sT R (cB hb10) (oLd R tk3 ta3 (sT R (cB hb10) (oFaS tf44_2 tk42 ts42 R R R (sT R (cB hb10) (oFaS tf42_1 tk3 ts3 R R R (sT R (cB hb10) (oLd R tk3 ta3 (sT R (cB hb10) (oNe R R (sN (oPkT (cB hb10) (v:=(.bool _)) R (sAb R ?_))))))))))))))
      obtain rfl:=oI hv
      exact zS
     ·replace hb10:=bF hb10
      replace hv:=iteF hv hb10
      refine sF R R hb10 (sF R R hb10 (sF R R hb10 (sF R R hb10 (sF R R hb10 (sF R R hb10 (sN (oPkF (cB hb10) (v:=(.bool _)) R (sAb R ?_))))))))
      obtain rfl:=oI hv
      exact zS
    ·replace hb8:=bF hb8
     replace hv:=iteF hv hb8
     refine sF R R hb8 (sF R R hb8 (sF R R hb8 (sN (oPkF (cB hb8) (v:=(.bool _)) R (sMb R (sF R R R (sF R R R (sF R R R (sF R R R (sF R R R (sF R R R (sN (oPkF R (v:=(.bool _)) R (sAb R ?_))))))))))))))
     obtain rfl:=oI hv
     exact zS
   clear hv
   refine LH.ret (blockR (thenR ?_))
   obtain rfl:=oI h
   exact retE (aT Tryz.results93) (lrT R (lr0 ⟨memN mN,R,prK R,Sub.rfl⟩))
  replace h:=iteF h hc4
  refine LH.skip (blockN (thenN (LH.seqT [(2,.bool false)] [] R (sAb R zS) (LH.ret ?_))))
  obtain rfl:=oI h
  exact retE (aT Tryz.results93) (lrT R (lr0 ⟨memN mN,R,prK R,Sub.rfl⟩))

theorem q89q {F:Nat} {p0:List Gq3} {p1:Gq4} {p2:(Gq3→Gq4→Option Int)} {r:Int × Bool} {p2_f:Nat} {p2_c:List LV} (p2_i:IsF Tryz.prog p2_f) (p2_q:LV.pureL p2_c=true) (p2_k:∀ (x0:Gq3) (x1:Gq4) (q:Int),p2 x0 x1=some q→LCall Tryz.prog p2_f ([.agg [.I x0.Entry.Candidate,.I x0.Entry.Centre,.I x0.Entry.Paper,.bool x0.Late],.agg [.I x1.Candidate,.I x1.Centre,.I x1.Paper]]++p2_c) (Mem.of []) (.I q) (Mem.of [])) (h:q2q F p0 p1 p2=some r):LCall Tryz.prog 94 [.lst 4 (List.map Gq3.lv p0),.agg [.I p1.Candidate,.I p1.Centre,.I p1.Paper],.fn p2_f p2_c] (Mem.of []) (.tup [.I r.1,.bool r.2]) (Mem.of []):=by
  have p2_p:∀ {l:List LV},LV.pureL l=true→LV.pureL (l++p2_c)=true:=pnC p2_q
  have p2_r:LV.refsL p2_c=[]:=refsL_pure p2_q
  unfold q2q at h
  refine bodyT Tryz.func94 R (nT Tryz.ntmps94 R) (LH.wk (Wk.to (el:=[(0,.lst 4 (List.map Gq3.lv p0)),(1,.agg [.I p1.Candidate,.I p1.Centre,.I p1.Paper]),(2,.fn p2_f p2_c)]) (ml:=[]) (eQ ⟨R,R,R,trivial⟩) mN (by simp [keptRefs,LV.refs,LV.refsL,LV.cells,lev,Env.args,Env.of,Env.put,Env.drop,p2_r]) (prK R)) (LH.seqT [(0,.lst 4 (List.map Gq3.lv p0)),(2,.fn p2_f p2_c),(4,.sptr [.I p1.Candidate,.I p1.Centre,.I p1.Paper])] [] R (sB (oBxR R R R R (sAi R (sAb R (s0 (Wk.to (eQ ⟨R,R,R,trivial⟩) mN (by simp [keptRefs,LV.refs,LV.refsL,LV.cells,lev,Env.args,Env.of,Env.put,Env.drop,p2_r]) (prK R))))))) (LH.seqT [(0,.lst 4 (List.map Gq3.lv p0)),(2,.fn p2_f p2_c),(4,.sptr [.I p1.Candidate,.I p1.Centre,.I p1.Paper]),(8,.I (p0.length:Int))] [] R (sMl R (sN (oLnL (f:=Gq3.lv) te47 R (sAi R (s0 (Wk.to (eQ ⟨R,R,R,R,trivial⟩) mN (by simp [keptRefs,LV.refs,LV.refsL,LV.cells,lev,Env.args,Env.of,Env.put,Env.drop,p2_r]) (prK R))))))) (LH.seqT [(0,.lst 4 (List.map Gq3.lv p0)),(2,.fn p2_f p2_c),(4,.sptr [.I p1.Candidate,.I p1.Centre,.I p1.Paper]),(8,.I (p0.length:Int)),(9,.I 0),(10,.I (p0.length:Int))] [] R (sMi R (sAi R (sAi R (s0 (Wk.to (eQ ⟨R,R,R,R,R,R,trivial⟩) mN (by simp [keptRefs,LV.refs,LV.refsL,LV.cells,lev,Env.args,Env.of,Env.put,Env.drop,p2_r]) (prK R)))))) (LH.seq (LH.block (LH.loop (fun n e m=>∃ (n1:Int) (n2:Int),q1q p0 p1 p2 n n1 n2=some r∧e=Env.of [(0,.lst 4 (List.map Gq3.lv p0)),(2,.fn p2_f p2_c),(4,.sptr [.I p1.Candidate,.I p1.Centre,.I p1.Paper]),(8,.I (p0.length:Int)),(9,.I n1),(10,.I n2)]∧m=Mem.of []) F ⟨0,(p0.length:Int),h,R,R⟩ ?_)))))))
  clear h
  rintro n e m ⟨n1,n2,h,rfl,rfl⟩
  rcases n with _ | n
  · cases (show Option.none=some _ from h)
  obtain ⟨rec1,hrec1⟩:∃ f,f=q1q p0 p1 p2 n:=⟨_,rfl⟩
  replace h:q3q p0 p1 p2 rec1 n1 n2=some r:=hrec1 ▸ h
  unfold q3q at h
  refine LH.seq (LH.seqT [(0,.lst 4 (List.map Gq3.lv p0)),(2,.fn p2_f p2_c),(4,.sptr [.I p1.Candidate,.I p1.Centre,.I p1.Paper]),(8,.I (p0.length:Int)),(9,.I n1),(10,.I n2),(17,.bool (decide (n1<n2)))] [] R (sMi R (sMi R (sN (oLt R R (s0 (Wk.to (eQ ⟨R,R,R,R,R,R,R,trivial⟩) mN (by simp [keptRefs,LV.refs,LV.refsL,LV.cells,lev,Env.args,Env.of,Env.put,Env.drop,p2_r]) (prK R))))))) (LH.cond (t:=(decide (n1<n2))) R (fun hc3=>?_) (fun hc3=>?_)))
  ·replace h:=iteT h hc3
   refine LH.skip (thenN (LH.wk (Wk.to (el:=[(0,.lst 4 (List.map Gq3.lv p0)),(2,.fn p2_f p2_c),(4,.sptr [.I p1.Candidate,.I p1.Centre,.I p1.Paper]),(8,.I (p0.length:Int)),(9,.I n1),(10,.I n2)]) (ml:=[]) (eQ ⟨R,R,R,R,R,R,trivial⟩) mN (by simp [keptRefs,LV.refs,LV.refsL,LV.cells,lev,Env.args,Env.of,Env.put,Env.drop,p2_r]) (prK R)) (LH.block (LH.seqT [(0,.lst 4 (List.map Gq3.lv p0)),(2,.fn p2_f p2_c),(4,.sptr [.I p1.Candidate,.I p1.Centre,.I p1.Paper]),(8,.I (p0.length:Int)),(9,.I n1),(10,.I n2),(11,.I (i64 (shrI .u64 (IntKind.u64.wrap (i64 (n1+n2))) 1)))] [] R (sMi R (sMi R (sN (oAdd R R (sN (oCv tk3 ti213 R (sX ((ok_shr R R (by decide)).ok) (sN (oCv tk213 ti3 R (sAi R (s0 (Wk.to (eQ ⟨R,R,R,R,R,R,R,trivial⟩) mN (by simp [keptRefs,LV.refs,LV.refsL,LV.cells,lev,Env.args,Env.of,Env.put,Env.drop,p2_r]) (prK R))))))))))))) ?_))))
   obtain ⟨x4,hx4,h⟩:=bindS h
   obtain ⟨r5,hr5,h⟩:=bindS h
   refine LH.seqJM mixed [] [0,0,0,0,0,0,0,0] [(0,.lst 4 (List.map Gq3.lv p0)),(2,.fn p2_f p2_c),(4,.sptr [.I p1.Candidate,.I p1.Centre,.I p1.Paper]),(8,.I (p0.length:Int)),(9,.I n1),(10,.I n2),(11,.I (i64 (shrI .u64 (IntKind.u64.wrap (i64 (n1+n2))) 1))),(31,.bool (decide (r5<0)))] [] R R (by kernel_rfl) ?_ ?_
   ·refine mMf R (mMl R (mMi R (mN0 (oIx (f:=Gq3.lv) te47 tk58 ts58 R R Gq3.ok hx4 R ⟨R,mN0 (oLdA R tk58 ta58 ts58 R R ⟨R,mN0 (oLdA R tk42 ta42 ts42 R R ⟨R,mN0 (oCP (args:=[.agg [.I x4.Entry.Candidate,.I x4.Entry.Centre,.I x4.Entry.Paper,.bool x4.Late],.agg [.I p1.Candidate,.I p1.Centre,.I p1.Paper]]++p2_c) (args':=[.agg [.I x4.Entry.Candidate,.I x4.Entry.Centre,.I x4.Entry.Paper,.bool x4.Late],.agg [.I p1.Candidate,.I p1.Centre,.I p1.Paper]]++p2_c) R p2_i R SubL.rfl (p2_k _ _ _ hr5) (p2_p R) ⟨R,?_⟩)⟩)⟩)⟩))))
    exact mN0 (oLt R R ⟨R,m0 (Wk.to (eQ ⟨R,R,R,R,R,R,R,R,trivial⟩) mN (by simp [keptRefs,LV.refs,LV.refsL,LV.cells,lev,Env.args,Env.of,Env.put,Env.drop,p2_r]) (prK R))⟩)
   refine LH.cond (t:=(decide (r5<0))) R (fun hc6=>?_) (fun hc6=>?_)
   ·replace h:=iteT h hc6
    refine LH.loneT [(0,.lst 4 (List.map Gq3.lv p0)),(2,.fn p2_f p2_c),(4,.sptr [.I p1.Candidate,.I p1.Centre,.I p1.Paper]),(8,.I (p0.length:Int)),(9,.I (i64 ((i64 (shrI .u64 (IntKind.u64.wrap (i64 (n1+n2))) 1))+1))),(10,.I n2)] [] R (sMi R (sN (oAdd R R (sAi R (s0 (Wk.to (eQ ⟨R,R,R,R,R,R,trivial⟩) mN (by simp [keptRefs,LV.refs,LV.refsL,LV.cells,lev,Env.args,Env.of,Env.put,Env.drop,p2_r]) (prK R))))))) (blockN ?_)
    exact roundI ⟨(i64 ((i64 (shrI .u64 (IntKind.u64.wrap (i64 (n1+n2))) 1))+1)),n2,hrec1 ▸ h,R,R⟩ (Wk.to (eQ ⟨R,R,R,R,R,R,trivial⟩) mN (by simp [keptRefs,LV.refs,LV.refsL,LV.cells,lev,Env.args,Env.of,Env.put,Env.drop,p2_r]) (prK R))
   replace h:=iteF h hc6
   refine LH.loneT [(0,.lst 4 (List.map Gq3.lv p0)),(2,.fn p2_f p2_c),(4,.sptr [.I p1.Candidate,.I p1.Centre,.I p1.Paper]),(8,.I (p0.length:Int)),(9,.I n1),(10,.I (i64 (shrI .u64 (IntKind.u64.wrap (i64 (n1+n2))) 1)))] [] R (sMi R (sAi R (s0 (Wk.to (eQ ⟨R,R,R,R,R,R,trivial⟩) mN (by simp [keptRefs,LV.refs,LV.refsL,LV.cells,lev,Env.args,Env.of,Env.put,Env.drop,p2_r]) (prK R))))) (blockN ?_)
   exact roundI ⟨n1,(i64 (shrI .u64 (IntKind.u64.wrap (i64 (n1+n2))) 1)),hrec1 ▸ h,R,R⟩ (Wk.to (eQ ⟨R,R,R,R,R,R,trivial⟩) mN (by simp [keptRefs,LV.refs,LV.refsL,LV.cells,lev,Env.args,Env.of,Env.put,Env.drop,p2_r]) (prK R))
  replace h:=iteF h hc3
  refine LH.exit (thenX (roundX (blockH (thenN ?_))))
  obtain ⟨w8,hv,h⟩:=bindS h
  refine LH.seqJM mixed [] [0,0,0,0,0,0,0,0,0,0,0,0,0,0,0,0] [(6,.I n1),(7,.bool w8)] [] R R (by kernel_rfl) ?_ ?_
  ·refine mMi R (mMi R (mMi R (mN0 (oLt R R ⟨R,mMb R ?_⟩))))
   by_cases hb9:(decide (n1<(p0.length:Int)))=true
   ·replace hv:=iteT hv hb9
    refine mT R (cB hb9) (mMf R (mT R (cB hb9) (mMl R (mT R (cB hb9) (mMi R ?_)))))
    obtain ⟨x10,hx10,hv⟩:=bindS hv
    refine mT R (cB hb9) (mN0 (oIx (f:=Gq3.lv) te47 tk58 ts58 R R Gq3.ok hx10 R ⟨R,mT R (cB hb9) (mN0 (oLdA R tk58 ta58 ts58 R R ⟨R,mT R (cB hb9) (mN0 (oLdA R tk42 ta42 ts42 R R ⟨R,?_⟩))⟩))⟩))
    obtain ⟨r11,hr11,hv⟩:=bindS hv
    refine mT R (cB hb9) (mN0 (oCP (args:=[.agg [.I x10.Entry.Candidate,.I x10.Entry.Centre,.I x10.Entry.Paper,.bool x10.Late],.agg [.I p1.Candidate,.I p1.Centre,.I p1.Paper]]++p2_c) (args':=[.agg [.I x10.Entry.Candidate,.I x10.Entry.Centre,.I x10.Entry.Paper,.bool x10.Late],.agg [.I p1.Candidate,.I p1.Centre,.I p1.Paper]]++p2_c) R p2_i R SubL.rfl (p2_k _ _ _ hr11) (p2_p R) ⟨R,?_⟩))
    refine mT R (cB hb9) (mN0 (oEq R R ⟨R,mN0 (oPkT (cB hb9) (v:=(.bool _)) R ⟨R,mAi R (mAb R ?_)⟩)⟩))
    obtain rfl:=oI hv
    exact m0 (Wk.to (eQ ⟨R,R,trivial⟩) mN (by simp [keptRefs,LV.refs,LV.refsL,LV.cells,lev,Env.args,Env.of,Env.put,Env.drop,p2_r]) (prK R))
   ·replace hb9:=bF hb9
    replace hv:=iteF hv hb9
    refine mF R R hb9 (mF R R hb9 (mF R R hb9 (mF R R hb9 (mF R R hb9 (mF R R hb9 (mF R R hb9 (mF R R hb9 (mN0 (oPkF (cB hb9) (v:=(.bool _)) R ⟨R,mAi R (mAb R ?_)⟩)))))))))
    obtain rfl:=oI hv
    exact m0 (Wk.to (eQ ⟨R,R,trivial⟩) mN (by simp [keptRefs,LV.refs,LV.refsL,LV.cells,lev,Env.args,Env.of,Env.put,Env.drop,p2_r]) (prK R))
  clear hv
  refine LH.ret ?_
  obtain rfl:=oI h
  exact retE (aT Tryz.results94) (lrT R (lrT R (lr0 ⟨memN mN,R,prK R,(Sub.tup (sbR (sbR sbN)))⟩)))

theorem q190q {F:Nat} {p0:Gq3} {p1:Gq4} {r:Int} (h:q87q F p0 p1=some r):LCall Tryz.prog 95 [Gq3.lv p0,.agg [.I p1.Candidate,.I p1.Centre,.I p1.Paper]] (Mem.of []) (.I r) (Mem.of []):=by
  unfold q87q at h
  refine bodyT Tryz.func95 R (nT Tryz.ntmps95 R) (LH.wk (Wk.eq (el:=[(0,Gq3.lv p0),(1,.agg [.I p1.Candidate,.I p1.Centre,.I p1.Paper])]) (ml:=[]) R R R R) (LH.seqT [(2,.sptr (Gq3.lv p0).cells),(3,.sptr [.I p1.Candidate,.I p1.Centre,.I p1.Paper])] [] R (sB (oBxR R R R R (sB (oBxR R R R R (sAi R zS))))) ?_))
  obtain ⟨r1,hr1,h⟩:=bindS h
  obtain ⟨r2,hr2,h⟩:=bindS h
  obtain ⟨r3,hr3,h⟩:=bindS h
  refine LH.seqJM mixed [] [0,0,0,0,0,0,0,0,0,0,0,0,0,0,0] [(4,.I r3)] [] R R (by kernel_rfl) ?_ ?_
  ·exact mN0 (oFaS tf58_0 tk42 ts42 R R R ⟨R,mN0 (oFaS tf42_0 tk3 ts3 R R R ⟨R,mN0 (oLd R tk3 ta3 ⟨R,mN0 (oFaS tf42_0 tk3 ts3 R R R ⟨R,mN0 (oLd R tk3 ta3 ⟨R,mN0 (oCP (args:=[.I p0.Entry.Candidate,.I p1.Candidate]) R isF160 R (sbR (sbR sbN)) (cmp_Compare_int_ok hr1) R ⟨R,mN0 (oFaS tf58_0 tk42 ts42 R R R ⟨R,mN0 (oFaS tf42_2 tk3 ts3 R R R ⟨R,mN0 (oLd R tk3 ta3 ⟨R,mN0 (oFaS tf42_2 tk3 ts3 R R R ⟨R,mN0 (oLd R tk3 ta3 ⟨R,mN0 (oCP (args:=[.I p0.Entry.Paper,.I p1.Paper]) R isF160 R (sbR (sbR sbN)) (cmp_Compare_int_ok hr2) R ⟨R,mN0 (oBS (f:=LV.I) (ys:=[r1,r2]) te22 tr3 ts3 R R R okI ⟨R,mN0 (oCP (args:=[.L [r1,r2]]) R isF159 R (sbR sbN) (cmp_Or_int_ok hr3) R ⟨R,mAi R zM⟩)⟩)⟩)⟩)⟩)⟩)⟩)⟩)⟩)⟩)⟩)⟩)⟩)⟩)
  refine LH.ret ?_
  obtain rfl:=oI h
  exact retE (aT Tryz.results95) (lrT R (lr0 ⟨memN mN,R,prK R,Sub.rfl⟩))

end Go.Proofs.YtiinmaihgmfniaaGreat
