import Derived.Test.YtmollikhdbaikaaGreatZLc
import Derived.Test.YtmollikhdbaikaaGreatZLb
import Derived.Test.YtmollikhdbaikaaGreatZRow
import Derived.Test.YtmollikhdbaikaaGreatZFacts
import Derived.Test.YtmollikhdbaikaaGreatZEqs
import Derived.Test.YtmollikhdbaikaaGreatZSort
import Derived.Test.YtmollikhdbaikaaGreatZSh
set_option linter.unusedVariables false
set_option linter.unusedSimpArgs false
set_option maxRecDepth 100000
set_option maxHeartbeats 1000000
namespace Go.Proofs.YtmollikhdbaikaaGreat
open Go.L Go.Sh
theorem q248q {p0:List Int} {r:GTape} (h:make_New p0=some r):LCall Tryz.prog 7 [.L p0] (Mem.of []) (.ptr 110 0) (Mem.of [(110,.box [.L r.L,.I r.At])]):=by
  unfold make_New at h
  refine bodyT Tryz.func7 R (nT Tryz.ntmps7 R) (LH.wk (Wk.eq (el:=[(0,.L p0)]) (ml:=[]) R R R R) (LH.seqT [(0,.L p0)] [] R (sN (oA (v:=.nilp) R zS)) (LH.seq (LH.seqT [(0,.L p0),(5,.bool (decide ((p0.length:Int) > 600)))] [] R (sMl R (sN (oLnL (f:=LV.I) te22 R (sN (oGt R R zS))))) (LH.cond (t:=(decide ((p0.length:Int) > 600))) R (fun hc1=>?_) (fun hc1=>?_))))))
  ·replace h:=iteT h hc1
   obtain ⟨v2,hv2,h⟩:=bindS h
   refine LH.loneT [(0,.L v2)] [] R (sMl R (sN (oSl (f:=LV.I) te22 tk3 ts3 R R R hv2 (sAl R zS)))) (thenN (LH.seqT [(2,.ptr 110 0)] [(110,.box [.L v2,.I 0])] R (sMl R (sN (oBd (vs:=[(0,.L v2)]) tu68 tz68 R (lf tf68_0 ts22 tk22 R R R lf0) (sN (oBx (id:=110) R R R R R R (sAp R zS)))))) (LH.ret ?_)))
   obtain rfl:=oI h
   exact retE (aT Tryz.results7) (lrT R (lr0 ⟨memN (mC R mN),R,prK R,Sub.rfl⟩))
  replace h:=iteF h hc1
  refine LH.skip (thenN (LH.seqT [(2,.ptr 110 0)] [(110,.box [.L p0,.I 0])] R (sMl R (sN (oBd (vs:=[(0,.L p0)]) tu68 tz68 R (lf tf68_0 ts22 tk22 R R R lf0) (sN (oBx (id:=110) R R R R R R (sAp R zS)))))) (LH.ret ?_)))
  obtain rfl:=oI h
  exact retE (aT Tryz.results7) (lrT R (lr0 ⟨memN (mC R mN),R,prK R,Sub.rfl⟩))
theorem q252q {p0:List Int} {r:GTape} (h:make_New p0=some r):LCall Tryz.prog 7 [.L p0] (Mem.of []) (.ptr 7 0) (Mem.of [(7,.box [.L r.L,.I r.At])]):=LCall.renamePtr 7 rfl (q248q h)

theorem Gq30 {p0:GTape} {r:Int × GTape} (h:Gq29 p0=some r):LCall Tryz.prog 50 [.ptr 7 0] (Mem.of [(7,.box [.L p0.L,.I p0.At])]) (.I r.1) (Mem.of [(7,.box [.L r.2.L,.I r.2.At])]):=by
  unfold Gq29 at h
  refine bodyT Tryz.func50 R (nT Tryz.ntmps50 R) (LH.wk (Wk.eq (el:=[(0,.ptr 7 0)]) (ml:=[(7,.box [.L p0.L,.I p0.At])]) R R R R) (LH.seqT [(0,.ptr 7 0)] [(7,.box [.L p0.L,.I p0.At])] R (sAi R zS) (LH.seq (LH.seqJM mixed [] [0,0,0,1007,0,0,0,1007,0,0] [(0,.ptr 7 0),(12,.bool (decide (p0.At ≥ (p0.L.length:Int))))] [(7,.box [.L p0.L,.I p0.At])] R R (by kernel_rfl) (mMp R (mN0 (oNC R ⟨R,mN0 (oFa tf68_1 tk3 ts3 R R ⟨R,mD R R R (fun _ b _ d=>oLdP R b R R tk3 ta3 d) (mMp R (mN0 (oNC R ⟨R,mN0 (oFa tf68_0 tk22 ts22 R R ⟨R,mD R R R (fun _ b _ d=>oLdP R b R R tk22 ta22 d) (mN0 (oLnL (f:=LV.I) te22 R ⟨R,mN0 (oGe R R ⟨R,zM⟩)⟩))⟩)⟩)))⟩)⟩))) (LH.cond (t:=(decide (p0.At ≥ (p0.L.length:Int)))) R (fun hc1=>?_) (fun hc1=>?_))))))
  ·replace h:=iteT h hc1
   refine LH.seqT [(2,.I 0)] [(7,.box [.L p0.L,.I p0.At])] R (sAi R zS) (LH.ret (thenR ?_))
   obtain rfl:=oI h
   exact retE (aT Tryz.results50) (lrT R (lr0 ⟨memN (mC R mN),R,prK R,Sub.rfl⟩))
  replace h:=iteF h hc1
  refine LH.skip (thenN (LH.seqT [(0,.ptr 7 0)] [(7,.box [.L p0.L,.I (i64 (p0.At+1))])] R (sMp R (sN (oNC R (sN (oFa tf68_1 tk3 ts3 R R (sN (oLdP R R R R tk3 ta3 (sN (oAdd R R (sN (oNC R (sN (oFa tf68_1 tk3 ts3 R R (s_ (oSt R R R tk3 ts3 R R R zS))))))))))))))) ?_))
  obtain ⟨x2,hx2,h⟩:=bindS h
  refine LH.seqJM mixed [] [0,0,0,1007,0,0,0,1007,0,0,0,0] [(2,.I x2)] [(7,.box [.L p0.L,.I (i64 (p0.At+1))])] R R (by kernel_rfl) (mMp R (mN0 (oNC R ⟨R,mN0 (oFa tf68_0 tk22 ts22 R R ⟨R,mD R R R (fun _ b _ d=>oLdP R b R R tk22 ta22 d) (mMp R (mN0 (oNC R ⟨R,mN0 (oFa tf68_1 tk3 ts3 R R ⟨R,mD R R R (fun _ b _ d=>oLdP R b R R tk3 ta3 d) (mN0 (oSub R R ⟨R,mN0 (oIx (f:=LV.I) te22 tk3 ts3 R R okI hx2 R ⟨R,mN0 (oLd R tk3 ta3 ⟨R,mAi R zM⟩)⟩)⟩))⟩)⟩)))⟩)⟩))) (LH.ret ?_)
  obtain rfl:=oI h
  exact retE (aT Tryz.results50) (lrT R (lr0 ⟨memN (mC R mN),R,prK R,Sub.rfl⟩))

theorem q251q {p0:Int} {p1:Int} {r:Int} (h:make_Cut p0 p1=some r):LCall Tryz.prog 18 [.I p0,.I p1] (Mem.of []) (.I r) (Mem.of []):=by
  unfold make_Cut at h
  refine bodyT Tryz.func18 R (nT Tryz.ntmps18 R) (LH.wk (Wk.eq (el:=[(0,.I p0),(1,.I p1)]) (ml:=[]) R R R R) (LH.seqT [(0,.I p0),(1,.I p1)] [] R (sAi R zS) (LH.seq (LH.seqT [(0,.I p0),(1,.I p1),(6,.bool (decide (p1<1)))] [] R (sMi R (sN (oLt R R zS))) (LH.cond (t:=(decide (p1<1))) R (fun hc1=>?_) (fun hc1=>?_))))))
  ·replace h:=iteT h hc1
   refine LH.seqT [(4,.I 0)] [] R (sAi R zS) (LH.ret (thenR ?_))
   obtain rfl:=oI h
   exact retE (aT Tryz.results18) (lrT R (lr0 ⟨memN mN,R,prK R,Sub.rfl⟩))
  replace h:=iteF h hc1
  refine LH.skip (thenN ?_)
  obtain ⟨v2,hv2,h⟩:=bindS h
  refine LH.seqT [(0,.I v2),(1,.I p1)] [] R (sMi R (sMi R (sN (oRem R R hv2 (sAi R zS))))) (LH.seq (LH.seqT [(0,.I v2),(1,.I p1),(11,.bool (decide (v2<0)))] [] R (sMi R (sN (oLt R R zS))) (LH.cond (t:=(decide (v2<0))) R (fun hc3=>?_) (fun hc3=>?_))))
  ·replace h:=iteT h hc3
   refine LH.loneT [(0,.I (i64 (v2+p1)))] [] R (sMi R (sMi R (sN (oAdd R R (sAi R zS))))) (thenN (LH.seqT [(4,.I (i64 (v2+p1)))] [] R (sMi R (sAi R zS)) (LH.ret ?_)))
   obtain rfl:=oI h
   exact retE (aT Tryz.results18) (lrT R (lr0 ⟨memN mN,R,prK R,Sub.rfl⟩))
  replace h:=iteF h hc3
  refine LH.skip (thenN (LH.seqT [(4,.I v2)] [] R (sMi R (sAi R zS)) (LH.ret ?_)))
  obtain rfl:=oI h
  exact retE (aT Tryz.results18) (lrT R (lr0 ⟨memN mN,R,prK R,Sub.rfl⟩))

theorem Gq19 {p0:GTape} {p1:Int} {r:Int × GTape} (h:Gq18 p0 p1=some r):LCall Tryz.prog 27 [.ptr 7 0,.I p1] (Mem.of [(7,.box [.L p0.L,.I p0.At])]) (.I r.1) (Mem.of [(7,.box [.L r.2.L,.I r.2.At])]):=by
  unfold Gq18 at h
  refine bodyT Tryz.func27 R (nT Tryz.ntmps27 R) (LH.wk (Wk.eq (el:=[(0,.ptr 7 0),(1,.I p1)]) (ml:=[(7,.box [.L p0.L,.I p0.At])]) R R R R) (LH.seqT [(0,.ptr 7 0),(1,.I p1)] [(7,.box [.L p0.L,.I p0.At])] R (sAi R zS) ?_))
  obtain ⟨r1,hr1,h⟩:=bindS h
  obtain ⟨r2,hr2,h⟩:=bindS h
  refine LH.seqT [(4,.I r2)] [(7,.box [.L r1.2.L,.I r1.2.At])] R (sMp R (sN (oCM (args:=[.ptr 7 0]) (ml:=[(7,.box [.L p0.L,.I p0.At])]) (ml':=[(7,.box [.L r1.2.L,.I r1.2.At])]) R isF50 R (sbR sbN) (Gq30 hr1) (mC R mN) (newI R newN) R (sMi R (sN (oCP (args:=[.I r1.1,.I p1]) R isF18 R (sbR (sbR sbN)) (q251q hr2) R (sAi R zS))))))) (LH.ret ?_)
  obtain rfl:=oI h
  exact retE (aT Tryz.results27) (lrT R (lr0 ⟨memN (mC R mN),R,prK R,Sub.rfl⟩))

theorem Gq28 {p0:GTape} {p1:Int} {p2:Int} {r:Int × GTape} (h:Gq27 p0 p1 p2=some r):LCall Tryz.prog 9 [.ptr 7 0,.I p1,.I p2] (Mem.of [(7,.box [.L p0.L,.I p0.At])]) (.I r.1) (Mem.of [(7,.box [.L r.2.L,.I r.2.At])]):=by
  unfold Gq27 at h
  refine bodyT Tryz.func9 R (nT Tryz.ntmps9 R) (LH.wk (Wk.eq (el:=[(0,.ptr 7 0),(1,.I p1),(2,.I p2)]) (ml:=[(7,.box [.L p0.L,.I p0.At])]) R R R R) (LH.seqT [(0,.ptr 7 0),(1,.I p1),(2,.I p2)] [(7,.box [.L p0.L,.I p0.At])] R (sAi R zS) ?_))
  obtain ⟨r1,hr1,h⟩:=bindS h
  refine LH.seqT [(6,.I (i64 (p1+r1.1)))] [(7,.box [.L r1.2.L,.I r1.2.At])] R (sMi R (sMp R (sMi R (sMi R (sN (oSub R R (sN (oAdd R R (sN (oCM (args:=[.ptr 7 0,.I (i64 ((i64 (p2 - p1))+1))]) (ml:=[(7,.box [.L p0.L,.I p0.At])]) (ml':=[(7,.box [.L r1.2.L,.I r1.2.At])]) R isF27 R (sbR (sbR sbN)) (Gq19 hr1) (mC R mN) (newI R newN) R (sN (oAdd R R (sAi R zS))))))))))))) (LH.ret ?_)
  obtain rfl:=oI h
  exact retE (aT Tryz.results9) (lrT R (lr0 ⟨memN (mC R mN),R,prK R,Sub.rfl⟩))

theorem Gq26 {p0:GTape} {p1:List Int} {r:Int × GTape} (h:Gq25 p0 p1=some r):LCall Tryz.prog 28 [.ptr 7 0,.L p1] (Mem.of [(7,.box [.L p0.L,.I p0.At])]) (.I r.1) (Mem.of [(7,.box [.L r.2.L,.I r.2.At])]):=by
  unfold Gq25 at h
  refine bodyT Tryz.func28 R (nT Tryz.ntmps28 R) (LH.wk (Wk.eq (el:=[(0,.ptr 7 0),(1,.L p1)]) (ml:=[(7,.box [.L p0.L,.I p0.At])]) R R R R) (LH.seqT [(0,.ptr 7 0),(1,.L p1)] [(7,.box [.L p0.L,.I p0.At])] R (sAi R zS) ?_))
  obtain ⟨r1,hr1,h⟩:=bindS h
  obtain ⟨x2,hx2,h⟩:=bindS h
  refine LH.seqT [(4,.I x2)] [(7,.box [.L r1.2.L,.I r1.2.At])] R (sMl R (sMp R (sMl R (sN (oLnL (f:=LV.I) te22 R (sN (oCM (args:=[.ptr 7 0,.I (p1.length:Int)]) (ml:=[(7,.box [.L p0.L,.I p0.At])]) (ml':=[(7,.box [.L r1.2.L,.I r1.2.At])]) R isF27 R (sbR (sbR sbN)) (Gq19 hr1) (mC R mN) (newI R newN) R (sN (oIx (f:=LV.I) te22 tk3 ts3 R R okI hx2 R (sN (oLd R tk3 ta3 (sAi R zS)))))))))))) (LH.ret ?_)
  obtain rfl:=oI h
  exact retE (aT Tryz.results28) (lrT R (lr0 ⟨memN (mC R mN),R,prK R,Sub.rfl⟩))

theorem Gq38 {F:Nat} {p0:GTape} {p1:Int} {r:ByteArray × GTape} (h:Gq35 F p0 p1=some r):LCall Tryz.prog 51 [.ptr 7 0,.I p1] (Mem.of [(7,.box [.L p0.L,.I p0.At])]) (.str r.1) (Mem.of [(7,.box [.L r.2.L,.I r.2.At])]):=by
  unfold Gq35 at h
  refine bodyT Tryz.func51 R (nT Tryz.ntmps51 R) (LH.wk (Wk.eq (el:=[(0,.ptr 7 0),(1,.I p1)]) (ml:=[(7,.box [.L p0.L,.I p0.At])]) R R R R) (LH.seqT [(0,.ptr 7 0),(1,.I p1)] [(7,.box [.L p0.L,.I p0.At])] R (sN (oA (v:=(.str _)) R zS)) (LH.seqT [(0,.ptr 7 0),(1,.I p1),(5,.str (ByteArray.mk #[]))] [(7,.box [.L p0.L,.I p0.At])] R (sN (oA (v:=(.str _)) R zS)) (LH.seq ?_))))
  obtain ⟨r1,hr1,h⟩:=bindS h
  refine LH.seqT [(0,.ptr 7 0),(5,.str (ByteArray.mk #[])),(6,.I r1.1)] [(7,.box [.L r1.2.L,.I r1.2.At])] R (sMp R (sMi R (sN (oCM (args:=[.ptr 7 0,.I 1,.I p1]) (ml:=[(7,.box [.L p0.L,.I p0.At])]) (ml':=[(7,.box [.L r1.2.L,.I r1.2.At])]) R isF9 R (sbR (sbR (sbR sbN))) (Gq28 hr1) (mC R mN) (newI R newN) R (sAi R zS))))) (LH.block (LH.loop (fun n e m=>∃ (t2:ByteArray) (n3:Int) (l4:List Int) (n5:Int),Gq36 n t2 n3 l4 n5=some r∧e=Env.of [(0,.ptr 7 0),(5,.str t2),(6,.I n3)]∧m=Mem.of [(7,.box [.L l4,.I n5])]) F ⟨(ByteArray.mk #[]),r1.1,r1.2.L,r1.2.At,h,R,R⟩ ?_))
  clear h
  rintro n e m ⟨t2,n3,l4,n5,h,rfl,rfl⟩
  rcases n with _ | n
  · cases (show Option.none=some _ from h)
  obtain ⟨rec1,hrec1⟩:∃ f,f=Gq36 n:=⟨_,rfl⟩
  replace h:Gq37 rec1 t2 n3 l4 n5=some r:=hrec1 ▸ h
  unfold Gq37 at h
  refine LH.seq (LH.seqT [(0,.ptr 7 0),(5,.str t2),(6,.I n3),(11,.bool (decide (n3 > 0)))] [(7,.box [.L l4,.I n5])] R (sMi R (sN (oGt R R zS))) (LH.cond (t:=(decide (n3 > 0))) R (fun hc6=>?_) (fun hc6=>?_)))
  ·replace h:=iteT h hc6
   refine LH.skip (thenN (LH.wk (Wk.eq (el:=[(0,.ptr 7 0),(5,.str t2),(6,.I n3)]) (ml:=[(7,.box [.L l4,.I n5])]) R R R R) (LH.seq (LH.block ?_))))
   obtain ⟨r7,hr7,h⟩:=bindS h
   obtain ⟨t8,ht8,h⟩:=bindS h
   refine LH.loneT [(0,.ptr 7 0),(5,.str t8),(6,.I n3)] [(7,.box [.L r7.2.L,.I r7.2.At])] R (sN (oM (v:=(.str _)) R (sMp R (sN (oCM (args:=[.ptr 7 0,.I 3]) (ml:=[(7,.box [.L l4,.I n5])]) (ml':=[(7,.box [.L r7.2.L,.I r7.2.At])]) R isF27 R (sbR (sbR sbN)) (Gq19 hr7) (mC R mN) (newI R newN) R (sN (oAdd R R (sN (oCv tk3 ti5 R (sN (oBS (f:=(LV.int .u8)) (ys:=[(IntKind.u8.wrap (i64 (97+r7.1)))]) te121 tr5 ts5 R R R okI (sX ((ok_b2s (ns:=[(IntKind.u8.wrap (i64 (97+r7.1)))]) te121 ti5 tS9 R).ok) (sX ((ok_sAdd R R ht8).ok) (sN (oA (v:=(.str _)) R zS))))))))))))))) (blockN (thenN (LH.loneT [(0,.ptr 7 0),(5,.str t8),(6,.I (i64 (n3 - 1)))] [(7,.box [.L r7.2.L,.I r7.2.At])] R (sMi R (sN (oSub R R (sAi R zS)))) ?_)))
   exact roundI ⟨t8,(i64 (n3 - 1)),r7.2.L,r7.2.At,hrec1 ▸ h,R,R⟩ (Wk.eq R R R R)
  replace h:=iteF h hc6
  refine LH.exit (thenX (roundX (blockH (thenN (LH.seqT [(4,.str t2)] [(7,.box [.L l4,.I n5])] R (sN (oM (v:=(.str _)) R (sN (oA (v:=(.str _)) R zS)))) (LH.ret ?_))))))
  obtain rfl:=oI h
  exact retE (aT Tryz.results51) (lrT R (lr0 ⟨memN (mC R mN),R,prK R,Sub.rfl⟩))

theorem Gq21 {p0:GTape} {p1:Int} {r:Bool × GTape} (h:Gq20 p0 p1=some r):LCall Tryz.prog 30 [.ptr 7 0,.I p1] (Mem.of [(7,.box [.L p0.L,.I p0.At])]) (.bool r.1) (Mem.of [(7,.box [.L r.2.L,.I r.2.At])]):=by
  unfold Gq20 at h
  refine bodyT Tryz.func30 R (nT Tryz.ntmps30 R) (LH.wk (Wk.eq (el:=[(0,.ptr 7 0),(1,.I p1)]) (ml:=[(7,.box [.L p0.L,.I p0.At])]) R R R R) (LH.seqT [(0,.ptr 7 0),(1,.I p1)] [(7,.box [.L p0.L,.I p0.At])] R (sAb R zS) ?_))
  obtain ⟨r1,hr1,h⟩:=bindS h
  refine LH.seqT [(4,.bool (r1.1 == (i64 (p1 - 1))))] [(7,.box [.L r1.2.L,.I r1.2.At])] R (sMp R (sMi R (sN (oCM (args:=[.ptr 7 0,.I p1]) (ml:=[(7,.box [.L p0.L,.I p0.At])]) (ml':=[(7,.box [.L r1.2.L,.I r1.2.At])]) R isF27 R (sbR (sbR sbN)) (Gq19 hr1) (mC R mN) (newI R newN) R (sMi R (sN (oSub R R (sN (oEq R R (sAb R zS)))))))))) (LH.ret ?_)
  obtain rfl:=oI h
  exact retE (aT Tryz.results30) (lrT R (lr0 ⟨memN (mC R mN),R,prK R,Sub.rfl⟩))

theorem Gq34 {p0:GTape} {r:Int × GTape} (h:Gq33 p0=some r):LCall Tryz.prog 53 [.ptr 7 0] (Mem.of [(7,.box [.L p0.L,.I p0.At])]) (.I r.1) (Mem.of [(7,.box [.L r.2.L,.I r.2.At])]):=by
  unfold Gq33 at h
  refine bodyT Tryz.func53 R (nT Tryz.ntmps53 R) (LH.wk (Wk.eq (el:=[(0,.ptr 7 0)]) (ml:=[(7,.box [.L p0.L,.I p0.At])]) R R R R) (LH.seqT [(0,.ptr 7 0)] [(7,.box [.L p0.L,.I p0.At])] R (sAi R zS) ?_))
  obtain ⟨r1,hr1,h⟩:=bindS h
  refine LH.seqT [(2,.I r1.1)] [(7,.box [.L r1.2.L,.I r1.2.At])] R (sMp R (sN (oBS (f:=LV.I) (ys:=[(-1),0,1,2,31,32,99,100,200,201,9999,10000,1000000,1000001,1152921504606846976,1152921504606846977,(-1152921504606846976),9223372036854775807,(-9223372036854775808)]) te22 tr3 ts3 R R R okI (sN (oCM (args:=[.ptr 7 0,.L [(-1),0,1,2,31,32,99,100,200,201,9999,10000,1000000,1000001,1152921504606846976,1152921504606846977,(-1152921504606846976),9223372036854775807,(-9223372036854775808)]]) (ml:=[(7,.box [.L p0.L,.I p0.At])]) (ml':=[(7,.box [.L r1.2.L,.I r1.2.At])]) R isF28 R (sbR (sbR sbN)) (Gq26 hr1) (mC R mN) (newI R newN) R (sAi R zS)))))) (LH.ret ?_)
  obtain rfl:=oI h
  exact retE (aT Tryz.results53) (lrT R (lr0 ⟨memN (mC R mN),R,prK R,Sub.rfl⟩))

theorem Gq24 {p0:GTape} {p1:Int} {r:GPart × GTape} (h:Gq22 p0 p1=some r):LCall Tryz.prog 52 [.ptr 7 0,.I p1] (Mem.of [(7,.box [.L p0.L,.I p0.At])]) (GPart.lv r.1) (Mem.of [(7,.box [.L r.2.L,.I r.2.At])]):=by
  unfold Gq22 at h
  refine bodyT Tryz.func52 R (nT Tryz.ntmps52 R) (LH.wk (Wk.eq (el:=[(0,.ptr 7 0),(1,.I p1)]) (ml:=[(7,.box [.L p0.L,.I p0.At])]) R R R R) (LH.seqT [(0,.ptr 7 0),(1,.I p1),(4,.ptr 104 0)] [(7,.box [.L p0.L,.I p0.At]),(104,.box [.I 0,.I 0,.I 0,.I 0,.I 0,.I 0])] R (sN (oAl (id:=104) R tz86 R R zS)) ?_))
  obtain ⟨r1,hr1,h⟩:=bindS h
  obtain ⟨r2,hr2,h⟩:=bindS h
  obtain ⟨r3,hr3,h⟩:=bindS h
  refine LH.seqT [(0,.ptr 7 0),(1,.I p1),(4,.ptr 104 0),(5,.ptr 105 0)] [(7,.box [.L r3.2.L,.I r3.2.At]),(104,.box [.I 0,.I 0,.I 0,.I 0,.I 0,.I 0]),(105,.box [.I 1,.I r1.1,.I r2.1,.I r3.1,.I 0,.I 0])] R (sMp R (sN (oCM (args:=[.ptr 7 0,.I 1,.I 12]) (ml:=[(7,.box [.L p0.L,.I p0.At])]) (ml':=[(7,.box [.L r1.2.L,.I r1.2.At])]) R isF9 R (sbR (sbR (sbR sbN))) (Gq28 hr1) (mC R mN) (newI R newN) R (sMp R (sN (oCM (args:=[.ptr 7 0,.I 4]) (ml:=[(7,.box [.L r1.2.L,.I r1.2.At])]) (ml':=[(7,.box [.L r2.2.L,.I r2.2.At])]) R isF27 R (sbR (sbR sbN)) (Gq19 hr2) (mC R mN) (newI R newN) R (sMp R (sN (oCM (args:=[.ptr 7 0,.I 3]) (ml:=[(7,.box [.L r2.2.L,.I r2.2.At])]) (ml':=[(7,.box [.L r3.2.L,.I r3.2.At])]) R isF27 R (sbR (sbR sbN)) (Gq19 hr3) (mC R mN) (newI R newN) R (sN (oBd (vs:=[(0,.I 1),(1,.I r1.1),(2,.I r2.1),(3,.I r3.1)]) tu86 tz86 R (lf tf86_0 ts3 tk3 R R R (lf tf86_1 ts3 tk3 R R R (lf tf86_2 ts3 tk3 R R R (lf tf86_3 ts3 tk3 R R R lf0)))) (sN (oAl (id:=105) R tz86 R R (s_ (oSt R R R tk86 ts86 R R R zS))))))))))))))) (LH.mid (fun e m=>∃ (l4:List Int) (n5:Int) (n6:Int) (n7:Int) (n8:Int) (n9:Int),Gq23 p1 r2 r3 l4 n5 n6 n7 n8 n9=some r∧Wk (fun id=>Mem.of [(7,.box [.L p0.L,.I p0.At])] id ≠ .none) e m (Env.of [(0,.ptr 7 0),(1,.I p1),(4,.ptr 104 0),(5,.ptr 105 0)]) (Mem.of [(7,.box [.L l4,.I n5]),(104,.box [.I 0,.I 0,.I 0,.I 0,.I 0,.I 0]),(105,.box [.I n6,.I n7,.I r2.1,.I r3.1,.I n8,.I n9])])) ?_ ?_)
  ·obtain ⟨r29,hr29,h⟩:=bindS h
   refine LH.seqT [(0,.ptr 7 0),(1,.I p1),(4,.ptr 104 0),(5,.ptr 105 0),(15,.bool (r29.1 == 0))] [(7,.box [.L r29.2.L,.I r29.2.At]),(104,.box [.I 0,.I 0,.I 0,.I 0,.I 0,.I 0]),(105,.box [.I 1,.I r1.1,.I r2.1,.I r3.1,.I 0,.I 0])] R (sMp R (sN (oCM (args:=[.ptr 7 0,.I 3]) (ml:=[(7,.box [.L r3.2.L,.I r3.2.At])]) (ml':=[(7,.box [.L r29.2.L,.I r29.2.At])]) R isF27 R (sbR (sbR sbN)) (Gq19 hr29) (mC R mN) (newI R newN) R (sN (oEq R R zS))))) (LH.cond (t:=(r29.1 == 0)) R (fun hc30=>?_) (fun hc30=>?_))
   ·replace h:=iteT h hc30
    obtain ⟨r31,hr31,h⟩:=bindS h
    refine LH.seqT [(0,.ptr 7 0),(1,.I p1),(4,.ptr 104 0),(5,.ptr 105 0)] [(7,.box [.L r31.2.L,.I r31.2.At]),(104,.box [.I 0,.I 0,.I 0,.I 0,.I 0,.I 0]),(105,.box [.I 2,.I r1.1,.I r2.1,.I r3.1,.I r31.1,.I 0])] R (sMp R (sN (oCM (args:=[.ptr 7 0,.I 2,.I 5]) (ml:=[(7,.box [.L r29.2.L,.I r29.2.At])]) (ml':=[(7,.box [.L r31.2.L,.I r31.2.At])]) R isF9 R (sbR (sbR (sbR sbN))) (Gq28 hr31) (mC R mN) (newI R newN) R (sN (oFa tf86_0 tk3 ts3 R R (s_ (oSt R R R tk3 ts3 R R R (sN (oFa tf86_4 tk3 ts3 R R (s_ (oSt R R R tk3 ts3 R R R zS))))))))))) ?_
    obtain ⟨r32,hr32,h⟩:=bindS h
    obtain ⟨r33,hr33,h⟩:=bindS h
    exact LH.loneT [(0,.ptr 7 0),(1,.I p1),(4,.ptr 104 0),(5,.ptr 105 0)] [(7,.box [.L r33.2.L,.I r33.2.At]),(104,.box [.I 0,.I 0,.I 0,.I 0,.I 0,.I 0]),(105,.box [.I 2,.I r33.1,.I r2.1,.I r3.1,.I r31.1,.I r32.1])] R (sMp R (sN (oFa tf86_4 tk3 ts3 R R (sN (oLdP R R R R tk3 ta3 (sN (oCM (args:=[.ptr 7 0,.I r31.1]) (ml:=[(7,.box [.L r31.2.L,.I r31.2.At])]) (ml':=[(7,.box [.L r32.2.L,.I r32.2.At])]) R isF27 R (sbR (sbR sbN)) (Gq19 hr32) (mC R mN) (newI R newN) R (sMp R (sN (oCM (args:=[.ptr 7 0,.I 1,.I 3]) (ml:=[(7,.box [.L r32.2.L,.I r32.2.At])]) (ml':=[(7,.box [.L r33.2.L,.I r33.2.At])]) R isF9 R (sbR (sbR (sbR sbN))) (Gq28 hr33) (mC R mN) (newI R newN) R (sN (oFa tf86_5 tk3 ts3 R R (s_ (oSt R R R tk3 ts3 R R R (sN (oFa tf86_1 tk3 ts3 R R (s_ (oSt R R R tk3 ts3 R R R zS)))))))))))))))))) (thenN ⟨r33.2.L,r33.2.At,2,r33.1,r31.1,r32.1,h,Wk.eq R R R R⟩)
   replace h:=iteF h hc30
   exact LH.skip (thenN ⟨r29.2.L,r29.2.At,1,r1.1,0,0,h,Wk.eq R R R R⟩)
  clear h
  rintro e m ⟨l4,n5,n6,n7,n8,n9,h,hw⟩
  refine LH.wk hw ?_
  clear hw
  unfold Gq23 at h
  refine LH.seq ?_
  obtain ⟨w13,hv,h⟩:=bindS h
  refine LH.seqT [(0,.ptr 7 0),(4,.ptr 104 0),(5,.ptr 105 0),(34,.bool w13.1)] [(7,.box [.L w13.2.1,.I w13.2.2]),(104,.box [.I 0,.I 0,.I 0,.I 0,.I 0,.I 0]),(105,.box [.I n6,.I n7,.I r2.1,.I r3.1,.I n8,.I n9])] R ?_ ?_
  ·refine sMi R (sN (oGt R R (sMb R ?_)))
   by_cases hb14:(decide (p1 > 0))=true
   ·replace hv:=iteT hv hb14
    refine sT R (cB hb14) (oM (v:=(.ptr _ _)) R (sT R (cB hb14) (oM (v:=(.int _ _)) R ?_)))
    obtain ⟨r15,hr15,hv⟩:=bindS hv
    refine sT R (cB hb14) (oCM (args:=[.ptr 7 0,.I p1]) (ml:=[(7,.box [.L l4,.I n5])]) (ml':=[(7,.box [.L r15.2.L,.I r15.2.At])]) R isF30 R (sbR (sbR sbN)) (Gq21 hr15) (mC R mN) (newI R newN) R (sN (oPkT (cB hb14) (v:=(.bool _)) R ?_)))
    obtain rfl:=oI hv
    exact zS
   ·replace hb14:=bF hb14
    replace hv:=iteF hv hb14
    refine sF R R hb14 (sF R R hb14 (sF R R hb14 (sN (oPkF (cB hb14) (v:=(.bool _)) R ?_))))
    obtain rfl:=oI hv
    exact zS
  clear hv
  refine LH.cond (t:=w13.1) R (fun hc16=>?_) (fun hc16=>?_)
  ·replace h:=iteT h hc16
   obtain ⟨r17,hr17,h⟩:=bindS h
   refine LH.seqT [(0,.ptr 7 0),(4,.ptr 104 0),(5,.ptr 105 0),(36,.I r17.1)] [(7,.box [.L r17.2.L,.I r17.2.At]),(104,.box [.I 0,.I 0,.I 0,.I 0,.I 0,.I 0]),(105,.box [.I n6,.I n7,.I r2.1,.I r3.1,.I n8,.I n9])] R (sMp R (sN (oCM (args:=[.ptr 7 0,.I 6]) (ml:=[(7,.box [.L w13.2.1,.I w13.2.2])]) (ml':=[(7,.box [.L r17.2.L,.I r17.2.At])]) R isF27 R (sbR (sbR sbN)) (Gq19 hr17) (mC R mN) (newI R newN) R zS))) (LH.block (LH.seqT [(0,.ptr 7 0),(4,.ptr 104 0),(5,.ptr 105 0),(36,.I r17.1),(40,.bool (r17.1 == 0))] [(7,.box [.L r17.2.L,.I r17.2.At]),(104,.box [.I 0,.I 0,.I 0,.I 0,.I 0,.I 0]),(105,.box [.I n6,.I n7,.I r2.1,.I r3.1,.I n8,.I n9])] R (sN (oEq R R (sAb R zS))) (LH.cond (t:=(r17.1 == 0)) R (fun hc18=>?_) (fun hc18=>?_))))
   ·replace h:=iteT h hc18
    obtain ⟨r19,hr19,h⟩:=bindS h
    refine LH.loneT [(4,.ptr 104 0),(5,.sptr [.I r19.1,.I n7,.I r2.1,.I r3.1,.I n8,.I n9])] [(7,.box [.L r19.2.L,.I r19.2.At]),(104,.box [.I 0,.I 0,.I 0,.I 0,.I 0,.I 0])] R (sMp R (sN (oCM (args:=[.ptr 7 0,.I (-1),.I 3]) (ml:=[(7,.box [.L r17.2.L,.I r17.2.At])]) (ml':=[(7,.box [.L r19.2.L,.I r19.2.At])]) R isF9 R (sbR (sbR (sbR sbN))) (Gq28 hr19) (mC R mN) (newI R newN) R (sN (oFa tf86_0 tk3 ts3 R R (s_ (oSt R R R tk3 ts3 R R R (s0 ((Wk.trans (Wk.eq (el:=[(4,.ptr 104 0),(5,.ptr 105 0)]) (ml:=[(7,.box [.L r19.2.L,.I r19.2.At]),(104,.box [.I 0,.I 0,.I 0,.I 0,.I 0,.I 0]),(105,.box [.I r19.1,.I n7,.I r2.1,.I r3.1,.I n8,.I n9])]) R R R R) (Wk.trans (Wk.frzB 105 [.I r19.1,.I n7,.I r2.1,.I r3.1,.I n8,.I n9] R R R (prN R)) (Wk.eq R R R R)))))))))))) (blockN (thenN (LH.seqT [(4,.sptr [.I r19.1,.I n7,.I r2.1,.I r3.1,.I n8,.I n9])] [(7,.box [.L r19.2.L,.I r19.2.At])] R (sN (oLdA R tk86 ta86 ts86 R R (s_ (oSt R R R tk86 ts86 R R R (s0 ((Wk.trans (Wk.eq (el:=[(4,.ptr 104 0)]) (ml:=[(7,.box [.L r19.2.L,.I r19.2.At]),(104,.box [.I r19.1,.I n7,.I r2.1,.I r3.1,.I n8,.I n9])]) R R R R) (Wk.trans (Wk.frzB 104 [.I r19.1,.I n7,.I r2.1,.I r3.1,.I n8,.I n9] R R R (prN R)) (Wk.eq R R R R))))))))) (LH.ret ?_))))
    obtain rfl:=oI h
    exact retE (aT Tryz.results52) (lrSA R tk86 ta86 ts86 R R (lr0 ⟨memN (mC R mN),R,prK R,Sub.rfl⟩))
   replace h:=iteF h hc18
   refine LH.seqT [(0,.ptr 7 0),(4,.ptr 104 0),(5,.ptr 105 0),(36,.I r17.1),(45,.bool (r17.1 == 1))] [(7,.box [.L r17.2.L,.I r17.2.At]),(104,.box [.I 0,.I 0,.I 0,.I 0,.I 0,.I 0]),(105,.box [.I n6,.I n7,.I r2.1,.I r3.1,.I n8,.I n9])] R (sN (oEq R R (sAb R zS))) (LH.cond (t:=(r17.1 == 1)) R (fun hc20=>?_) (fun hc20=>?_))
   ·replace h:=iteT h hc20
    obtain ⟨r21,hr21,h⟩:=bindS h
    refine LH.loneT [(4,.ptr 104 0),(5,.sptr [.I n6,.I r21.1,.I r2.1,.I r3.1,.I n8,.I n9])] [(7,.box [.L r21.2.L,.I r21.2.At]),(104,.box [.I 0,.I 0,.I 0,.I 0,.I 0,.I 0])] R (sMp R (sN (oBS (f:=LV.I) (ys:=[0,40,41,(-1)]) te22 tr3 ts3 R R R okI (sN (oCM (args:=[.ptr 7 0,.L [0,40,41,(-1)]]) (ml:=[(7,.box [.L r17.2.L,.I r17.2.At])]) (ml':=[(7,.box [.L r21.2.L,.I r21.2.At])]) R isF28 R (sbR (sbR sbN)) (Gq26 hr21) (mC R mN) (newI R newN) R (sN (oFa tf86_1 tk3 ts3 R R (s_ (oSt R R R tk3 ts3 R R R (s0 ((Wk.trans (Wk.eq (el:=[(4,.ptr 104 0),(5,.ptr 105 0)]) (ml:=[(7,.box [.L r21.2.L,.I r21.2.At]),(104,.box [.I 0,.I 0,.I 0,.I 0,.I 0,.I 0]),(105,.box [.I n6,.I r21.1,.I r2.1,.I r3.1,.I n8,.I n9])]) R R R R) (Wk.trans (Wk.frzB 105 [.I n6,.I r21.1,.I r2.1,.I r3.1,.I n8,.I n9] R R R (prN R)) (Wk.eq R R R R)))))))))))))) (blockN (thenN (LH.seqT [(4,.sptr [.I n6,.I r21.1,.I r2.1,.I r3.1,.I n8,.I n9])] [(7,.box [.L r21.2.L,.I r21.2.At])] R (sN (oLdA R tk86 ta86 ts86 R R (s_ (oSt R R R tk86 ts86 R R R (s0 ((Wk.trans (Wk.eq (el:=[(4,.ptr 104 0)]) (ml:=[(7,.box [.L r21.2.L,.I r21.2.At]),(104,.box [.I n6,.I r21.1,.I r2.1,.I r3.1,.I n8,.I n9])]) R R R R) (Wk.trans (Wk.frzB 104 [.I n6,.I r21.1,.I r2.1,.I r3.1,.I n8,.I n9] R R R (prN R)) (Wk.eq R R R R))))))))) (LH.ret ?_))))
    obtain rfl:=oI h
    exact retE (aT Tryz.results52) (lrSA R tk86 ta86 ts86 R R (lr0 ⟨memN (mC R mN),R,prK R,Sub.rfl⟩))
   replace h:=iteF h hc20
   refine LH.seqT [(0,.ptr 7 0),(4,.ptr 104 0),(5,.ptr 105 0),(36,.I r17.1),(51,.bool (r17.1 == 2))] [(7,.box [.L r17.2.L,.I r17.2.At]),(104,.box [.I 0,.I 0,.I 0,.I 0,.I 0,.I 0]),(105,.box [.I n6,.I n7,.I r2.1,.I r3.1,.I n8,.I n9])] R (sN (oEq R R (sAb R zS))) (LH.cond (t:=(r17.1 == 2)) R (fun hc22=>?_) (fun hc22=>?_))
   ·replace h:=iteT h hc22
    obtain ⟨r23,hr23,h⟩:=bindS h
    refine LH.loneT [(4,.ptr 104 0),(5,.sptr [.I n6,.I n7,.I r23.1,.I r3.1,.I n8,.I n9])] [(7,.box [.L r23.2.L,.I r23.2.At]),(104,.box [.I 0,.I 0,.I 0,.I 0,.I 0,.I 0])] R (sMp R (sN (oCM (args:=[.ptr 7 0]) (ml:=[(7,.box [.L r17.2.L,.I r17.2.At])]) (ml':=[(7,.box [.L r23.2.L,.I r23.2.At])]) R isF53 R (sbR sbN) (Gq34 hr23) (mC R mN) (newI R newN) R (sN (oFa tf86_2 tk3 ts3 R R (s_ (oSt R R R tk3 ts3 R R R (s0 ((Wk.trans (Wk.eq (el:=[(4,.ptr 104 0),(5,.ptr 105 0)]) (ml:=[(7,.box [.L r23.2.L,.I r23.2.At]),(104,.box [.I 0,.I 0,.I 0,.I 0,.I 0,.I 0]),(105,.box [.I n6,.I n7,.I r23.1,.I r3.1,.I n8,.I n9])]) R R R R) (Wk.trans (Wk.frzB 105 [.I n6,.I n7,.I r23.1,.I r3.1,.I n8,.I n9] R R R (prN R)) (Wk.eq R R R R)))))))))))) (blockN (thenN (LH.seqT [(4,.sptr [.I n6,.I n7,.I r23.1,.I r3.1,.I n8,.I n9])] [(7,.box [.L r23.2.L,.I r23.2.At])] R (sN (oLdA R tk86 ta86 ts86 R R (s_ (oSt R R R tk86 ts86 R R R (s0 ((Wk.trans (Wk.eq (el:=[(4,.ptr 104 0)]) (ml:=[(7,.box [.L r23.2.L,.I r23.2.At]),(104,.box [.I n6,.I n7,.I r23.1,.I r3.1,.I n8,.I n9])]) R R R R) (Wk.trans (Wk.frzB 104 [.I n6,.I n7,.I r23.1,.I r3.1,.I n8,.I n9] R R R (prN R)) (Wk.eq R R R R))))))))) (LH.ret ?_))))
    obtain rfl:=oI h
    exact retE (aT Tryz.results52) (lrSA R tk86 ta86 ts86 R R (lr0 ⟨memN (mC R mN),R,prK R,Sub.rfl⟩))
   replace h:=iteF h hc22
   refine LH.seqT [(0,.ptr 7 0),(4,.ptr 104 0),(5,.ptr 105 0),(36,.I r17.1),(56,.bool (r17.1 == 3))] [(7,.box [.L r17.2.L,.I r17.2.At]),(104,.box [.I 0,.I 0,.I 0,.I 0,.I 0,.I 0]),(105,.box [.I n6,.I n7,.I r2.1,.I r3.1,.I n8,.I n9])] R (sN (oEq R R (sAb R zS))) (LH.cond (t:=(r17.1 == 3)) R (fun hc24=>?_) (fun hc24=>?_))
   ·replace h:=iteT h hc24
    obtain ⟨r25,hr25,h⟩:=bindS h
    refine LH.loneT [(4,.ptr 104 0),(5,.sptr [.I n6,.I n7,.I r2.1,.I r25.1,.I n8,.I n9])] [(7,.box [.L r25.2.L,.I r25.2.At]),(104,.box [.I 0,.I 0,.I 0,.I 0,.I 0,.I 0])] R (sMp R (sN (oCM (args:=[.ptr 7 0]) (ml:=[(7,.box [.L r17.2.L,.I r17.2.At])]) (ml':=[(7,.box [.L r25.2.L,.I r25.2.At])]) R isF53 R (sbR sbN) (Gq34 hr25) (mC R mN) (newI R newN) R (sN (oFa tf86_3 tk3 ts3 R R (s_ (oSt R R R tk3 ts3 R R R (s0 ((Wk.trans (Wk.eq (el:=[(4,.ptr 104 0),(5,.ptr 105 0)]) (ml:=[(7,.box [.L r25.2.L,.I r25.2.At]),(104,.box [.I 0,.I 0,.I 0,.I 0,.I 0,.I 0]),(105,.box [.I n6,.I n7,.I r2.1,.I r25.1,.I n8,.I n9])]) R R R R) (Wk.trans (Wk.frzB 105 [.I n6,.I n7,.I r2.1,.I r25.1,.I n8,.I n9] R R R (prN R)) (Wk.eq R R R R)))))))))))) (blockN (thenN (LH.seqT [(4,.sptr [.I n6,.I n7,.I r2.1,.I r25.1,.I n8,.I n9])] [(7,.box [.L r25.2.L,.I r25.2.At])] R (sN (oLdA R tk86 ta86 ts86 R R (s_ (oSt R R R tk86 ts86 R R R (s0 ((Wk.trans (Wk.eq (el:=[(4,.ptr 104 0)]) (ml:=[(7,.box [.L r25.2.L,.I r25.2.At]),(104,.box [.I n6,.I n7,.I r2.1,.I r25.1,.I n8,.I n9])]) R R R R) (Wk.trans (Wk.frzB 104 [.I n6,.I n7,.I r2.1,.I r25.1,.I n8,.I n9] R R R (prN R)) (Wk.eq R R R R))))))))) (LH.ret ?_))))
    obtain rfl:=oI h
    exact retE (aT Tryz.results52) (lrSA R tk86 ta86 ts86 R R (lr0 ⟨memN (mC R mN),R,prK R,Sub.rfl⟩))
   replace h:=iteF h hc24
   refine LH.seqT [(0,.ptr 7 0),(4,.ptr 104 0),(5,.ptr 105 0),(61,.bool (r17.1 == 4))] [(7,.box [.L r17.2.L,.I r17.2.At]),(104,.box [.I 0,.I 0,.I 0,.I 0,.I 0,.I 0]),(105,.box [.I n6,.I n7,.I r2.1,.I r3.1,.I n8,.I n9])] R (sN (oEq R R (sAb R zS))) (LH.cond (t:=(r17.1 == 4)) R (fun hc26=>?_) (fun hc26=>?_))
   ·replace h:=iteT h hc26
    obtain ⟨r27,hr27,h⟩:=bindS h
    refine LH.loneT [(4,.ptr 104 0),(5,.sptr [.I n6,.I n7,.I r2.1,.I r3.1,.I r27.1,.I n9])] [(7,.box [.L r27.2.L,.I r27.2.At]),(104,.box [.I 0,.I 0,.I 0,.I 0,.I 0,.I 0])] R (sMp R (sN (oCM (args:=[.ptr 7 0,.I (-1),.I 6]) (ml:=[(7,.box [.L r17.2.L,.I r17.2.At])]) (ml':=[(7,.box [.L r27.2.L,.I r27.2.At])]) R isF9 R (sbR (sbR (sbR sbN))) (Gq28 hr27) (mC R mN) (newI R newN) R (sN (oFa tf86_4 tk3 ts3 R R (s_ (oSt R R R tk3 ts3 R R R (s0 ((Wk.trans (Wk.eq (el:=[(4,.ptr 104 0),(5,.ptr 105 0)]) (ml:=[(7,.box [.L r27.2.L,.I r27.2.At]),(104,.box [.I 0,.I 0,.I 0,.I 0,.I 0,.I 0]),(105,.box [.I n6,.I n7,.I r2.1,.I r3.1,.I r27.1,.I n9])]) R R R R) (Wk.trans (Wk.frzB 105 [.I n6,.I n7,.I r2.1,.I r3.1,.I r27.1,.I n9] R R R (prN R)) (Wk.eq R R R R)))))))))))) (blockN (thenN (LH.seqT [(4,.sptr [.I n6,.I n7,.I r2.1,.I r3.1,.I r27.1,.I n9])] [(7,.box [.L r27.2.L,.I r27.2.At])] R (sN (oLdA R tk86 ta86 ts86 R R (s_ (oSt R R R tk86 ts86 R R R (s0 ((Wk.trans (Wk.eq (el:=[(4,.ptr 104 0)]) (ml:=[(7,.box [.L r27.2.L,.I r27.2.At]),(104,.box [.I n6,.I n7,.I r2.1,.I r3.1,.I r27.1,.I n9])]) R R R R) (Wk.trans (Wk.frzB 104 [.I n6,.I n7,.I r2.1,.I r3.1,.I r27.1,.I n9] R R R (prN R)) (Wk.eq R R R R))))))))) (LH.ret ?_))))
    obtain rfl:=oI h
    exact retE (aT Tryz.results52) (lrSA R tk86 ta86 ts86 R R (lr0 ⟨memN (mC R mN),R,prK R,Sub.rfl⟩))
   replace h:=iteF h hc26
   obtain ⟨r28,hr28,h⟩:=bindS h
   refine LH.loneT [(4,.ptr 104 0),(5,.sptr [.I n6,.I n7,.I r2.1,.I r3.1,.I n8,.I r28.1])] [(7,.box [.L r28.2.L,.I r28.2.At]),(104,.box [.I 0,.I 0,.I 0,.I 0,.I 0,.I 0])] R (sMp R (sN (oCM (args:=[.ptr 7 0,.I (-1),.I 5]) (ml:=[(7,.box [.L r17.2.L,.I r17.2.At])]) (ml':=[(7,.box [.L r28.2.L,.I r28.2.At])]) R isF9 R (sbR (sbR (sbR sbN))) (Gq28 hr28) (mC R mN) (newI R newN) R (sN (oFa tf86_5 tk3 ts3 R R (s_ (oSt R R R tk3 ts3 R R R (s0 ((Wk.trans (Wk.eq (el:=[(4,.ptr 104 0),(5,.ptr 105 0)]) (ml:=[(7,.box [.L r28.2.L,.I r28.2.At]),(104,.box [.I 0,.I 0,.I 0,.I 0,.I 0,.I 0]),(105,.box [.I n6,.I n7,.I r2.1,.I r3.1,.I n8,.I r28.1])]) R R R R) (Wk.trans (Wk.frzB 105 [.I n6,.I n7,.I r2.1,.I r3.1,.I n8,.I r28.1] R R R (prN R)) (Wk.eq R R R R)))))))))))) (blockN (thenN (LH.seqT [(4,.sptr [.I n6,.I n7,.I r2.1,.I r3.1,.I n8,.I r28.1])] [(7,.box [.L r28.2.L,.I r28.2.At])] R (sN (oLdA R tk86 ta86 ts86 R R (s_ (oSt R R R tk86 ts86 R R R (s0 ((Wk.trans (Wk.eq (el:=[(4,.ptr 104 0)]) (ml:=[(7,.box [.L r28.2.L,.I r28.2.At]),(104,.box [.I n6,.I n7,.I r2.1,.I r3.1,.I n8,.I r28.1])]) R R R R) (Wk.trans (Wk.frzB 104 [.I n6,.I n7,.I r2.1,.I r3.1,.I n8,.I r28.1] R R R (prN R)) (Wk.eq R R R R))))))))) (LH.ret ?_))))
   obtain rfl:=oI h
   exact retE (aT Tryz.results52) (lrSA R tk86 ta86 ts86 R R (lr0 ⟨memN (mC R mN),R,prK R,Sub.rfl⟩))
  replace h:=iteF h hc16
  refine LH.skip (thenN (LH.wk ((Wk.trans (Wk.eq (el:=[(4,.ptr 104 0),(5,.ptr 105 0)]) (ml:=[(7,.box [.L w13.2.1,.I w13.2.2]),(104,.box [.I 0,.I 0,.I 0,.I 0,.I 0,.I 0]),(105,.box [.I n6,.I n7,.I r2.1,.I r3.1,.I n8,.I n9])]) R R R R) (Wk.trans (Wk.frzB 105 [.I n6,.I n7,.I r2.1,.I r3.1,.I n8,.I n9] R R R (prN R)) (Wk.eq (el:=[(4,.ptr 104 0),(5,.sptr [.I n6,.I n7,.I r2.1,.I r3.1,.I n8,.I n9])]) (ml:=[(7,.box [.L w13.2.1,.I w13.2.2]),(104,.box [.I 0,.I 0,.I 0,.I 0,.I 0,.I 0])]) R R R R)))) (LH.seqT [(4,.sptr [.I n6,.I n7,.I r2.1,.I r3.1,.I n8,.I n9])] [(7,.box [.L w13.2.1,.I w13.2.2])] R (sN (oLdA R tk86 ta86 ts86 R R (s_ (oSt R R R tk86 ts86 R R R (s0 ((Wk.trans (Wk.eq (el:=[(4,.ptr 104 0)]) (ml:=[(7,.box [.L w13.2.1,.I w13.2.2]),(104,.box [.I n6,.I n7,.I r2.1,.I r3.1,.I n8,.I n9])]) R R R R) (Wk.trans (Wk.frzB 104 [.I n6,.I n7,.I r2.1,.I r3.1,.I n8,.I n9] R R R (prN R)) (Wk.eq R R R R))))))))) (LH.ret ?_))))
  obtain rfl:=oI h
  exact retE (aT Tryz.results52) (lrSA R tk86 ta86 ts86 R R (lr0 ⟨memN (mC R mN),R,prK R,Sub.rfl⟩))

set_option maxHeartbeats 4000000 in
theorem Gq17 {F:Nat} {p0:GTape} {p1:Int} {p2:Int} {p3:Int} {r:GItem × GTape} (h:Gq12 F p0 p1 p2 p3=some r):LCall Tryz.prog 29 [.ptr 7 0,.I p1,.I p2,.I p3] (Mem.of [(7,.box [.L p0.L,.I p0.At])]) (GItem.lv r.1) (Mem.of [(7,.box [.L r.2.L,.I r.2.At])]):=by
  unfold Gq12 at h
  refine bodyT Tryz.func29 R (nT Tryz.ntmps29 R) (LH.wk (Wk.eq (el:=[(0,.ptr 7 0),(1,.I p1),(2,.I p2),(3,.I p3)]) (ml:=[(7,.box [.L p0.L,.I p0.At])]) R R R R) (LH.seqT [(0,.ptr 7 0),(1,.I p1),(2,.I p2),(3,.I p3),(8,.ptr 108 0)] [(7,.box [.L p0.L,.I p0.At]),(108,.box [.I 0,.I 0,.str (ByteArray.mk #[]),.nil,.nil])] R (sN (oAl (id:=108) R tz54 R R zS)) ?_))
  obtain ⟨r1,hr1,h⟩:=bindS h
  obtain ⟨t2,ht2,h⟩:=bindS h
  refine LH.seqT [(0,.ptr 7 0),(1,.I p1),(3,.I p3),(8,.ptr 108 0),(9,.ptr 109 0)] [(7,.box [.L r1.2.L,.I r1.2.At]),(108,.box [.I 0,.I 0,.str (ByteArray.mk #[]),.nil,.nil]),(109,.box [.I p1,.I p2,.str t2,.nil,.nil])] R (sMi R (sMi R (sMp R (sN (oCM (args:=[.ptr 7 0,.I 3]) (ml:=[(7,.box [.L p0.L,.I p0.At])]) (ml':=[(7,.box [.L r1.2.L,.I r1.2.At])]) R isF51 R (sbR (sbR sbN)) (Gq38 hr1) (mC R mN) (newI R newN) R (sX ((ok_sAdd R R ht2).ok) (sN (oBd (vs:=[(0,.I p1),(1,.I p2),(2,.str t2)]) tu54 tz54 R (lf tf54_0 ts3 tk3 R R R (lf tf54_1 ts3 tk3 R R R (lf tf54_2 ts9 tk9 R R R lf0))) (sN (oAl (id:=109) R tz54 R R (s_ (oSt R R R tk54 ts54 R R R zS)))))))))))) (LH.seq ?_)
  obtain ⟨r3,hr3,h⟩:=bindS h
  refine LH.seqT [(0,.ptr 7 0),(1,.I p1),(3,.I p3),(8,.ptr 108 0),(9,.ptr 109 0),(10,.I r3.1)] [(7,.box [.L r3.2.L,.I r3.2.At]),(108,.box [.I 0,.I 0,.str (ByteArray.mk #[]),.nil,.nil]),(109,.box [.I p1,.I p2,.str t2,.nil,.nil])] R (sMp R (sN (oCM (args:=[.ptr 7 0,.I 1,.I 3]) (ml:=[(7,.box [.L r1.2.L,.I r1.2.At])]) (ml':=[(7,.box [.L r3.2.L,.I r3.2.At])]) R isF9 R (sbR (sbR (sbR sbN))) (Gq28 hr3) (mC R mN) (newI R newN) R (sAi R zS)))) (LH.block (LH.wk ((Wk.trans (Wk.eq (el:=[(0,.ptr 7 0),(1,.I p1),(3,.I p3),(8,.ptr 108 0),(9,.ptr 109 0),(10,.I r3.1)]) (ml:=[(7,.box [.L r3.2.L,.I r3.2.At]),(108,.box [.I 0,.I 0,.str (ByteArray.mk #[]),.nil,.nil]),(109,.box [.I p1,.I p2,.str t2,.nil,.nil])]) R R R R) (Wk.trans (Wk.eq (el:=[(0,.ptr 7 0),(1,.I p1),(3,.I p3),(8,.ptr 108 0),(9,.ptr 109 0),(10,.I r3.1)]) (ml:=[(7,.box [.L r3.2.L,.I r3.2.At]),(108,.box [.I 0,.I 0,.str (ByteArray.mk #[]),.nil,.nil]),(109,.box [.I p1,.I p2,.str t2,.nil,.nil])]) R R R R) (Wk.trans (Wk.ownBx 129 86 6 109 3 R R R R R (prN R)) (Wk.eq (el:=[(0,.ptr 7 0),(1,.I p1),(3,.I p3),(8,.ptr 108 0),(9,.ptr 109 0),(10,.I r3.1)]) (ml:=[(7,.box [.L r3.2.L,.I r3.2.At]),(108,.box [.I 0,.I 0,.str (ByteArray.mk #[]),.nil,.nil]),(109,.box [.I p1,.I p2,.str t2,.arr 129 (List.length ([]:List GPart)),.nil]),(129,.arr 86 6 (List.map GPart.lv ([]:List GPart)))]) R R R R))))) (LH.loop (fun n e m=>∃ (n4:Int) (l5:List Int) (n6:Int) (l7:List GPart),Gq13 F p1 p2 p3 t2 n n4 l5 n6 l7=some r∧e=Env.of [(0,.ptr 7 0),(1,.I p1),(3,.I p3),(8,.ptr 108 0),(9,.ptr 109 0),(10,.I n4)]∧m=Mem.of [(7,.box [.L l5,.I n6]),(108,.box [.I 0,.I 0,.str (ByteArray.mk #[]),.nil,.nil]),(109,.box [.I p1,.I p2,.str t2,.arr 129 (List.length l7),.nil]),(129,.arr 86 6 (List.map GPart.lv l7))]) F ⟨r3.1,r3.2.L,r3.2.At,([]:List GPart),h,R,R⟩ ?_)))
  clear h
  rintro n e m ⟨n4,l5,n6,l7,h,rfl,rfl⟩
  rcases n with _ | n
  · cases (show Option.none=some _ from h)
  obtain ⟨rec1,hrec1⟩:∃ f,f=Gq13 F p1 p2 p3 t2 n:=⟨_,rfl⟩
  replace h:Gq14 F p1 p2 p3 t2 rec1 n4 l5 n6 l7=some r:=hrec1 ▸ h
  unfold Gq14 at h
  refine LH.seq (LH.seqT [(0,.ptr 7 0),(1,.I p1),(3,.I p3),(8,.ptr 108 0),(9,.ptr 109 0),(10,.I n4),(21,.bool (decide (n4 > 0)))] [(7,.box [.L l5,.I n6]),(108,.box [.I 0,.I 0,.str (ByteArray.mk #[]),.nil,.nil]),(109,.box [.I p1,.I p2,.str t2,.arr 129 (List.length l7),.nil]),(129,.arr 86 6 (List.map GPart.lv l7))] R (sMi R (sN (oGt R R zS))) (LH.cond (t:=(decide (n4 > 0))) R (fun hc8=>?_) (fun hc8=>?_)))
  ·replace h:=iteT h hc8
   refine LH.skip (thenN (LH.wk (Wk.eq (el:=[(0,.ptr 7 0),(1,.I p1),(3,.I p3),(8,.ptr 108 0),(9,.ptr 109 0),(10,.I n4)]) (ml:=[(7,.box [.L l5,.I n6]),(108,.box [.I 0,.I 0,.str (ByteArray.mk #[]),.nil,.nil]),(109,.box [.I p1,.I p2,.str t2,.arr 129 (List.length l7),.nil]),(129,.arr 86 6 (List.map GPart.lv l7))]) R R R R) (LH.seq (LH.block ?_))))
   obtain ⟨r9,hr9,h⟩:=bindS h
   obtain ⟨v10,hv10,h⟩:=bindS h
   refine LH.loneTM mixed [] [0,1109,0,100007,0,2,0,100109] [(0,.ptr 7 0),(1,.I p1),(3,.I p3),(8,.ptr 108 0),(9,.ptr 109 0),(10,.I n4)] [(7,.box [.L r9.2.L,.I r9.2.At]),(108,.box [.I 0,.I 0,.str (ByteArray.mk #[]),.nil,.nil]),(109,.box [.I p1,.I p2,.str t2,.arr 129 (List.length v10),.nil]),(129,.arr 86 6 (List.map GPart.lv v10))] R R (by kernel_rfl) (mN0 (oFa tf54_3 tk52 ts52 R R ⟨R,mD R R R (fun _ b _ d=>oLdP R b R R tk52 ta52 d) (mMp R (mW R R R (fun _ b _ d=>oCM (args:=[.ptr 7 0,.I 0]) (ml:=[(7,.box [.L l5,.I n6])]) (ml':=[(7,.box [.L r9.2.L,.I r9.2.At])]) R isF52 R (sbR (sbR sbN)) (Gq24 hr9) (mC b mN) (newI R newN) R d) (mN0 (oBS (f:=GPart.lv) (ys:=[r9.1]) te52 tr86 ts86 R R R GPart.ok ⟨R,mN2 (oAp (f:=GPart.lv) te52 tr86 ts86 R R (prN R) R hv10 (mN0 (oFa tf54_3 tk52 ts52 R R ⟨R,mS R R R (fun _ b _ d=>oSt R R R tk52 ts52 b R R d) zM⟩)))⟩))))⟩)) (blockN (thenN (LH.loneT [(0,.ptr 7 0),(1,.I p1),(3,.I p3),(8,.ptr 108 0),(9,.ptr 109 0),(10,.I (i64 (n4 - 1)))] [(7,.box [.L r9.2.L,.I r9.2.At]),(108,.box [.I 0,.I 0,.str (ByteArray.mk #[]),.nil,.nil]),(109,.box [.I p1,.I p2,.str t2,.arr 129 (List.length v10),.nil]),(129,.arr 86 6 (List.map GPart.lv v10))] R (sMi R (sN (oSub R R (sAi R zS)))) ?_)))
   exact roundI ⟨(i64 (n4 - 1)),r9.2.L,r9.2.At,v10,hrec1 ▸ h,R,R⟩ (Wk.eq R R R R)
  replace h:=iteF h hc8
  refine LH.exit (thenX (roundX (blockH (thenN (LH.wk (Wk.eq (el:=[(0,.ptr 7 0),(1,.I p1),(3,.I p3),(8,.ptr 108 0),(9,.ptr 109 0)]) (ml:=[(7,.box [.L l5,.I n6]),(108,.box [.I 0,.I 0,.str (ByteArray.mk #[]),.nil,.nil]),(109,.box [.I p1,.I p2,.str t2,.arr 129 (List.length l7),.nil]),(129,.arr 86 6 (List.map GPart.lv l7))]) R R R R) (LH.seq (LH.seqT [(0,.ptr 7 0),(1,.I p1),(3,.I p3),(8,.ptr 108 0),(9,.ptr 109 0),(11,.I 0)] [(7,.box [.L l5,.I n6]),(108,.box [.I 0,.I 0,.str (ByteArray.mk #[]),.nil,.nil]),(109,.box [.I p1,.I p2,.str t2,.arr 129 (List.length l7),.nil]),(129,.arr 86 6 (List.map GPart.lv l7))] R (sAi R zS) (LH.block (LH.wk ((Wk.trans (Wk.eq (el:=[(0,.ptr 7 0),(1,.I p1),(3,.I p3),(8,.ptr 108 0),(9,.ptr 109 0),(11,.I 0)]) (ml:=[(7,.box [.L l5,.I n6]),(108,.box [.I 0,.I 0,.str (ByteArray.mk #[]),.nil,.nil]),(109,.box [.I p1,.I p2,.str t2,.arr 129 (List.length l7),.nil]),(129,.arr 86 6 (List.map GPart.lv l7))]) R R R R) (Wk.trans (Wk.eq (el:=[(0,.ptr 7 0),(1,.I p1),(3,.I p3),(8,.ptr 108 0),(9,.ptr 109 0),(11,.I 0)]) (ml:=[(7,.box [.L l5,.I n6]),(108,.box [.I 0,.I 0,.str (ByteArray.mk #[]),.nil,.nil]),(109,.box [.I p1,.I p2,.str t2,.arr 129 (List.length l7),.nil]),(129,.arr 86 6 (List.map GPart.lv l7))]) R R R R) (Wk.trans (Wk.ownBx 146 3 1 109 4 R R R R R (prN R)) (Wk.eq (el:=[(0,.ptr 7 0),(1,.I p1),(3,.I p3),(8,.ptr 108 0),(9,.ptr 109 0),(11,.I 0)]) (ml:=[(7,.box [.L l5,.I n6]),(108,.box [.I 0,.I 0,.str (ByteArray.mk #[]),.nil,.nil]),(109,.box [.I p1,.I p2,.str t2,.arr 129 (List.length l7),.arr 146 (List.length ([]:List Int))]),(129,.arr 86 6 (List.map GPart.lv l7)),(146,.arr 3 1 (List.map LV.I ([]:List Int)))]) R R R R))))) (LH.loop (fun n e m=>∃ (n11:Int) (l12:List Int) (n13:Int) (l14:List Int),Gq15 p1 p2 p3 t2 l7 n n11 l12 n13 l14=some r∧e=Env.of [(0,.ptr 7 0),(1,.I p1),(3,.I p3),(8,.ptr 108 0),(9,.ptr 109 0),(11,.I n11)]∧m=Mem.of [(7,.box [.L l12,.I n13]),(108,.box [.I 0,.I 0,.str (ByteArray.mk #[]),.nil,.nil]),(109,.box [.I p1,.I p2,.str t2,.arr 129 (List.length l7),.arr 146 (List.length l14)]),(129,.arr 86 6 (List.map GPart.lv l7)),(146,.arr 3 1 (List.map LV.I l14))]) F ⟨0,l5,n6,([]:List Int),h,R,R⟩ ?_))))))))))
  clear h
  rintro n e m ⟨n11,l12,n13,l14,h,rfl,rfl⟩
  rcases n with _ | n
  · cases (show Option.none=some _ from h)
  obtain ⟨rec2,hrec2⟩:∃ f,f=Gq15 p1 p2 p3 t2 l7 n:=⟨_,rfl⟩
  replace h:Gq16 p1 p2 p3 t2 l7 rec2 n11 l12 n13 l14=some r:=hrec2 ▸ h
  unfold Gq16 at h
  refine LH.seq (LH.seqT [(0,.ptr 7 0),(1,.I p1),(3,.I p3),(8,.ptr 108 0),(9,.ptr 109 0),(11,.I n11),(32,.bool (decide (n11<6)))] [(7,.box [.L l12,.I n13]),(108,.box [.I 0,.I 0,.str (ByteArray.mk #[]),.nil,.nil]),(109,.box [.I p1,.I p2,.str t2,.arr 129 (List.length l7),.arr 146 (List.length l14)]),(129,.arr 86 6 (List.map GPart.lv l7)),(146,.arr 3 1 (List.map LV.I l14))] R (sMi R (sN (oLt R R zS))) (LH.cond (t:=(decide (n11<6))) R (fun hc15=>?_) (fun hc15=>?_)))
  ·replace h:=iteT h hc15
   refine LH.skip (thenN (LH.wk (Wk.eq (el:=[(0,.ptr 7 0),(1,.I p1),(3,.I p3),(8,.ptr 108 0),(9,.ptr 109 0),(11,.I n11)]) (ml:=[(7,.box [.L l12,.I n13]),(108,.box [.I 0,.I 0,.str (ByteArray.mk #[]),.nil,.nil]),(109,.box [.I p1,.I p2,.str t2,.arr 129 (List.length l7),.arr 146 (List.length l14)]),(129,.arr 86 6 (List.map GPart.lv l7)),(146,.arr 3 1 (List.map LV.I l14))]) R R R R) (LH.seq (LH.block ?_))))
   obtain ⟨w19,hv,h⟩:=bindS h
   refine LH.seqT [(0,.ptr 7 0),(1,.I p1),(3,.I p3),(8,.ptr 108 0),(9,.ptr 109 0),(11,.I n11),(41,.bool w19.1)] [(7,.box [.L w19.2.1,.I w19.2.2]),(108,.box [.I 0,.I 0,.str (ByteArray.mk #[]),.nil,.nil]),(109,.box [.I p1,.I p2,.str t2,.arr 129 (List.length l7),.arr 146 (List.length l14)]),(129,.arr 86 6 (List.map GPart.lv l7)),(146,.arr 3 1 (List.map LV.I l14))] R ?_ ?_
   ·refine sMi R (sMi R (sN (oNe R R (sMb R ?_))))
    by_cases hb20:(n11 != p1)=true
    ·replace hv:=iteT hv hb20
     refine sT R (cB hb20) (oM (v:=(.ptr _ _)) R ?_)
     obtain ⟨r21,hr21,hv⟩:=bindS hv
     refine sT R (cB hb20) (oCM (args:=[.ptr 7 0,.I 8]) (ml:=[(7,.box [.L l12,.I n13])]) (ml':=[(7,.box [.L r21.2.L,.I r21.2.At])]) R isF30 R (sbR (sbR sbN)) (Gq21 hr21) (mC R mN) (newI R newN) R (sN (oPkT (cB hb20) (v:=(.bool _)) R ?_)))
     obtain rfl:=oI hv
     exact zS
    ·replace hb20:=bF hb20
     replace hv:=iteF hv hb20
     refine sF R R hb20 (sF R R hb20 (sN (oPkF (cB hb20) (v:=(.bool _)) R ?_)))
     obtain rfl:=oI hv
     exact zS
   clear hv
   refine LH.cond (t:=w19.1) R (fun hc22=>?_) (fun hc22=>?_)
   ·replace h:=iteT h hc22
    obtain ⟨v23,hv23,h⟩:=bindS h
    refine LH.loneT [(0,.ptr 7 0),(1,.I p1),(3,.I p3),(8,.ptr 108 0),(9,.ptr 109 0),(11,.I n11)] [(7,.box [.L w19.2.1,.I w19.2.2]),(108,.box [.I 0,.I 0,.str (ByteArray.mk #[]),.nil,.nil]),(109,.box [.I p1,.I p2,.str t2,.arr 129 (List.length l7),.arr 146 (List.length v23)]),(129,.arr 86 6 (List.map GPart.lv l7)),(146,.arr 3 1 (List.map LV.I v23))] R (sN (oFa tf54_4 tk22 ts22 R R (sN (oLdP R R R R tk22 ta22 (sMi R (sN (oBS (f:=LV.I) (ys:=[n11]) te22 tr3 ts3 R R R okI (sN (oAp (f:=LV.I) te22 tr3 ts3 R R (prN R) R hv23 (sN (oFa tf54_4 tk22 ts22 R R (s_ (oSt R R R tk22 ts22 R R R zS))))))))))))) (blockN (thenN (LH.loneT [(0,.ptr 7 0),(1,.I p1),(3,.I p3),(8,.ptr 108 0),(9,.ptr 109 0),(11,.I (i64 (n11+1)))] [(7,.box [.L w19.2.1,.I w19.2.2]),(108,.box [.I 0,.I 0,.str (ByteArray.mk #[]),.nil,.nil]),(109,.box [.I p1,.I p2,.str t2,.arr 129 (List.length l7),.arr 146 (List.length v23)]),(129,.arr 86 6 (List.map GPart.lv l7)),(146,.arr 3 1 (List.map LV.I v23))] R (sMi R (sN (oAdd R R (sAi R zS)))) ?_)))
    exact roundI ⟨(i64 (n11+1)),w19.2.1,w19.2.2,v23,hrec2 ▸ h,R,R⟩ (Wk.eq R R R R)
   replace h:=iteF h hc22
   refine LH.skip (blockN (thenN (LH.loneT [(0,.ptr 7 0),(1,.I p1),(3,.I p3),(8,.ptr 108 0),(9,.ptr 109 0),(11,.I (i64 (n11+1)))] [(7,.box [.L w19.2.1,.I w19.2.2]),(108,.box [.I 0,.I 0,.str (ByteArray.mk #[]),.nil,.nil]),(109,.box [.I p1,.I p2,.str t2,.arr 129 (List.length l7),.arr 146 (List.length l14)]),(129,.arr 86 6 (List.map GPart.lv l7)),(146,.arr 3 1 (List.map LV.I l14))] R (sMi R (sN (oAdd R R (sAi R zS)))) ?_)))
   exact roundI ⟨(i64 (n11+1)),w19.2.1,w19.2.2,l14,hrec2 ▸ h,R,R⟩ (Wk.eq R R R R)
  replace h:=iteF h hc15
  refine LH.exit (thenX (roundX (blockH (thenN (LH.wk (Wk.eq (el:=[(0,.ptr 7 0),(1,.I p1),(3,.I p3),(8,.ptr 108 0),(9,.ptr 109 0)]) (ml:=[(7,.box [.L l12,.I n13]),(108,.box [.I 0,.I 0,.str (ByteArray.mk #[]),.nil,.nil]),(109,.box [.I p1,.I p2,.str t2,.arr 129 (List.length l7),.arr 146 (List.length l14)]),(129,.arr 86 6 (List.map GPart.lv l7)),(146,.arr 3 1 (List.map LV.I l14))]) R R R R) (LH.seq ?_))))))
  obtain ⟨w27,hv,h⟩:=bindS h
  refine LH.seqT [(0,.ptr 7 0),(1,.I p1),(8,.ptr 108 0),(9,.ptr 109 0),(54,.bool w27.1)] [(7,.box [.L w27.2.1,.I w27.2.2]),(108,.box [.I 0,.I 0,.str (ByteArray.mk #[]),.nil,.nil]),(109,.box [.I p1,.I p2,.str t2,.arr 129 (List.length l7),.arr 146 (List.length l14)]),(129,.arr 86 6 (List.map GPart.lv l7)),(146,.arr 3 1 (List.map LV.I l14))] R ?_ ?_
  ·refine sMi R (sN (oGt R R (sMb R ?_)))
   by_cases hb28:(decide (p3 > 0))=true
   ·replace hv:=iteT hv hb28
    refine sT R (cB hb28) (oM (v:=(.ptr _ _)) R (sT R (cB hb28) (oM (v:=(.int _ _)) R ?_)))
    obtain ⟨r29,hr29,hv⟩:=bindS hv
    refine sT R (cB hb28) (oCM (args:=[.ptr 7 0,.I p3]) (ml:=[(7,.box [.L l12,.I n13])]) (ml':=[(7,.box [.L r29.2.L,.I r29.2.At])]) R isF30 R (sbR (sbR sbN)) (Gq21 hr29) (mC R mN) (newI R newN) R (sN (oPkT (cB hb28) (v:=(.bool _)) R ?_)))
    obtain rfl:=oI hv
    exact zS
   ·replace hb28:=bF hb28
    replace hv:=iteF hv hb28
    refine sF R R hb28 (sF R R hb28 (sF R R hb28 (sN (oPkF (cB hb28) (v:=(.bool _)) R ?_))))
    obtain rfl:=oI hv
    exact zS
  clear hv
  refine LH.cond (t:=w27.1) R (fun hc30=>?_) (fun hc30=>?_)
  ·replace h:=iteT h hc30
   obtain ⟨r31,hr31,h⟩:=bindS h
   refine LH.seqT [(0,.ptr 7 0),(1,.I p1),(8,.ptr 108 0),(9,.ptr 109 0),(56,.I r31.1)] [(7,.box [.L r31.2.L,.I r31.2.At]),(108,.box [.I 0,.I 0,.str (ByteArray.mk #[]),.nil,.nil]),(109,.box [.I p1,.I p2,.str t2,.arr 129 (List.length l7),.arr 146 (List.length l14)]),(129,.arr 86 6 (List.map GPart.lv l7)),(146,.arr 3 1 (List.map LV.I l14))] R (sMp R (sN (oCM (args:=[.ptr 7 0,.I 7]) (ml:=[(7,.box [.L w27.2.1,.I w27.2.2])]) (ml':=[(7,.box [.L r31.2.L,.I r31.2.At])]) R isF27 R (sbR (sbR sbN)) (Gq19 hr31) (mC R mN) (newI R newN) R zS))) (LH.block (LH.seqT [(0,.ptr 7 0),(1,.I p1),(8,.ptr 108 0),(9,.ptr 109 0),(56,.I r31.1),(86,.bool (r31.1 == 0))] [(7,.box [.L r31.2.L,.I r31.2.At]),(108,.box [.I 0,.I 0,.str (ByteArray.mk #[]),.nil,.nil]),(109,.box [.I p1,.I p2,.str t2,.arr 129 (List.length l7),.arr 146 (List.length l14)]),(129,.arr 86 6 (List.map GPart.lv l7)),(146,.arr 3 1 (List.map LV.I l14))] R (sN (oEq R R (sAb R zS))) (LH.cond (t:=(r31.1 == 0)) R (fun hc32=>?_) (fun hc32=>?_))))
   ·replace h:=iteT h hc32
    obtain ⟨r33,hr33,h⟩:=bindS h
    refine LH.loneT [(8,.ptr 108 0),(9,.sptr [.I r33.1,.I p2,.str t2,.lst 6 (List.map GPart.lv l7),.L l14])] [(7,.box [.L r33.2.L,.I r33.2.At]),(108,.box [.I 0,.I 0,.str (ByteArray.mk #[]),.nil,.nil])] R (sMp R (sN (oCM (args:=[.ptr 7 0]) (ml:=[(7,.box [.L r31.2.L,.I r31.2.At])]) (ml':=[(7,.box [.L r33.2.L,.I r33.2.At])]) R isF53 R (sbR sbN) (Gq34 hr33) (mC R mN) (newI R newN) R (sN (oFa tf54_0 tk3 ts3 R R (s_ (oSt R R R tk3 ts3 R R R (s0 ((Wk.trans (Wk.eq (el:=[(8,.ptr 108 0),(9,.ptr 109 0)]) (ml:=[(7,.box [.L r33.2.L,.I r33.2.At]),(108,.box [.I 0,.I 0,.str (ByteArray.mk #[]),.nil,.nil]),(109,.box [.I r33.1,.I p2,.str t2,.arr 129 (List.length l7),.arr 146 (List.length l14)]),(129,.arr 86 6 (List.map GPart.lv l7)),(146,.arr 3 1 (List.map LV.I l14))]) R R R R) (Wk.trans (Wk.eq (el:=[(8,.ptr 108 0),(9,.ptr 109 0)]) (ml:=[(7,.box [.L r33.2.L,.I r33.2.At]),(108,.box [.I 0,.I 0,.str (ByteArray.mk #[]),.nil,.nil]),(109,.box [.I r33.1,.I p2,.str t2,.arr 129 (List.length l7),.arr 146 (List.length l14)]),(129,.arr 86 6 (List.map GPart.lv l7)),(146,.arr 3 1 (List.map LV.I l14))]) R R R R) (Wk.trans (Wk.trans (Wk.frzBx (f:=GPart.lv) 129 86 6 l7 109 R R R (frAK R (frAK R (frAK R (frAZ (frAK R frA0))))) R R (prN R)) (Wk.eq (el:=[(8,.ptr 108 0),(9,.ptr 109 0)]) (ml:=[(7,.box [.L r33.2.L,.I r33.2.At]),(108,.box [.I 0,.I 0,.str (ByteArray.mk #[]),.nil,.nil]),(109,.box [.I r33.1,.I p2,.str t2,.lst 6 (List.map GPart.lv l7),.arr 146 (List.length l14)]),(146,.arr 3 1 (List.map LV.I l14))]) R R R R)) (Wk.trans (Wk.eq (el:=[(8,.ptr 108 0),(9,.ptr 109 0)]) (ml:=[(7,.box [.L r33.2.L,.I r33.2.At]),(108,.box [.I 0,.I 0,.str (ByteArray.mk #[]),.nil,.nil]),(109,.box [.I r33.1,.I p2,.str t2,.lst 6 (List.map GPart.lv l7),.arr 146 (List.length l14)]),(146,.arr 3 1 (List.map LV.I l14))]) R R R R) (Wk.trans (Wk.trans (Wk.frzBx (f:=LV.I) 146 3 1 l14 109 R R R (frAK R (frAK R (frAK R (frAK R (frAZ frA0))))) R R (prN R)) (Wk.eq (el:=[(8,.ptr 108 0),(9,.ptr 109 0)]) (ml:=[(7,.box [.L r33.2.L,.I r33.2.At]),(108,.box [.I 0,.I 0,.str (ByteArray.mk #[]),.nil,.nil]),(109,.box [.I r33.1,.I p2,.str t2,.lst 6 (List.map GPart.lv l7),.L l14])]) R R R R)) (Wk.trans (Wk.frzB 109 [.I r33.1,.I p2,.str t2,.lst 6 (List.map GPart.lv l7),.L l14] R R R (prN R)) (Wk.eq R R R R)))))))))))))))) (blockN (thenN (LH.seqT [(8,.sptr [.I r33.1,.I p2,.str t2,.lst 6 (List.map GPart.lv l7),.L l14])] [(7,.box [.L r33.2.L,.I r33.2.At])] R (sN (oLdA R tk54 ta54 ts54 R R (s_ (oSt R R R tk54 ts54 R R R (s0 ((Wk.trans (Wk.eq (el:=[(8,.ptr 108 0)]) (ml:=[(7,.box [.L r33.2.L,.I r33.2.At]),(108,.box [.I r33.1,.I p2,.str t2,.lst 6 (List.map GPart.lv l7),.L l14])]) R R R R) (Wk.trans (Wk.frzB 108 [.I r33.1,.I p2,.str t2,.lst 6 (List.map GPart.lv l7),.L l14] R R R (prN R)) (Wk.eq R R R R))))))))) (LH.ret ?_))))
    obtain rfl:=oI h
    exact retE (aT Tryz.results29) (lrSA R tk54 ta54 ts54 R R (lr0 ⟨memN (mC R mN),R,prK R,Sub.rfl⟩))
   replace h:=iteF h hc32
   refine LH.seqT [(0,.ptr 7 0),(1,.I p1),(8,.ptr 108 0),(9,.ptr 109 0),(56,.I r31.1),(91,.bool (r31.1 == 1))] [(7,.box [.L r31.2.L,.I r31.2.At]),(108,.box [.I 0,.I 0,.str (ByteArray.mk #[]),.nil,.nil]),(109,.box [.I p1,.I p2,.str t2,.arr 129 (List.length l7),.arr 146 (List.length l14)]),(129,.arr 86 6 (List.map GPart.lv l7)),(146,.arr 3 1 (List.map LV.I l14))] R (sN (oEq R R (sAb R zS))) (LH.cond (t:=(r31.1 == 1)) R (fun hc34=>?_) (fun hc34=>?_))
   ·replace h:=iteT h hc34
    obtain ⟨r35,hr35,h⟩:=bindS h
    refine LH.loneT [(8,.ptr 108 0),(9,.sptr [.I p1,.I r35.1,.str t2,.lst 6 (List.map GPart.lv l7),.L l14])] [(7,.box [.L r35.2.L,.I r35.2.At]),(108,.box [.I 0,.I 0,.str (ByteArray.mk #[]),.nil,.nil])] R (sMp R (sN (oBS (f:=LV.I) (ys:=[0,8,9,(-1)]) te22 tr3 ts3 R R R okI (sN (oCM (args:=[.ptr 7 0,.L [0,8,9,(-1)]]) (ml:=[(7,.box [.L r31.2.L,.I r31.2.At])]) (ml':=[(7,.box [.L r35.2.L,.I r35.2.At])]) R isF28 R (sbR (sbR sbN)) (Gq26 hr35) (mC R mN) (newI R newN) R (sN (oFa tf54_1 tk3 ts3 R R (s_ (oSt R R R tk3 ts3 R R R (s0 ((Wk.trans (Wk.eq (el:=[(8,.ptr 108 0),(9,.ptr 109 0)]) (ml:=[(7,.box [.L r35.2.L,.I r35.2.At]),(108,.box [.I 0,.I 0,.str (ByteArray.mk #[]),.nil,.nil]),(109,.box [.I p1,.I r35.1,.str t2,.arr 129 (List.length l7),.arr 146 (List.length l14)]),(129,.arr 86 6 (List.map GPart.lv l7)),(146,.arr 3 1 (List.map LV.I l14))]) R R R R) (Wk.trans (Wk.eq (el:=[(8,.ptr 108 0),(9,.ptr 109 0)]) (ml:=[(7,.box [.L r35.2.L,.I r35.2.At]),(108,.box [.I 0,.I 0,.str (ByteArray.mk #[]),.nil,.nil]),(109,.box [.I p1,.I r35.1,.str t2,.arr 129 (List.length l7),.arr 146 (List.length l14)]),(129,.arr 86 6 (List.map GPart.lv l7)),(146,.arr 3 1 (List.map LV.I l14))]) R R R R) (Wk.trans (Wk.trans (Wk.frzBx (f:=GPart.lv) 129 86 6 l7 109 R R R (frAK R (frAK R (frAK R (frAZ (frAK R frA0))))) R R (prN R)) (Wk.eq (el:=[(8,.ptr 108 0),(9,.ptr 109 0)]) (ml:=[(7,.box [.L r35.2.L,.I r35.2.At]),(108,.box [.I 0,.I 0,.str (ByteArray.mk #[]),.nil,.nil]),(109,.box [.I p1,.I r35.1,.str t2,.lst 6 (List.map GPart.lv l7),.arr 146 (List.length l14)]),(146,.arr 3 1 (List.map LV.I l14))]) R R R R)) (Wk.trans (Wk.eq (el:=[(8,.ptr 108 0),(9,.ptr 109 0)]) (ml:=[(7,.box [.L r35.2.L,.I r35.2.At]),(108,.box [.I 0,.I 0,.str (ByteArray.mk #[]),.nil,.nil]),(109,.box [.I p1,.I r35.1,.str t2,.lst 6 (List.map GPart.lv l7),.arr 146 (List.length l14)]),(146,.arr 3 1 (List.map LV.I l14))]) R R R R) (Wk.trans (Wk.trans (Wk.frzBx (f:=LV.I) 146 3 1 l14 109 R R R (frAK R (frAK R (frAK R (frAK R (frAZ frA0))))) R R (prN R)) (Wk.eq (el:=[(8,.ptr 108 0),(9,.ptr 109 0)]) (ml:=[(7,.box [.L r35.2.L,.I r35.2.At]),(108,.box [.I 0,.I 0,.str (ByteArray.mk #[]),.nil,.nil]),(109,.box [.I p1,.I r35.1,.str t2,.lst 6 (List.map GPart.lv l7),.L l14])]) R R R R)) (Wk.trans (Wk.frzB 109 [.I p1,.I r35.1,.str t2,.lst 6 (List.map GPart.lv l7),.L l14] R R R (prN R)) (Wk.eq R R R R)))))))))))))))))) (blockN (thenN (LH.seqT [(8,.sptr [.I p1,.I r35.1,.str t2,.lst 6 (List.map GPart.lv l7),.L l14])] [(7,.box [.L r35.2.L,.I r35.2.At])] R (sN (oLdA R tk54 ta54 ts54 R R (s_ (oSt R R R tk54 ts54 R R R (s0 ((Wk.trans (Wk.eq (el:=[(8,.ptr 108 0)]) (ml:=[(7,.box [.L r35.2.L,.I r35.2.At]),(108,.box [.I p1,.I r35.1,.str t2,.lst 6 (List.map GPart.lv l7),.L l14])]) R R R R) (Wk.trans (Wk.frzB 108 [.I p1,.I r35.1,.str t2,.lst 6 (List.map GPart.lv l7),.L l14] R R R (prN R)) (Wk.eq R R R R))))))))) (LH.ret ?_))))
    obtain rfl:=oI h
    exact retE (aT Tryz.results29) (lrSA R tk54 ta54 ts54 R R (lr0 ⟨memN (mC R mN),R,prK R,Sub.rfl⟩))
   replace h:=iteF h hc34
   refine LH.seqT [(0,.ptr 7 0),(1,.I p1),(8,.ptr 108 0),(9,.ptr 109 0),(56,.I r31.1),(97,.bool (r31.1 == 2))] [(7,.box [.L r31.2.L,.I r31.2.At]),(108,.box [.I 0,.I 0,.str (ByteArray.mk #[]),.nil,.nil]),(109,.box [.I p1,.I p2,.str t2,.arr 129 (List.length l7),.arr 146 (List.length l14)]),(129,.arr 86 6 (List.map GPart.lv l7)),(146,.arr 3 1 (List.map LV.I l14))] R (sN (oEq R R (sAb R zS))) (LH.cond (t:=(r31.1 == 2)) R (fun hc36=>?_) (fun hc36=>?_))
   ·replace h:=iteT h hc36
    obtain ⟨r37,hr37,h⟩:=bindS h
    obtain ⟨x38,hx38,h⟩:=bindS h
    refine LH.loneT [(8,.ptr 108 0),(9,.sptr [.I p1,.I p2,.str x38,.lst 6 (List.map GPart.lv l7),.L l14])] [(7,.box [.L r37.2.L,.I r37.2.At]),(108,.box [.I 0,.I 0,.str (ByteArray.mk #[]),.nil,.nil])] R (sN (oBS (f:=LV.str) (ys:=[(ByteArray.mk #[]),(ByteArray.mk #[116,97,98,9]),(ByteArray.mk #[48,49,50,51,52,53,54,55,56,57,48,49,50,51,52,53,54,55,56,57,48,49,50,51,52,53,54,55,56,57,48,49,50,51,52,53,54,55,56,57,120])]) te105 tr9 ts9 R R R okS (sMp R (sN (oCM (args:=[.ptr 7 0,.I 3]) (ml:=[(7,.box [.L r31.2.L,.I r31.2.At])]) (ml':=[(7,.box [.L r37.2.L,.I r37.2.At])]) R isF27 R (sbR (sbR sbN)) (Gq19 hr37) (mC R mN) (newI R newN) R (sN (oIx (f:=LV.str) te105 tk9 ts9 R R okS hx38 R (sN (oLd R tk9 ta9 (sN (oFa tf54_2 tk9 ts9 R R (s_ (oSt R R R tk9 ts9 R R R (s0 ((Wk.trans (Wk.eq (el:=[(8,.ptr 108 0),(9,.ptr 109 0)]) (ml:=[(7,.box [.L r37.2.L,.I r37.2.At]),(108,.box [.I 0,.I 0,.str (ByteArray.mk #[]),.nil,.nil]),(109,.box [.I p1,.I p2,.str x38,.arr 129 (List.length l7),.arr 146 (List.length l14)]),(129,.arr 86 6 (List.map GPart.lv l7)),(146,.arr 3 1 (List.map LV.I l14))]) R R R R) (Wk.trans (Wk.eq (el:=[(8,.ptr 108 0),(9,.ptr 109 0)]) (ml:=[(7,.box [.L r37.2.L,.I r37.2.At]),(108,.box [.I 0,.I 0,.str (ByteArray.mk #[]),.nil,.nil]),(109,.box [.I p1,.I p2,.str x38,.arr 129 (List.length l7),.arr 146 (List.length l14)]),(129,.arr 86 6 (List.map GPart.lv l7)),(146,.arr 3 1 (List.map LV.I l14))]) R R R R) (Wk.trans (Wk.trans (Wk.frzBx (f:=GPart.lv) 129 86 6 l7 109 R R R (frAK R (frAK R (frAK R (frAZ (frAK R frA0))))) R R (prN R)) (Wk.eq (el:=[(8,.ptr 108 0),(9,.ptr 109 0)]) (ml:=[(7,.box [.L r37.2.L,.I r37.2.At]),(108,.box [.I 0,.I 0,.str (ByteArray.mk #[]),.nil,.nil]),(109,.box [.I p1,.I p2,.str x38,.lst 6 (List.map GPart.lv l7),.arr 146 (List.length l14)]),(146,.arr 3 1 (List.map LV.I l14))]) R R R R)) (Wk.trans (Wk.eq (el:=[(8,.ptr 108 0),(9,.ptr 109 0)]) (ml:=[(7,.box [.L r37.2.L,.I r37.2.At]),(108,.box [.I 0,.I 0,.str (ByteArray.mk #[]),.nil,.nil]),(109,.box [.I p1,.I p2,.str x38,.lst 6 (List.map GPart.lv l7),.arr 146 (List.length l14)]),(146,.arr 3 1 (List.map LV.I l14))]) R R R R) (Wk.trans (Wk.trans (Wk.frzBx (f:=LV.I) 146 3 1 l14 109 R R R (frAK R (frAK R (frAK R (frAK R (frAZ frA0))))) R R (prN R)) (Wk.eq (el:=[(8,.ptr 108 0),(9,.ptr 109 0)]) (ml:=[(7,.box [.L r37.2.L,.I r37.2.At]),(108,.box [.I 0,.I 0,.str (ByteArray.mk #[]),.nil,.nil]),(109,.box [.I p1,.I p2,.str x38,.lst 6 (List.map GPart.lv l7),.L l14])]) R R R R)) (Wk.trans (Wk.frzB 109 [.I p1,.I p2,.str x38,.lst 6 (List.map GPart.lv l7),.L l14] R R R (prN R)) (Wk.eq R R R R)))))))))))))))))))))) (blockN (thenN (LH.seqT [(8,.sptr [.I p1,.I p2,.str x38,.lst 6 (List.map GPart.lv l7),.L l14])] [(7,.box [.L r37.2.L,.I r37.2.At])] R (sN (oLdA R tk54 ta54 ts54 R R (s_ (oSt R R R tk54 ts54 R R R (s0 ((Wk.trans (Wk.eq (el:=[(8,.ptr 108 0)]) (ml:=[(7,.box [.L r37.2.L,.I r37.2.At]),(108,.box [.I p1,.I p2,.str x38,.lst 6 (List.map GPart.lv l7),.L l14])]) R R R R) (Wk.trans (Wk.frzB 108 [.I p1,.I p2,.str x38,.lst 6 (List.map GPart.lv l7),.L l14] R R R (prN R)) (Wk.eq R R R R))))))))) (LH.ret ?_))))
    obtain rfl:=oI h
    exact retE (aT Tryz.results29) (lrSA R tk54 ta54 ts54 R R (lr0 ⟨memN (mC R mN),R,prK R,Sub.rfl⟩))
   replace h:=iteF h hc36
   refine LH.seqT [(0,.ptr 7 0),(1,.I p1),(8,.ptr 108 0),(9,.ptr 109 0),(56,.I r31.1),(105,.bool (r31.1 == 3))] [(7,.box [.L r31.2.L,.I r31.2.At]),(108,.box [.I 0,.I 0,.str (ByteArray.mk #[]),.nil,.nil]),(109,.box [.I p1,.I p2,.str t2,.arr 129 (List.length l7),.arr 146 (List.length l14)]),(129,.arr 86 6 (List.map GPart.lv l7)),(146,.arr 3 1 (List.map LV.I l14))] R (sN (oEq R R (sAb R zS))) (LH.cond (t:=(r31.1 == 3)) R (fun hc39=>?_) (fun hc39=>?_))
   ·replace h:=iteT h hc39
    refine LH.loneT [(8,.ptr 108 0),(9,.sptr [.I p1,.I p2,.str t2,.nil,.L l14])] [(7,.box [.L r31.2.L,.I r31.2.At]),(108,.box [.I 0,.I 0,.str (ByteArray.mk #[]),.nil,.nil])] R (sN (oFa tf54_3 tk52 ts52 R R (s_ (oSt R R R tk52 ts52 R R R (s0 ((Wk.trans (Wk.eq (el:=[(8,.ptr 108 0),(9,.ptr 109 0)]) (ml:=[(7,.box [.L r31.2.L,.I r31.2.At]),(108,.box [.I 0,.I 0,.str (ByteArray.mk #[]),.nil,.nil]),(109,.box [.I p1,.I p2,.str t2,.nil,.arr 146 (List.length l14)]),(146,.arr 3 1 (List.map LV.I l14))]) R R R R) (Wk.trans (Wk.eq (el:=[(8,.ptr 108 0),(9,.ptr 109 0)]) (ml:=[(7,.box [.L r31.2.L,.I r31.2.At]),(108,.box [.I 0,.I 0,.str (ByteArray.mk #[]),.nil,.nil]),(109,.box [.I p1,.I p2,.str t2,.nil,.arr 146 (List.length l14)]),(146,.arr 3 1 (List.map LV.I l14))]) R R R R) (Wk.trans (Wk.trans (Wk.frzBx (f:=LV.I) 146 3 1 l14 109 R R R (frAK R (frAK R (frAK R (frAK R (frAZ frA0))))) R R (prN R)) (Wk.eq (el:=[(8,.ptr 108 0),(9,.ptr 109 0)]) (ml:=[(7,.box [.L r31.2.L,.I r31.2.At]),(108,.box [.I 0,.I 0,.str (ByteArray.mk #[]),.nil,.nil]),(109,.box [.I p1,.I p2,.str t2,.nil,.L l14])]) R R R R)) (Wk.trans (Wk.frzB 109 [.I p1,.I p2,.str t2,.nil,.L l14] R R R (prN R)) (Wk.eq R R R R))))))))))) (blockN (thenN (LH.seqT [(8,.sptr [.I p1,.I p2,.str t2,.nil,.L l14])] [(7,.box [.L r31.2.L,.I r31.2.At])] R (sN (oLdA R tk54 ta54 ts54 R R (s_ (oSt R R R tk54 ts54 R R R (s0 ((Wk.trans (Wk.eq (el:=[(8,.ptr 108 0)]) (ml:=[(7,.box [.L r31.2.L,.I r31.2.At]),(108,.box [.I p1,.I p2,.str t2,.nil,.L l14])]) R R R R) (Wk.trans (Wk.frzB 108 [.I p1,.I p2,.str t2,.nil,.L l14] R R R (prN R)) (Wk.eq R R R R))))))))) (LH.ret ?_))))
    obtain rfl:=oI h
    exact retE (aT Tryz.results29) (lrSA R tk54 ta54 ts54 R R (lr0 ⟨memN (mC R mN),R,prK R,(SubL.head (sbS (Sub.agg (sbR (sbR (sbR (sbL (sbR sbN)))))) sbN))⟩))
   replace h:=iteF h hc39
   refine LH.seqT [(0,.ptr 7 0),(1,.I p1),(8,.ptr 108 0),(9,.ptr 109 0),(56,.I r31.1),(108,.bool (r31.1 == 4))] [(7,.box [.L r31.2.L,.I r31.2.At]),(108,.box [.I 0,.I 0,.str (ByteArray.mk #[]),.nil,.nil]),(109,.box [.I p1,.I p2,.str t2,.arr 129 (List.length l7),.arr 146 (List.length l14)]),(129,.arr 86 6 (List.map GPart.lv l7)),(146,.arr 3 1 (List.map LV.I l14))] R (sN (oEq R R (sAb R zS))) (LH.cond (t:=(r31.1 == 4)) R (fun hc40=>?_) (fun hc40=>?_))
   ·replace h:=iteT h hc40
    obtain ⟨r41,hr41,h⟩:=bindS h
    obtain ⟨v42,hv42,h⟩:=bindS h
    refine LH.loneTM mixed [] [0,1109,0,100007,0,2,0,100109] [(8,.ptr 108 0),(9,.sptr [.I p1,.I p2,.str t2,.lst 6 (List.map GPart.lv v42),.L l14])] [(7,.box [.L r41.2.L,.I r41.2.At]),(108,.box [.I 0,.I 0,.str (ByteArray.mk #[]),.nil,.nil])] R R (by kernel_rfl) (mN0 (oFa tf54_3 tk52 ts52 R R ⟨R,mD R R R (fun _ b _ d=>oLdP R b R R tk52 ta52 d) (mMp R (mW R R R (fun _ b _ d=>oCM (args:=[.ptr 7 0,.I 1]) (ml:=[(7,.box [.L r31.2.L,.I r31.2.At])]) (ml':=[(7,.box [.L r41.2.L,.I r41.2.At])]) R isF52 R (sbR (sbR sbN)) (Gq24 hr41) (mC b mN) (newI R newN) R d) (mN0 (oBS (f:=GPart.lv) (ys:=[r41.1]) te52 tr86 ts86 R R R GPart.ok ⟨R,mN2 (oAp (f:=GPart.lv) te52 tr86 ts86 R R (prN R) R hv42 (mN0 (oFa tf54_3 tk52 ts52 R R ⟨R,mS R R R (fun _ b _ d=>oSt R R R tk52 ts52 b R R d) (m0 ((Wk.trans (Wk.eq (el:=[(8,.ptr 108 0),(9,.ptr 109 0)]) (ml:=[(7,.box [.L r41.2.L,.I r41.2.At]),(108,.box [.I 0,.I 0,.str (ByteArray.mk #[]),.nil,.nil]),(109,.box [.I p1,.I p2,.str t2,.arr 129 (List.length v42),.arr 146 (List.length l14)]),(129,.arr 86 6 (List.map GPart.lv v42)),(146,.arr 3 1 (List.map LV.I l14))]) R R R R) (Wk.trans (Wk.eq (el:=[(8,.ptr 108 0),(9,.ptr 109 0)]) (ml:=[(7,.box [.L r41.2.L,.I r41.2.At]),(108,.box [.I 0,.I 0,.str (ByteArray.mk #[]),.nil,.nil]),(109,.box [.I p1,.I p2,.str t2,.arr 129 (List.length v42),.arr 146 (List.length l14)]),(129,.arr 86 6 (List.map GPart.lv v42)),(146,.arr 3 1 (List.map LV.I l14))]) R R R R) (Wk.trans (Wk.trans (Wk.frzBx (f:=GPart.lv) 129 86 6 v42 109 R R R (frAK R (frAK R (frAK R (frAZ (frAK R frA0))))) R R (prN R)) (Wk.eq (el:=[(8,.ptr 108 0),(9,.ptr 109 0)]) (ml:=[(7,.box [.L r41.2.L,.I r41.2.At]),(108,.box [.I 0,.I 0,.str (ByteArray.mk #[]),.nil,.nil]),(109,.box [.I p1,.I p2,.str t2,.lst 6 (List.map GPart.lv v42),.arr 146 (List.length l14)]),(146,.arr 3 1 (List.map LV.I l14))]) R R R R)) (Wk.trans (Wk.eq (el:=[(8,.ptr 108 0),(9,.ptr 109 0)]) (ml:=[(7,.box [.L r41.2.L,.I r41.2.At]),(108,.box [.I 0,.I 0,.str (ByteArray.mk #[]),.nil,.nil]),(109,.box [.I p1,.I p2,.str t2,.lst 6 (List.map GPart.lv v42),.arr 146 (List.length l14)]),(146,.arr 3 1 (List.map LV.I l14))]) R R R R) (Wk.trans (Wk.trans (Wk.frzBx (f:=LV.I) 146 3 1 l14 109 R R R (frAK R (frAK R (frAK R (frAK R (frAZ frA0))))) R R (prN R)) (Wk.eq (el:=[(8,.ptr 108 0),(9,.ptr 109 0)]) (ml:=[(7,.box [.L r41.2.L,.I r41.2.At]),(108,.box [.I 0,.I 0,.str (ByteArray.mk #[]),.nil,.nil]),(109,.box [.I p1,.I p2,.str t2,.lst 6 (List.map GPart.lv v42),.L l14])]) R R R R)) (Wk.trans (Wk.frzB 109 [.I p1,.I p2,.str t2,.lst 6 (List.map GPart.lv v42),.L l14] R R R (prN R)) (Wk.eq R R R R)))))))))⟩)))⟩))))⟩)) (blockN (thenN (LH.seqT [(8,.sptr [.I p1,.I p2,.str t2,.lst 6 (List.map GPart.lv v42),.L l14])] [(7,.box [.L r41.2.L,.I r41.2.At])] R (sN (oLdA R tk54 ta54 ts54 R R (s_ (oSt R R R tk54 ts54 R R R (s0 ((Wk.trans (Wk.eq (el:=[(8,.ptr 108 0)]) (ml:=[(7,.box [.L r41.2.L,.I r41.2.At]),(108,.box [.I p1,.I p2,.str t2,.lst 6 (List.map GPart.lv v42),.L l14])]) R R R R) (Wk.trans (Wk.frzB 108 [.I p1,.I p2,.str t2,.lst 6 (List.map GPart.lv v42),.L l14] R R R (prN R)) (Wk.eq R R R R))))))))) (LH.ret ?_))))
    obtain rfl:=oI h
    exact retE (aT Tryz.results29) (lrSA R tk54 ta54 ts54 R R (lr0 ⟨memN (mC R mN),R,prK R,Sub.rfl⟩))
   replace h:=iteF h hc40
   refine LH.seqT [(0,.ptr 7 0),(1,.I p1),(8,.ptr 108 0),(9,.ptr 109 0),(117,.bool (r31.1 == 5))] [(7,.box [.L r31.2.L,.I r31.2.At]),(108,.box [.I 0,.I 0,.str (ByteArray.mk #[]),.nil,.nil]),(109,.box [.I p1,.I p2,.str t2,.arr 129 (List.length l7),.arr 146 (List.length l14)]),(129,.arr 86 6 (List.map GPart.lv l7)),(146,.arr 3 1 (List.map LV.I l14))] R (sN (oEq R R (sAb R zS))) (LH.cond (t:=(r31.1 == 5)) R (fun hc43=>?_) (fun hc43=>?_))
   ·replace h:=iteT h hc43
    obtain ⟨r44,hr44,h⟩:=bindS h
    obtain ⟨v45,hv45,h⟩:=bindS h
    refine LH.loneTM mixed [] [0,1109,0,0,0,100007,0,2,0,100109] [(8,.ptr 108 0),(9,.sptr [.I p1,.I p2,.str t2,.lst 6 (List.map GPart.lv l7),.L v45])] [(7,.box [.L r44.2.L,.I r44.2.At]),(108,.box [.I 0,.I 0,.str (ByteArray.mk #[]),.nil,.nil])] R R (by kernel_rfl) (mN0 (oFa tf54_4 tk22 ts22 R R ⟨R,mD R R R (fun _ b _ d=>oLdP R b R R tk22 ta22 d) (mMp R (mMi R (mN0 (oBS (f:=LV.I) (ys:=[0,p1,(-1),10000,3]) te22 tr3 ts3 R R R okI ⟨R,mW R R R (fun _ b _ d=>oCM (args:=[.ptr 7 0,.L [0,p1,(-1),10000,3]]) (ml:=[(7,.box [.L r31.2.L,.I r31.2.At])]) (ml':=[(7,.box [.L r44.2.L,.I r44.2.At])]) R isF28 R (sbR (sbR sbN)) (Gq26 hr44) (mC b mN) (newI R newN) R d) (mN0 (oBS (f:=LV.I) (ys:=[r44.1]) te22 tr3 ts3 R R R okI ⟨R,mN2 (oAp (f:=LV.I) te22 tr3 ts3 R R (prN R) R hv45 (mN0 (oFa tf54_4 tk22 ts22 R R ⟨R,mS R R R (fun _ b _ d=>oSt R R R tk22 ts22 b R R d) (m0 ((Wk.trans (Wk.eq (el:=[(8,.ptr 108 0),(9,.ptr 109 0)]) (ml:=[(7,.box [.L r44.2.L,.I r44.2.At]),(108,.box [.I 0,.I 0,.str (ByteArray.mk #[]),.nil,.nil]),(109,.box [.I p1,.I p2,.str t2,.arr 129 (List.length l7),.arr 146 (List.length v45)]),(129,.arr 86 6 (List.map GPart.lv l7)),(146,.arr 3 1 (List.map LV.I v45))]) R R R R) (Wk.trans (Wk.eq (el:=[(8,.ptr 108 0),(9,.ptr 109 0)]) (ml:=[(7,.box [.L r44.2.L,.I r44.2.At]),(108,.box [.I 0,.I 0,.str (ByteArray.mk #[]),.nil,.nil]),(109,.box [.I p1,.I p2,.str t2,.arr 129 (List.length l7),.arr 146 (List.length v45)]),(129,.arr 86 6 (List.map GPart.lv l7)),(146,.arr 3 1 (List.map LV.I v45))]) R R R R) (Wk.trans (Wk.trans (Wk.frzBx (f:=GPart.lv) 129 86 6 l7 109 R R R (frAK R (frAK R (frAK R (frAZ (frAK R frA0))))) R R (prN R)) (Wk.eq (el:=[(8,.ptr 108 0),(9,.ptr 109 0)]) (ml:=[(7,.box [.L r44.2.L,.I r44.2.At]),(108,.box [.I 0,.I 0,.str (ByteArray.mk #[]),.nil,.nil]),(109,.box [.I p1,.I p2,.str t2,.lst 6 (List.map GPart.lv l7),.arr 146 (List.length v45)]),(146,.arr 3 1 (List.map LV.I v45))]) R R R R)) (Wk.trans (Wk.eq (el:=[(8,.ptr 108 0),(9,.ptr 109 0)]) (ml:=[(7,.box [.L r44.2.L,.I r44.2.At]),(108,.box [.I 0,.I 0,.str (ByteArray.mk #[]),.nil,.nil]),(109,.box [.I p1,.I p2,.str t2,.lst 6 (List.map GPart.lv l7),.arr 146 (List.length v45)]),(146,.arr 3 1 (List.map LV.I v45))]) R R R R) (Wk.trans (Wk.trans (Wk.frzBx (f:=LV.I) 146 3 1 v45 109 R R R (frAK R (frAK R (frAK R (frAK R (frAZ frA0))))) R R (prN R)) (Wk.eq (el:=[(8,.ptr 108 0),(9,.ptr 109 0)]) (ml:=[(7,.box [.L r44.2.L,.I r44.2.At]),(108,.box [.I 0,.I 0,.str (ByteArray.mk #[]),.nil,.nil]),(109,.box [.I p1,.I p2,.str t2,.lst 6 (List.map GPart.lv l7),.L v45])]) R R R R)) (Wk.trans (Wk.frzB 109 [.I p1,.I p2,.str t2,.lst 6 (List.map GPart.lv l7),.L v45] R R R (prN R)) (Wk.eq R R R R)))))))))⟩)))⟩))⟩))))⟩)) (blockN (thenN (LH.seqT [(8,.sptr [.I p1,.I p2,.str t2,.lst 6 (List.map GPart.lv l7),.L v45])] [(7,.box [.L r44.2.L,.I r44.2.At])] R (sN (oLdA R tk54 ta54 ts54 R R (s_ (oSt R R R tk54 ts54 R R R (s0 ((Wk.trans (Wk.eq (el:=[(8,.ptr 108 0)]) (ml:=[(7,.box [.L r44.2.L,.I r44.2.At]),(108,.box [.I p1,.I p2,.str t2,.lst 6 (List.map GPart.lv l7),.L v45])]) R R R R) (Wk.trans (Wk.frzB 108 [.I p1,.I p2,.str t2,.lst 6 (List.map GPart.lv l7),.L v45] R R R (prN R)) (Wk.eq R R R R))))))))) (LH.ret ?_))))
    obtain rfl:=oI h
    exact retE (aT Tryz.results29) (lrSA R tk54 ta54 ts54 R R (lr0 ⟨memN (mC R mN),R,prK R,Sub.rfl⟩))
   replace h:=iteF h hc43
   obtain ⟨x46,hx46,h⟩:=bindS h
   obtain ⟨x47,hx47,h⟩:=bindS h
   obtain ⟨x48,hx48,h⟩:=bindS h
   obtain ⟨x49,hx49,h⟩:=bindS h
   obtain ⟨x50,hx50,h⟩:=bindS h
   obtain ⟨x51,hx51,h⟩:=bindS h
   obtain ⟨v52,hv52,h⟩:=bindS h
   refine LH.loneTM mixed [] [0,1109,0,1109,1129,1129,0,1109,1129,1129,0,1109,1129,1129,0,1109,1129,1129,0,1109,1129,1129,0,1109,1129,1129,0,2,0,100109] [(8,.ptr 108 0),(9,.sptr [.I p1,.I p2,.str t2,.lst 6 (List.map GPart.lv v52),.L l14])] [(7,.box [.L r31.2.L,.I r31.2.At]),(108,.box [.I 0,.I 0,.str (ByteArray.mk #[]),.nil,.nil])] R R (by kernel_rfl) ?_ ?_
   ·exact mN0 (oFa tf54_3 tk52 ts52 R R ⟨R,mD R R R (fun _ b _ d=>oLdP R b R R tk52 ta52 d) (mN0 (oFa tf54_3 tk52 ts52 R R ⟨R,mD R R R (fun _ b _ d=>oLdP R b R R tk52 ta52 d) (mD R R R (fun _ b _ d=>oIxA (f:=GPart.lv) te52 tk86 ts86 R b R hx46 d) (mD R R R (fun _ b _ d=>oLdEA (f:=GPart.lv) R b (idxOk hx46).2 R R tk86 ta86 ts86 R R d) (mN0 (oFa tf54_3 tk52 ts52 R R ⟨R,mD R R R (fun _ b _ d=>oLdP R b R R tk52 ta52 d) (mD R R R (fun _ b _ d=>oIxA (f:=GPart.lv) te52 tk86 ts86 R b R hx47 d) (mD R R R (fun _ b _ d=>oLdEA (f:=GPart.lv) R b (idxOk hx47).2 R R tk86 ta86 ts86 R R d) (mN0 (oFa tf54_3 tk52 ts52 R R ⟨R,mD R R R (fun _ b _ d=>oLdP R b R R tk52 ta52 d) (mD R R R (fun _ b _ d=>oIxA (f:=GPart.lv) te52 tk86 ts86 R b R hx48 d) (mD R R R (fun _ b _ d=>oLdEA (f:=GPart.lv) R b (idxOk hx48).2 R R tk86 ta86 ts86 R R d) (mN0 (oFa tf54_3 tk52 ts52 R R ⟨R,mD R R R (fun _ b _ d=>oLdP R b R R tk52 ta52 d) (mD R R R (fun _ b _ d=>oIxA (f:=GPart.lv) te52 tk86 ts86 R b R hx49 d) (mD R R R (fun _ b _ d=>oLdEA (f:=GPart.lv) R b (idxOk hx49).2 R R tk86 ta86 ts86 R R d) (mN0 (oFa tf54_3 tk52 ts52 R R ⟨R,mD R R R (fun _ b _ d=>oLdP R b R R tk52 ta52 d) (mD R R R (fun _ b _ d=>oIxA (f:=GPart.lv) te52 tk86 ts86 R b R hx50 d) (mD R R R (fun _ b _ d=>oLdEA (f:=GPart.lv) R b (idxOk hx50).2 R R tk86 ta86 ts86 R R d) (mN0 (oFa tf54_3 tk52 ts52 R R ⟨R,mD R R R (fun _ b _ d=>oLdP R b R R tk52 ta52 d) (mD R R R (fun _ b _ d=>oIxA (f:=GPart.lv) te52 tk86 ts86 R b R hx51 d) (mD R R R (fun _ b _ d=>oLdEA (f:=GPart.lv) R b (idxOk hx51).2 R R tk86 ta86 ts86 R R d) (mN0 (oBS (f:=GPart.lv) (ys:=[x46,x47,x48,x49,x50,x51]) te52 tr86 ts86 R R R GPart.ok ⟨R,mN2 (oAp (f:=GPart.lv) te52 tr86 ts86 R R (prN R) R hv52 (mN0 (oFa tf54_3 tk52 ts52 R R ⟨R,mS R R R (fun _ b _ d=>oSt R R R tk52 ts52 b R R d) (m0 ((Wk.trans (Wk.eq (el:=[(8,.ptr 108 0),(9,.ptr 109 0)]) (ml:=[(7,.box [.L r31.2.L,.I r31.2.At]),(108,.box [.I 0,.I 0,.str (ByteArray.mk #[]),.nil,.nil]),(109,.box [.I p1,.I p2,.str t2,.arr 129 (List.length v52),.arr 146 (List.length l14)]),(129,.arr 86 6 (List.map GPart.lv v52)),(146,.arr 3 1 (List.map LV.I l14))]) R R R R) (Wk.trans (Wk.eq (el:=[(8,.ptr 108 0),(9,.ptr 109 0)]) (ml:=[(7,.box [.L r31.2.L,.I r31.2.At]),(108,.box [.I 0,.I 0,.str (ByteArray.mk #[]),.nil,.nil]),(109,.box [.I p1,.I p2,.str t2,.arr 129 (List.length v52),.arr 146 (List.length l14)]),(129,.arr 86 6 (List.map GPart.lv v52)),(146,.arr 3 1 (List.map LV.I l14))]) R R R R) (Wk.trans (Wk.trans (Wk.frzBx (f:=GPart.lv) 129 86 6 v52 109 R R R (frAK R (frAK R (frAK R (frAZ (frAK R frA0))))) R R (prN R)) (Wk.eq (el:=[(8,.ptr 108 0),(9,.ptr 109 0)]) (ml:=[(7,.box [.L r31.2.L,.I r31.2.At]),(108,.box [.I 0,.I 0,.str (ByteArray.mk #[]),.nil,.nil]),(109,.box [.I p1,.I p2,.str t2,.lst 6 (List.map GPart.lv v52),.arr 146 (List.length l14)]),(146,.arr 3 1 (List.map LV.I l14))]) R R R R)) (Wk.trans (Wk.eq (el:=[(8,.ptr 108 0),(9,.ptr 109 0)]) (ml:=[(7,.box [.L r31.2.L,.I r31.2.At]),(108,.box [.I 0,.I 0,.str (ByteArray.mk #[]),.nil,.nil]),(109,.box [.I p1,.I p2,.str t2,.lst 6 (List.map GPart.lv v52),.arr 146 (List.length l14)]),(146,.arr 3 1 (List.map LV.I l14))]) R R R R) (Wk.trans (Wk.trans (Wk.frzBx (f:=LV.I) 146 3 1 l14 109 R R R (frAK R (frAK R (frAK R (frAK R (frAZ frA0))))) R R (prN R)) (Wk.eq (el:=[(8,.ptr 108 0),(9,.ptr 109 0)]) (ml:=[(7,.box [.L r31.2.L,.I r31.2.At]),(108,.box [.I 0,.I 0,.str (ByteArray.mk #[]),.nil,.nil]),(109,.box [.I p1,.I p2,.str t2,.lst 6 (List.map GPart.lv v52),.L l14])]) R R R R)) (Wk.trans (Wk.frzB 109 [.I p1,.I p2,.str t2,.lst 6 (List.map GPart.lv v52),.L l14] R R R (prN R)) (Wk.eq R R R R)))))))))⟩)))⟩))))⟩))))⟩))))⟩))))⟩))))⟩))))⟩))⟩)
   refine blockN (thenN (LH.seqT [(8,.sptr [.I p1,.I p2,.str t2,.lst 6 (List.map GPart.lv v52),.L l14])] [(7,.box [.L r31.2.L,.I r31.2.At])] R (sN (oLdA R tk54 ta54 ts54 R R (s_ (oSt R R R tk54 ts54 R R R (s0 ((Wk.trans (Wk.eq (el:=[(8,.ptr 108 0)]) (ml:=[(7,.box [.L r31.2.L,.I r31.2.At]),(108,.box [.I p1,.I p2,.str t2,.lst 6 (List.map GPart.lv v52),.L l14])]) R R R R) (Wk.trans (Wk.frzB 108 [.I p1,.I p2,.str t2,.lst 6 (List.map GPart.lv v52),.L l14] R R R (prN R)) (Wk.eq R R R R))))))))) (LH.ret ?_)))
   obtain rfl:=oI h
   exact retE (aT Tryz.results29) (lrSA R tk54 ta54 ts54 R R (lr0 ⟨memN (mC R mN),R,prK R,Sub.rfl⟩))
  replace h:=iteF h hc30
  refine LH.skip (thenN (LH.wk ((Wk.trans (Wk.eq (el:=[(8,.ptr 108 0),(9,.ptr 109 0)]) (ml:=[(7,.box [.L w27.2.1,.I w27.2.2]),(108,.box [.I 0,.I 0,.str (ByteArray.mk #[]),.nil,.nil]),(109,.box [.I p1,.I p2,.str t2,.arr 129 (List.length l7),.arr 146 (List.length l14)]),(129,.arr 86 6 (List.map GPart.lv l7)),(146,.arr 3 1 (List.map LV.I l14))]) R R R R) (Wk.trans (Wk.eq (el:=[(8,.ptr 108 0),(9,.ptr 109 0)]) (ml:=[(7,.box [.L w27.2.1,.I w27.2.2]),(108,.box [.I 0,.I 0,.str (ByteArray.mk #[]),.nil,.nil]),(109,.box [.I p1,.I p2,.str t2,.arr 129 (List.length l7),.arr 146 (List.length l14)]),(129,.arr 86 6 (List.map GPart.lv l7)),(146,.arr 3 1 (List.map LV.I l14))]) R R R R) (Wk.trans (Wk.trans (Wk.frzBx (f:=GPart.lv) 129 86 6 l7 109 R R R (frAK R (frAK R (frAK R (frAZ (frAK R frA0))))) R R (prN R)) (Wk.eq (el:=[(8,.ptr 108 0),(9,.ptr 109 0)]) (ml:=[(7,.box [.L w27.2.1,.I w27.2.2]),(108,.box [.I 0,.I 0,.str (ByteArray.mk #[]),.nil,.nil]),(109,.box [.I p1,.I p2,.str t2,.lst 6 (List.map GPart.lv l7),.arr 146 (List.length l14)]),(146,.arr 3 1 (List.map LV.I l14))]) R R R R)) (Wk.trans (Wk.eq (el:=[(8,.ptr 108 0),(9,.ptr 109 0)]) (ml:=[(7,.box [.L w27.2.1,.I w27.2.2]),(108,.box [.I 0,.I 0,.str (ByteArray.mk #[]),.nil,.nil]),(109,.box [.I p1,.I p2,.str t2,.lst 6 (List.map GPart.lv l7),.arr 146 (List.length l14)]),(146,.arr 3 1 (List.map LV.I l14))]) R R R R) (Wk.trans (Wk.trans (Wk.frzBx (f:=LV.I) 146 3 1 l14 109 R R R (frAK R (frAK R (frAK R (frAK R (frAZ frA0))))) R R (prN R)) (Wk.eq (el:=[(8,.ptr 108 0),(9,.ptr 109 0)]) (ml:=[(7,.box [.L w27.2.1,.I w27.2.2]),(108,.box [.I 0,.I 0,.str (ByteArray.mk #[]),.nil,.nil]),(109,.box [.I p1,.I p2,.str t2,.lst 6 (List.map GPart.lv l7),.L l14])]) R R R R)) (Wk.trans (Wk.frzB 109 [.I p1,.I p2,.str t2,.lst 6 (List.map GPart.lv l7),.L l14] R R R (prN R)) (Wk.eq (el:=[(8,.ptr 108 0),(9,.sptr [.I p1,.I p2,.str t2,.lst 6 (List.map GPart.lv l7),.L l14])]) (ml:=[(7,.box [.L w27.2.1,.I w27.2.2]),(108,.box [.I 0,.I 0,.str (ByteArray.mk #[]),.nil,.nil])]) R R R R)))))))) (LH.seqT [(8,.sptr [.I p1,.I p2,.str t2,.lst 6 (List.map GPart.lv l7),.L l14])] [(7,.box [.L w27.2.1,.I w27.2.2])] R (sN (oLdA R tk54 ta54 ts54 R R (s_ (oSt R R R tk54 ts54 R R R (s0 ((Wk.trans (Wk.eq (el:=[(8,.ptr 108 0)]) (ml:=[(7,.box [.L w27.2.1,.I w27.2.2]),(108,.box [.I p1,.I p2,.str t2,.lst 6 (List.map GPart.lv l7),.L l14])]) R R R R) (Wk.trans (Wk.frzB 108 [.I p1,.I p2,.str t2,.lst 6 (List.map GPart.lv l7),.L l14] R R R (prN R)) (Wk.eq R R R R))))))))) (LH.ret ?_))))
  obtain rfl:=oI h
  exact retE (aT Tryz.results29) (lrSA R tk54 ta54 ts54 R R (lr0 ⟨memN (mC R mN),R,prK R,Sub.rfl⟩))

theorem Gq32 {p0:GTape} {p1:Int} {r:Gq4 × GTape} (h:Gq31 p0 p1=some r):LCall Tryz.prog 31 [.ptr 7 0,.I p1] (Mem.of [(7,.box [.L p0.L,.I p0.At])]) (.agg [.I r.1.Time,.I r.1.Source,.I r.1.Seq]) (Mem.of [(7,.box [.L r.2.L,.I r.2.At])]):=by
  unfold Gq31 at h
  refine bodyT Tryz.func31 R (nT Tryz.ntmps31 R) (LH.wk (Wk.eq (el:=[(0,.ptr 7 0),(1,.I p1)]) (ml:=[(7,.box [.L p0.L,.I p0.At])]) R R R R) (LH.seqT [(0,.ptr 7 0),(1,.I p1),(4,.ptr 104 0)] [(7,.box [.L p0.L,.I p0.At]),(104,.box [.I 0,.I 0,.I 0])] R (sN (oAl (id:=104) R tz61 R R zS)) ?_))
  obtain ⟨r1,hr1,h⟩:=bindS h
  obtain ⟨r2,hr2,h⟩:=bindS h
  obtain ⟨r3,hr3,h⟩:=bindS h
  refine LH.seqT [(0,.ptr 7 0),(1,.I p1),(4,.ptr 104 0),(5,.ptr 105 0)] [(7,.box [.L r3.2.L,.I r3.2.At]),(104,.box [.I 0,.I 0,.I 0]),(105,.box [.I r1.1,.I r2.1,.I r3.1])] R (sMp R (sN (oCM (args:=[.ptr 7 0,.I 0,.I 24]) (ml:=[(7,.box [.L p0.L,.I p0.At])]) (ml':=[(7,.box [.L r1.2.L,.I r1.2.At])]) R isF9 R (sbR (sbR (sbR sbN))) (Gq28 hr1) (mC R mN) (newI R newN) R (sMp R (sN (oCM (args:=[.ptr 7 0,.I 0,.I 3]) (ml:=[(7,.box [.L r1.2.L,.I r1.2.At])]) (ml':=[(7,.box [.L r2.2.L,.I r2.2.At])]) R isF9 R (sbR (sbR (sbR sbN))) (Gq28 hr2) (mC R mN) (newI R newN) R (sMp R (sN (oCM (args:=[.ptr 7 0,.I 0,.I 9]) (ml:=[(7,.box [.L r2.2.L,.I r2.2.At])]) (ml':=[(7,.box [.L r3.2.L,.I r3.2.At])]) R isF9 R (sbR (sbR (sbR sbN))) (Gq28 hr3) (mC R mN) (newI R newN) R (sN (oBd (vs:=[(0,.I r1.1),(1,.I r2.1),(2,.I r3.1)]) tu61 tz61 R (lf tf61_0 ts3 tk3 R R R (lf tf61_1 ts3 tk3 R R R (lf tf61_2 ts3 tk3 R R R lf0))) (sN (oAl (id:=105) R tz61 R R (s_ (oSt R R R tk61 ts61 R R R zS))))))))))))))) (LH.seq ?_)
  obtain ⟨w7,hv,h⟩:=bindS h
  refine LH.seqT [(0,.ptr 7 0),(4,.ptr 104 0),(5,.ptr 105 0),(19,.bool w7.1)] [(7,.box [.L w7.2.1,.I w7.2.2]),(104,.box [.I 0,.I 0,.I 0]),(105,.box [.I r1.1,.I r2.1,.I r3.1])] R ?_ ?_
  ·refine sMi R (sN (oGt R R (sMb R ?_)))
   by_cases hb8:(decide (p1 > 0))=true
   ·replace hv:=iteT hv hb8
    refine sT R (cB hb8) (oM (v:=(.ptr _ _)) R (sT R (cB hb8) (oM (v:=(.int _ _)) R ?_)))
    obtain ⟨r9,hr9,hv⟩:=bindS hv
    refine sT R (cB hb8) (oCM (args:=[.ptr 7 0,.I p1]) (ml:=[(7,.box [.L r3.2.L,.I r3.2.At])]) (ml':=[(7,.box [.L r9.2.L,.I r9.2.At])]) R isF30 R (sbR (sbR sbN)) (Gq21 hr9) (mC R mN) (newI R newN) R (sN (oPkT (cB hb8) (v:=(.bool _)) R ?_)))
    obtain rfl:=oI hv
    exact zS
   ·replace hb8:=bF hb8
    replace hv:=iteF hv hb8
    refine sF R R hb8 (sF R R hb8 (sF R R hb8 (sN (oPkF (cB hb8) (v:=(.bool _)) R ?_))))
    obtain rfl:=oI hv
    exact zS
  clear hv
  refine LH.cond (t:=w7.1) R (fun hc10=>?_) (fun hc10=>?_)
  ·replace h:=iteT h hc10
   obtain ⟨r11,hr11,h⟩:=bindS h
   refine LH.seqT [(0,.ptr 7 0),(4,.ptr 104 0),(5,.ptr 105 0),(21,.I r11.1)] [(7,.box [.L r11.2.L,.I r11.2.At]),(104,.box [.I 0,.I 0,.I 0]),(105,.box [.I r1.1,.I r2.1,.I r3.1])] R (sMp R (sN (oCM (args:=[.ptr 7 0,.I 3]) (ml:=[(7,.box [.L w7.2.1,.I w7.2.2])]) (ml':=[(7,.box [.L r11.2.L,.I r11.2.At])]) R isF27 R (sbR (sbR sbN)) (Gq19 hr11) (mC R mN) (newI R newN) R zS))) (LH.block (LH.seqT [(0,.ptr 7 0),(4,.ptr 104 0),(5,.ptr 105 0),(21,.I r11.1),(25,.bool (r11.1 == 0))] [(7,.box [.L r11.2.L,.I r11.2.At]),(104,.box [.I 0,.I 0,.I 0]),(105,.box [.I r1.1,.I r2.1,.I r3.1])] R (sN (oEq R R (sAb R zS))) (LH.cond (t:=(r11.1 == 0)) R (fun hc12=>?_) (fun hc12=>?_))))
   ·replace h:=iteT h hc12
    obtain ⟨r13,hr13,h⟩:=bindS h
    refine LH.loneT [(4,.ptr 104 0),(5,.sptr [.I r13.1,.I r2.1,.I r3.1])] [(7,.box [.L r13.2.L,.I r13.2.At]),(104,.box [.I 0,.I 0,.I 0])] R (sMp R (sN (oCM (args:=[.ptr 7 0]) (ml:=[(7,.box [.L r11.2.L,.I r11.2.At])]) (ml':=[(7,.box [.L r13.2.L,.I r13.2.At])]) R isF53 R (sbR sbN) (Gq34 hr13) (mC R mN) (newI R newN) R (sN (oFa tf61_0 tk3 ts3 R R (s_ (oSt R R R tk3 ts3 R R R (s0 ((Wk.trans (Wk.eq (el:=[(4,.ptr 104 0),(5,.ptr 105 0)]) (ml:=[(7,.box [.L r13.2.L,.I r13.2.At]),(104,.box [.I 0,.I 0,.I 0]),(105,.box [.I r13.1,.I r2.1,.I r3.1])]) R R R R) (Wk.trans (Wk.frzB 105 [.I r13.1,.I r2.1,.I r3.1] R R R (prN R)) (Wk.eq R R R R)))))))))))) (blockN (thenN (LH.seqT [(4,.sptr [.I r13.1,.I r2.1,.I r3.1])] [(7,.box [.L r13.2.L,.I r13.2.At])] R (sN (oLdA R tk61 ta61 ts61 R R (s_ (oSt R R R tk61 ts61 R R R (s0 ((Wk.trans (Wk.eq (el:=[(4,.ptr 104 0)]) (ml:=[(7,.box [.L r13.2.L,.I r13.2.At]),(104,.box [.I r13.1,.I r2.1,.I r3.1])]) R R R R) (Wk.trans (Wk.frzB 104 [.I r13.1,.I r2.1,.I r3.1] R R R (prN R)) (Wk.eq R R R R))))))))) (LH.ret ?_))))
    obtain rfl:=oI h
    exact retE (aT Tryz.results31) (lrSA R tk61 ta61 ts61 R R (lr0 ⟨memN (mC R mN),R,prK R,Sub.rfl⟩))
   replace h:=iteF h hc12
   refine LH.seqT [(0,.ptr 7 0),(4,.ptr 104 0),(5,.ptr 105 0),(30,.bool (r11.1 == 1))] [(7,.box [.L r11.2.L,.I r11.2.At]),(104,.box [.I 0,.I 0,.I 0]),(105,.box [.I r1.1,.I r2.1,.I r3.1])] R (sN (oEq R R (sAb R zS))) (LH.cond (t:=(r11.1 == 1)) R (fun hc14=>?_) (fun hc14=>?_))
   ·replace h:=iteT h hc14
    obtain ⟨r15,hr15,h⟩:=bindS h
    refine LH.loneT [(4,.ptr 104 0),(5,.sptr [.I r1.1,.I r15.1,.I r3.1])] [(7,.box [.L r15.2.L,.I r15.2.At]),(104,.box [.I 0,.I 0,.I 0])] R (sMp R (sN (oCM (args:=[.ptr 7 0]) (ml:=[(7,.box [.L r11.2.L,.I r11.2.At])]) (ml':=[(7,.box [.L r15.2.L,.I r15.2.At])]) R isF53 R (sbR sbN) (Gq34 hr15) (mC R mN) (newI R newN) R (sN (oFa tf61_1 tk3 ts3 R R (s_ (oSt R R R tk3 ts3 R R R (s0 ((Wk.trans (Wk.eq (el:=[(4,.ptr 104 0),(5,.ptr 105 0)]) (ml:=[(7,.box [.L r15.2.L,.I r15.2.At]),(104,.box [.I 0,.I 0,.I 0]),(105,.box [.I r1.1,.I r15.1,.I r3.1])]) R R R R) (Wk.trans (Wk.frzB 105 [.I r1.1,.I r15.1,.I r3.1] R R R (prN R)) (Wk.eq R R R R)))))))))))) (blockN (thenN (LH.seqT [(4,.sptr [.I r1.1,.I r15.1,.I r3.1])] [(7,.box [.L r15.2.L,.I r15.2.At])] R (sN (oLdA R tk61 ta61 ts61 R R (s_ (oSt R R R tk61 ts61 R R R (s0 ((Wk.trans (Wk.eq (el:=[(4,.ptr 104 0)]) (ml:=[(7,.box [.L r15.2.L,.I r15.2.At]),(104,.box [.I r1.1,.I r15.1,.I r3.1])]) R R R R) (Wk.trans (Wk.frzB 104 [.I r1.1,.I r15.1,.I r3.1] R R R (prN R)) (Wk.eq R R R R))))))))) (LH.ret ?_))))
    obtain rfl:=oI h
    exact retE (aT Tryz.results31) (lrSA R tk61 ta61 ts61 R R (lr0 ⟨memN (mC R mN),R,prK R,Sub.rfl⟩))
   replace h:=iteF h hc14
   obtain ⟨r16,hr16,h⟩:=bindS h
   refine LH.loneT [(4,.ptr 104 0),(5,.sptr [.I r1.1,.I r2.1,.I r16.1])] [(7,.box [.L r16.2.L,.I r16.2.At]),(104,.box [.I 0,.I 0,.I 0])] R (sMp R (sN (oCM (args:=[.ptr 7 0]) (ml:=[(7,.box [.L r11.2.L,.I r11.2.At])]) (ml':=[(7,.box [.L r16.2.L,.I r16.2.At])]) R isF53 R (sbR sbN) (Gq34 hr16) (mC R mN) (newI R newN) R (sN (oFa tf61_2 tk3 ts3 R R (s_ (oSt R R R tk3 ts3 R R R (s0 ((Wk.trans (Wk.eq (el:=[(4,.ptr 104 0),(5,.ptr 105 0)]) (ml:=[(7,.box [.L r16.2.L,.I r16.2.At]),(104,.box [.I 0,.I 0,.I 0]),(105,.box [.I r1.1,.I r2.1,.I r16.1])]) R R R R) (Wk.trans (Wk.frzB 105 [.I r1.1,.I r2.1,.I r16.1] R R R (prN R)) (Wk.eq R R R R)))))))))))) (blockN (thenN (LH.seqT [(4,.sptr [.I r1.1,.I r2.1,.I r16.1])] [(7,.box [.L r16.2.L,.I r16.2.At])] R (sN (oLdA R tk61 ta61 ts61 R R (s_ (oSt R R R tk61 ts61 R R R (s0 ((Wk.trans (Wk.eq (el:=[(4,.ptr 104 0)]) (ml:=[(7,.box [.L r16.2.L,.I r16.2.At]),(104,.box [.I r1.1,.I r2.1,.I r16.1])]) R R R R) (Wk.trans (Wk.frzB 104 [.I r1.1,.I r2.1,.I r16.1] R R R (prN R)) (Wk.eq R R R R))))))))) (LH.ret ?_))))
   obtain rfl:=oI h
   exact retE (aT Tryz.results31) (lrSA R tk61 ta61 ts61 R R (lr0 ⟨memN (mC R mN),R,prK R,Sub.rfl⟩))
  replace h:=iteF h hc10
  refine LH.skip (thenN (LH.wk ((Wk.trans (Wk.eq (el:=[(4,.ptr 104 0),(5,.ptr 105 0)]) (ml:=[(7,.box [.L w7.2.1,.I w7.2.2]),(104,.box [.I 0,.I 0,.I 0]),(105,.box [.I r1.1,.I r2.1,.I r3.1])]) R R R R) (Wk.trans (Wk.frzB 105 [.I r1.1,.I r2.1,.I r3.1] R R R (prN R)) (Wk.eq (el:=[(4,.ptr 104 0),(5,.sptr [.I r1.1,.I r2.1,.I r3.1])]) (ml:=[(7,.box [.L w7.2.1,.I w7.2.2]),(104,.box [.I 0,.I 0,.I 0])]) R R R R)))) (LH.seqT [(4,.sptr [.I r1.1,.I r2.1,.I r3.1])] [(7,.box [.L w7.2.1,.I w7.2.2])] R (sN (oLdA R tk61 ta61 ts61 R R (s_ (oSt R R R tk61 ts61 R R R (s0 ((Wk.trans (Wk.eq (el:=[(4,.ptr 104 0)]) (ml:=[(7,.box [.L w7.2.1,.I w7.2.2]),(104,.box [.I r1.1,.I r2.1,.I r3.1])]) R R R R) (Wk.trans (Wk.frzB 104 [.I r1.1,.I r2.1,.I r3.1] R R R (prN R)) (Wk.eq R R R R))))))))) (LH.ret ?_))))
  obtain rfl:=oI h
  exact retE (aT Tryz.results31) (lrSA R tk61 ta61 ts61 R R (lr0 ⟨memN (mC R mN),R,prK R,Sub.rfl⟩))

set_option maxHeartbeats 4000000 in
theorem Gq11 {F:Nat} {p0:GTape} {p1:Int} {p2:Int} {r:List Gq0 × GTape} (h:Gq5 F p0 p1 p2=some r):LCall Tryz.prog 8 [.ptr 7 0,.I p1,.I p2] (Mem.of [(7,.box [.L p0.L,.I p0.At])]) (.lst 12 (List.map Gq0.lv r.1)) (Mem.of [(7,.box [.L r.2.L,.I r.2.At])]):=by
  unfold Gq5 at h
  refine bodyT Tryz.func8 R (nT Tryz.ntmps8 R) (LH.wk (Wk.eq (el:=[(0,.ptr 7 0),(1,.I p1),(2,.I p2)]) (ml:=[(7,.box [.L p0.L,.I p0.At])]) R R R R) (LH.seqT [(0,.ptr 7 0),(1,.I p1),(2,.I p2)] [(7,.box [.L p0.L,.I p0.At])] R (sAn R zS) (LH.seqT [(0,.ptr 7 0),(1,.I p1),(2,.I p2),(7,.nil)] [(7,.box [.L p0.L,.I p0.At])] R (sAn R zS) ?_)))
  obtain ⟨v1,hv1,h⟩:=bindS h
  refine LH.seqT [(0,.ptr 7 0),(1,.I p1),(2,.I p2),(7,.nil),(8,.arr 112 (List.length v1))] [(7,.box [.L p0.L,.I p0.At]),(112,.arr 3 1 (List.map LV.I v1))] R (sN (oMk (f:=LV.I) (z:=0) (id:=112) R te22 tz3 tr3 ts3 R R R hv1 R (sAa R zS))) (LH.seq ?_)
  obtain ⟨r2,hr2,h⟩:=bindS h
  refine LH.seqT [(0,.ptr 7 0),(2,.I p2),(7,.nil),(8,.arr 112 (List.length v1)),(9,.I r2.1)] [(7,.box [.L r2.2.L,.I r2.2.At]),(112,.arr 3 1 (List.map LV.I v1))] R (sMp R (sMi R (sN (oCM (args:=[.ptr 7 0,.I 0,.I p1]) (ml:=[(7,.box [.L p0.L,.I p0.At])]) (ml':=[(7,.box [.L r2.2.L,.I r2.2.At])]) R isF9 R (sbR (sbR (sbR sbN))) (Gq28 hr2) (mC R mN) (newI R newN) R (sAi R zS))))) (LH.block (LH.wk ((Wk.trans (Wk.eq (el:=[(0,.ptr 7 0),(2,.I p2),(7,.nil),(8,.arr 112 (List.length v1)),(9,.I r2.1)]) (ml:=[(7,.box [.L r2.2.L,.I r2.2.At]),(112,.arr 3 1 (List.map LV.I v1))]) R R R R) (Wk.trans (Wk.eq (el:=[(0,.ptr 7 0),(2,.I p2),(7,.nil),(8,.arr 112 (List.length v1)),(9,.I r2.1)]) (ml:=[(7,.box [.L r2.2.L,.I r2.2.At]),(112,.arr 3 1 (List.map LV.I v1))]) R R R R) (Wk.trans (Wk.ownL (el':=[(0,.ptr 7 0),(2,.I p2),(7,.arr 221 (List.length ([]:List Gq0))),(8,.arr 112 (List.length v1)),(9,.I r2.1)]) 221 63 12 R R (wK (wK (wO (wK (wK wN)))))) (Wk.eq (el:=[(0,.ptr 7 0),(2,.I p2),(7,.arr 221 (List.length ([]:List Gq0))),(8,.arr 112 (List.length v1)),(9,.I r2.1)]) (ml:=[(7,.box [.L r2.2.L,.I r2.2.At]),(112,.arr 3 1 (List.map LV.I v1)),(221,.arr 63 12 (List.map Gq0.lv ([]:List Gq0)))]) R R R R))))) (LH.loop (fun n e m=>∃ (n3:Int) (l4:List Int) (n5:Int) (l6:List Int) (l7:List Gq0),Gq9 F p2 n n3 l4 n5 l6 l7=some r∧e=Env.of [(0,.ptr 7 0),(2,.I p2),(7,.arr 221 (List.length l7)),(8,.arr 112 (List.length l6)),(9,.I n3)]∧m=Mem.of [(7,.box [.L l4,.I n5]),(112,.arr 3 1 (List.map LV.I l6)),(221,.arr 63 12 (List.map Gq0.lv l7))]) F ⟨r2.1,r2.2.L,r2.2.At,v1,([]:List Gq0),h,R,R⟩ ?_)))
  clear h
  rintro n e m ⟨n3,l4,n5,l6,l7,h,rfl,rfl⟩
  rcases n with _ | n
  · cases (show Option.none=some _ from h)
  obtain ⟨rec1,hrec1⟩:∃ f,f=Gq9 F p2 n:=⟨_,rfl⟩
  replace h:Gq10 F p2 rec1 n3 l4 n5 l6 l7=some r:=hrec1 ▸ h
  unfold Gq10 at h
  refine LH.seq (LH.seqT [(0,.ptr 7 0),(2,.I p2),(7,.arr 221 (List.length l7)),(8,.arr 112 (List.length l6)),(9,.I n3),(17,.bool (decide (n3 > 0)))] [(7,.box [.L l4,.I n5]),(112,.arr 3 1 (List.map LV.I l6)),(221,.arr 63 12 (List.map Gq0.lv l7))] R (sMi R (sN (oGt R R zS))) (LH.cond (t:=(decide (n3 > 0))) R (fun hc8=>?_) (fun hc8=>?_)))
  ·replace h:=iteT h hc8
   refine LH.skip (thenN (LH.wk (Wk.eq (el:=[(0,.ptr 7 0),(2,.I p2),(7,.arr 221 (List.length l7)),(8,.arr 112 (List.length l6)),(9,.I n3)]) (ml:=[(7,.box [.L l4,.I n5]),(112,.arr 3 1 (List.map LV.I l6)),(221,.arr 63 12 (List.map Gq0.lv l7))]) R R R R) (LH.seq (LH.block ?_))))
   obtain ⟨r9,hr9,h⟩:=bindS h
   refine LH.seqT [(0,.ptr 7 0),(2,.I p2),(7,.arr 221 (List.length l7)),(8,.arr 112 (List.length l6)),(9,.I n3),(10,.I r9.1)] [(7,.box [.L r9.2.L,.I r9.2.At]),(112,.arr 3 1 (List.map LV.I l6)),(221,.arr 63 12 (List.map Gq0.lv l7))] R (sMp R (sN (oCM (args:=[.ptr 7 0,.I 5]) (ml:=[(7,.box [.L l4,.I n5])]) (ml':=[(7,.box [.L r9.2.L,.I r9.2.At])]) R isF27 R (sbR (sbR sbN)) (Gq19 hr9) (mC R mN) (newI R newN) R (sAi R zS)))) ?_
   obtain ⟨r10,hr10,h⟩:=bindS h
   obtain ⟨r11,hr11,h⟩:=bindS h
   obtain ⟨r12,hr12,h⟩:=bindS h
   obtain ⟨x13,hx13,h⟩:=bindS h
   obtain ⟨r14,hr14,h⟩:=bindS h
   refine LH.seqJM mixed [] [0,1221,0,100007,0,0,100007,0,1221,0,0,0,100007,0,0,0,1112,1112,4,0,0,100007,0,2,100111] [(0,.ptr 7 0),(2,.I p2),(7,.arr 221 (List.length l7)),(8,.arr 112 (List.length l6)),(9,.I n3),(10,.I r9.1),(11,.ptr 111 0)] [(7,.box [.L r14.2.L,.I r14.2.At]),(111,.box [.I (i64 ((l7.length:Int)+r10.1)),.I r11.1,.I (l7.length:Int),.I r12.1,.I 0,.I 0,.str (ByteArray.mk #[]),.nil,.nil,.I r9.1,.I (max 1 x13),.I r14.1]),(112,.arr 3 1 (List.map LV.I l6)),(221,.arr 63 12 (List.map Gq0.lv l7))] R R (by kernel_rfl) ?_ ?_
   ·exact mMa R (mD R R R (fun _ b _ d=>oLnA (f:=Gq0.lv) te25 R b d) (mMp R (mW R R R (fun _ b _ d=>oCM (args:=[.ptr 7 0,.I 2]) (ml:=[(7,.box [.L r9.2.L,.I r9.2.At])]) (ml':=[(7,.box [.L r10.2.L,.I r10.2.At])]) R isF27 R (sbR (sbR sbN)) (Gq19 hr10) (mC b mN) (newI R newN) R d) (mN0 (oAdd R R ⟨R,mMp R (mW R R R (fun _ b _ d=>oCM (args:=[.ptr 7 0,.I 2]) (ml:=[(7,.box [.L r10.2.L,.I r10.2.At])]) (ml':=[(7,.box [.L r11.2.L,.I r11.2.At])]) R isF27 R (sbR (sbR sbN)) (Gq19 hr11) (mC b mN) (newI R newN) R d) (mMa R (mD R R R (fun _ b _ d=>oLnA (f:=Gq0.lv) te25 R b d) (mN0 (oBd (vs:=[(0,.I (i64 ((l7.length:Int)+r10.1))),(1,.I r11.1),(2,.I (l7.length:Int))]) tu61 tz61 R (lf tf61_0 ts3 tk3 R R R (lf tf61_1 ts3 tk3 R R R (lf tf61_2 ts3 tk3 R R R lf0))) ⟨R,mMp R (mN0 (oBS (f:=LV.I) (ys:=[3,4,4,2,5,6]) te22 tr3 ts3 R R R okI ⟨R,mW R R R (fun _ b _ d=>oCM (args:=[.ptr 7 0,.L [3,4,4,2,5,6]]) (ml:=[(7,.box [.L r11.2.L,.I r11.2.At])]) (ml':=[(7,.box [.L r12.2.L,.I r12.2.At])]) R isF28 R (sbR (sbR sbN)) (Gq26 hr12) (mC b mN) (newI R newN) R d) (mMi R (mMa R (mMi R (mD R R R (fun _ b _ d=>oIxA (f:=LV.I) te22 tk3 ts3 R b R hx13 d) (mD R R R (fun _ b _ d=>oLdE (f:=LV.I) R b (idxOk hx13).2 R R R tk3 ta3 d) (mM (fun _=>ok_max R R) (mN0 (oBd (vs:=[(0,.I r9.1),(1,.I (max 1 x13))]) tu43 tz43 R (lf tf43_0 ts3 tk3 R R R (lf tf43_1 ts3 tk3 R R R lf0)) ⟨R,mMp R (mW R R R (fun _ b _ d=>oCM (args:=[.ptr 7 0,.I 4]) (ml:=[(7,.box [.L r12.2.L,.I r12.2.At])]) (ml':=[(7,.box [.L r14.2.L,.I r14.2.At])]) R isF27 R (sbR (sbR sbN)) (Gq19 hr14) (mC b mN) (newI R newN) R d) (mN0 (oBd (vs:=[(0,.agg [.I (i64 ((l7.length:Int)+r10.1)),.I r11.1,.I (l7.length:Int)]),(1,.I r12.1),(3,.agg [.I r9.1,.I (max 1 x13)]),(4,.I r14.1)]) tu63 tz63 R (lf tf63_0 ts61 tk61 R R R (lf tf63_1 ts3 tk3 R R R (lf tf63_3 ts43 tk43 R R R (lf tf63_4 ts3 tk3 R R R lf0)))) ⟨R,mN2 (oAl (id:=111) R tz63 R R (mS R R R (fun _ b _ d=>oSt R R R tk63 ts63 b R R d) zM))⟩)))⟩))))))))⟩))⟩)))))⟩)))))
   refine LH.mid (fun e m=>∃ (l15:List Int) (n16:Int) (n17:Int) (n18:Int) (n19:Int) (t20:ByteArray) (l21:List GPart) (l22:List Int) (n23:Int) (n24:Int) (n25:Int) (l26:List Int),Gq6 rec1 p2 n3 l7 r10 r11 l15 n16 n17 n18 n19 t20 l21 l22 n23 n24 n25 l26=some r∧Wk (fun id=>Mem.of [(7,.box [.L p0.L,.I p0.At])] id ≠ .none) e m (Env.of [(0,.ptr 7 0),(2,.I p2),(7,.arr 221 (List.length l7)),(8,.arr 112 (List.length l26)),(9,.I n3),(11,.ptr 111 0)]) (Mem.of [(7,.box [.L l15,.I n16]),(111,.box [.I (i64 ((l7.length:Int)+r10.1)),.I r11.1,.I (l7.length:Int),.I n17,.I n18,.I n19,.str t20,.lst 6 (List.map GPart.lv l21),.L l22,.I n23,.I n24,.I n25]),(112,.arr 3 1 (List.map LV.I l26)),(221,.arr 63 12 (List.map Gq0.lv l7))])) ?_ ?_
   ·obtain ⟨w60,hv,h⟩:=bindS h
    refine LH.seqT [(0,.ptr 7 0),(2,.I p2),(7,.arr 221 (List.length l7)),(8,.arr 112 (List.length l6)),(9,.I n3),(10,.I r9.1),(11,.ptr 111 0),(54,.bool w60)] [(7,.box [.L r14.2.L,.I r14.2.At]),(111,.box [.I (i64 ((l7.length:Int)+r10.1)),.I r11.1,.I (l7.length:Int),.I r12.1,.I 0,.I 0,.str (ByteArray.mk #[]),.nil,.nil,.I r9.1,.I (max 1 x13),.I r14.1]),(112,.arr 3 1 (List.map LV.I l6)),(221,.arr 63 12 (List.map Gq0.lv l7))] R ?_ ?_
    ·refine sMa R (sMi R ?_)
     obtain ⟨x61,hx61,hv⟩:=bindS hv
     refine sN (oIxA (f:=LV.I) te22 tk3 ts3 R R R hx61 (sN (oLdE (f:=LV.I) R R (idxOk hx61).2 R R R tk3 ta3 (sN (oEq R R (sMb R ?_))))))
     by_cases hb62:(x61 == 0)=true
     ·replace hv:=iteT hv hb62
      refine sF R R hb62 (sF R R hb62 (sF R R hb62 (sN (oPkT (cB hb62) (v:=(.bool _)) R ?_))))
      obtain rfl:=oI hv
      exact zS
     ·replace hb62:=bF hb62
      replace hv:=iteF hv hb62
      refine sT R (cB hb62) (oFa tf63_1 tk3 ts3 R R (sT R (cB hb62) (oLdP R R R R tk3 ta3 (sT R (cB hb62) (oEq R R (sN (oPkF (cB hb62) (v:=(.bool _)) R ?_)))))))
      obtain rfl:=oI hv
      exact zS
    clear hv
    refine LH.cond (t:=w60) R (fun hc63=>?_) (fun hc63=>?_)
    ·replace h:=iteT h hc63
     refine LH.seqT [(0,.ptr 7 0),(2,.I p2),(7,.arr 221 (List.length l7)),(8,.arr 112 (List.length l6)),(9,.I n3),(10,.I r9.1),(11,.ptr 111 0)] [(7,.box [.L r14.2.L,.I r14.2.At]),(111,.box [.I (i64 ((l7.length:Int)+r10.1)),.I r11.1,.I (l7.length:Int),.I 2,.I 0,.I 0,.str (ByteArray.mk #[]),.nil,.nil,.I r9.1,.I (max 1 x13),.I r14.1]),(112,.arr 3 1 (List.map LV.I l6)),(221,.arr 63 12 (List.map Gq0.lv l7))] R (sN (oFa tf63_1 tk3 ts3 R R (s_ (oSt R R R tk3 ts3 R R R zS)))) (LH.mid (fun e m=>∃ (n64:Int),Gq8 rec1 F p2 n3 l6 l7 r9 r10 r11 r14 n64=some r∧Wk (fun id=>Mem.of [(7,.box [.L p0.L,.I p0.At])] id ≠ .none) e m (Env.of [(0,.ptr 7 0),(2,.I p2),(7,.arr 221 (List.length l7)),(8,.arr 112 (List.length l6)),(9,.I n3),(10,.I r9.1),(11,.ptr 111 0)]) (Mem.of [(7,.box [.L r14.2.L,.I r14.2.At]),(111,.box [.I (i64 ((l7.length:Int)+r10.1)),.I r11.1,.I (l7.length:Int),.I n64,.I 0,.I 0,.str (ByteArray.mk #[]),.nil,.nil,.I r9.1,.I (max 1 x13),.I r14.1]),(112,.arr 3 1 (List.map LV.I l6)),(221,.arr 63 12 (List.map Gq0.lv l7))])) ?_ ?_)
     ·obtain ⟨x69,hx69,h⟩:=bindS h
      refine LH.seqT [(0,.ptr 7 0),(2,.I p2),(7,.arr 221 (List.length l7)),(8,.arr 112 (List.length l6)),(9,.I n3),(10,.I r9.1),(11,.ptr 111 0),(60,.bool (x69 == 0))] [(7,.box [.L r14.2.L,.I r14.2.At]),(111,.box [.I (i64 ((l7.length:Int)+r10.1)),.I r11.1,.I (l7.length:Int),.I 2,.I 0,.I 0,.str (ByteArray.mk #[]),.nil,.nil,.I r9.1,.I (max 1 x13),.I r14.1]),(112,.arr 3 1 (List.map LV.I l6)),(221,.arr 63 12 (List.map Gq0.lv l7))] R (sMa R (sMi R (sN (oIxA (f:=LV.I) te22 tk3 ts3 R R R hx69 (sN (oLdE (f:=LV.I) R R (idxOk hx69).2 R R R tk3 ta3 (sN (oEq R R zS)))))))) (LH.cond (t:=(x69 == 0)) R (fun hc70=>?_) (fun hc70=>?_))
      ·replace h:=iteT h hc70
       exact LH.loneT [(0,.ptr 7 0),(2,.I p2),(7,.arr 221 (List.length l7)),(8,.arr 112 (List.length l6)),(9,.I n3),(10,.I r9.1),(11,.ptr 111 0)] [(7,.box [.L r14.2.L,.I r14.2.At]),(111,.box [.I (i64 ((l7.length:Int)+r10.1)),.I r11.1,.I (l7.length:Int),.I 1,.I 0,.I 0,.str (ByteArray.mk #[]),.nil,.nil,.I r9.1,.I (max 1 x13),.I r14.1]),(112,.arr 3 1 (List.map LV.I l6)),(221,.arr 63 12 (List.map Gq0.lv l7))] R (sN (oFa tf63_1 tk3 ts3 R R (s_ (oSt R R R tk3 ts3 R R R zS)))) (thenN ⟨1,h,Wk.eq R R R R⟩)
      replace h:=iteF h hc70
      exact LH.skip (thenN ⟨2,h,Wk.eq R R R R⟩)
     clear h
     rintro e m ⟨n64,h,hw⟩
     refine LH.wk hw ?_
     clear hw
     unfold Gq8 at h
     obtain ⟨x65,hx65,h⟩:=bindS h
     obtain ⟨x66,hx66,h⟩:=bindS h
     refine LH.seqT [(0,.ptr 7 0),(2,.I p2),(7,.arr 221 (List.length l7)),(8,.arr 112 (List.length (l6.set r9.1.toNat (min (i64 (x65+1)) 9)))),(9,.I n3),(10,.I r9.1),(11,.ptr 111 0)] [(7,.box [.L r14.2.L,.I r14.2.At]),(111,.box [.I (i64 ((l7.length:Int)+r10.1)),.I r11.1,.I (l7.length:Int),.I n64,.I 0,.I 0,.str (ByteArray.mk #[]),.nil,.nil,.I r9.1,.I (max 1 x13),.I r14.1]),(112,.arr 3 1 (List.map LV.I (l6.set r9.1.toNat (min (i64 (x65+1)) 9)))),(221,.arr 63 12 (List.map Gq0.lv l7))] R (sMa R (sMi R (sMa R (sMi R (sN (oIxA (f:=LV.I) te22 tk3 ts3 R R R hx65 (sN (oLdE (f:=LV.I) R R (idxOk hx65).2 R R R tk3 ta3 (sN (oAdd R R (sX ((ok_min R R).ok) (sN (oIxA (f:=LV.I) te22 tk3 ts3 R R R hx66 (s_ (oStE (f:=LV.I) (z':=(min (i64 (x65+1)) 9)) R R R R tk3 ts3 R (idxOk hx66).2 R (s0 (Wk.to (eC R (eC R (eC R (eC (congrArg (LV.arr 112) (by simp)) (eC R (eC R (eC R eN))))))) ⟨R,R,R,R,trivial⟩ R (prK R)))))))))))))))))) ?_
     obtain ⟨x67,hx67,h⟩:=bindS h
     obtain ⟨r68,hr68,h⟩:=bindS h
     refine LH.loneT [(0,.ptr 7 0),(2,.I p2),(7,.arr 221 (List.length l7)),(8,.arr 112 (List.length (l6.set r9.1.toNat (min (i64 (x65+1)) 9)))),(9,.I n3),(11,.ptr 111 0)] [(7,.box [.L r68.2.L,.I r68.2.At]),(111,.box [.I (i64 ((l7.length:Int)+r10.1)),.I r11.1,.I (l7.length:Int),.I n64,.I r68.1.ID,.I r68.1.Version,.str r68.1.Stem,.lst 6 (List.map GPart.lv r68.1.Parts),.L r68.1.Enemies,.I 0,.I 0,.I 0]),(112,.arr 3 1 (List.map LV.I (l6.set r9.1.toNat (min (i64 (x65+1)) 9)))),(221,.arr 63 12 (List.map Gq0.lv l7))] R ?_ ?_
     ·exact sMp R (sMi R (sMa R (sMi R (sN (oIxA (f:=LV.I) te22 tk3 ts3 R R R hx67 (sN (oLdE (f:=LV.I) R R (idxOk hx67).2 R R R tk3 ta3 (sMi R (sN (oCM (args:=[.ptr 7 0,.I r9.1,.I x67,.I p2]) (ml:=[(7,.box [.L r14.2.L,.I r14.2.At])]) (ml':=[(7,.box [.L r68.2.L,.I r68.2.At])]) R isF29 R (sbR (sbR (sbR (sbR sbN)))) (Gq17 hr68) (mC R mN) (newI R newN) R (sN (oBd (vs:=[]) tu43 tz43 R lf0 (sN (oFa tf63_2 tk54 ts54 R R (s_ (oSt R R R tk54 ts54 R R R (sN (oFa tf63_3 tk43 ts43 R R (s_ (oSt R R R tk43 ts43 R R R (sN (oFa tf63_4 tk3 ts3 R R (s_ (oSt R R R tk3 ts3 R R R zS))))))))))))))))))))))))
     exact thenN ⟨r68.2.L,r68.2.At,n64,r68.1.ID,r68.1.Version,r68.1.Stem,r68.1.Parts,r68.1.Enemies,0,0,0,(l6.set r9.1.toNat (min (i64 (x65+1)) 9)),h,Wk.eq R R R R⟩
    replace h:=iteF h hc63
    exact LH.skip (thenN ⟨r14.2.L,r14.2.At,r12.1,0,0,(ByteArray.mk #[]),([]:List GPart),([]:List Int),r9.1,(max 1 x13),r14.1,l6,h,(Wk.trans (Wk.eq (el:=[(0,.ptr 7 0),(2,.I p2),(7,.arr 221 (List.length l7)),(8,.arr 112 (List.length l6)),(9,.I n3),(11,.ptr 111 0)]) (ml:=[(7,.box [.L r14.2.L,.I r14.2.At]),(111,.box [.I (i64 ((l7.length:Int)+r10.1)),.I r11.1,.I (l7.length:Int),.I r12.1,.I 0,.I 0,.str (ByteArray.mk #[]),.nil,.nil,.I r9.1,.I (max 1 x13),.I r14.1]),(112,.arr 3 1 (List.map LV.I l6)),(221,.arr 63 12 (List.map Gq0.lv l7))]) R R R R) (Wk.trans (Wk.eq (el:=[(0,.ptr 7 0),(2,.I p2),(7,.arr 221 (List.length l7)),(8,.arr 112 (List.length l6)),(9,.I n3),(11,.ptr 111 0)]) (ml:=[(7,.box [.L r14.2.L,.I r14.2.At]),(111,.box [.I (i64 ((l7.length:Int)+r10.1)),.I r11.1,.I (l7.length:Int),.I r12.1,.I 0,.I 0,.str (ByteArray.mk #[]),.nil,.nil,.I r9.1,.I (max 1 x13),.I r14.1]),(112,.arr 3 1 (List.map LV.I l6)),(221,.arr 63 12 (List.map Gq0.lv l7))]) R R R R) (Wk.trans (Wk.ownBx 10117 86 6 111 7 R R R R R (prN R)) (Wk.trans (Wk.eq (el:=[(0,.ptr 7 0),(2,.I p2),(7,.arr 221 (List.length l7)),(8,.arr 112 (List.length l6)),(9,.I n3),(11,.ptr 111 0)]) (ml:=[(7,.box [.L r14.2.L,.I r14.2.At]),(111,.box [.I (i64 ((l7.length:Int)+r10.1)),.I r11.1,.I (l7.length:Int),.I r12.1,.I 0,.I 0,.str (ByteArray.mk #[]),.arr 10117 (List.length ([]:List GPart)),.nil,.I r9.1,.I (max 1 x13),.I r14.1]),(112,.arr 3 1 (List.map LV.I l6)),(221,.arr 63 12 (List.map Gq0.lv l7)),(10117,.arr 86 6 (List.map GPart.lv ([]:List GPart)))]) R R R R) (Wk.trans (Wk.trans (Wk.frzBx (f:=GPart.lv) 10117 86 6 ([]:List GPart) 111 R R R (frAK R (frAK R (frAK R (frAK R (frAK R (frAK R (frAK R (frAZ (frAK R (frAK R (frAK R (frAK R frA0)))))))))))) R R (prN R)) (Wk.eq (el:=[(0,.ptr 7 0),(2,.I p2),(7,.arr 221 (List.length l7)),(8,.arr 112 (List.length l6)),(9,.I n3),(11,.ptr 111 0)]) (ml:=[(7,.box [.L r14.2.L,.I r14.2.At]),(111,.box [.I (i64 ((l7.length:Int)+r10.1)),.I r11.1,.I (l7.length:Int),.I r12.1,.I 0,.I 0,.str (ByteArray.mk #[]),.lst 6 (List.map GPart.lv ([]:List GPart)),.nil,.I r9.1,.I (max 1 x13),.I r14.1]),(112,.arr 3 1 (List.map LV.I l6)),(221,.arr 63 12 (List.map Gq0.lv l7))]) R R R R)) (Wk.trans (Wk.eq (el:=[(0,.ptr 7 0),(2,.I p2),(7,.arr 221 (List.length l7)),(8,.arr 112 (List.length l6)),(9,.I n3),(11,.ptr 111 0)]) (ml:=[(7,.box [.L r14.2.L,.I r14.2.At]),(111,.box [.I (i64 ((l7.length:Int)+r10.1)),.I r11.1,.I (l7.length:Int),.I r12.1,.I 0,.I 0,.str (ByteArray.mk #[]),.lst 6 (List.map GPart.lv ([]:List GPart)),.nil,.I r9.1,.I (max 1 x13),.I r14.1]),(112,.arr 3 1 (List.map LV.I l6)),(221,.arr 63 12 (List.map Gq0.lv l7))]) R R R R) (Wk.trans (Wk.ownBx 10118 3 1 111 8 R R R R R (prN R)) (Wk.trans (Wk.eq (el:=[(0,.ptr 7 0),(2,.I p2),(7,.arr 221 (List.length l7)),(8,.arr 112 (List.length l6)),(9,.I n3),(11,.ptr 111 0)]) (ml:=[(7,.box [.L r14.2.L,.I r14.2.At]),(111,.box [.I (i64 ((l7.length:Int)+r10.1)),.I r11.1,.I (l7.length:Int),.I r12.1,.I 0,.I 0,.str (ByteArray.mk #[]),.lst 6 (List.map GPart.lv ([]:List GPart)),.arr 10118 (List.length ([]:List Int)),.I r9.1,.I (max 1 x13),.I r14.1]),(112,.arr 3 1 (List.map LV.I l6)),(221,.arr 63 12 (List.map Gq0.lv l7)),(10118,.arr 3 1 (List.map LV.I ([]:List Int)))]) R R R R) (Wk.trans (Wk.trans (Wk.frzBx (f:=LV.I) 10118 3 1 ([]:List Int) 111 R R R (frAK R (frAK R (frAK R (frAK R (frAK R (frAK R (frAK R (frAK R (frAZ (frAK R (frAK R (frAK R frA0)))))))))))) R R (prN R)) (Wk.eq (el:=[(0,.ptr 7 0),(2,.I p2),(7,.arr 221 (List.length l7)),(8,.arr 112 (List.length l6)),(9,.I n3),(11,.ptr 111 0)]) (ml:=[(7,.box [.L r14.2.L,.I r14.2.At]),(111,.box [.I (i64 ((l7.length:Int)+r10.1)),.I r11.1,.I (l7.length:Int),.I r12.1,.I 0,.I 0,.str (ByteArray.mk #[]),.lst 6 (List.map GPart.lv ([]:List GPart)),.L ([]:List Int),.I r9.1,.I (max 1 x13),.I r14.1]),(112,.arr 3 1 (List.map LV.I l6)),(221,.arr 63 12 (List.map Gq0.lv l7))]) R R R R)) (Wk.eq R R R R))))))))))⟩)
   clear h
   rintro e m ⟨l15,n16,n17,n18,n19,t20,l21,l22,n23,n24,n25,l26,h,hw⟩
   refine LH.wk hw ?_
   clear hw
   unfold Gq6 at h
   refine LH.mid (fun e m=>∃ (n27:Int) (n28:Int) (n29:Int) (n30:Int) (n31:Int) (n32:Int) (n33:Int) (l34:List Int) (n35:Int),Gq7 rec1 n3 l7 n18 t20 l21 l22 n25 l26 n27 n28 n29 n30 n31 n32 n33 l34 n35=some r∧Wk (fun id=>Mem.of [(7,.box [.L p0.L,.I p0.At])] id ≠ .none) e m (Env.of [(0,.ptr 7 0),(2,.I p2),(7,.arr 221 (List.length l7)),(8,.arr 112 (List.length l26)),(9,.I n3),(11,.sptr [.I n27,.I n28,.I n29,.I n30,.I n18,.I n31,.str t20,.lst 6 (List.map GPart.lv l21),.L l22,.I n32,.I n33,.I n25])]) (Mem.of [(7,.box [.L l34,.I n35]),(112,.arr 3 1 (List.map LV.I l26)),(221,.arr 63 12 (List.map Gq0.lv l7))])) ?_ ?_
   ·obtain ⟨w45,hv,h⟩:=bindS h
    refine LH.seqT [(0,.ptr 7 0),(2,.I p2),(7,.arr 221 (List.length l7)),(8,.arr 112 (List.length l26)),(9,.I n3),(11,.ptr 111 0),(89,.bool w45.1)] [(7,.box [.L w45.2.1,.I w45.2.2]),(111,.box [.I (i64 ((l7.length:Int)+r10.1)),.I r11.1,.I (l7.length:Int),.I n17,.I n18,.I n19,.str t20,.lst 6 (List.map GPart.lv l21),.L l22,.I n23,.I n24,.I n25]),(112,.arr 3 1 (List.map LV.I l26)),(221,.arr 63 12 (List.map Gq0.lv l7))] R ?_ ?_
    ·refine sMi R (sN (oGt R R (sMb R ?_)))
     by_cases hb46:(decide (p2 > 0))=true
     ·replace hv:=iteT hv hb46
      refine sT R (cB hb46) (oM (v:=(.ptr _ _)) R (sT R (cB hb46) (oM (v:=(.int _ _)) R ?_)))
      obtain ⟨r47,hr47,hv⟩:=bindS hv
      refine sT R (cB hb46) (oCM (args:=[.ptr 7 0,.I p2]) (ml:=[(7,.box [.L l15,.I n16])]) (ml':=[(7,.box [.L r47.2.L,.I r47.2.At])]) R isF30 R (sbR (sbR sbN)) (Gq21 hr47) (mC R mN) (newI R newN) R (sN (oPkT (cB hb46) (v:=(.bool _)) R ?_)))
      obtain rfl:=oI hv
      exact zS
     ·replace hb46:=bF hb46
      replace hv:=iteF hv hb46
      refine sF R R hb46 (sF R R hb46 (sF R R hb46 (sN (oPkF (cB hb46) (v:=(.bool _)) R ?_))))
      obtain rfl:=oI hv
      exact zS
    clear hv
    refine LH.cond (t:=w45.1) R (fun hc48=>?_) (fun hc48=>?_)
    ·replace h:=iteT h hc48
     obtain ⟨r49,hr49,h⟩:=bindS h
     refine LH.seqT [(0,.ptr 7 0),(2,.I p2),(7,.arr 221 (List.length l7)),(8,.arr 112 (List.length l26)),(9,.I n3),(11,.ptr 111 0),(91,.I r49.1)] [(7,.box [.L r49.2.L,.I r49.2.At]),(111,.box [.I (i64 ((l7.length:Int)+r10.1)),.I r11.1,.I (l7.length:Int),.I n17,.I n18,.I n19,.str t20,.lst 6 (List.map GPart.lv l21),.L l22,.I n23,.I n24,.I n25]),(112,.arr 3 1 (List.map LV.I l26)),(221,.arr 63 12 (List.map Gq0.lv l7))] R (sMp R (sN (oCM (args:=[.ptr 7 0,.I 5]) (ml:=[(7,.box [.L w45.2.1,.I w45.2.2])]) (ml':=[(7,.box [.L r49.2.L,.I r49.2.At])]) R isF27 R (sbR (sbR sbN)) (Gq19 hr49) (mC R mN) (newI R newN) R zS))) (LH.block (LH.seqT [(0,.ptr 7 0),(2,.I p2),(7,.arr 221 (List.length l7)),(8,.arr 112 (List.length l26)),(9,.I n3),(11,.ptr 111 0),(91,.I r49.1),(96,.bool (r49.1 == 0))] [(7,.box [.L r49.2.L,.I r49.2.At]),(111,.box [.I (i64 ((l7.length:Int)+r10.1)),.I r11.1,.I (l7.length:Int),.I n17,.I n18,.I n19,.str t20,.lst 6 (List.map GPart.lv l21),.L l22,.I n23,.I n24,.I n25]),(112,.arr 3 1 (List.map LV.I l26)),(221,.arr 63 12 (List.map Gq0.lv l7))] R (sN (oEq R R (sAb R zS))) (LH.cond (t:=(r49.1 == 0)) R (fun hc50=>?_) (fun hc50=>?_))))
     ·replace h:=iteT h hc50
      obtain ⟨r51,hr51,h⟩:=bindS h
      exact LH.loneT [(0,.ptr 7 0),(2,.I p2),(7,.arr 221 (List.length l7)),(8,.arr 112 (List.length l26)),(9,.I n3),(11,.sptr [.I (i64 ((l7.length:Int)+r10.1)),.I r11.1,.I (l7.length:Int),.I r51.1,.I n18,.I n19,.str t20,.lst 6 (List.map GPart.lv l21),.L l22,.I n23,.I n24,.I n25])] [(7,.box [.L r51.2.L,.I r51.2.At]),(112,.arr 3 1 (List.map LV.I l26)),(221,.arr 63 12 (List.map Gq0.lv l7))] R (sMp R (sN (oCM (args:=[.ptr 7 0,.I (-1),.I 8]) (ml:=[(7,.box [.L r49.2.L,.I r49.2.At])]) (ml':=[(7,.box [.L r51.2.L,.I r51.2.At])]) R isF9 R (sbR (sbR (sbR sbN))) (Gq28 hr51) (mC R mN) (newI R newN) R (sN (oFa tf63_1 tk3 ts3 R R (s_ (oSt R R R tk3 ts3 R R R (s0 ((Wk.trans (Wk.eq (el:=[(0,.ptr 7 0),(2,.I p2),(7,.arr 221 (List.length l7)),(8,.arr 112 (List.length l26)),(9,.I n3),(11,.ptr 111 0)]) (ml:=[(7,.box [.L r51.2.L,.I r51.2.At]),(111,.box [.I (i64 ((l7.length:Int)+r10.1)),.I r11.1,.I (l7.length:Int),.I r51.1,.I n18,.I n19,.str t20,.lst 6 (List.map GPart.lv l21),.L l22,.I n23,.I n24,.I n25]),(112,.arr 3 1 (List.map LV.I l26)),(221,.arr 63 12 (List.map Gq0.lv l7))]) R R R R) (Wk.trans (Wk.frzB 111 [.I (i64 ((l7.length:Int)+r10.1)),.I r11.1,.I (l7.length:Int),.I r51.1,.I n18,.I n19,.str t20,.lst 6 (List.map GPart.lv l21),.L l22,.I n23,.I n24,.I n25] R R R (prN R)) (Wk.eq R R R R)))))))))))) (blockN (thenN ⟨(i64 ((l7.length:Int)+r10.1)),r11.1,(l7.length:Int),r51.1,n19,n23,n24,r51.2.L,r51.2.At,h,Wk.eq R R R R⟩))
     replace h:=iteF h hc50
     refine LH.seqT [(0,.ptr 7 0),(2,.I p2),(7,.arr 221 (List.length l7)),(8,.arr 112 (List.length l26)),(9,.I n3),(11,.ptr 111 0),(91,.I r49.1),(101,.bool (r49.1 == 1))] [(7,.box [.L r49.2.L,.I r49.2.At]),(111,.box [.I (i64 ((l7.length:Int)+r10.1)),.I r11.1,.I (l7.length:Int),.I n17,.I n18,.I n19,.str t20,.lst 6 (List.map GPart.lv l21),.L l22,.I n23,.I n24,.I n25]),(112,.arr 3 1 (List.map LV.I l26)),(221,.arr 63 12 (List.map Gq0.lv l7))] R (sN (oEq R R (sAb R zS))) (LH.cond (t:=(r49.1 == 1)) R (fun hc52=>?_) (fun hc52=>?_))
     ·replace h:=iteT h hc52
      obtain ⟨r53,hr53,h⟩:=bindS h
      exact LH.loneT [(0,.ptr 7 0),(2,.I p2),(7,.arr 221 (List.length l7)),(8,.arr 112 (List.length l26)),(9,.I n3),(11,.sptr [.I (i64 ((l7.length:Int)+r10.1)),.I r11.1,.I (l7.length:Int),.I n17,.I n18,.I n19,.str t20,.lst 6 (List.map GPart.lv l21),.L l22,.I n23,.I r53.1,.I n25])] [(7,.box [.L r53.2.L,.I r53.2.At]),(112,.arr 3 1 (List.map LV.I l26)),(221,.arr 63 12 (List.map Gq0.lv l7))] R (sMp R (sN (oCM (args:=[.ptr 7 0,.I (-1),.I 3]) (ml:=[(7,.box [.L r49.2.L,.I r49.2.At])]) (ml':=[(7,.box [.L r53.2.L,.I r53.2.At])]) R isF9 R (sbR (sbR (sbR sbN))) (Gq28 hr53) (mC R mN) (newI R newN) R (sN (oFa tf63_3 tk43 ts43 R R (sN (oFa tf43_1 tk3 ts3 R R (s_ (oSt R R R tk3 ts3 R R R (s0 ((Wk.trans (Wk.eq (el:=[(0,.ptr 7 0),(2,.I p2),(7,.arr 221 (List.length l7)),(8,.arr 112 (List.length l26)),(9,.I n3),(11,.ptr 111 0)]) (ml:=[(7,.box [.L r53.2.L,.I r53.2.At]),(111,.box [.I (i64 ((l7.length:Int)+r10.1)),.I r11.1,.I (l7.length:Int),.I n17,.I n18,.I n19,.str t20,.lst 6 (List.map GPart.lv l21),.L l22,.I n23,.I r53.1,.I n25]),(112,.arr 3 1 (List.map LV.I l26)),(221,.arr 63 12 (List.map Gq0.lv l7))]) R R R R) (Wk.trans (Wk.frzB 111 [.I (i64 ((l7.length:Int)+r10.1)),.I r11.1,.I (l7.length:Int),.I n17,.I n18,.I n19,.str t20,.lst 6 (List.map GPart.lv l21),.L l22,.I n23,.I r53.1,.I n25] R R R (prN R)) (Wk.eq R R R R)))))))))))))) (blockN (thenN ⟨(i64 ((l7.length:Int)+r10.1)),r11.1,(l7.length:Int),n17,n19,n23,r53.1,r53.2.L,r53.2.At,h,Wk.eq R R R R⟩))
     replace h:=iteF h hc52
     refine LH.seqT [(0,.ptr 7 0),(2,.I p2),(7,.arr 221 (List.length l7)),(8,.arr 112 (List.length l26)),(9,.I n3),(11,.ptr 111 0),(91,.I r49.1),(107,.bool (r49.1 == 2))] [(7,.box [.L r49.2.L,.I r49.2.At]),(111,.box [.I (i64 ((l7.length:Int)+r10.1)),.I r11.1,.I (l7.length:Int),.I n17,.I n18,.I n19,.str t20,.lst 6 (List.map GPart.lv l21),.L l22,.I n23,.I n24,.I n25]),(112,.arr 3 1 (List.map LV.I l26)),(221,.arr 63 12 (List.map Gq0.lv l7))] R (sN (oEq R R (sAb R zS))) (LH.cond (t:=(r49.1 == 2)) R (fun hc54=>?_) (fun hc54=>?_))
     ·replace h:=iteT h hc54
      obtain ⟨r55,hr55,h⟩:=bindS h
      exact LH.loneT [(0,.ptr 7 0),(2,.I p2),(7,.arr 221 (List.length l7)),(8,.arr 112 (List.length l26)),(9,.I n3),(11,.sptr [.I (i64 ((l7.length:Int)+r10.1)),.I r11.1,.I (l7.length:Int),.I n17,.I n18,.I n19,.str t20,.lst 6 (List.map GPart.lv l21),.L l22,.I r55.1,.I n24,.I n25])] [(7,.box [.L r55.2.L,.I r55.2.At]),(112,.arr 3 1 (List.map LV.I l26)),(221,.arr 63 12 (List.map Gq0.lv l7))] R (sMp R (sN (oCM (args:=[.ptr 7 0,.I 7]) (ml:=[(7,.box [.L r49.2.L,.I r49.2.At])]) (ml':=[(7,.box [.L r55.2.L,.I r55.2.At])]) R isF27 R (sbR (sbR sbN)) (Gq19 hr55) (mC R mN) (newI R newN) R (sN (oFa tf63_3 tk43 ts43 R R (sN (oFa tf43_0 tk3 ts3 R R (s_ (oSt R R R tk3 ts3 R R R (s0 ((Wk.trans (Wk.eq (el:=[(0,.ptr 7 0),(2,.I p2),(7,.arr 221 (List.length l7)),(8,.arr 112 (List.length l26)),(9,.I n3),(11,.ptr 111 0)]) (ml:=[(7,.box [.L r55.2.L,.I r55.2.At]),(111,.box [.I (i64 ((l7.length:Int)+r10.1)),.I r11.1,.I (l7.length:Int),.I n17,.I n18,.I n19,.str t20,.lst 6 (List.map GPart.lv l21),.L l22,.I r55.1,.I n24,.I n25]),(112,.arr 3 1 (List.map LV.I l26)),(221,.arr 63 12 (List.map Gq0.lv l7))]) R R R R) (Wk.trans (Wk.frzB 111 [.I (i64 ((l7.length:Int)+r10.1)),.I r11.1,.I (l7.length:Int),.I n17,.I n18,.I n19,.str t20,.lst 6 (List.map GPart.lv l21),.L l22,.I r55.1,.I n24,.I n25] R R R (prN R)) (Wk.eq R R R R)))))))))))))) (blockN (thenN ⟨(i64 ((l7.length:Int)+r10.1)),r11.1,(l7.length:Int),n17,n19,r55.1,n24,r55.2.L,r55.2.At,h,Wk.eq R R R R⟩))
     replace h:=iteF h hc54
     refine LH.seqT [(0,.ptr 7 0),(2,.I p2),(7,.arr 221 (List.length l7)),(8,.arr 112 (List.length l26)),(9,.I n3),(11,.ptr 111 0),(113,.bool (r49.1 == 3))] [(7,.box [.L r49.2.L,.I r49.2.At]),(111,.box [.I (i64 ((l7.length:Int)+r10.1)),.I r11.1,.I (l7.length:Int),.I n17,.I n18,.I n19,.str t20,.lst 6 (List.map GPart.lv l21),.L l22,.I n23,.I n24,.I n25]),(112,.arr 3 1 (List.map LV.I l26)),(221,.arr 63 12 (List.map Gq0.lv l7))] R (sN (oEq R R (sAb R zS))) (LH.cond (t:=(r49.1 == 3)) R (fun hc56=>?_) (fun hc56=>?_))
     ·replace h:=iteT h hc56
      obtain ⟨r57,hr57,h⟩:=bindS h
      exact LH.loneT [(0,.ptr 7 0),(2,.I p2),(7,.arr 221 (List.length l7)),(8,.arr 112 (List.length l26)),(9,.I n3),(11,.sptr [.I r57.1.Time,.I r57.1.Source,.I r57.1.Seq,.I n17,.I n18,.I n19,.str t20,.lst 6 (List.map GPart.lv l21),.L l22,.I n23,.I n24,.I n25])] [(7,.box [.L r57.2.L,.I r57.2.At]),(112,.arr 3 1 (List.map LV.I l26)),(221,.arr 63 12 (List.map Gq0.lv l7))] R (sMp R (sN (oCM (args:=[.ptr 7 0,.I 3]) (ml:=[(7,.box [.L r49.2.L,.I r49.2.At])]) (ml':=[(7,.box [.L r57.2.L,.I r57.2.At])]) R isF31 R (sbR (sbR sbN)) (Gq32 hr57) (mC R mN) (newI R newN) R (sN (oFa tf63_0 tk61 ts61 R R (s_ (oSt R R R tk61 ts61 R R R (s0 ((Wk.trans (Wk.eq (el:=[(0,.ptr 7 0),(2,.I p2),(7,.arr 221 (List.length l7)),(8,.arr 112 (List.length l26)),(9,.I n3),(11,.ptr 111 0)]) (ml:=[(7,.box [.L r57.2.L,.I r57.2.At]),(111,.box [.I r57.1.Time,.I r57.1.Source,.I r57.1.Seq,.I n17,.I n18,.I n19,.str t20,.lst 6 (List.map GPart.lv l21),.L l22,.I n23,.I n24,.I n25]),(112,.arr 3 1 (List.map LV.I l26)),(221,.arr 63 12 (List.map Gq0.lv l7))]) R R R R) (Wk.trans (Wk.frzB 111 [.I r57.1.Time,.I r57.1.Source,.I r57.1.Seq,.I n17,.I n18,.I n19,.str t20,.lst 6 (List.map GPart.lv l21),.L l22,.I n23,.I n24,.I n25] R R R (prN R)) (Wk.eq R R R R)))))))))))) (blockN (thenN ⟨r57.1.Time,r57.1.Source,r57.1.Seq,n17,n19,n23,n24,r57.2.L,r57.2.At,h,Wk.eq R R R R⟩))
     replace h:=iteF h hc56
     obtain ⟨r58,hr58,h⟩:=bindS h
     exact LH.loneT [(0,.ptr 7 0),(2,.I p2),(7,.arr 221 (List.length l7)),(8,.arr 112 (List.length l26)),(9,.I n3),(11,.sptr [.I (i64 ((l7.length:Int)+r10.1)),.I r11.1,.I (l7.length:Int),.I n17,.I n18,.I r58.1,.str t20,.lst 6 (List.map GPart.lv l21),.L l22,.I n23,.I n24,.I n25])] [(7,.box [.L r58.2.L,.I r58.2.At]),(112,.arr 3 1 (List.map LV.I l26)),(221,.arr 63 12 (List.map Gq0.lv l7))] R (sMp R (sN (oCM (args:=[.ptr 7 0,.I 0,.I 3]) (ml:=[(7,.box [.L r49.2.L,.I r49.2.At])]) (ml':=[(7,.box [.L r58.2.L,.I r58.2.At])]) R isF9 R (sbR (sbR (sbR sbN))) (Gq28 hr58) (mC R mN) (newI R newN) R (sN (oFa tf63_2 tk54 ts54 R R (sN (oFa tf54_1 tk3 ts3 R R (s_ (oSt R R R tk3 ts3 R R R (s0 ((Wk.trans (Wk.eq (el:=[(0,.ptr 7 0),(2,.I p2),(7,.arr 221 (List.length l7)),(8,.arr 112 (List.length l26)),(9,.I n3),(11,.ptr 111 0)]) (ml:=[(7,.box [.L r58.2.L,.I r58.2.At]),(111,.box [.I (i64 ((l7.length:Int)+r10.1)),.I r11.1,.I (l7.length:Int),.I n17,.I n18,.I r58.1,.str t20,.lst 6 (List.map GPart.lv l21),.L l22,.I n23,.I n24,.I n25]),(112,.arr 3 1 (List.map LV.I l26)),(221,.arr 63 12 (List.map Gq0.lv l7))]) R R R R) (Wk.trans (Wk.frzB 111 [.I (i64 ((l7.length:Int)+r10.1)),.I r11.1,.I (l7.length:Int),.I n17,.I n18,.I r58.1,.str t20,.lst 6 (List.map GPart.lv l21),.L l22,.I n23,.I n24,.I n25] R R R (prN R)) (Wk.eq R R R R)))))))))))))) (blockN (thenN ⟨(i64 ((l7.length:Int)+r10.1)),r11.1,(l7.length:Int),n17,r58.1,n23,n24,r58.2.L,r58.2.At,h,Wk.eq R R R R⟩))
    replace h:=iteF h hc48
    exact LH.skip (thenN ⟨(i64 ((l7.length:Int)+r10.1)),r11.1,(l7.length:Int),n17,n19,n23,n24,w45.2.1,w45.2.2,h,(Wk.trans (Wk.eq (el:=[(0,.ptr 7 0),(2,.I p2),(7,.arr 221 (List.length l7)),(8,.arr 112 (List.length l26)),(9,.I n3),(11,.ptr 111 0)]) (ml:=[(7,.box [.L w45.2.1,.I w45.2.2]),(111,.box [.I (i64 ((l7.length:Int)+r10.1)),.I r11.1,.I (l7.length:Int),.I n17,.I n18,.I n19,.str t20,.lst 6 (List.map GPart.lv l21),.L l22,.I n23,.I n24,.I n25]),(112,.arr 3 1 (List.map LV.I l26)),(221,.arr 63 12 (List.map Gq0.lv l7))]) R R R R) (Wk.trans (Wk.frzB 111 [.I (i64 ((l7.length:Int)+r10.1)),.I r11.1,.I (l7.length:Int),.I n17,.I n18,.I n19,.str t20,.lst 6 (List.map GPart.lv l21),.L l22,.I n23,.I n24,.I n25] R R R (prN R)) (Wk.eq R R R R)))⟩)
   clear h
   rintro e m ⟨n27,n28,n29,n30,n31,n32,n33,l34,n35,h,hw⟩
   refine LH.wk hw ?_
   clear hw
   unfold Gq7 at h
   obtain ⟨v36,hv36,h⟩:=bindS h
   refine LH.seqT [(0,.ptr 7 0),(2,.I p2),(7,.arr 221 (List.length v36)),(8,.arr 112 (List.length l26)),(9,.I n3)] [(7,.box [.L l34,.I n35]),(112,.arr 3 1 (List.map LV.I l26)),(221,.arr 63 12 (List.map Gq0.lv v36))] R (sMa R (sN (oLdA R tk63 ta63 ts63 R R (sN (oBS (f:=Gq0.lv) (ys:=[(Gq0.mk (Gq4.mk n27 n28 n29) n30 (GItem.mk n18 n31 t20 l21 l22) (GRef.mk n32 n33) n25)]) te25 tr63 ts63 R R R Gq0.ok (sN (oAp (f:=Gq0.lv) te25 tr63 ts63 R R (prN R) R hv36 (sAa R zS)))))))) ?_
   obtain ⟨r37,hr37,h⟩:=bindS h
   refine LH.seqT [(0,.ptr 7 0),(2,.I p2),(7,.arr 221 (List.length v36)),(8,.arr 112 (List.length l26)),(9,.I n3),(123,.bool r37.1)] [(7,.box [.L r37.2.L,.I r37.2.At]),(112,.arr 3 1 (List.map LV.I l26)),(221,.arr 63 12 (List.map Gq0.lv v36))] R (sMp R (sN (oCM (args:=[.ptr 7 0,.I 8]) (ml:=[(7,.box [.L l34,.I n35])]) (ml':=[(7,.box [.L r37.2.L,.I r37.2.At])]) R isF30 R (sbR (sbR sbN)) (Gq21 hr37) (mC R mN) (newI R newN) R zS))) (LH.cond (t:=r37.1) R (fun hc38=>?_) (fun hc38=>?_))
   ·replace h:=iteT h hc38
    obtain ⟨r39,hr39,h⟩:=bindS h
    obtain ⟨x40,hx40,h⟩:=bindS h
    obtain ⟨v41,hv41,h⟩:=bindS h
    refine LH.loneT [(0,.ptr 7 0),(2,.I p2),(7,.arr 221 (List.length v41)),(8,.arr 112 (List.length l26)),(9,.I n3)] [(7,.box [.L r39.2.L,.I r39.2.At]),(112,.arr 3 1 (List.map LV.I l26)),(221,.arr 63 12 (List.map Gq0.lv v41))] R (sMa R (sMa R (sMp R (sMa R (sN (oLnA (f:=Gq0.lv) te25 R R (sN (oCM (args:=[.ptr 7 0,.I (v36.length:Int)]) (ml:=[(7,.box [.L r37.2.L,.I r37.2.At])]) (ml':=[(7,.box [.L r39.2.L,.I r39.2.At])]) R isF27 R (sbR (sbR sbN)) (Gq19 hr39) (mC R mN) (newI R newN) R (sN (oIxA (f:=Gq0.lv) te25 tk63 ts63 R R R hx40 (sN (oLdEA (f:=Gq0.lv) R R (idxOk hx40).2 R R tk63 ta63 ts63 R R (sN (oBS (f:=Gq0.lv) (ys:=[x40]) te25 tr63 ts63 R R R Gq0.ok (sN (oAp (f:=Gq0.lv) te25 tr63 ts63 R R (prN R) R hv41 (sAa R zS))))))))))))))))) (blockN (thenN (LH.loneT [(0,.ptr 7 0),(2,.I p2),(7,.arr 221 (List.length v41)),(8,.arr 112 (List.length l26)),(9,.I (i64 (n3 - 1)))] [(7,.box [.L r39.2.L,.I r39.2.At]),(112,.arr 3 1 (List.map LV.I l26)),(221,.arr 63 12 (List.map Gq0.lv v41))] R (sMi R (sN (oSub R R (sAi R zS)))) ?_)))
    exact roundI ⟨(i64 (n3 - 1)),r39.2.L,r39.2.At,l26,v41,hrec1 ▸ h,R,R⟩ (Wk.eq R R R R)
   replace h:=iteF h hc38
   refine LH.skip (blockN (thenN (LH.loneT [(0,.ptr 7 0),(2,.I p2),(7,.arr 221 (List.length v36)),(8,.arr 112 (List.length l26)),(9,.I (i64 (n3 - 1)))] [(7,.box [.L r37.2.L,.I r37.2.At]),(112,.arr 3 1 (List.map LV.I l26)),(221,.arr 63 12 (List.map Gq0.lv v36))] R (sMi R (sN (oSub R R (sAi R zS)))) ?_)))
   exact roundI ⟨(i64 (n3 - 1)),r37.2.L,r37.2.At,l26,v36,hrec1 ▸ h,R,R⟩ (Wk.eq R R R R)
  replace h:=iteF h hc8
  refine LH.exit (thenX (roundX (blockH (thenN (LH.wk ((Wk.trans (Wk.eq (el:=[(7,.arr 221 (List.length l7))]) (ml:=[(7,.box [.L l4,.I n5]),(221,.arr 63 12 (List.map Gq0.lv l7))]) R R R R) (Wk.trans (Wk.frzL (f:=Gq0.lv) (el':=[(7,.lst 12 (List.map Gq0.lv l7))]) 221 63 12 l7 R R (prN R) (fZ fN)) (Wk.eq (el:=[(7,.lst 12 (List.map Gq0.lv l7))]) (ml:=[(7,.box [.L l4,.I n5])]) R R R R)))) (LH.seqT [(6,.lst 12 (List.map Gq0.lv l7))] [(7,.box [.L l4,.I n5])] R (sMl R (sAl R zS)) (LH.ret ?_)))))))
  obtain rfl:=oI h
  exact retE (aT Tryz.results8) (lrT R (lr0 ⟨memN (mC R mN),R,prK R,Sub.rfl⟩))

theorem q191q {F:Nat} {p0:List Gq0} {p1:(Gq0→Option Gq4)} {p2:(Gq0→Gq0→Option Bool)} {r:List Gq4 × List Int} {p1_f:Nat} {p1_c:List LV} (p1_i:IsF Tryz.prog p1_f) (p1_q:LV.pureL p1_c=true) (p1_k:∀ (x0:Gq0) (q:Gq4),p1 x0=some q→LCall Tryz.prog p1_f ([.agg [.I x0.Stamp.Time,.I x0.Stamp.Source,.I x0.Stamp.Seq,.I x0.Kind,.I x0.Item.ID,.I x0.Item.Version,.str x0.Item.Stem,.lst 6 (List.map GPart.lv x0.Item.Parts),.L x0.Item.Enemies,.I x0.Ref.ID,.I x0.Ref.Version,.I x0.Form]]++p1_c) (Mem.of []) (.agg [.I q.Time,.I q.Source,.I q.Seq]) (Mem.of [])) {p2_f:Nat} {p2_c:List LV} (p2_i:IsF Tryz.prog p2_f) (p2_q:LV.pureL p2_c=true) (p2_k:∀ (x0:Gq0) (x1:Gq0) (q:Bool),p2 x0 x1=some q→LCall Tryz.prog p2_f ([.agg [.I x0.Stamp.Time,.I x0.Stamp.Source,.I x0.Stamp.Seq,.I x0.Kind,.I x0.Item.ID,.I x0.Item.Version,.str x0.Item.Stem,.lst 6 (List.map GPart.lv x0.Item.Parts),.L x0.Item.Enemies,.I x0.Ref.ID,.I x0.Ref.Version,.I x0.Form],.agg [.I x1.Stamp.Time,.I x1.Stamp.Source,.I x1.Stamp.Seq,.I x1.Kind,.I x1.Item.ID,.I x1.Item.Version,.str x1.Item.Stem,.lst 6 (List.map GPart.lv x1.Item.Parts),.L x1.Item.Enemies,.I x1.Ref.ID,.I x1.Ref.Version,.I x1.Form]]++p2_c) (Mem.of []) (.bool q) (Mem.of [])) (h:q37q F p0 p1 p2=some r):LCall Tryz.prog 72 [.lst 12 (List.map Gq0.lv p0),.fn p1_f p1_c,.fn p2_f p2_c] (Mem.of []) (.tup [.lst 3 (List.map Gq4.lv r.1),.L r.2]) (Mem.of []):=by
  have p2_p:∀ {l:List LV},LV.pureL l=true→LV.pureL (l++p2_c)=true:=pnC p2_q
  have p2_r:LV.refsL p2_c=[]:=refsL_pure p2_q
  have p1_p:∀ {l:List LV},LV.pureL l=true→LV.pureL (l++p1_c)=true:=pnC p1_q
  have p1_r:LV.refsL p1_c=[]:=refsL_pure p1_q
  unfold q37q at h
  refine bodyT Tryz.func72 R (nT Tryz.ntmps72 R) (LH.wk (Wk.to (el:=[(0,.lst 12 (List.map Gq0.lv p0)),(1,.fn p1_f p1_c),(2,.fn p2_f p2_c)]) (ml:=[]) (eQ ⟨R,R,R,trivial⟩) mN (by simp [keptRefs,LV.refs,LV.refsL,LV.cells,lev,Env.args,Env.of,Env.put,Env.drop,p1_r,p2_r]) (prK R)) (LH.seqT [(0,.lst 12 (List.map Gq0.lv p0)),(1,.fn p1_f p1_c),(2,.fn p2_f p2_c)] [] R (sAn R (sAn R (s0 (Wk.to (eQ ⟨R,R,R,trivial⟩) mN (by simp [keptRefs,LV.refs,LV.refsL,LV.cells,lev,Env.args,Env.of,Env.put,Env.drop,p1_r,p2_r]) (prK R))))) ?_))
  obtain ⟨v1,hv1,h⟩:=bindS h
  refine LH.seqT [(0,.lst 12 (List.map Gq0.lv p0)),(1,.fn p1_f p1_c),(2,.fn p2_f p2_c),(8,.arr 117 (List.length v1))] [(117,.arr 61 3 (List.map Gq4.lv v1))] R (sMl R (sN (oLnL (f:=Gq0.lv) te25 R (sN (oMk (f:=Gq4.lv) (z:=(Gq4.mk 0 0 0)) (id:=117) R te111 tz61 tr61 ts61 R R R hv1 R (sAa R (s0 (Wk.to (eQ ⟨R,R,R,R,trivial⟩) ⟨R,trivial⟩ (by simp [keptRefs,LV.refs,LV.refsL,LV.cells,lev,Env.args,Env.of,Env.put,Env.drop,p1_r,p2_r]) (prK R))))))))) ?_
  obtain ⟨v2,hv2,h⟩:=bindS h
  refine LH.seqT [(0,.lst 12 (List.map Gq0.lv p0)),(1,.fn p1_f p1_c),(2,.fn p2_f p2_c),(8,.arr 117 (List.length v1)),(9,.arr 120 (List.length v2))] [(117,.arr 61 3 (List.map Gq4.lv v1)),(120,.arr 3 1 (List.map LV.I v2))] R (sMl R (sN (oLnL (f:=Gq0.lv) te25 R (sN (oMk (f:=LV.I) (z:=0) (id:=120) R te22 tz3 tr3 ts3 R R R hv2 R (sAa R (s0 (Wk.to (eQ ⟨R,R,R,R,R,trivial⟩) ⟨R,R,trivial⟩ (by simp [keptRefs,LV.refs,LV.refsL,LV.cells,lev,Env.args,Env.of,Env.put,Env.drop,p1_r,p2_r]) (prK R))))))))) (LH.seqT [(0,.lst 12 (List.map Gq0.lv p0)),(1,.fn p1_f p1_c),(2,.fn p2_f p2_c),(8,.arr 117 (List.length v1)),(9,.arr 120 (List.length v2)),(10,.mp 121)] [(117,.arr 61 3 (List.map Gq4.lv v1)),(120,.arr 3 1 (List.map LV.I v2)),(121,.map 61 3 (mlv Gq4.lv LV.I ([]:List (Gq4 × Int))))] R (sX ((ok_makeMap (kt:=61) (vt:=3) (id:=121) R).ok) (sN (oA (v:=(.mp _)) R (s0 (Wk.to (eQ ⟨R,R,R,R,R,R,trivial⟩) ⟨R,R,R,trivial⟩ (by simp [keptRefs,LV.refs,LV.refsL,LV.cells,lev,Env.args,Env.of,Env.put,Env.drop,p1_r,p2_r]) (prK R)))))) (LH.seq (LH.seqT [(0,.lst 12 (List.map Gq0.lv p0)),(1,.fn p1_f p1_c),(2,.fn p2_f p2_c),(8,.arr 117 (List.length v1)),(9,.arr 120 (List.length v2)),(10,.mp 121),(22,.lst 12 (List.map Gq0.lv p0)),(23,.I (p0.length:Int)),(24,.I 0)] [(117,.arr 61 3 (List.map Gq4.lv v1)),(120,.arr 3 1 (List.map LV.I v2)),(121,.map 61 3 (mlv Gq4.lv LV.I ([]:List (Gq4 × Int))))] R (sMl R (sN (oLnL (f:=Gq0.lv) te25 R (sMi R (s0 (Wk.to (eQ ⟨R,R,R,R,R,R,R,R,R,trivial⟩) ⟨R,R,R,trivial⟩ (by simp [keptRefs,LV.refs,LV.refsL,LV.cells,lev,Env.args,Env.of,Env.put,Env.drop,p1_r,p2_r]) (prK R))))))) (LH.block (LH.loop (fun n e m=>∃ (n3:Int) (l4:List Gq4) (l5:List Int) (m6:List (Gq4 × Int)),q12q p0 p1 p2 n n3 l4 l5 m6=some r∧e=Env.of [(0,.lst 12 (List.map Gq0.lv p0)),(1,.fn p1_f p1_c),(2,.fn p2_f p2_c),(8,.arr 117 (List.length l4)),(9,.arr 120 (List.length l5)),(10,.mp 121),(22,.lst 12 (List.map Gq0.lv p0)),(23,.I (p0.length:Int)),(24,.I n3)]∧m=Mem.of [(117,.arr 61 3 (List.map Gq4.lv l4)),(120,.arr 3 1 (List.map LV.I l5)),(121,.map 61 3 (mlv Gq4.lv LV.I m6))]) F ⟨0,v1,v2,([]:List (Gq4 × Int)),h,R,R⟩ ?_)))))
  clear h
  rintro n e m ⟨n3,l4,l5,m6,h,rfl,rfl⟩
  rcases n with _ | n
  · cases (show Option.none=some _ from h)
  obtain ⟨rec1,hrec1⟩:∃ f,f=q12q p0 p1 p2 n:=⟨_,rfl⟩
  replace h:q18q p0 p1 p2 rec1 n3 l4 l5 m6=some r:=hrec1 ▸ h
  unfold q18q at h
  refine LH.seqT [(0,.lst 12 (List.map Gq0.lv p0)),(1,.fn p1_f p1_c),(2,.fn p2_f p2_c),(8,.arr 117 (List.length l4)),(9,.arr 120 (List.length l5)),(10,.mp 121),(22,.lst 12 (List.map Gq0.lv p0)),(23,.I (p0.length:Int)),(24,.I n3),(25,.bool (decide (n3<(p0.length:Int))))] [(117,.arr 61 3 (List.map Gq4.lv l4)),(120,.arr 3 1 (List.map LV.I l5)),(121,.map 61 3 (mlv Gq4.lv LV.I m6))] R (sN (oLt R R (s0 (Wk.to (eQ ⟨R,R,R,R,R,R,R,R,R,R,trivial⟩) ⟨R,R,R,trivial⟩ (by simp [keptRefs,LV.refs,LV.refsL,LV.cells,lev,Env.args,Env.of,Env.put,Env.drop,p1_r,p2_r]) (prK R))))) (LH.seq (LH.cond (t:=(decide (n3<(p0.length:Int)))) R (fun hc7=>?_) (fun hc7=>?_)))
  ·replace h:=iteT h hc7
   refine LH.skip (thenN (LH.wk (Wk.to (el:=[(0,.lst 12 (List.map Gq0.lv p0)),(1,.fn p1_f p1_c),(2,.fn p2_f p2_c),(8,.arr 117 (List.length l4)),(9,.arr 120 (List.length l5)),(10,.mp 121),(22,.lst 12 (List.map Gq0.lv p0)),(23,.I (p0.length:Int)),(24,.I n3)]) (ml:=[(117,.arr 61 3 (List.map Gq4.lv l4)),(120,.arr 3 1 (List.map LV.I l5)),(121,.map 61 3 (mlv Gq4.lv LV.I m6))]) (eQ ⟨R,R,R,R,R,R,R,R,R,trivial⟩) ⟨R,R,R,trivial⟩ (by simp [keptRefs,LV.refs,LV.refsL,LV.cells,lev,Env.args,Env.of,Env.put,Env.drop,p1_r,p2_r]) (prK R)) (LH.seq (LH.block ?_))))
   obtain ⟨x8,hx8,h⟩:=bindS h
   refine LH.seqT [(0,.lst 12 (List.map Gq0.lv p0)),(1,.fn p1_f p1_c),(2,.fn p2_f p2_c),(8,.arr 117 (List.length l4)),(9,.arr 120 (List.length l5)),(10,.mp 121),(11,.I n3),(12,.ptr 112 0),(22,.lst 12 (List.map Gq0.lv p0)),(23,.I (p0.length:Int)),(24,.I n3)] [(112,.box [.I x8.Stamp.Time,.I x8.Stamp.Source,.I x8.Stamp.Seq,.I x8.Kind,.I x8.Item.ID,.I x8.Item.Version,.str x8.Item.Stem,.lst 6 (List.map GPart.lv x8.Item.Parts),.L x8.Item.Enemies,.I x8.Ref.ID,.I x8.Ref.Version,.I x8.Form]),(117,.arr 61 3 (List.map Gq4.lv l4)),(120,.arr 3 1 (List.map LV.I l5)),(121,.map 61 3 (mlv Gq4.lv LV.I m6))] R (sMi R (sN (oIx (f:=Gq0.lv) te25 tk63 ts63 R R Gq0.ok hx8 R (sN (oLdA R tk63 ta63 ts63 R R (sN (oAl (id:=112) R tz63 R R (sAi R (s_ (oSt R R R tk63 ts63 R R R (s0 (Wk.to (eQ ⟨R,R,R,R,R,R,R,R,R,R,R,trivial⟩) ⟨R,R,R,R,trivial⟩ (by simp [keptRefs,LV.refs,LV.refsL,LV.cells,lev,Env.args,Env.of,Env.put,Env.drop,p1_r,p2_r]) (prK R))))))))))))) ?_
   obtain ⟨r9,hr9,h⟩:=bindS h
   obtain ⟨x10,hx10,h⟩:=bindS h
   refine LH.seqT [(0,.lst 12 (List.map Gq0.lv p0)),(1,.fn p1_f p1_c),(2,.fn p2_f p2_c),(8,.arr 117 (List.length (l4.set n3.toNat r9))),(9,.arr 120 (List.length l5)),(10,.mp 121),(11,.I n3),(12,.ptr 112 0),(22,.lst 12 (List.map Gq0.lv p0)),(23,.I (p0.length:Int)),(24,.I n3)] [(112,.box [.I x8.Stamp.Time,.I x8.Stamp.Source,.I x8.Stamp.Seq,.I x8.Kind,.I x8.Item.ID,.I x8.Item.Version,.str x8.Item.Stem,.lst 6 (List.map GPart.lv x8.Item.Parts),.L x8.Item.Enemies,.I x8.Ref.ID,.I x8.Ref.Version,.I x8.Form]),(117,.arr 61 3 (List.map Gq4.lv (l4.set n3.toNat r9))),(120,.arr 3 1 (List.map LV.I l5)),(121,.map 61 3 (mlv Gq4.lv LV.I m6))] R ?_ ?_
   ·refine sMa R (sMi R (sN (oM (v:=(.fn _ _)) R (sN (oLdPA R R R tk63 ta63 ts63 R R (sN (oCP (args:=[.agg [.I x8.Stamp.Time,.I x8.Stamp.Source,.I x8.Stamp.Seq,.I x8.Kind,.I x8.Item.ID,.I x8.Item.Version,.str x8.Item.Stem,.lst 6 (List.map GPart.lv x8.Item.Parts),.L x8.Item.Enemies,.I x8.Ref.ID,.I x8.Ref.Version,.I x8.Form]]++p1_c) (args':=[.agg [.I x8.Stamp.Time,.I x8.Stamp.Source,.I x8.Stamp.Seq,.I x8.Kind,.I x8.Item.ID,.I x8.Item.Version,.str x8.Item.Stem,.lst 6 (List.map GPart.lv x8.Item.Parts),.L x8.Item.Enemies,.I x8.Ref.ID,.I x8.Ref.Version,.I x8.Form]]++p1_c) R p1_i R SubL.rfl (p1_k _ _ hr9) (p1_p R) ?_)))))))
    exact sN (oIxA (f:=Gq4.lv) te111 tk61 ts61 R R R hx10 (s_ (oStE (f:=Gq4.lv) (z':=r9) R R R R tk61 ts61 R (idxOk hx10).2 R (s0 (Wk.to (eC R (eC R (eC R (eC (congrArg (LV.arr 117) (by simp)) (eC R (eC R (eC R (eC R (eC R (eC R (eC R eN))))))))))) ⟨R,R,R,R,trivial⟩ (by simp [keptRefs,LV.refs,LV.refsL,LV.cells,lev,Env.args,Env.of,Env.put,Env.drop,p1_r,p2_r]) (prK R))))))
   obtain ⟨x11,hx11,h⟩:=bindS h
   refine LH.seqT [(0,.lst 12 (List.map Gq0.lv p0)),(1,.fn p1_f p1_c),(2,.fn p2_f p2_c),(8,.arr 117 (List.length (l4.set n3.toNat r9))),(9,.arr 120 (List.length l5)),(10,.mp 121),(11,.I n3),(12,.ptr 112 0),(13,.I ((mget m6 x11).getD 0)),(14,.bool ((mget m6 x11).isSome)),(22,.lst 12 (List.map Gq0.lv p0)),(23,.I (p0.length:Int)),(24,.I n3)] [(112,.box [.I x8.Stamp.Time,.I x8.Stamp.Source,.I x8.Stamp.Seq,.I x8.Kind,.I x8.Item.ID,.I x8.Item.Version,.str x8.Item.Stem,.lst 6 (List.map GPart.lv x8.Item.Parts),.L x8.Item.Enemies,.I x8.Ref.ID,.I x8.Ref.Version,.I x8.Form]),(117,.arr 61 3 (List.map Gq4.lv (l4.set n3.toNat r9))),(120,.arr 3 1 (List.map LV.I l5)),(121,.map 61 3 (mlv Gq4.lv LV.I m6))] R (sN (oM (v:=(.mp _)) R (sMa R (sMi R (sN (oIxA (f:=Gq4.lv) te111 tk61 ts61 R R R hx11 (sN (oLdEA (f:=Gq4.lv) R R (idxOk hx11).2 R R tk61 ta61 ts61 R R (sX ((ok_lookup2 (f:=Gq4.lv) (g:=LV.I) (xs:=m6) (key:=x11) (z:=0) tm133 kok61 kf61 R R R tz3).ok) (sMt R (sN (oEx R R (sN (oEx R R (sAi R (sAb R (s0 (Wk.to (eQ ⟨R,R,R,R,R,R,R,R,R,R,R,R,R,trivial⟩) ⟨R,R,R,R,trivial⟩ (by simp [keptRefs,LV.refs,LV.refsL,LV.cells,lev,Env.args,Env.of,Env.put,Env.drop,p1_r,p2_r]) (prK R))))))))))))))))))) (LH.seqT [(0,.lst 12 (List.map Gq0.lv p0)),(1,.fn p1_f p1_c),(2,.fn p2_f p2_c),(8,.arr 117 (List.length (l4.set n3.toNat r9))),(9,.arr 120 (List.length l5)),(10,.mp 121),(11,.I n3),(12,.ptr 112 0),(13,.I ((mget m6 x11).getD 0)),(22,.lst 12 (List.map Gq0.lv p0)),(23,.I (p0.length:Int)),(24,.I n3),(45,.bool (!((mget m6 x11).isSome)))] [(112,.box [.I x8.Stamp.Time,.I x8.Stamp.Source,.I x8.Stamp.Seq,.I x8.Kind,.I x8.Item.ID,.I x8.Item.Version,.str x8.Item.Stem,.lst 6 (List.map GPart.lv x8.Item.Parts),.L x8.Item.Enemies,.I x8.Ref.ID,.I x8.Ref.Version,.I x8.Form]),(117,.arr 61 3 (List.map Gq4.lv (l4.set n3.toNat r9))),(120,.arr 3 1 (List.map LV.I l5)),(121,.map 61 3 (mlv Gq4.lv LV.I m6))] R (sMb R (sN (oNot R (s0 (Wk.to (eQ ⟨R,R,R,R,R,R,R,R,R,R,R,R,R,trivial⟩) ⟨R,R,R,R,trivial⟩ (by simp [keptRefs,LV.refs,LV.refsL,LV.cells,lev,Env.args,Env.of,Env.put,Env.drop,p1_r,p2_r]) (prK R)))))) (LH.cond (t:=(!((mget m6 x11).isSome))) R (fun hc12=>?_) (fun hc12=>?_)))
   ·replace h:=iteT h hc12
    obtain ⟨x13,hx13,h⟩:=bindS h
    refine LH.loneT [(0,.lst 12 (List.map Gq0.lv p0)),(1,.fn p1_f p1_c),(2,.fn p2_f p2_c),(8,.arr 117 (List.length (l4.set n3.toNat r9))),(9,.arr 120 (List.length l5)),(10,.mp 121),(22,.lst 12 (List.map Gq0.lv p0)),(23,.I (p0.length:Int)),(24,.I n3)] [(117,.arr 61 3 (List.map Gq4.lv (l4.set n3.toNat r9))),(120,.arr 3 1 (List.map LV.I l5)),(121,.map 61 3 (mlv Gq4.lv LV.I (mput m6 x13 n3)))] R (sN (oM (v:=(.mp _)) R (sMa R (sMi R (sN (oIxA (f:=Gq4.lv) te111 tk61 ts61 R R R hx13 (sN (oLdEA (f:=Gq4.lv) R R (idxOk hx13).2 R R tk61 ta61 ts61 R R (sMi R (sX_ ((ok_update (f:=Gq4.lv) (g:=LV.I) (xs:=m6) (key:=x13) (val:=n3) (.inl R) tm133 kok61 kf61 (fun _=>R) R R R R).ok) (s0 (Wk.to (eQ ⟨R,R,R,R,R,R,R,R,R,trivial⟩) ⟨R,R,R,trivial⟩ (by simp [keptRefs,LV.refs,LV.refsL,LV.cells,lev,Env.args,Env.of,Env.put,Env.drop,p1_r,p2_r]) (prK R))))))))))))) (blockN (thenN (LH.loneT [(0,.lst 12 (List.map Gq0.lv p0)),(1,.fn p1_f p1_c),(2,.fn p2_f p2_c),(8,.arr 117 (List.length (l4.set n3.toNat r9))),(9,.arr 120 (List.length l5)),(10,.mp 121),(22,.lst 12 (List.map Gq0.lv p0)),(23,.I (p0.length:Int)),(24,.I (i64 (n3+1)))] [(117,.arr 61 3 (List.map Gq4.lv (l4.set n3.toNat r9))),(120,.arr 3 1 (List.map LV.I l5)),(121,.map 61 3 (mlv Gq4.lv LV.I (mput m6 x13 n3)))] R (sN (oAdd R R (sMi R (s0 (Wk.to (eQ ⟨R,R,R,R,R,R,R,R,R,trivial⟩) ⟨R,R,R,trivial⟩ (by simp [keptRefs,LV.refs,LV.refsL,LV.cells,lev,Env.args,Env.of,Env.put,Env.drop,p1_r,p2_r]) (prK R)))))) ?_)))
    exact roundI ⟨(i64 (n3+1)),(l4.set n3.toNat r9),l5,(mput m6 x13 n3),hrec1 ▸ h,R,R⟩ (Wk.to (eQ ⟨R,R,R,R,R,R,R,R,R,trivial⟩) ⟨R,R,R,trivial⟩ (by simp [keptRefs,LV.refs,LV.refsL,LV.cells,lev,Env.args,Env.of,Env.put,Env.drop,p1_r,p2_r]) (prK R))
   replace h:=iteF h hc12
   obtain ⟨x14,hx14,h⟩:=bindS h
   obtain ⟨r15,hr15,h⟩:=bindS h
   refine LH.seqJM mixed [] [0,0,0,0,0,1112,0,0] [(0,.lst 12 (List.map Gq0.lv p0)),(1,.fn p1_f p1_c),(2,.fn p2_f p2_c),(8,.arr 117 (List.length (l4.set n3.toNat r9))),(9,.arr 120 (List.length l5)),(10,.mp 121),(11,.I n3),(22,.lst 12 (List.map Gq0.lv p0)),(23,.I (p0.length:Int)),(24,.I n3),(59,.bool (!r15))] [(117,.arr 61 3 (List.map Gq4.lv (l4.set n3.toNat r9))),(120,.arr 3 1 (List.map LV.I l5)),(121,.map 61 3 (mlv Gq4.lv LV.I m6))] R R (by kernel_rfl) ?_ ?_
   ·refine mMf R (mMl R (mMi R (mN0 (oIx (f:=Gq0.lv) te25 tk63 ts63 R R Gq0.ok hx14 R ⟨R,mN0 (oLdA R tk63 ta63 ts63 R R ⟨R,mD R R R (fun _ b _ d=>oLdPA R b R tk63 ta63 ts63 R R d) (mN0 (oCP (args:=[.agg [.I x14.Stamp.Time,.I x14.Stamp.Source,.I x14.Stamp.Seq,.I x14.Kind,.I x14.Item.ID,.I x14.Item.Version,.str x14.Item.Stem,.lst 6 (List.map GPart.lv x14.Item.Parts),.L x14.Item.Enemies,.I x14.Ref.ID,.I x14.Ref.Version,.I x14.Form],.agg [.I x8.Stamp.Time,.I x8.Stamp.Source,.I x8.Stamp.Seq,.I x8.Kind,.I x8.Item.ID,.I x8.Item.Version,.str x8.Item.Stem,.lst 6 (List.map GPart.lv x8.Item.Parts),.L x8.Item.Enemies,.I x8.Ref.ID,.I x8.Ref.Version,.I x8.Form]]++p2_c) (args':=[.agg [.I x14.Stamp.Time,.I x14.Stamp.Source,.I x14.Stamp.Seq,.I x14.Kind,.I x14.Item.ID,.I x14.Item.Version,.str x14.Item.Stem,.lst 6 (List.map GPart.lv x14.Item.Parts),.L x14.Item.Enemies,.I x14.Ref.ID,.I x14.Ref.Version,.I x14.Form],.agg [.I x8.Stamp.Time,.I x8.Stamp.Source,.I x8.Stamp.Seq,.I x8.Kind,.I x8.Item.ID,.I x8.Item.Version,.str x8.Item.Stem,.lst 6 (List.map GPart.lv x8.Item.Parts),.L x8.Item.Enemies,.I x8.Ref.ID,.I x8.Ref.Version,.I x8.Form]]++p2_c) R p2_i R SubL.rfl (p2_k _ _ _ hr15) (p2_p R) ⟨R,?_⟩))⟩)⟩))))
    exact mN0 (oNot R ⟨R,m0 (Wk.to (eQ ⟨R,R,R,R,R,R,R,R,R,R,R,trivial⟩) ⟨R,R,R,trivial⟩ (by simp [keptRefs,LV.refs,LV.refsL,LV.cells,lev,Env.args,Env.of,Env.put,Env.drop,p1_r,p2_r]) (prK R))⟩)
   refine LH.cond (t:=(!r15)) R (fun hc16=>?_) (fun hc16=>?_)
   ·replace h:=iteT h hc16
    obtain ⟨x17,hx17,h⟩:=bindS h
    refine LH.loneT [(0,.lst 12 (List.map Gq0.lv p0)),(1,.fn p1_f p1_c),(2,.fn p2_f p2_c),(8,.arr 117 (List.length (l4.set n3.toNat r9))),(9,.arr 120 (List.length (l5.set n3.toNat 1))),(10,.mp 121),(22,.lst 12 (List.map Gq0.lv p0)),(23,.I (p0.length:Int)),(24,.I n3)] [(117,.arr 61 3 (List.map Gq4.lv (l4.set n3.toNat r9))),(120,.arr 3 1 (List.map LV.I (l5.set n3.toNat 1))),(121,.map 61 3 (mlv Gq4.lv LV.I m6))] R (sMa R (sMi R (sN (oIxA (f:=LV.I) te22 tk3 ts3 R R R hx17 (s_ (oStE (f:=LV.I) (z':=1) R R R R tk3 ts3 R (idxOk hx17).2 R (s0 (Wk.to (eC R (eC R (eC R (eC R (eC (congrArg (LV.arr 120) (by simp)) (eC R (eC R (eC R (eC R eN))))))))) ⟨R,R,R,trivial⟩ (by simp [keptRefs,LV.refs,LV.refsL,LV.cells,lev,Env.args,Env.of,Env.put,Env.drop,p1_r,p2_r]) (prK R))))))))) (blockN (thenN (LH.loneT [(0,.lst 12 (List.map Gq0.lv p0)),(1,.fn p1_f p1_c),(2,.fn p2_f p2_c),(8,.arr 117 (List.length (l4.set n3.toNat r9))),(9,.arr 120 (List.length (l5.set n3.toNat 1))),(10,.mp 121),(22,.lst 12 (List.map Gq0.lv p0)),(23,.I (p0.length:Int)),(24,.I (i64 (n3+1)))] [(117,.arr 61 3 (List.map Gq4.lv (l4.set n3.toNat r9))),(120,.arr 3 1 (List.map LV.I (l5.set n3.toNat 1))),(121,.map 61 3 (mlv Gq4.lv LV.I m6))] R (sN (oAdd R R (sMi R (s0 (Wk.to (eQ ⟨R,R,R,R,R,R,R,R,R,trivial⟩) ⟨R,R,R,trivial⟩ (by simp [keptRefs,LV.refs,LV.refsL,LV.cells,lev,Env.args,Env.of,Env.put,Env.drop,p1_r,p2_r]) (prK R)))))) ?_)))
    exact roundI ⟨(i64 (n3+1)),(l4.set n3.toNat r9),(l5.set n3.toNat 1),m6,hrec1 ▸ h,R,R⟩ (Wk.to (eQ ⟨R,R,R,R,R,R,R,R,R,trivial⟩) ⟨R,R,R,trivial⟩ (by simp [keptRefs,LV.refs,LV.refsL,LV.cells,lev,Env.args,Env.of,Env.put,Env.drop,p1_r,p2_r]) (prK R))
   replace h:=iteF h hc16
   refine LH.skip (blockN (thenN (LH.loneT [(0,.lst 12 (List.map Gq0.lv p0)),(1,.fn p1_f p1_c),(2,.fn p2_f p2_c),(8,.arr 117 (List.length (l4.set n3.toNat r9))),(9,.arr 120 (List.length l5)),(10,.mp 121),(22,.lst 12 (List.map Gq0.lv p0)),(23,.I (p0.length:Int)),(24,.I (i64 (n3+1)))] [(117,.arr 61 3 (List.map Gq4.lv (l4.set n3.toNat r9))),(120,.arr 3 1 (List.map LV.I l5)),(121,.map 61 3 (mlv Gq4.lv LV.I m6))] R (sN (oAdd R R (sMi R (s0 (Wk.to (eQ ⟨R,R,R,R,R,R,R,R,R,trivial⟩) ⟨R,R,R,trivial⟩ (by simp [keptRefs,LV.refs,LV.refsL,LV.cells,lev,Env.args,Env.of,Env.put,Env.drop,p1_r,p2_r]) (prK R)))))) ?_)))
   exact roundI ⟨(i64 (n3+1)),(l4.set n3.toNat r9),l5,m6,hrec1 ▸ h,R,R⟩ (Wk.to (eQ ⟨R,R,R,R,R,R,R,R,R,trivial⟩) ⟨R,R,R,trivial⟩ (by simp [keptRefs,LV.refs,LV.refsL,LV.cells,lev,Env.args,Env.of,Env.put,Env.drop,p1_r,p2_r]) (prK R))
  replace h:=iteF h hc7
  refine LH.exit (thenX (roundX (blockH (thenN (LH.wk ((Wk.trans (Wk.to (el:=[(8,.arr 117 (List.length l4)),(9,.arr 120 (List.length l5))]) (ml:=[(117,.arr 61 3 (List.map Gq4.lv l4)),(120,.arr 3 1 (List.map LV.I l5))]) (eQ ⟨R,R,trivial⟩) ⟨R,R,trivial⟩ (by simp [keptRefs,LV.refs,LV.refsL,LV.cells,lev,Env.args,Env.of,Env.put,Env.drop,p1_r,p2_r]) (prK R)) (Wk.trans (Wk.frzL (f:=Gq4.lv) (el':=[(8,.lst 3 (List.map Gq4.lv l4)),(9,.arr 120 (List.length l5))]) 117 61 3 l4 R R (prN R) (fZ (fK R fN))) (Wk.trans (Wk.frzL (f:=LV.I) (el':=[(8,.lst 3 (List.map Gq4.lv l4)),(9,.L l5)]) 120 3 1 l5 R R (prN R) (fK R (fZ fN))) (Wk.to (el:=[(8,.lst 3 (List.map Gq4.lv l4)),(9,.L l5)]) (ml:=[]) (eQ ⟨R,R,trivial⟩) mN (by simp [keptRefs,LV.refs,LV.refsL,LV.cells,lev,Env.args,Env.of,Env.put,Env.drop,p1_r,p2_r]) (prK R)))))) (LH.seqT [(6,.lst 3 (List.map Gq4.lv l4)),(7,.L l5)] [] R (sMl R (sMl R (sAl R (sAl R (s0 (Wk.to (eQ ⟨R,R,trivial⟩) mN (by simp [keptRefs,LV.refs,LV.refsL,LV.cells,lev,Env.args,Env.of,Env.put,Env.drop,p1_r,p2_r]) (prK R))))))) (LH.ret ?_)))))))
  obtain rfl:=oI h
  exact retE (aT Tryz.results72) (lrT R (lrT R (lr0 ⟨memN mN,R,prK R,(Sub.tup (sbR (sbR sbN)))⟩)))

theorem q238q {p0:Gq4} {r:Bool} (h:q184q p0=some r):LCall Tryz.prog 103 [.agg [.I p0.Time,.I p0.Source,.I p0.Seq]] (Mem.of []) (.bool r) (Mem.of []):=by
  unfold q184q at h
  refine bodyT Tryz.func103 R (nT Tryz.ntmps103 R) (LH.wk (Wk.eq (el:=[(0,.agg [.I p0.Time,.I p0.Source,.I p0.Seq])]) (ml:=[]) R R R R) (LH.seqT [(1,.sptr [.I p0.Time,.I p0.Source,.I p0.Seq])] [] R (sB (oBxR R R R R (sAb R zS))) (LH.seqT [(2,.bool ((decide (p0.Time ≥ 0)) && ((decide (p0.Time≤1000000)) && ((decide (p0.Source ≥ 0)) && ((decide (p0.Source≤99)) && ((decide (p0.Seq ≥ 0)) && (decide (p0.Seq≤9999))))))))] [] R ?_ ?_)))
  ·refine sN (oFaS tf61_0 tk3 ts3 R R R (sN (oLd R tk3 ta3 (sN (oGe R R (sMb R ?_))))))
   by_cases hb2:(decide (p0.Time ≥ 0))=true
   ·refine sT R (cB hb2) (oFaS tf61_0 tk3 ts3 R R R (sT R (cB hb2) (oLd R tk3 ta3 (sT R (cB hb2) (oLe R R (sN (oPkT (cB hb2) (v:=(.bool _)) R (sMb R ?_))))))))
    by_cases hb3:(decide (p0.Time≤1000000))=true
    ·refine sT R (cB hb3) (oFaS tf61_1 tk3 ts3 R R R (sT R (cB hb3) (oLd R tk3 ta3 (sT R (cB hb3) (oGe R R (sN (oPkT (cB hb3) (v:=(.bool _)) R (sMb R ?_))))))))
     by_cases hb4:(decide (p0.Source ≥ 0))=true
     ·refine sT R (cB hb4) (oFaS tf61_1 tk3 ts3 R R R (sT R (cB hb4) (oLd R tk3 ta3 (sT R (cB hb4) (oLe R R (sN (oPkT (cB hb4) (v:=(.bool _)) R (sMb R ?_))))))))
      by_cases hb5:(decide (p0.Source≤99))=true
      ·refine sT R (cB hb5) (oFaS tf61_2 tk3 ts3 R R R (sT R (cB hb5) (oLd R tk3 ta3 (sT R (cB hb5) (oGe R R (sN (oPkT (cB hb5) (v:=(.bool _)) R (sMb R ?_))))))))
       by_cases hb6:(decide (p0.Seq ≥ 0))=true
       ·exact sT R (cB hb6) (oFaS tf61_2 tk3 ts3 R R R (sT R (cB hb6) (oLd R tk3 ta3 (sT R (cB hb6) (oLe R R (sN (oPkT (cB hb6) (v:=(.bool _)) R (sAb R (s0 (Wk.to (eC (cB (Eq.trans (Eq.trans (Eq.trans (Eq.trans (andT hb6) (andT hb5)) (andT hb4)) (andT hb3)) (andT hb2))) eN) mN R (prK R)))))))))))
       ·replace hb6:=bF hb6
        exact sF R R hb6 (sF R R hb6 (sF R R hb6 (sN (oPkF (cB hb6) (v:=(.bool _)) R (sAb R (s0 (Wk.to (eC (cB (Eq.trans (Eq.trans (Eq.trans (Eq.trans (andF hb6) (andT hb5)) (andT hb4)) (andT hb3)) (andT hb2))) eN) mN R (prK R))))))))
      ·replace hb5:=bF hb5
       exact sF R R hb5 (sF R R hb5 (sF R R hb5 (sN (oPkF (cB hb5) (v:=(.bool _)) R (sMb R (sF R R R (sF R R R (sF R R R (sN (oPkF R (v:=(.bool _)) R (sAb R (s0 (Wk.to (eC (cB (Eq.trans (Eq.trans (Eq.trans (andF hb5) (andT hb4)) (andT hb3)) (andT hb2))) eN) mN R (prK R))))))))))))))
     ·replace hb4:=bF hb4
      exact sF R R hb4 (sF R R hb4 (sF R R hb4 (sN (oPkF (cB hb4) (v:=(.bool _)) R (sMb R (sF R R R (sF R R R (sF R R R (sN (oPkF R (v:=(.bool _)) R (sMb R (sF R R R (sF R R R (sF R R R (sN (oPkF R (v:=(.bool _)) R (sAb R (s0 (Wk.to (eC (cB (Eq.trans (Eq.trans (andF hb4) (andT hb3)) (andT hb2))) eN) mN R (prK R))))))))))))))))))))
    ·replace hb3:=bF hb3
     exact sF R R hb3 (sF R R hb3 (sF R R hb3 (sN (oPkF (cB hb3) (v:=(.bool _)) R (sMb R (sF R R R (sF R R R (sF R R R (sN (oPkF R (v:=(.bool _)) R (sMb R (sF R R R (sF R R R (sF R R R (sN (oPkF R (v:=(.bool _)) R (sMb R (sF R R R (sF R R R (sF R R R (sN (oPkF R (v:=(.bool _)) R (sAb R (s0 (Wk.to (eC (cB (Eq.trans (andF hb3) (andT hb2))) eN) mN R (prK R))))))))))))))))))))))))))
   ·replace hb2:=bF hb2
    exact sF R R hb2 (sF R R hb2 (sF R R hb2 (sN (oPkF (cB hb2) (v:=(.bool _)) R (sMb R (sF R R R (sF R R R (sF R R R (sN (oPkF R (v:=(.bool _)) R (sMb R (sF R R R (sF R R R (sF R R R (sN (oPkF R (v:=(.bool _)) R (sMb R (sF R R R (sF R R R (sF R R R (sN (oPkF R (v:=(.bool _)) R (sMb R (sF R R R (sF R R R (sF R R R (sN (oPkF R (v:=(.bool _)) R (sAb R (s0 (Wk.to (eC (cB (andF hb2)) eN) mN R (prK R))))))))))))))))))))))))))))))))
  refine LH.ret ?_
  obtain rfl:=oI h
  exact retE (aT Tryz.results103) (lrT R (lr0 ⟨memN mN,R,prK R,Sub.rfl⟩))

theorem cmp_isNaN_int_ok {p0:Int} {r:Bool} (h:cmp_isNaN_int p0=some r):LCall Tryz.prog 109 [.I p0] (Mem.of []) (.bool r) (Mem.of []):=by
  unfold cmp_isNaN_int at h
  refine bodyT Tryz.func109 R (nT Tryz.ntmps109 R) (LH.wk (Wk.eq (el:=[(0,.I p0)]) (ml:=[]) R R R R) (LH.seqT [(0,.I p0)] [] R (sAb R zS) (LH.seqT [(2,.bool (p0 != p0))] [] R (sMi R (sMi R (sN (oNe R R (sAb R zS))))) (LH.ret ?_))))
  obtain rfl:=oI h
  exact retE (aT Tryz.results109) (lrT R (lr0 ⟨memN mN,R,prK R,Sub.rfl⟩))

theorem cmp_Compare_int_ok {p0:Int} {p1:Int} {r:Int} (h:cmp_Compare_int p0 p1=some r):LCall Tryz.prog 97 [.I p0,.I p1] (Mem.of []) (.I r) (Mem.of []):=by
  unfold cmp_Compare_int at h
  refine bodyT Tryz.func97 R (nT Tryz.ntmps97 R) (LH.wk (Wk.eq (el:=[(0,.I p0),(1,.I p1)]) (ml:=[]) R R R R) (LH.seqT [(0,.I p0),(1,.I p1)] [] R (sAi R zS) ?_))
  obtain ⟨r1,hr1,h⟩:=bindS h
  refine LH.seqT [(0,.I p0),(1,.I p1),(5,.bool r1)] [] R (sMi R (sN (oCP (args:=[.I p0]) R isF109 R (sbR sbN) (cmp_isNaN_int_ok hr1) R (sAb R zS)))) ?_
  obtain ⟨r2,hr2,h⟩:=bindS h
  refine LH.seqT [(0,.I p0),(1,.I p1),(5,.bool r1),(6,.bool r2)] [] R (sMi R (sN (oCP (args:=[.I p1]) R isF109 R (sbR sbN) (cmp_isNaN_int_ok hr2) R (sAb R zS)))) (LH.seq (LH.seqT [(0,.I p0),(1,.I p1),(6,.bool r2),(11,.bool r1)] [] R (sMb R zS) (LH.cond (t:=r1) R (fun hc3=>?_) (fun hc3=>?_))))
  ·replace h:=iteT h hc3
   refine LH.seq (LH.seqT [(12,.bool r2)] [] R (sMb R zS) (LH.cond (t:=r2) R (fun hc4=>?_) (fun hc4=>?_)))
   ·replace h:=iteT h hc4
    refine LH.seqT [(4,.I 0)] [] R (sAi R zS) (LH.ret (thenR (thenR ?_)))
    obtain rfl:=oI h
    exact retE (aT Tryz.results97) (lrT R (lr0 ⟨memN mN,R,prK R,Sub.rfl⟩))
   replace h:=iteF h hc4
   refine LH.skip (thenN (LH.seqT [(4,.I (-1))] [] R (sAi R zS) (LH.ret (thenR ?_))))
   obtain rfl:=oI h
   exact retE (aT Tryz.results97) (lrT R (lr0 ⟨memN mN,R,prK R,Sub.rfl⟩))
  replace h:=iteF h hc3
  refine LH.skip (thenN (LH.wk (Wk.eq (el:=[(0,.I p0),(1,.I p1),(6,.bool r2)]) (ml:=[]) R R R R) (LH.seq (LH.seqT [(0,.I p0),(1,.I p1),(13,.bool r2)] [] R (sMb R zS) (LH.cond (t:=r2) R (fun hc5=>?_) (fun hc5=>?_))))))
  ·replace h:=iteT h hc5
   refine LH.seqT [(4,.I 1)] [] R (sAi R zS) (LH.ret (thenR ?_))
   obtain rfl:=oI h
   exact retE (aT Tryz.results97) (lrT R (lr0 ⟨memN mN,R,prK R,Sub.rfl⟩))
  replace h:=iteF h hc5
  refine LH.skip (thenN (LH.wk (Wk.eq (el:=[(0,.I p0),(1,.I p1)]) (ml:=[]) R R R R) (LH.seq (LH.seqT [(0,.I p0),(1,.I p1),(16,.bool (decide (p0<p1)))] [] R (sMi R (sMi R (sN (oLt R R zS)))) (LH.cond (t:=(decide (p0<p1))) R (fun hc6=>?_) (fun hc6=>?_))))))
  ·replace h:=iteT h hc6
   refine LH.seqT [(4,.I (-1))] [] R (sAi R zS) (LH.ret (thenR ?_))
   obtain rfl:=oI h
   exact retE (aT Tryz.results97) (lrT R (lr0 ⟨memN mN,R,prK R,Sub.rfl⟩))
  replace h:=iteF h hc6
  refine LH.skip (thenN (LH.wk (Wk.eq (el:=[(0,.I p0),(1,.I p1)]) (ml:=[]) R R R R) (LH.seq (LH.seqT [(19,.bool (decide (p0 > p1)))] [] R (sMi R (sMi R (sN (oGt R R zS)))) (LH.cond (t:=(decide (p0 > p1))) R (fun hc7=>?_) (fun hc7=>?_))))))
  ·replace h:=iteT h hc7
   refine LH.seqT [(4,.I 1)] [] R (sAi R zS) (LH.ret (thenR ?_))
   obtain rfl:=oI h
   exact retE (aT Tryz.results97) (lrT R (lr0 ⟨memN mN,R,prK R,Sub.rfl⟩))
  replace h:=iteF h hc7
  refine LH.skip (thenN (LH.seqT [(4,.I 0)] [] R (sAi R zS) (LH.ret ?_)))
  obtain rfl:=oI h
  exact retE (aT Tryz.results97) (lrT R (lr0 ⟨memN mN,R,prK R,Sub.rfl⟩))

theorem cmp_Or_int_ok {F:Nat} {p0:List Int} {r:Int} (h:cmp_Or_int F p0=some r):LCall Tryz.prog 105 [.L p0] (Mem.of []) (.I r) (Mem.of []):=by
  unfold cmp_Or_int at h
  refine bodyT Tryz.func105 R (nT Tryz.ntmps105 R) (LH.wk (Wk.eq (el:=[(0,.L p0)]) (ml:=[]) R R R R) (LH.seqT [(0,.L p0)] [] R (sAi R zS) (LH.seqT [(0,.L p0),(3,.I 0)] [] R (sAi R zS) (LH.seq (LH.seqT [(3,.I 0),(6,.L p0),(7,.I (p0.length:Int)),(8,.I 0)] [] R (sMl R (sN (oLnL (f:=LV.I) te22 R (sMi R zS)))) (LH.block (LH.loop (fun n e m=>∃ (n1:Int),cmp_Or_int_L1 p0 n n1=some r∧e=Env.of [(3,.I 0),(6,.L p0),(7,.I (p0.length:Int)),(8,.I n1)]∧m=Mem.of []) F ⟨0,h,R,R⟩ ?_)))))))
  clear h
  rintro n e m ⟨n1,h,rfl,rfl⟩
  rcases n with _ | n
  · cases (show Option.none=some _ from h)
  obtain ⟨rec1,hrec1⟩:∃ f,f=cmp_Or_int_L1 p0 n:=⟨_,rfl⟩
  replace h:cmp_Or_int_L1_B p0 rec1 n1=some r:=hrec1 ▸ h
  unfold cmp_Or_int_L1_B at h
  refine LH.seqT [(3,.I 0),(6,.L p0),(7,.I (p0.length:Int)),(8,.I n1),(9,.bool (decide (n1<(p0.length:Int))))] [] R (sN (oLt R R zS)) (LH.seq (LH.cond (t:=(decide (n1<(p0.length:Int)))) R (fun hc2=>?_) (fun hc2=>?_)))
  ·replace h:=iteT h hc2
   refine LH.skip (thenN (LH.wk (Wk.eq (el:=[(3,.I 0),(6,.L p0),(7,.I (p0.length:Int)),(8,.I n1)]) (ml:=[]) R R R R) (LH.seq (LH.block ?_))))
   obtain ⟨x3,hx3,h⟩:=bindS h
   refine LH.seqT [(3,.I 0),(5,.I x3),(6,.L p0),(7,.I (p0.length:Int)),(8,.I n1)] [] R (sN (oIx (f:=LV.I) te22 tk3 ts3 R R okI hx3 R (sN (oLd R tk3 ta3 (sAi R zS))))) (LH.seqT [(3,.I 0),(5,.I x3),(6,.L p0),(7,.I (p0.length:Int)),(8,.I n1),(14,.bool (x3 != 0))] [] R (sMi R (sMi R (sN (oNe R R zS)))) (LH.cond (t:=(x3 != 0)) R (fun hc4=>?_) (fun hc4=>?_)))
   ·replace h:=iteT h hc4
    refine LH.seqT [(2,.I x3)] [] R (sMi R (sAi R zS)) (LH.ret (blockR (thenR (roundR (blockR (thenR ?_))))))
    obtain rfl:=oI h
    exact retE (aT Tryz.results105) (lrT R (lr0 ⟨memN mN,R,prK R,Sub.rfl⟩))
   replace h:=iteF h hc4
   refine LH.skip (blockN (thenN (LH.loneT [(3,.I 0),(6,.L p0),(7,.I (p0.length:Int)),(8,.I (i64 (n1+1)))] [] R (sN (oAdd R R (sMi R zS))) ?_)))
   exact roundI ⟨(i64 (n1+1)),hrec1 ▸ h,R,R⟩ (Wk.eq R R R R)
  replace h:=iteF h hc2
  refine LH.exit (thenX (roundX (blockH (thenN (LH.seqT [(2,.I 0)] [] R (sMi R (sAi R zS)) (LH.ret ?_))))))
  obtain rfl:=oI h
  exact retE (aT Tryz.results105) (lrT R (lr0 ⟨memN mN,R,prK R,Sub.rfl⟩))

theorem q155q {F:Nat} {p0:Gq4} {p1:Gq4} {r:Int} (h:q26q F p0 p1=some r):LCall Tryz.prog 106 [.agg [.I p0.Time,.I p0.Source,.I p0.Seq],.agg [.I p1.Time,.I p1.Source,.I p1.Seq]] (Mem.of []) (.I r) (Mem.of []):=by
  unfold q26q at h
  refine bodyT Tryz.func106 R (nT Tryz.ntmps106 R) (LH.wk (Wk.eq (el:=[(0,.agg [.I p0.Time,.I p0.Source,.I p0.Seq]),(1,.agg [.I p1.Time,.I p1.Source,.I p1.Seq])]) (ml:=[]) R R R R) (LH.seqT [(2,.sptr [.I p0.Time,.I p0.Source,.I p0.Seq]),(3,.sptr [.I p1.Time,.I p1.Source,.I p1.Seq])] [] R (sB (oBxR R R R R (sB (oBxR R R R R (sAi R zS))))) ?_))
  obtain ⟨r1,hr1,h⟩:=bindS h
  obtain ⟨r2,hr2,h⟩:=bindS h
  obtain ⟨r3,hr3,h⟩:=bindS h
  refine LH.seqJM mixed [] [0,0,0,0,0,0,0,0,0,0,0,0,0] [(4,.I r3)] [] R R (by kernel_rfl) (mN0 (oFaS tf61_1 tk3 ts3 R R R ⟨R,mN0 (oLd R tk3 ta3 ⟨R,mN0 (oFaS tf61_1 tk3 ts3 R R R ⟨R,mN0 (oLd R tk3 ta3 ⟨R,mN0 (oCP (args:=[.I p0.Source,.I p1.Source]) R isF97 R (sbR (sbR sbN)) (cmp_Compare_int_ok hr1) R ⟨R,mN0 (oFaS tf61_2 tk3 ts3 R R R ⟨R,mN0 (oLd R tk3 ta3 ⟨R,mN0 (oFaS tf61_2 tk3 ts3 R R R ⟨R,mN0 (oLd R tk3 ta3 ⟨R,mN0 (oCP (args:=[.I p0.Seq,.I p1.Seq]) R isF97 R (sbR (sbR sbN)) (cmp_Compare_int_ok hr2) R ⟨R,mN0 (oBS (f:=LV.I) (ys:=[r1,r2]) te22 tr3 ts3 R R R okI ⟨R,mN0 (oCP (args:=[.L [r1,r2]]) R isF105 R (sbR sbN) (cmp_Or_int_ok hr3) R ⟨R,mAi R zM⟩)⟩)⟩)⟩)⟩)⟩)⟩)⟩)⟩)⟩)⟩)⟩)) (LH.ret ?_)
  obtain rfl:=oI h
  exact retE (aT Tryz.results106) (lrT R (lr0 ⟨memN mN,R,prK R,Sub.rfl⟩))

theorem q221q {F:Nat} {p0:Int} {p1:Int} {c0:List Gq4} {r:Int} (h:q95q F p0 p1 c0=some r):LCall Tryz.prog 104 [.I p0,.I p1,.sptr [.lst 3 (List.map Gq4.lv c0)]] (Mem.of []) (.I r) (Mem.of []):=by
  unfold q95q at h
  refine bodyT Tryz.func104 R (nT Tryz.ntmps104 R) (LH.wk (Wk.eq (el:=[(0,.I p0),(1,.I p1),(2,.sptr [.lst 3 (List.map Gq4.lv c0)])]) (ml:=[]) R R R R) (LH.seqT [(0,.I p0),(1,.I p1),(2,.sptr [.lst 3 (List.map Gq4.lv c0)])] [] R (sAi R zS) ?_))
  obtain ⟨x1,hx1,h⟩:=bindS h
  obtain ⟨x2,hx2,h⟩:=bindS h
  obtain ⟨r3,hr3,h⟩:=bindS h
  obtain ⟨r4,hr4,h⟩:=bindS h
  obtain ⟨r5,hr5,h⟩:=bindS h
  refine LH.seqJM mixed [] [0,0,0,0,0,0,0,0,0,0,0,0,0,0,0] [(5,.I r5)] [] R R (by kernel_rfl) ?_ ?_
  ·exact mN0 (oLd R tk111 ta111 ⟨R,mMi R (mN0 (oIx (f:=Gq4.lv) te111 tk61 ts61 R R Gq4.ok hx1 R ⟨R,mN0 (oLdA R tk61 ta61 ts61 R R ⟨R,mN0 (oLd R tk111 ta111 ⟨R,mMi R (mN0 (oIx (f:=Gq4.lv) te111 tk61 ts61 R R Gq4.ok hx2 R ⟨R,mN0 (oLdA R tk61 ta61 ts61 R R ⟨R,mN0 (oCP (args:=[.agg [.I x1.Time,.I x1.Source,.I x1.Seq],.agg [.I x2.Time,.I x2.Source,.I x2.Seq]]) R isF106 R (sbR (sbR sbN)) (q155q hr3) R ⟨R,mMi R (mMi R (mN0 (oCP (args:=[.I p0,.I p1]) R isF97 R (sbR (sbR sbN)) (cmp_Compare_int_ok hr4) R ⟨R,mN0 (oBS (f:=LV.I) (ys:=[r3,r4]) te22 tr3 ts3 R R R okI ⟨R,mN0 (oCP (args:=[.L [r3,r4]]) R isF105 R (sbR sbN) (cmp_Or_int_ok hr5) R ⟨R,mAi R zM⟩)⟩)⟩)))⟩)⟩)⟩))⟩)⟩)⟩))⟩)
  refine LH.ret ?_
  obtain rfl:=oI h
  exact retE (aT Tryz.results104) (lrT R (lr0 ⟨memN mN,R,prK R,Sub.rfl⟩))

theorem q231q {F:Nat} {p0:List Gq4} {p1:List Int} {r:List q0q} (h:q179q F p0 p1=some r):LCall Tryz.prog 85 [.lst 3 (List.map Gq4.lv p0),.L p1] (Mem.of []) (.lst 2 (List.map q0q.lv r)) (Mem.of []):=by
  unfold q179q at h
  refine bodyT Tryz.func85 R (nT Tryz.ntmps85 R) (LH.wk (Wk.eq (el:=[(0,.lst 3 (List.map Gq4.lv p0)),(1,.L p1)]) (ml:=[]) R R R R) (LH.seqT [(1,.L p1),(2,.sptr [.lst 3 (List.map Gq4.lv p0)])] [] R (sB (oBxR R R R R (sAn R zS))) (LH.seqT [(1,.L p1),(2,.sptr [.lst 3 (List.map Gq4.lv p0)]),(5,.nil)] [] R (sAn R zS) (LH.seq (LH.seqT [(1,.L p1),(2,.sptr [.lst 3 (List.map Gq4.lv p0)]),(5,.nil),(13,.lst 3 (List.map Gq4.lv p0)),(14,.I (p0.length:Int)),(15,.I 0)] [] R (sN (oLd R tk111 ta111 (sN (oLnL (f:=Gq4.lv) te111 R (sMi R zS))))) (LH.block (LH.wk ((Wk.trans (Wk.eq (el:=[(1,.L p1),(2,.sptr [.lst 3 (List.map Gq4.lv p0)]),(5,.nil),(13,.lst 3 (List.map Gq4.lv p0)),(14,.I (p0.length:Int)),(15,.I 0)]) (ml:=[]) R R R R) (Wk.trans (Wk.eq (el:=[(1,.L p1),(2,.sptr [.lst 3 (List.map Gq4.lv p0)]),(5,.nil),(13,.lst 3 (List.map Gq4.lv p0)),(14,.I (p0.length:Int)),(15,.I 0)]) (ml:=[]) R R R R) (Wk.trans (Wk.ownL (el':=[(1,.L p1),(2,.sptr [.lst 3 (List.map Gq4.lv p0)]),(5,.arr 125 (List.length ([]:List Int))),(13,.lst 3 (List.map Gq4.lv p0)),(14,.I (p0.length:Int)),(15,.I 0)]) 125 3 1 R R (wK (wK (wO (wK (wK (wK wN))))))) (Wk.eq (el:=[(1,.L p1),(2,.sptr [.lst 3 (List.map Gq4.lv p0)]),(5,.arr 125 (List.length ([]:List Int))),(13,.lst 3 (List.map Gq4.lv p0)),(14,.I (p0.length:Int)),(15,.I 0)]) (ml:=[(125,.arr 3 1 (List.map LV.I ([]:List Int)))]) R R R R))))) (LH.loop (fun n e m=>∃ (n1:Int) (l2:List Int),q85q F p0 p1 n n1 l2=some r∧e=Env.of [(1,.L p1),(2,.sptr [.lst 3 (List.map Gq4.lv p0)]),(5,.arr 125 (List.length l2)),(13,.lst 3 (List.map Gq4.lv p0)),(14,.I (p0.length:Int)),(15,.I n1)]∧m=Mem.of [(125,.arr 3 1 (List.map LV.I l2))]) F ⟨0,([]:List Int),h,R,R⟩ ?_))))))))
  clear h
  rintro n e m ⟨n1,l2,h,rfl,rfl⟩
  rcases n with _ | n
  · cases (show Option.none=some _ from h)
  obtain ⟨rec1,hrec1⟩:∃ f,f=q85q F p0 p1 n:=⟨_,rfl⟩
  replace h:q89q F p0 p1 rec1 n1 l2=some r:=hrec1 ▸ h
  unfold q89q at h
  refine LH.seqT [(1,.L p1),(2,.sptr [.lst 3 (List.map Gq4.lv p0)]),(5,.arr 125 (List.length l2)),(13,.lst 3 (List.map Gq4.lv p0)),(14,.I (p0.length:Int)),(15,.I n1),(16,.bool (decide (n1<(p0.length:Int))))] [(125,.arr 3 1 (List.map LV.I l2))] R (sN (oLt R R zS)) (LH.seq (LH.cond (t:=(decide (n1<(p0.length:Int)))) R (fun hc3=>?_) (fun hc3=>?_)))
  ·replace h:=iteT h hc3
   refine LH.skip (thenN (LH.wk (Wk.eq (el:=[(1,.L p1),(2,.sptr [.lst 3 (List.map Gq4.lv p0)]),(5,.arr 125 (List.length l2)),(13,.lst 3 (List.map Gq4.lv p0)),(14,.I (p0.length:Int)),(15,.I n1)]) (ml:=[(125,.arr 3 1 (List.map LV.I l2))]) R R R R) (LH.seq (LH.block ?_))))
   obtain ⟨x4,hx4,h⟩:=bindS h
   refine LH.seqT [(1,.L p1),(2,.sptr [.lst 3 (List.map Gq4.lv p0)]),(5,.arr 125 (List.length l2)),(6,.I n1),(7,.sptr [.I x4.Time,.I x4.Source,.I x4.Seq]),(13,.lst 3 (List.map Gq4.lv p0)),(14,.I (p0.length:Int)),(15,.I n1)] [(125,.arr 3 1 (List.map LV.I l2))] R (sMi R (sN (oIx (f:=Gq4.lv) te111 tk61 ts61 R R Gq4.ok hx4 R (sN (oLdA R tk61 ta61 ts61 R R (sN (oAl (id:=107) R tz61 R R (sAi R (s_ (oSt R R R tk61 ts61 R R R (s0 ((Wk.trans (Wk.eq (el:=[(1,.L p1),(2,.sptr [.lst 3 (List.map Gq4.lv p0)]),(5,.arr 125 (List.length l2)),(6,.I n1),(7,.ptr 107 0),(13,.lst 3 (List.map Gq4.lv p0)),(14,.I (p0.length:Int)),(15,.I n1)]) (ml:=[(107,.box [.I x4.Time,.I x4.Source,.I x4.Seq]),(125,.arr 3 1 (List.map LV.I l2))]) R R R R) (Wk.trans (Wk.frzB 107 [.I x4.Time,.I x4.Source,.I x4.Seq] R R R (prN R)) (Wk.eq R R R R))))))))))))))) ?_
   obtain ⟨r5,hr5,h⟩:=bindS h
   refine LH.seqT [(1,.L p1),(2,.sptr [.lst 3 (List.map Gq4.lv p0)]),(5,.arr 125 (List.length l2)),(6,.I n1),(13,.lst 3 (List.map Gq4.lv p0)),(14,.I (p0.length:Int)),(15,.I n1),(21,.bool r5)] [(125,.arr 3 1 (List.map LV.I l2))] R (sN (oLdA R tk61 ta61 ts61 R R (sN (oCP (args:=[.agg [.I x4.Time,.I x4.Source,.I x4.Seq]]) R isF103 R (sbR sbN) (q238q hr5) R zS)))) (LH.cond (t:=r5) R (fun hc6=>?_) (fun hc6=>?_))
   ·replace h:=iteT h hc6
    obtain ⟨v7,hv7,h⟩:=bindS h
    refine LH.loneT [(1,.L p1),(2,.sptr [.lst 3 (List.map Gq4.lv p0)]),(5,.arr 125 (List.length v7)),(13,.lst 3 (List.map Gq4.lv p0)),(14,.I (p0.length:Int)),(15,.I n1)] [(125,.arr 3 1 (List.map LV.I v7))] R (sMa R (sMi R (sN (oBS (f:=LV.I) (ys:=[n1]) te22 tr3 ts3 R R R okI (sN (oAp (f:=LV.I) te22 tr3 ts3 R R (prN R) R hv7 (sAa R zS))))))) (blockN (thenN (LH.loneT [(1,.L p1),(2,.sptr [.lst 3 (List.map Gq4.lv p0)]),(5,.arr 125 (List.length v7)),(13,.lst 3 (List.map Gq4.lv p0)),(14,.I (p0.length:Int)),(15,.I (i64 (n1+1)))] [(125,.arr 3 1 (List.map LV.I v7))] R (sN (oAdd R R (sMi R zS))) ?_)))
    exact roundI ⟨(i64 (n1+1)),v7,hrec1 ▸ h,R,R⟩ (Wk.eq R R R R)
   replace h:=iteF h hc6
   refine LH.skip (blockN (thenN (LH.loneT [(1,.L p1),(2,.sptr [.lst 3 (List.map Gq4.lv p0)]),(5,.arr 125 (List.length l2)),(13,.lst 3 (List.map Gq4.lv p0)),(14,.I (p0.length:Int)),(15,.I (i64 (n1+1)))] [(125,.arr 3 1 (List.map LV.I l2))] R (sN (oAdd R R (sMi R zS))) ?_)))
   exact roundI ⟨(i64 (n1+1)),l2,hrec1 ▸ h,R,R⟩ (Wk.eq R R R R)
  replace h:=iteF h hc3
  refine LH.exit (thenX (roundX (blockH (thenN ?_))))
  obtain ⟨l8,hl8,h⟩:=bindS h
  refine LH.seqT [(1,.L p1),(2,.sptr [.lst 3 (List.map Gq4.lv p0)]),(5,.L l8)] [] R (sMa R (sN (oMF (vs:=[.sptr [.lst 3 (List.map Gq4.lv p0)]]) R (sN (oCM (args:=[.arr 125 (List.length l2),.fn 104 [.sptr [.lst 3 (List.map Gq4.lv p0)]]]) (ml:=[(125,.arr 3 1 (List.map LV.I l2))]) (ml':=[(125,.arr 3 1 (List.map LV.I l8))]) R isF86 R (sbR (sbR sbN)) (sortI_ok Tryz.sortL R isF104 R (fun _ _ _ h=>q221q h) 125 3 hl8) (mC R mN) (newI R newN) R (s0 ((Wk.trans (Wk.to (el:=[(1,.L p1),(2,.sptr [.lst 3 (List.map Gq4.lv p0)]),(5,.arr 125 (List.length l8))]) (ml:=[(125,.arr 3 1 (List.map LV.I l8))]) (eC R (eC R (eC (congrArg (LV.arr 125) (sortF_len hl8)) eN))) ⟨R,trivial⟩ R (prK R)) (Wk.trans (Wk.frzL (f:=LV.I) (el':=[(1,.L p1),(2,.sptr [.lst 3 (List.map Gq4.lv p0)]),(5,.L l8)]) 125 3 1 l8 R R (prN R) (fK R (fK R (fZ fN)))) (Wk.eq R R R R)))))))))) (LH.seqT [(1,.L p1),(2,.sptr [.lst 3 (List.map Gq4.lv p0)]),(5,.L l8),(8,.nil)] [] R (sAn R zS) (LH.seq (LH.seqT [(1,.L p1),(2,.sptr [.lst 3 (List.map Gq4.lv p0)]),(8,.nil),(30,.L l8),(31,.I (l8.length:Int)),(32,.I 0)] [] R (sMl R (sN (oLnL (f:=LV.I) te22 R (sMi R zS)))) (LH.block (LH.wk ((Wk.trans (Wk.eq (el:=[(1,.L p1),(2,.sptr [.lst 3 (List.map Gq4.lv p0)]),(8,.nil),(30,.L l8),(31,.I (l8.length:Int)),(32,.I 0)]) (ml:=[]) R R R R) (Wk.trans (Wk.eq (el:=[(1,.L p1),(2,.sptr [.lst 3 (List.map Gq4.lv p0)]),(8,.nil),(30,.L l8),(31,.I (l8.length:Int)),(32,.I 0)]) (ml:=[]) R R R R) (Wk.trans (Wk.ownL (el':=[(1,.L p1),(2,.sptr [.lst 3 (List.map Gq4.lv p0)]),(8,.arr 161 (List.length ([]:List q0q))),(30,.L l8),(31,.I (l8.length:Int)),(32,.I 0)]) 161 137 2 R R (wK (wK (wO (wK (wK (wK wN))))))) (Wk.eq (el:=[(1,.L p1),(2,.sptr [.lst 3 (List.map Gq4.lv p0)]),(8,.arr 161 (List.length ([]:List q0q))),(30,.L l8),(31,.I (l8.length:Int)),(32,.I 0)]) (ml:=[(161,.arr 137 2 (List.map q0q.lv ([]:List q0q)))]) R R R R))))) (LH.loop (fun n e m=>∃ (n9:Int) (l10:List q0q),q86q F p0 p1 l8 n n9 l10=some r∧e=Env.of [(1,.L p1),(2,.sptr [.lst 3 (List.map Gq4.lv p0)]),(8,.arr 161 (List.length l10)),(30,.L l8),(31,.I (l8.length:Int)),(32,.I n9)]∧m=Mem.of [(161,.arr 137 2 (List.map q0q.lv l10))]) F ⟨0,([]:List q0q),h,R,R⟩ ?_))))))
  clear h
  rintro n e m ⟨n9,l10,h,rfl,rfl⟩
  rcases n with _ | n
  · cases (show Option.none=some _ from h)
  obtain ⟨rec2,hrec2⟩:∃ f,f=q86q F p0 p1 l8 n:=⟨_,rfl⟩
  replace h:q90q F p0 p1 l8 rec2 n9 l10=some r:=hrec2 ▸ h
  unfold q90q at h
  refine LH.seqT [(1,.L p1),(2,.sptr [.lst 3 (List.map Gq4.lv p0)]),(8,.arr 161 (List.length l10)),(30,.L l8),(31,.I (l8.length:Int)),(32,.I n9),(33,.bool (decide (n9<(l8.length:Int))))] [(161,.arr 137 2 (List.map q0q.lv l10))] R (sN (oLt R R zS)) (LH.seq (LH.cond (t:=(decide (n9<(l8.length:Int)))) R (fun hc11=>?_) (fun hc11=>?_)))
  ·replace h:=iteT h hc11
   refine LH.skip (thenN (LH.wk (Wk.eq (el:=[(1,.L p1),(2,.sptr [.lst 3 (List.map Gq4.lv p0)]),(8,.arr 161 (List.length l10)),(30,.L l8),(31,.I (l8.length:Int)),(32,.I n9)]) (ml:=[(161,.arr 137 2 (List.map q0q.lv l10))]) R R R R) (LH.seq (LH.block ?_))))
   obtain ⟨x12,hx12,h⟩:=bindS h
   refine LH.seqT [(1,.L p1),(2,.sptr [.lst 3 (List.map Gq4.lv p0)]),(8,.arr 161 (List.length l10)),(10,.I x12),(30,.L l8),(31,.I (l8.length:Int)),(32,.I n9)] [(161,.arr 137 2 (List.map q0q.lv l10))] R (sN (oIx (f:=LV.I) te22 tk3 ts3 R R okI hx12 R (sN (oLd R tk3 ta3 (sAi R zS))))) (LH.seqT [(1,.L p1),(2,.sptr [.lst 3 (List.map Gq4.lv p0)]),(8,.arr 161 (List.length l10)),(10,.I x12),(11,.I (i64 ((l10.length:Int) - 1))),(30,.L l8),(31,.I (l8.length:Int)),(32,.I n9)] [(161,.arr 137 2 (List.map q0q.lv l10))] R (sMa R (sN (oLnA (f:=q0q.lv) te134 R R (sN (oSub R R (sAi R zS)))))) (LH.seq ?_))
   obtain ⟨w14,hv,h⟩:=bindS h
   refine LH.seqJM mixed [] [0,0,0,0,0,0,1,1,1,0,0,0,0,0,0,0,0,0] [(1,.L p1),(2,.sptr [.lst 3 (List.map Gq4.lv p0)]),(8,.arr 161 (List.length l10)),(10,.I x12),(11,.I (i64 ((l10.length:Int) - 1))),(30,.L l8),(31,.I (l8.length:Int)),(32,.I n9),(56,.bool w14)] [(161,.arr 137 2 (List.map q0q.lv l10))] R R (by kernel_rfl) ?_ ?_
   ·refine mMi R (mN0 (oLt R R ⟨R,mMb R ?_⟩))
    by_cases hb15:(decide ((i64 ((l10.length:Int) - 1))<0))=true
    ·replace hv:=iteT hv hb15
     refine mF R R hb15 (mF R R hb15 (mF R R hb15 (mF R R hb15 (mF R R hb15 (mF R R hb15 (mF R R hb15 (mF R R hb15 (mF R R hb15 (mF R R hb15 (mF R R hb15 (mF R R hb15 (mF R R hb15 (mF R R hb15 (mN0 (oPkT (cB hb15) (v:=(.bool _)) R ⟨R,?_⟩)))))))))))))))
     obtain rfl:=oI hv
     exact zM
    ·replace hb15:=bF hb15
     replace hv:=iteF hv hb15
     refine mT R (cB hb15) (mN0 (oLd R tk111 ta111 ⟨R,mT R (cB hb15) (mMa R (mT R (cB hb15) (mMi R ?_)))⟩))
     obtain ⟨x16,hx16,hv⟩:=bindS hv
     refine mT R (cB hb15) (mN1 (oIxA (f:=q0q.lv) te134 tk137 ts137 R R R hx16 ⟨R,mT R (cB hb15) (mN1 (oFaE (f:=q0q.lv) tf137_0 tk3 ts3 R R R ⟨R,mT R (cB hb15) (mN1 (oLdE (f:=q0q.lv) R R (idxOk hx16).2 R R R tk3 ta3 ⟨R,?_⟩))⟩))⟩))
     obtain ⟨x17,hx17,hv⟩:=bindS hv
     refine mT R (cB hb15) (mN0 (oIx (f:=Gq4.lv) te111 tk61 ts61 R R Gq4.ok hx17 R ⟨R,mT R (cB hb15) (mN0 (oLdA R tk61 ta61 ts61 R R ⟨R,mT R (cB hb15) (mN0 (oLd R tk111 ta111 ⟨R,mT R (cB hb15) (mMi R ?_)⟩))⟩))⟩))
     obtain ⟨x18,hx18,hv⟩:=bindS hv
     refine mT R (cB hb15) (mN0 (oIx (f:=Gq4.lv) te111 tk61 ts61 R R Gq4.ok hx18 R ⟨R,mT R (cB hb15) (mN0 (oLdA R tk61 ta61 ts61 R R ⟨R,?_⟩))⟩))
     obtain ⟨r19,hr19,hv⟩:=bindS hv
     refine mT R (cB hb15) (mN0 (oCP (args:=[.agg [.I x17.Time,.I x17.Source,.I x17.Seq],.agg [.I x18.Time,.I x18.Source,.I x18.Seq]]) R isF106 R (sbR (sbR sbN)) (q155q hr19) R ⟨R,mT R (cB hb15) (mN0 (oNe R R ⟨R,mN0 (oPkF (cB hb15) (v:=(.bool _)) R ⟨R,?_⟩)⟩))⟩))
     obtain rfl:=oI hv
     exact zM
   clear hv
   refine LH.cond (t:=w14) R (fun hc20=>?_) (fun hc20=>?_)
   ·replace h:=iteT h hc20
    obtain ⟨v21,hv21,h⟩:=bindS h
    refine LH.seqT [(1,.L p1),(2,.sptr [.lst 3 (List.map Gq4.lv p0)]),(8,.arr 161 (List.length v21)),(30,.L l8),(31,.I (l8.length:Int)),(32,.I n9)] [(161,.arr 137 2 (List.map q0q.lv v21))] R (sMa R (sMi R (sN (oBd (vs:=[(0,.I x12),(1,.bool false)]) tu137 tz137 R (lf tf137_0 ts3 tk3 R R R (lf tf137_1 ts4 tk4 R R R lf0)) (sN (oBS (f:=q0q.lv) (ys:=[(q0q.mk x12 false)]) te134 tr137 ts137 R R R q0q.ok (sN (oAp (f:=q0q.lv) te134 tr137 ts137 R R (prN R) R hv21 (sAa R zS))))))))) (LH.exit (thenX (blockH (thenN (LH.loneT [(1,.L p1),(2,.sptr [.lst 3 (List.map Gq4.lv p0)]),(8,.arr 161 (List.length v21)),(30,.L l8),(31,.I (l8.length:Int)),(32,.I (i64 (n9+1)))] [(161,.arr 137 2 (List.map q0q.lv v21))] R (sN (oAdd R R (sMi R zS))) ?_)))))
    exact roundI ⟨(i64 (n9+1)),v21,hrec2 ▸ h,R,R⟩ (Wk.eq R R R R)
   replace h:=iteF h hc20
   refine LH.skip (thenN ?_)
   obtain ⟨x22,hx22,h⟩:=bindS h
   refine LH.seqT [(1,.L p1),(2,.sptr [.lst 3 (List.map Gq4.lv p0)]),(8,.arr 161 (List.length l10)),(10,.I x12),(11,.I (i64 ((l10.length:Int) - 1))),(12,.I x22.first),(30,.L l8),(31,.I (l8.length:Int)),(32,.I n9)] [(161,.arr 137 2 (List.map q0q.lv l10))] R (sMa R (sMi R (sN (oIxA (f:=q0q.lv) te134 tk137 ts137 R R R hx22 (sN (oFaE (f:=q0q.lv) tf137_0 tk3 ts3 R R R (sN (oLdE (f:=q0q.lv) R R (idxOk hx22).2 R R R tk3 ta3 (sAi R zS))))))))) ?_
   obtain ⟨w24,hv,h⟩:=bindS h
   refine LH.seqJM mixed [] [0,0,0,0,0,0,0,0,0,0,0,0,0,0,0,0,0,0,0,0] [(1,.L p1),(2,.sptr [.lst 3 (List.map Gq4.lv p0)]),(8,.arr 161 (List.length l10)),(11,.I (i64 ((l10.length:Int) - 1))),(30,.L l8),(31,.I (l8.length:Int)),(32,.I n9),(86,.bool w24)] [(161,.arr 137 2 (List.map q0q.lv l10))] R R (by kernel_rfl) ?_ ?_
   ·refine mN0 (oLd R tk111 ta111 ⟨R,mMi R ?_⟩)
    obtain ⟨x25,hx25,hv⟩:=bindS hv
    refine mN0 (oIx (f:=Gq4.lv) te111 tk61 ts61 R R Gq4.ok hx25 R ⟨R,mN0 (oLdA R tk61 ta61 ts61 R R ⟨R,mN0 (oLd R tk111 ta111 ⟨R,mMi R ?_⟩)⟩)⟩)
    obtain ⟨x26,hx26,hv⟩:=bindS hv
    refine mN0 (oIx (f:=Gq4.lv) te111 tk61 ts61 R R Gq4.ok hx26 R ⟨R,mN0 (oLdA R tk61 ta61 ts61 R R ⟨R,mN0 (oNeA R R (ae61 x25 x26) ⟨R,mMb R ?_⟩)⟩)⟩)
    by_cases hb27:(!(decide (x25=x26)))=true
    ·replace hv:=iteT hv hb27
     refine mF R R hb27 (mF R R hb27 (mF R R hb27 (mF R R hb27 (mF R R hb27 (mF R R hb27 (mF R R hb27 (mF R R hb27 (mF R R hb27 (mN0 (oPkT (cB hb27) (v:=(.bool _)) R ⟨R,?_⟩))))))))))
     obtain rfl:=oI hv
     exact zM
    ·replace hb27:=bF hb27
     replace hv:=iteF hv hb27
     refine mT R (cB hb27) (mMl R (mT R (cB hb27) (mMi R ?_)))
     obtain ⟨x28,hx28,hv⟩:=bindS hv
     refine mT R (cB hb27) (mN0 (oIx (f:=LV.I) te22 tk3 ts3 R R okI hx28 R ⟨R,mT R (cB hb27) (mN0 (oLd R tk3 ta3 ⟨R,mT R (cB hb27) (mMl R (mT R (cB hb27) (mMi R ?_)))⟩))⟩))
     obtain ⟨x29,hx29,hv⟩:=bindS hv
     refine mT R (cB hb27) (mN0 (oIx (f:=LV.I) te22 tk3 ts3 R R okI hx29 R ⟨R,mT R (cB hb27) (mN0 (oLd R tk3 ta3 ⟨R,mT R (cB hb27) (mN0 (oNe R R ⟨R,mN0 (oPkF (cB hb27) (v:=(.bool _)) R ⟨R,?_⟩)⟩))⟩))⟩))
     obtain rfl:=oI hv
     exact zM
   clear hv
   refine LH.cond (t:=w24) R (fun hc30=>?_) (fun hc30=>?_)
   ·replace h:=iteT h hc30
    obtain ⟨x31,hx31,h⟩:=bindS h
    refine LH.loneT [(1,.L p1),(2,.sptr [.lst 3 (List.map Gq4.lv p0)]),(8,.arr 161 (List.length (l10.set ((i64 ((l10.length:Int) - 1)).toNat) (q0q.mk x31.first true)))),(30,.L l8),(31,.I (l8.length:Int)),(32,.I n9)] [(161,.arr 137 2 (List.map q0q.lv (l10.set ((i64 ((l10.length:Int) - 1)).toNat) (q0q.mk x31.first true))))] R (sMa R (sMi R (sN (oIxA (f:=q0q.lv) te134 tk137 ts137 R R R hx31 (sN (oFaE (f:=q0q.lv) tf137_1 tk4 ts4 R R R (s_ (oStE (f:=q0q.lv) (z':=(q0q.mk x31.first true)) R R R R tk4 ts4 R (idxOk hx31).2 R (s0 (Wk.to (eC R (eC R (eC (congrArg (LV.arr 161) (by simp)) (eC R (eC R (eC R eN)))))) ⟨R,trivial⟩ R (prK R))))))))))) (blockN (thenN (LH.loneT [(1,.L p1),(2,.sptr [.lst 3 (List.map Gq4.lv p0)]),(8,.arr 161 (List.length (l10.set ((i64 ((l10.length:Int) - 1)).toNat) (q0q.mk x31.first true)))),(30,.L l8),(31,.I (l8.length:Int)),(32,.I (i64 (n9+1)))] [(161,.arr 137 2 (List.map q0q.lv (l10.set ((i64 ((l10.length:Int) - 1)).toNat) (q0q.mk x31.first true))))] R (sN (oAdd R R (sMi R zS))) ?_)))
    exact roundI ⟨(i64 (n9+1)),(l10.set ((i64 ((l10.length:Int) - 1)).toNat) (q0q.mk x31.first true)),hrec2 ▸ h,R,R⟩ (Wk.eq R R R R)
   replace h:=iteF h hc30
   refine LH.skip (blockN (thenN (LH.loneT [(1,.L p1),(2,.sptr [.lst 3 (List.map Gq4.lv p0)]),(8,.arr 161 (List.length l10)),(30,.L l8),(31,.I (l8.length:Int)),(32,.I (i64 (n9+1)))] [(161,.arr 137 2 (List.map q0q.lv l10))] R (sN (oAdd R R (sMi R zS))) ?_)))
   exact roundI ⟨(i64 (n9+1)),l10,hrec2 ▸ h,R,R⟩ (Wk.eq R R R R)
  replace h:=iteF h hc11
  refine LH.exit (thenX (roundX (blockH (thenN (LH.wk ((Wk.trans (Wk.eq (el:=[(8,.arr 161 (List.length l10))]) (ml:=[(161,.arr 137 2 (List.map q0q.lv l10))]) R R R R) (Wk.trans (Wk.frzL (f:=q0q.lv) (el':=[(8,.lst 2 (List.map q0q.lv l10))]) 161 137 2 l10 R R (prN R) (fZ fN)) (Wk.eq (el:=[(8,.lst 2 (List.map q0q.lv l10))]) (ml:=[]) R R R R)))) (LH.seqT [(4,.lst 2 (List.map q0q.lv l10))] [] R (sMl R (sAl R zS)) (LH.ret ?_)))))))
  obtain rfl:=oI h
  exact retE (aT Tryz.results85) (lrT R (lr0 ⟨memN mN,R,prK R,Sub.rfl⟩))

theorem q226q {F:Nat} {p0:Gq4} {p1:Gq4} {r:Int} (h:q147q F p0 p1=some r):LCall Tryz.prog 88 [.agg [.I p0.Time,.I p0.Source,.I p0.Seq],.agg [.I p1.Time,.I p1.Source,.I p1.Seq]] (Mem.of []) (.I r) (Mem.of []):=by
  unfold q147q at h
  refine bodyT Tryz.func88 R (nT Tryz.ntmps88 R) (LH.wk (Wk.eq (el:=[(0,.agg [.I p0.Time,.I p0.Source,.I p0.Seq]),(1,.agg [.I p1.Time,.I p1.Source,.I p1.Seq])]) (ml:=[]) R R R R) (LH.seqT [(2,.sptr [.I p0.Time,.I p0.Source,.I p0.Seq]),(3,.sptr [.I p1.Time,.I p1.Source,.I p1.Seq])] [] R (sB (oBxR R R R R (sB (oBxR R R R R (sAi R zS))))) ?_))
  obtain ⟨r1,hr1,h⟩:=bindS h
  obtain ⟨r2,hr2,h⟩:=bindS h
  obtain ⟨r3,hr3,h⟩:=bindS h
  obtain ⟨r4,hr4,h⟩:=bindS h
  refine LH.seqJM mixed [] [0,0,0,0,0,0,0,0,0,0,0,0,0,0,0,0,0,0] [(4,.I r4)] [] R R (by kernel_rfl) ?_ ?_
  ·exact mN0 (oFaS tf61_0 tk3 ts3 R R R ⟨R,mN0 (oLd R tk3 ta3 ⟨R,mN0 (oFaS tf61_0 tk3 ts3 R R R ⟨R,mN0 (oLd R tk3 ta3 ⟨R,mN0 (oCP (args:=[.I p0.Time,.I p1.Time]) R isF97 R (sbR (sbR sbN)) (cmp_Compare_int_ok hr1) R ⟨R,mN0 (oFaS tf61_1 tk3 ts3 R R R ⟨R,mN0 (oLd R tk3 ta3 ⟨R,mN0 (oFaS tf61_1 tk3 ts3 R R R ⟨R,mN0 (oLd R tk3 ta3 ⟨R,mN0 (oCP (args:=[.I p0.Source,.I p1.Source]) R isF97 R (sbR (sbR sbN)) (cmp_Compare_int_ok hr2) R ⟨R,mN0 (oFaS tf61_2 tk3 ts3 R R R ⟨R,mN0 (oLd R tk3 ta3 ⟨R,mN0 (oFaS tf61_2 tk3 ts3 R R R ⟨R,mN0 (oLd R tk3 ta3 ⟨R,mN0 (oCP (args:=[.I p0.Seq,.I p1.Seq]) R isF97 R (sbR (sbR sbN)) (cmp_Compare_int_ok hr3) R ⟨R,mN0 (oBS (f:=LV.I) (ys:=[r1,r2,r3]) te22 tr3 ts3 R R R okI ⟨R,mN0 (oCP (args:=[.L [r1,r2,r3]]) R isF105 R (sbR sbN) (cmp_Or_int_ok hr4) R ⟨R,mAi R zM⟩)⟩)⟩)⟩)⟩)⟩)⟩)⟩)⟩)⟩)⟩)⟩)⟩)⟩)⟩)⟩)⟩)
  refine LH.ret ?_
  obtain rfl:=oI h
  exact retE (aT Tryz.results88) (lrT R (lr0 ⟨memN mN,R,prK R,Sub.rfl⟩))

theorem q200q {F:Nat} {p0:Int} {p1:Int} {c0:List Gq4} {r:Int} (h:q66q F p0 p1 c0=some r):LCall Tryz.prog 87 [.I p0,.I p1,.sptr [.lst 3 (List.map Gq4.lv c0)]] (Mem.of []) (.I r) (Mem.of []):=by
  unfold q66q at h
  refine bodyT Tryz.func87 R (nT Tryz.ntmps87 R) (LH.wk (Wk.eq (el:=[(0,.I p0),(1,.I p1),(2,.sptr [.lst 3 (List.map Gq4.lv c0)])]) (ml:=[]) R R R R) (LH.seqT [(0,.I p0),(1,.I p1),(2,.sptr [.lst 3 (List.map Gq4.lv c0)])] [] R (sAi R zS) ?_))
  obtain ⟨x1,hx1,h⟩:=bindS h
  obtain ⟨x2,hx2,h⟩:=bindS h
  obtain ⟨r3,hr3,h⟩:=bindS h
  refine LH.seqJM mixed [] [0,0,0,0,0,0,0,0,0,0] [(5,.I r3)] [] R R (by kernel_rfl) (mN0 (oLd R tk111 ta111 ⟨R,mMi R (mN0 (oIx (f:=Gq4.lv) te111 tk61 ts61 R R Gq4.ok hx1 R ⟨R,mN0 (oLdA R tk61 ta61 ts61 R R ⟨R,mN0 (oLd R tk111 ta111 ⟨R,mMi R (mN0 (oIx (f:=Gq4.lv) te111 tk61 ts61 R R Gq4.ok hx2 R ⟨R,mN0 (oLdA R tk61 ta61 ts61 R R ⟨R,mN0 (oCP (args:=[.agg [.I x1.Time,.I x1.Source,.I x1.Seq],.agg [.I x2.Time,.I x2.Source,.I x2.Seq]]) R isF88 R (sbR (sbR sbN)) (q226q hr3) R ⟨R,mAi R zM⟩)⟩)⟩))⟩)⟩)⟩))⟩)) (LH.ret ?_)
  obtain rfl:=oI h
  exact retE (aT Tryz.results87) (lrT R (lr0 ⟨memN mN,R,prK R,Sub.rfl⟩))

theorem q215q {F:Nat} {p0:List Gq4} {p1:List Int} {r:List Int × Int} (h:q84q F p0 p1=some r):LCall Tryz.prog 73 [.lst 3 (List.map Gq4.lv p0),.L p1] (Mem.of []) (.tup [.L r.1,.I r.2]) (Mem.of []):=by
  unfold q84q at h
  refine bodyT Tryz.func73 R (nT Tryz.ntmps73 R) (LH.wk (Wk.eq (el:=[(0,.lst 3 (List.map Gq4.lv p0)),(1,.L p1)]) (ml:=[]) R R R R) (LH.seqT [(1,.L p1),(2,.sptr [.lst 3 (List.map Gq4.lv p0)])] [] R (sB (oBxR R R R R (sAn R (sAi R zS)))) (LH.seq (LH.seqT [(1,.L p1),(2,.sptr [.lst 3 (List.map Gq4.lv p0)]),(13,.bool ((p0.length:Int) != (p1.length:Int)))] [] R (sN (oLd R tk111 ta111 (sN (oLnL (f:=Gq4.lv) te111 R (sMl R (sN (oLnL (f:=LV.I) te22 R (sN (oNe R R zS))))))))) (LH.cond (t:=((p0.length:Int) != (p1.length:Int))) R (fun hc1=>?_) (fun hc1=>?_))))))
  ·replace h:=iteT h hc1
   refine LH.seqT [(4,.nil),(5,.I 1)] [] R (sAn R (sAi R zS)) (LH.ret (thenR ?_))
   obtain rfl:=oI h
   exact retE (aT Tryz.results73) (lrT R (lrT R (lr0 ⟨memN mN,R,prK R,(Sub.tup (sbL (sbR sbN)))⟩)))
  replace h:=iteF h hc1
  refine LH.skip (thenN (LH.seqT [(1,.L p1),(2,.sptr [.lst 3 (List.map Gq4.lv p0)]),(6,.nil)] [] R (sAn R zS) (LH.seq ?_)))
  obtain ⟨r2,hr2,h⟩:=bindS h
  refine LH.seqT [(2,.sptr [.lst 3 (List.map Gq4.lv p0)]),(6,.nil),(16,.lst 2 (List.map q0q.lv r2)),(17,.I (r2.length:Int)),(18,.I 0)] [] R (sN (oLd R tk111 ta111 (sMl R (sN (oCP (args:=[.lst 3 (List.map Gq4.lv p0),.L p1]) R isF85 R (sbR (sbR sbN)) (q231q hr2) R (sN (oLnL (f:=q0q.lv) te134 R (sMi R zS)))))))) (LH.block (LH.wk ((Wk.trans (Wk.eq (el:=[(2,.sptr [.lst 3 (List.map Gq4.lv p0)]),(6,.nil),(16,.lst 2 (List.map q0q.lv r2)),(17,.I (r2.length:Int)),(18,.I 0)]) (ml:=[]) R R R R) (Wk.trans (Wk.eq (el:=[(2,.sptr [.lst 3 (List.map Gq4.lv p0)]),(6,.nil),(16,.lst 2 (List.map q0q.lv r2)),(17,.I (r2.length:Int)),(18,.I 0)]) (ml:=[]) R R R R) (Wk.trans (Wk.ownL (el':=[(2,.sptr [.lst 3 (List.map Gq4.lv p0)]),(6,.arr 129 (List.length ([]:List Int))),(16,.lst 2 (List.map q0q.lv r2)),(17,.I (r2.length:Int)),(18,.I 0)]) 129 3 1 R R (wK (wO (wK (wK (wK wN)))))) (Wk.eq (el:=[(2,.sptr [.lst 3 (List.map Gq4.lv p0)]),(6,.arr 129 (List.length ([]:List Int))),(16,.lst 2 (List.map q0q.lv r2)),(17,.I (r2.length:Int)),(18,.I 0)]) (ml:=[(129,.arr 3 1 (List.map LV.I ([]:List Int)))]) R R R R))))) (LH.loop (fun n e m=>∃ (n3:Int) (l4:List Int),q54q F p0 r2 n n3 l4=some r∧e=Env.of [(2,.sptr [.lst 3 (List.map Gq4.lv p0)]),(6,.arr 129 (List.length l4)),(16,.lst 2 (List.map q0q.lv r2)),(17,.I (r2.length:Int)),(18,.I n3)]∧m=Mem.of [(129,.arr 3 1 (List.map LV.I l4))]) F ⟨0,([]:List Int),h,R,R⟩ ?_)))
  clear h
  rintro n e m ⟨n3,l4,h,rfl,rfl⟩
  rcases n with _ | n
  · cases (show Option.none=some _ from h)
  obtain ⟨rec1,hrec1⟩:∃ f,f=q54q F p0 r2 n:=⟨_,rfl⟩
  replace h:q63q F p0 r2 rec1 n3 l4=some r:=hrec1 ▸ h
  unfold q63q at h
  refine LH.seqT [(2,.sptr [.lst 3 (List.map Gq4.lv p0)]),(6,.arr 129 (List.length l4)),(16,.lst 2 (List.map q0q.lv r2)),(17,.I (r2.length:Int)),(18,.I n3),(19,.bool (decide (n3<(r2.length:Int))))] [(129,.arr 3 1 (List.map LV.I l4))] R (sN (oLt R R zS)) (LH.seq (LH.cond (t:=(decide (n3<(r2.length:Int)))) R (fun hc5=>?_) (fun hc5=>?_)))
  ·replace h:=iteT h hc5
   refine LH.skip (thenN (LH.wk (Wk.eq (el:=[(2,.sptr [.lst 3 (List.map Gq4.lv p0)]),(6,.arr 129 (List.length l4)),(16,.lst 2 (List.map q0q.lv r2)),(17,.I (r2.length:Int)),(18,.I n3)]) (ml:=[(129,.arr 3 1 (List.map LV.I l4))]) R R R R) (LH.seq (LH.block ?_))))
   obtain ⟨x6,hx6,h⟩:=bindS h
   refine LH.seqT [(2,.sptr [.lst 3 (List.map Gq4.lv p0)]),(6,.arr 129 (List.length l4)),(8,.sptr [.I x6.first,.bool x6.disputed]),(16,.lst 2 (List.map q0q.lv r2)),(17,.I (r2.length:Int)),(18,.I n3)] [(129,.arr 3 1 (List.map LV.I l4))] R (sN (oIx (f:=q0q.lv) te134 tk137 ts137 R R q0q.ok hx6 R (sN (oLdA R tk137 ta137 ts137 R R (sN (oAl (id:=108) R tz137 R R (s_ (oSt R R R tk137 ts137 R R R (s0 ((Wk.trans (Wk.eq (el:=[(2,.sptr [.lst 3 (List.map Gq4.lv p0)]),(6,.arr 129 (List.length l4)),(8,.ptr 108 0),(16,.lst 2 (List.map q0q.lv r2)),(17,.I (r2.length:Int)),(18,.I n3)]) (ml:=[(108,.box [.I x6.first,.bool x6.disputed]),(129,.arr 3 1 (List.map LV.I l4))]) R R R R) (Wk.trans (Wk.frzB 108 [.I x6.first,.bool x6.disputed] R R R (prN R)) (Wk.eq R R R R))))))))))))) (LH.seqT [(2,.sptr [.lst 3 (List.map Gq4.lv p0)]),(6,.arr 129 (List.length l4)),(8,.sptr [.I x6.first,.bool x6.disputed]),(16,.lst 2 (List.map q0q.lv r2)),(17,.I (r2.length:Int)),(18,.I n3),(24,.bool (!x6.disputed))] [(129,.arr 3 1 (List.map LV.I l4))] R (sN (oFaS tf137_1 tk4 ts4 R R R (sN (oLd R tk4 ta4 (sN (oNot R zS)))))) (LH.cond (t:=(!x6.disputed)) R (fun hc7=>?_) (fun hc7=>?_)))
   ·replace h:=iteT h hc7
    obtain ⟨v8,hv8,h⟩:=bindS h
    refine LH.loneT [(2,.sptr [.lst 3 (List.map Gq4.lv p0)]),(6,.arr 129 (List.length v8)),(16,.lst 2 (List.map q0q.lv r2)),(17,.I (r2.length:Int)),(18,.I n3)] [(129,.arr 3 1 (List.map LV.I v8))] R (sMa R (sN (oFaS tf137_0 tk3 ts3 R R R (sN (oLd R tk3 ta3 (sN (oBS (f:=LV.I) (ys:=[x6.first]) te22 tr3 ts3 R R R okI (sN (oAp (f:=LV.I) te22 tr3 ts3 R R (prN R) R hv8 (sAa R zS)))))))))) (blockN (thenN (LH.loneT [(2,.sptr [.lst 3 (List.map Gq4.lv p0)]),(6,.arr 129 (List.length v8)),(16,.lst 2 (List.map q0q.lv r2)),(17,.I (r2.length:Int)),(18,.I (i64 (n3+1)))] [(129,.arr 3 1 (List.map LV.I v8))] R (sN (oAdd R R (sMi R zS))) ?_)))
    exact roundI ⟨(i64 (n3+1)),v8,hrec1 ▸ h,R,R⟩ (Wk.eq R R R R)
   replace h:=iteF h hc7
   refine LH.skip (blockN (thenN (LH.loneT [(2,.sptr [.lst 3 (List.map Gq4.lv p0)]),(6,.arr 129 (List.length l4)),(16,.lst 2 (List.map q0q.lv r2)),(17,.I (r2.length:Int)),(18,.I (i64 (n3+1)))] [(129,.arr 3 1 (List.map LV.I l4))] R (sN (oAdd R R (sMi R zS))) ?_)))
   exact roundI ⟨(i64 (n3+1)),l4,hrec1 ▸ h,R,R⟩ (Wk.eq R R R R)
  replace h:=iteF h hc5
  refine LH.exit (thenX (roundX (blockH (thenN (LH.wk (Wk.eq (el:=[(2,.sptr [.lst 3 (List.map Gq4.lv p0)]),(6,.arr 129 (List.length l4))]) (ml:=[(129,.arr 3 1 (List.map LV.I l4))]) R R R R) (LH.seq (LH.seqT [(2,.sptr [.lst 3 (List.map Gq4.lv p0)]),(6,.arr 129 (List.length l4)),(33,.bool (decide ((l4.length:Int) > 300)))] [(129,.arr 3 1 (List.map LV.I l4))] R (sMa R (sN (oLnA (f:=LV.I) te22 R R (sN (oGt R R zS))))) (LH.cond (t:=(decide ((l4.length:Int) > 300))) R (fun hc9=>?_) (fun hc9=>?_)))))))))
  ·replace h:=iteT h hc9
   refine LH.seqT [(4,.nil),(5,.I 3)] [] R (sAn R (sAi R zS)) (LH.ret (thenR ?_))
   obtain rfl:=oI h
   exact retE (aT Tryz.results73) (lrT R (lrT R (lr0 ⟨memN mN,R,prK R,(Sub.tup (sbL (sbR sbN)))⟩)))
  replace h:=iteF h hc9
  refine LH.skip (thenN ?_)
  obtain ⟨l10,hl10,h⟩:=bindS h
  refine LH.seqT [(6,.L l10)] [] R (sMa R (sN (oMF (vs:=[.sptr [.lst 3 (List.map Gq4.lv p0)]]) R (sN (oCM (args:=[.arr 129 (List.length l4),.fn 87 [.sptr [.lst 3 (List.map Gq4.lv p0)]]]) (ml:=[(129,.arr 3 1 (List.map LV.I l4))]) (ml':=[(129,.arr 3 1 (List.map LV.I l10))]) R isF86 R (sbR (sbR sbN)) (sortI_ok Tryz.sortL R isF87 R (fun _ _ _ h=>q200q h) 129 3 hl10) (mC R mN) (newI R newN) R (s0 ((Wk.trans (Wk.to (el:=[(6,.arr 129 (List.length l10))]) (ml:=[(129,.arr 3 1 (List.map LV.I l10))]) (eC (congrArg (LV.arr 129) (sortF_len hl10)) eN) ⟨R,trivial⟩ R (prK R)) (Wk.trans (Wk.frzL (f:=LV.I) (el':=[(6,.L l10)]) 129 3 1 l10 R R (prN R) (fZ fN)) (Wk.eq R R R R)))))))))) (LH.seqT [(4,.L l10),(5,.I 0)] [] R (sMl R (sAl R (sAi R zS))) (LH.ret ?_))
  obtain rfl:=oI h
  exact retE (aT Tryz.results73) (lrT R (lrT R (lr0 ⟨memN mN,R,prK R,(Sub.tup (sbR (sbR sbN)))⟩)))

theorem q180q {F:Nat} {p0:List Gq0} {p1:(Gq0→Option Gq4)} {p2:(Gq0→Gq0→Option Bool)} {r:List Int × Int} {p1_f:Nat} {p1_c:List LV} (p1_i:IsF Tryz.prog p1_f) (p1_q:LV.pureL p1_c=true) (p1_k:∀ (x0:Gq0) (q:Gq4),p1 x0=some q→LCall Tryz.prog p1_f ([.agg [.I x0.Stamp.Time,.I x0.Stamp.Source,.I x0.Stamp.Seq,.I x0.Kind,.I x0.Item.ID,.I x0.Item.Version,.str x0.Item.Stem,.lst 6 (List.map GPart.lv x0.Item.Parts),.L x0.Item.Enemies,.I x0.Ref.ID,.I x0.Ref.Version,.I x0.Form]]++p1_c) (Mem.of []) (.agg [.I q.Time,.I q.Source,.I q.Seq]) (Mem.of [])) {p2_f:Nat} {p2_c:List LV} (p2_i:IsF Tryz.prog p2_f) (p2_q:LV.pureL p2_c=true) (p2_k:∀ (x0:Gq0) (x1:Gq0) (q:Bool),p2 x0 x1=some q→LCall Tryz.prog p2_f ([.agg [.I x0.Stamp.Time,.I x0.Stamp.Source,.I x0.Stamp.Seq,.I x0.Kind,.I x0.Item.ID,.I x0.Item.Version,.str x0.Item.Stem,.lst 6 (List.map GPart.lv x0.Item.Parts),.L x0.Item.Enemies,.I x0.Ref.ID,.I x0.Ref.Version,.I x0.Form],.agg [.I x1.Stamp.Time,.I x1.Stamp.Source,.I x1.Stamp.Seq,.I x1.Kind,.I x1.Item.ID,.I x1.Item.Version,.str x1.Item.Stem,.lst 6 (List.map GPart.lv x1.Item.Parts),.L x1.Item.Enemies,.I x1.Ref.ID,.I x1.Ref.Version,.I x1.Form]]++p2_c) (Mem.of []) (.bool q) (Mem.of [])) (h:q22q F p0 p1 p2=some r):LCall Tryz.prog 54 [.lst 12 (List.map Gq0.lv p0),.fn p1_f p1_c,.fn p2_f p2_c] (Mem.of []) (.tup [.L r.1,.I r.2]) (Mem.of []):=by
  have p2_p:∀ {l:List LV},LV.pureL l=true→LV.pureL (l++p2_c)=true:=pnC p2_q
  have p2_r:LV.refsL p2_c=[]:=refsL_pure p2_q
  have p1_p:∀ {l:List LV},LV.pureL l=true→LV.pureL (l++p1_c)=true:=pnC p1_q
  have p1_r:LV.refsL p1_c=[]:=refsL_pure p1_q
  unfold q22q at h
  refine bodyT Tryz.func54 R (nT Tryz.ntmps54 R) (LH.wk (Wk.to (el:=[(0,.lst 12 (List.map Gq0.lv p0)),(1,.fn p1_f p1_c),(2,.fn p2_f p2_c)]) (ml:=[]) (eQ ⟨R,R,R,trivial⟩) mN (by simp [keptRefs,LV.refs,LV.refsL,LV.cells,lev,Env.args,Env.of,Env.put,Env.drop,p1_r,p2_r]) (prK R)) (LH.seqT [(0,.lst 12 (List.map Gq0.lv p0)),(1,.fn p1_f p1_c),(2,.fn p2_f p2_c)] [] R (sAn R (sAi R (s0 (Wk.to (eQ ⟨R,R,R,trivial⟩) mN (by simp [keptRefs,LV.refs,LV.refsL,LV.cells,lev,Env.args,Env.of,Env.put,Env.drop,p1_r,p2_r]) (prK R))))) ?_))
  obtain ⟨r1,hr1,h⟩:=bindS h
  refine LH.seqT [(8,.lst 3 (List.map Gq4.lv r1.1)),(9,.L r1.2)] [] R (sMl R (sN (oM (v:=(.fn _ _)) R (sN (oM (v:=(.fn _ _)) R (sN (oCP (args:=[.lst 12 (List.map Gq0.lv p0),.fn p1_f p1_c,.fn p2_f p2_c]) R isF72 R (sbR (sbR (sbR sbN))) (q191q p1_i p1_q p1_k p2_i p2_q p2_k hr1) (by simp [LV.pure,LV.pureL,p1_q,p2_q]) (sMt R (sN (oEx R R (sN (oEx R R (sAl R (sAl R (s0 (Wk.to (eQ ⟨R,R,trivial⟩) mN (by simp [keptRefs,LV.refs,LV.refsL,LV.cells,lev,Env.args,Env.of,Env.put,Env.drop,p1_r,p2_r]) (prK R))))))))))))))))) ?_
  obtain ⟨r2,hr2,h⟩:=bindS h
  refine LH.seqT [(6,.L r2.1),(7,.I r2.2)] [] R (sMl R (sMl R (sN (oCP (args:=[.lst 3 (List.map Gq4.lv r1.1),.L r1.2]) R isF73 R (sbR (sbR sbN)) (q215q hr2) R (sN (oEx R R (sN (oEx R R (sAl R (sAi R (s0 (Wk.to (eQ ⟨R,R,trivial⟩) mN (by simp [keptRefs,LV.refs,LV.refsL,LV.cells,lev,Env.args,Env.of,Env.put,Env.drop,p1_r,p2_r]) (prK R))))))))))))) (LH.ret ?_)
  obtain rfl:=oI h
  exact retE (aT Tryz.results54) (lrT R (lrT R (lr0 ⟨memN mN,R,prK R,(Sub.tup (sbR (sbR sbN)))⟩)))

theorem q208q {p0:Gq0} {r:Gq4} (h:q138q p0=some r):LCall Tryz.prog 55 [Gq0.lv p0] (Mem.of []) (.agg [.I r.Time,.I r.Source,.I r.Seq]) (Mem.of []):=by
  unfold q138q at h
  refine bodyT Tryz.func55 R (nT Tryz.ntmps55 R) (LH.wk (Wk.eq (el:=[(0,Gq0.lv p0)]) (ml:=[]) R R R R) (LH.seqT [(1,.sptr (Gq0.lv p0).cells),(2,.ptr 102 0)] [(102,.box [.I 0,.I 0,.I 0])] R (sB (oBxR R R R R (sN (oAl (id:=102) R tz61 R R zS)))) (LH.seqT [(2,.sptr [.I p0.Stamp.Time,.I p0.Stamp.Source,.I p0.Stamp.Seq])] [] R (sN (oFaS tf63_0 tk61 ts61 R R R (sN (oLdA R tk61 ta61 ts61 R R (s_ (oSt R R R tk61 ts61 R R R (s0 ((Wk.trans (Wk.eq (el:=[(2,.ptr 102 0)]) (ml:=[(102,.box [.I p0.Stamp.Time,.I p0.Stamp.Source,.I p0.Stamp.Seq])]) R R R R) (Wk.trans (Wk.frzB 102 [.I p0.Stamp.Time,.I p0.Stamp.Source,.I p0.Stamp.Seq] R R R (prN R)) (Wk.eq R R R R))))))))))) (LH.ret ?_))))
  obtain rfl:=oI h
  exact retE (aT Tryz.results55) (lrSA R tk61 ta61 ts61 R R (lr0 ⟨memN mN,R,prK R,Sub.rfl⟩))

theorem q192q {F:Nat} {p0:List GPart} {p1:List GPart} {r:Bool} (h:q39q F p0 p1=some r):LCall Tryz.prog 89 [.lst 6 (List.map GPart.lv p0),.lst 6 (List.map GPart.lv p1)] (Mem.of []) (.bool r) (Mem.of []):=by
  unfold q39q at h
  refine bodyT Tryz.func89 R (nT Tryz.ntmps89 R) (LH.wk (Wk.eq (el:=[(0,.lst 6 (List.map GPart.lv p0)),(1,.lst 6 (List.map GPart.lv p1))]) (ml:=[]) R R R R) (LH.seqT [(0,.lst 6 (List.map GPart.lv p0)),(1,.lst 6 (List.map GPart.lv p1))] [] R (sAb R zS) (LH.seq (LH.seqT [(0,.lst 6 (List.map GPart.lv p0)),(1,.lst 6 (List.map GPart.lv p1)),(10,.bool ((p0.length:Int) != (p1.length:Int)))] [] R (sMl R (sN (oLnL (f:=GPart.lv) te52 R (sMl R (sN (oLnL (f:=GPart.lv) te52 R (sN (oNe R R zS)))))))) (LH.cond (t:=((p0.length:Int) != (p1.length:Int))) R (fun hc1=>?_) (fun hc1=>?_))))))
  ·replace h:=iteT h hc1
   refine LH.seqT [(4,.bool false)] [] R (sAb R zS) (LH.ret (thenR ?_))
   obtain rfl:=oI h
   exact retE (aT Tryz.results89) (lrT R (lr0 ⟨memN mN,R,prK R,Sub.rfl⟩))
  replace h:=iteF h hc1
  refine LH.skip (thenN (LH.wk (Wk.eq (el:=[(0,.lst 6 (List.map GPart.lv p0)),(1,.lst 6 (List.map GPart.lv p1))]) (ml:=[]) R R R R) (LH.seq (LH.seqT [(0,.lst 6 (List.map GPart.lv p0)),(1,.lst 6 (List.map GPart.lv p1)),(12,.I (p0.length:Int)),(13,.I 0)] [] R (sMl R (sN (oLnL (f:=GPart.lv) te52 R (sMi R zS)))) (LH.block (LH.loop (fun n e m=>∃ (n2:Int),q14q p0 p1 n n2=some r∧e=Env.of [(0,.lst 6 (List.map GPart.lv p0)),(1,.lst 6 (List.map GPart.lv p1)),(12,.I (p0.length:Int)),(13,.I n2)]∧m=Mem.of []) F ⟨0,h,R,R⟩ ?_))))))
  clear h
  rintro n e m ⟨n2,h,rfl,rfl⟩
  rcases n with _ | n
  · cases (show Option.none=some _ from h)
  obtain ⟨rec1,hrec1⟩:∃ f,f=q14q p0 p1 n:=⟨_,rfl⟩
  replace h:q20q p0 p1 rec1 n2=some r:=hrec1 ▸ h
  unfold q20q at h
  refine LH.seqT [(0,.lst 6 (List.map GPart.lv p0)),(1,.lst 6 (List.map GPart.lv p1)),(12,.I (p0.length:Int)),(13,.I n2),(14,.bool (decide (n2<(p0.length:Int))))] [] R (sN (oLt R R zS)) (LH.seq (LH.cond (t:=(decide (n2<(p0.length:Int)))) R (fun hc3=>?_) (fun hc3=>?_)))
  ·replace h:=iteT h hc3
   refine LH.skip (thenN (LH.wk (Wk.eq (el:=[(0,.lst 6 (List.map GPart.lv p0)),(1,.lst 6 (List.map GPart.lv p1)),(12,.I (p0.length:Int)),(13,.I n2)]) (ml:=[]) R R R R) (LH.seq (LH.block (LH.seqT [(0,.lst 6 (List.map GPart.lv p0)),(1,.lst 6 (List.map GPart.lv p1)),(5,.I n2),(12,.I (p0.length:Int)),(13,.I n2)] [] R (sMi R (sAi R zS)) ?_)))))
   obtain ⟨x4,hx4,h⟩:=bindS h
   obtain ⟨x5,hx5,h⟩:=bindS h
   refine LH.seqJM mixed [] [0,0,0,0,0,0,0,0,0] [(0,.lst 6 (List.map GPart.lv p0)),(1,.lst 6 (List.map GPart.lv p1)),(12,.I (p0.length:Int)),(13,.I n2),(24,.bool (!(decide (x4=x5))))] [] R R (by kernel_rfl) (mMl R (mMi R (mN0 (oIx (f:=GPart.lv) te52 tk86 ts86 R R GPart.ok hx4 R ⟨R,mN0 (oLdA R tk86 ta86 ts86 R R ⟨R,mMl R (mMi R (mN0 (oIx (f:=GPart.lv) te52 tk86 ts86 R R GPart.ok hx5 R ⟨R,mN0 (oLdA R tk86 ta86 ts86 R R ⟨R,mN0 (oNeA R R (ae86 x4 x5) ⟨R,zM⟩)⟩)⟩)))⟩)⟩)))) (LH.cond (t:=(!(decide (x4=x5)))) R (fun hc6=>?_) (fun hc6=>?_))
   ·replace h:=iteT h hc6
    refine LH.seqT [(4,.bool false)] [] R (sAb R zS) (LH.ret (blockR (thenR (roundR (blockR (thenR ?_))))))
    obtain rfl:=oI h
    exact retE (aT Tryz.results89) (lrT R (lr0 ⟨memN mN,R,prK R,Sub.rfl⟩))
   replace h:=iteF h hc6
   refine LH.skip (blockN (thenN (LH.loneT [(0,.lst 6 (List.map GPart.lv p0)),(1,.lst 6 (List.map GPart.lv p1)),(12,.I (p0.length:Int)),(13,.I (i64 (n2+1)))] [] R (sN (oAdd R R (sMi R zS))) ?_)))
   exact roundI ⟨(i64 (n2+1)),hrec1 ▸ h,R,R⟩ (Wk.eq R R R R)
  replace h:=iteF h hc3
  refine LH.exit (thenX (roundX (blockH (thenN (LH.seqT [(4,.bool true)] [] R (sAb R zS) (LH.ret ?_))))))
  obtain rfl:=oI h
  exact retE (aT Tryz.results89) (lrT R (lr0 ⟨memN mN,R,prK R,Sub.rfl⟩))

end Go.Proofs.YtmollikhdbaikaaGreat
