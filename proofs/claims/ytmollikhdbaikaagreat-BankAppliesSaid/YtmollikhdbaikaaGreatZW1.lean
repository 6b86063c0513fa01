import Derived.Test.YtmollikhdbaikaaGreatZLc
import Derived.Test.YtmollikhdbaikaaGreatZLb
import Derived.Test.YtmollikhdbaikaaGreatZRow
import Derived.Test.YtmollikhdbaikaaGreatZFacts
import Derived.Test.YtmollikhdbaikaaGreatZEqs
import Derived.Test.YtmollikhdbaikaaGreatZSort
import Derived.Test.YtmollikhdbaikaaGreatZSh
set_option linter.unusedVariables false
set_option linter.unusedSimpArgs false
set_option maxRecDepth 100000
set_option maxHeartbeats 1000000
namespace Go.Proofs.YtmollikhdbaikaaGreat
open Go.L Go.Sh
theorem QG {p0:List Int} {r:aP} (h:lH p0=some r):aO Tryz.prog 7 [.L p0] (Mem.of []) (.ptr 110 0) (Mem.of [(110,.box [.L r.L,.I r.At])]):=by
  unfold lH at h
  refine bx Tryz.func7 R (nT Tryz.ntmps7 R) (LH.wk (aQ [(0,.L p0)] []) (LH.aj [(0,.L p0)] [] R (sN (oA (v:=.fj) R zS)) (LH.seq (LH.aj [(0,.L p0),(5,.bool (decide ((p0.length:Int) > 600)))] [] R (fh R (sN (bV (f:=LV.I) cJ R (sN (jx R R zS))))) (LH.cond (t:=(decide ((p0.length:Int) > 600))) R (fun jc=>?_) (fun jc=>?_))))))
  ·replace h:=aB h jc
   obtain ⟨v2,xl,h⟩:=ao h
   refine LH.aS [(0,.L v2)] [] R (fh R (sN (TZ (f:=LV.I) cJ aE bb R R R xl (qB R zS)))) (au (LH.aj [(2,.ptr 110 0)] [(110,.box [.L v2,.I 0])] R (fh R (sN (fU (vs:=[(0,.L v2)]) Q2 Q4 R (lf xb jz eT R R R fT) (sN (RE (id:=110) R R R R R R (T6 R zS)))))) (LH.ret ?_)))
   obtain rfl:=oI h
   exact aN (aT Tryz.results7) (bO R (bL ⟨aM (mC R mN),R,aX R,Sub.rfl⟩))
  replace h:=aA h jc
  refine LH.skip (au (LH.aj [(2,.ptr 110 0)] [(110,.box [.L p0,.I 0])] R (fh R (sN (fU (vs:=[(0,.L p0)]) Q2 Q4 R (lf xb jz eT R R R fT) (sN (RE (id:=110) R R R R R R (T6 R zS)))))) (LH.ret ?_)))
  obtain rfl:=oI h
  exact aN (aT Tryz.results7) (bO R (bL ⟨aM (mC R mN),R,aX R,Sub.rfl⟩))
theorem QI {p0:List Int} {r:aP} (h:lH p0=some r):aO Tryz.prog 7 [.L p0] (Mem.of []) (.ptr 7 0) (Mem.of [(7,.box [.L r.L,.I r.At])]):=aO.DU 7 rfl (QG h)
theorem RT {p0:aP} {r:Int × aP} (h:EC p0=some r):aO Tryz.prog 50 [.ptr 7 0] (Mem.of [(7,.box [.L p0.L,.I p0.At])]) (.I r.1) (Mem.of [(7,.box [.L r.2.L,.I r.2.At])]):=by
  unfold EC at h
  refine bx Tryz.func50 R (nT Tryz.ntmps50 R) (LH.wk (aQ [(0,.ptr 7 0)] [(7,.box [.L p0.L,.I p0.At])]) (LH.aj [(0,.ptr 7 0)] [(7,.box [.L p0.L,.I p0.At])] R (bt R zS) (LH.seq (LH.cO mixed [] [0,0,0,1007,0,0,0,1007,0,0] [(0,.ptr 7 0),(12,.bool (decide (p0.At ≥ (p0.L.length:Int))))] [(7,.box [.L p0.L,.I p0.At])] R R (by kernel_rfl) (Cd R (aD (F9 R ⟨R,aD (dI xc aE bb R R ⟨R,mD R R R (fun _ b _ d=>dQ R b R R aE bN d) (Cd R (aD (F9 R ⟨R,aD (dI xb eT jz R R ⟨R,mD R R R (fun _ b _ d=>dQ R b R R eT mI d) (aD (bV (f:=LV.I) cJ R ⟨R,aD (pW R R ⟨R,zM⟩)⟩))⟩)⟩)))⟩)⟩))) (LH.cond (t:=(decide (p0.At ≥ (p0.L.length:Int)))) R (fun jc=>?_) (fun jc=>?_))))))
  ·replace h:=aB h jc
   refine LH.aj [(2,.I 0)] [(7,.box [.L p0.L,.I p0.At])] R (bt R zS) (LH.ret (aU ?_))
   obtain rfl:=oI h
   exact aN (aT Tryz.results50) (bO R (bL ⟨aM (mC R mN),R,aX R,Sub.rfl⟩))
  replace h:=aA h jc
  refine LH.skip (au (LH.aj [(0,.ptr 7 0)] [(7,.box [.L p0.L,.I (i64 (p0.At+1))])] R (ig R (sN (F9 R (sN (dI xc aE bb R R (sN (dQ R R R R aE bN (sN (cI R R (sN (F9 R (sN (dI xc aE bb R R (s_ (cF R R R aE bb R R R zS))))))))))))))) ?_))
  obtain ⟨x2,LM,h⟩:=ao h
  refine LH.cO mixed [] [0,0,0,1007,0,0,0,1007,0,0,0,0] [(2,.I x2)] [(7,.box [.L p0.L,.I (i64 (p0.At+1))])] R R (by kernel_rfl) (Cd R (aD (F9 R ⟨R,aD (dI xb eT jz R R ⟨R,mD R R R (fun _ b _ d=>dQ R b R R eT mI d) (Cd R (aD (F9 R ⟨R,aD (dI xc aE bb R R ⟨R,mD R R R (fun _ b _ d=>dQ R b R R aE bN d) (aD (iS R R ⟨R,aD (eM (f:=LV.I) cJ aE bb R R mu LM R ⟨R,aD (bh R aE bN ⟨R,M6 R zM⟩)⟩)⟩))⟩)⟩)))⟩)⟩))) (LH.ret ?_)
  obtain rfl:=oI h
  exact aN (aT Tryz.results50) (bO R (bL ⟨aM (mC R mN),R,aX R,Sub.rfl⟩))
theorem QH {p0:Int} {p1:Int} {r:Int} (h:na p0 p1=some r):aO Tryz.prog 18 [.I p0,.I p1] (Mem.of []) (.I r) (Mem.of []):=by
  unfold na at h
  refine bx Tryz.func18 R (nT Tryz.ntmps18 R) (LH.wk (aQ [(0,.I p0),(1,.I p1)] []) (LH.aj [(0,.I p0),(1,.I p1)] [] R (bt R zS) (LH.seq (LH.aj [(0,.I p0),(1,.I p1),(6,.bool (decide (p1<1)))] [] R (br R (sN (fy R R zS))) (LH.cond (t:=(decide (p1<1))) R (fun jc=>?_) (fun jc=>?_))))))
  ·replace h:=aB h jc
   refine LH.aj [(4,.I 0)] [] R (bt R zS) (LH.ret (aU ?_))
   obtain rfl:=oI h
   exact aN (aT Tryz.results18) (bO R (bL ⟨aM mN,R,aX R,Sub.rfl⟩))
  replace h:=aA h jc
  refine LH.skip (au ?_)
  obtain ⟨v2,xl,h⟩:=ao h
  refine LH.aj [(0,.I v2),(1,.I p1)] [] R (br R (br R (sN (TY R R xl (bt R zS))))) (LH.seq (LH.aj [(0,.I v2),(1,.I p1),(11,.bool (decide (v2<0)))] [] R (br R (sN (fy R R zS))) (LH.cond (t:=(decide (v2<0))) R (fun ix=>?_) (fun ix=>?_))))
  ·replace h:=aB h ix
   refine LH.aS [(0,.I (i64 (v2+p1)))] [] R (br R (br R (sN (cI R R (bt R zS))))) (au (LH.aj [(4,.I (i64 (v2+p1)))] [] R (br R (bt R zS)) (LH.ret ?_)))
   obtain rfl:=oI h
   exact aN (aT Tryz.results18) (bO R (bL ⟨aM mN,R,aX R,Sub.rfl⟩))
  replace h:=aA h ix
  refine LH.skip (au (LH.aj [(4,.I v2)] [] R (br R (bt R zS)) (LH.ret ?_)))
  obtain rfl:=oI h
  exact aN (aT Tryz.results18) (bO R (bL ⟨aM mN,R,aX R,Sub.rfl⟩))
theorem kT {p0:aP} {p1:Int} {r:Int × aP} (h:jg p0 p1=some r):aO Tryz.prog 27 [.ptr 7 0,.I p1] (Mem.of [(7,.box [.L p0.L,.I p0.At])]) (.I r.1) (Mem.of [(7,.box [.L r.2.L,.I r.2.At])]):=by
  unfold jg at h
  refine bx Tryz.func27 R (nT Tryz.ntmps27 R) (LH.wk (aQ [(0,.ptr 7 0),(1,.I p1)] [(7,.box [.L p0.L,.I p0.At])]) (LH.aj [(0,.ptr 7 0),(1,.I p1)] [(7,.box [.L p0.L,.I p0.At])] R (bt R zS) ?_))
  obtain ⟨r1,ei,h⟩:=ao h
  obtain ⟨r2,fH,h⟩:=ao h
  refine LH.aj [(4,.I r2)] [(7,.box [.L r1.2.L,.I r1.2.At])] R (ig R (sN (dX (args:=[.ptr 7 0]) (ml:=[(7,.box [.L p0.L,.I p0.At])]) (cQ:=[(7,.box [.L r1.2.L,.I r1.2.At])]) R Pa R (aI bm) (RT ei) (mC R mN) (bT R bU) R (br R (sN (ej (args:=[.I r1.1,.I p1]) R OU R (aI (aI bm)) (QH fH) R (bt R zS))))))) (LH.ret ?_)
  obtain rfl:=oI h
  exact aN (aT Tryz.results27) (bO R (bL ⟨aM (mC R mN),R,aX R,Sub.rfl⟩))
theorem nX {p0:aP} {p1:Int} {p2:Int} {r:Int × aP} (h:kU p0 p1 p2=some r):aO Tryz.prog 9 [.ptr 7 0,.I p1,.I p2] (Mem.of [(7,.box [.L p0.L,.I p0.At])]) (.I r.1) (Mem.of [(7,.box [.L r.2.L,.I r.2.At])]):=by
  unfold kU at h
  refine bx Tryz.func9 R (nT Tryz.ntmps9 R) (LH.wk (aQ [(0,.ptr 7 0),(1,.I p1),(2,.I p2)] [(7,.box [.L p0.L,.I p0.At])]) (LH.aj [(0,.ptr 7 0),(1,.I p1),(2,.I p2)] [(7,.box [.L p0.L,.I p0.At])] R (bt R zS) ?_))
  obtain ⟨r1,ei,h⟩:=ao h
  refine LH.aj [(6,.I (i64 (p1+r1.1)))] [(7,.box [.L r1.2.L,.I r1.2.At])] R (br R (ig R (br R (br R (sN (iS R R (sN (cI R R (sN (dX (args:=[.ptr 7 0,.I (i64 ((i64 (p2 - p1))+1))]) (ml:=[(7,.box [.L p0.L,.I p0.At])]) (cQ:=[(7,.box [.L r1.2.L,.I r1.2.At])]) R gJ R (aI (aI bm)) (kT ei) (mC R mN) (bT R bU) R (sN (cI R R (bt R zS))))))))))))) (LH.ret ?_)
  obtain rfl:=oI h
  exact aN (aT Tryz.results9) (bO R (bL ⟨aM (mC R mN),R,aX R,Sub.rfl⟩))
theorem EB {p0:aP} {p1:List Int} {r:Int × aP} (h:uw p0 p1=some r):aO Tryz.prog 28 [.ptr 7 0,.L p1] (Mem.of [(7,.box [.L p0.L,.I p0.At])]) (.I r.1) (Mem.of [(7,.box [.L r.2.L,.I r.2.At])]):=by
  unfold uw at h
  refine bx Tryz.func28 R (nT Tryz.ntmps28 R) (LH.wk (aQ [(0,.ptr 7 0),(1,.L p1)] [(7,.box [.L p0.L,.I p0.At])]) (LH.aj [(0,.ptr 7 0),(1,.L p1)] [(7,.box [.L p0.L,.I p0.At])] R (bt R zS) ?_))
  obtain ⟨r1,ei,h⟩:=ao h
  obtain ⟨x2,LM,h⟩:=ao h
  refine LH.aj [(4,.I x2)] [(7,.box [.L r1.2.L,.I r1.2.At])] R (fh R (ig R (fh R (sN (bV (f:=LV.I) cJ R (sN (dX (args:=[.ptr 7 0,.I (p1.length:Int)]) (ml:=[(7,.box [.L p0.L,.I p0.At])]) (cQ:=[(7,.box [.L r1.2.L,.I r1.2.At])]) R gJ R (aI (aI bm)) (kT ei) (mC R mN) (bT R bU) R (sN (eM (f:=LV.I) cJ aE bb R R mu LM R (sN (bh R aE bN (bt R zS)))))))))))) (LH.ret ?_)
  obtain rfl:=oI h
  exact aN (aT Tryz.results28) (bO R (bL ⟨aM (mC R mN),R,aX R,Sub.rfl⟩))
theorem RV {F:Nat} {p0:aP} {p1:Int} {r:ByteArray × aP} (h:ED F p0 p1=some r):aO Tryz.prog 51 [.ptr 7 0,.I p1] (Mem.of [(7,.box [.L p0.L,.I p0.At])]) (.str r.1) (Mem.of [(7,.box [.L r.2.L,.I r.2.At])]):=by
  unfold ED at h
  refine bx Tryz.func51 R (nT Tryz.ntmps51 R) (LH.wk (aQ [(0,.ptr 7 0),(1,.I p1)] [(7,.box [.L p0.L,.I p0.At])]) (LH.aj [(0,.ptr 7 0),(1,.I p1)] [(7,.box [.L p0.L,.I p0.At])] R (sN (oA (v:=(.str _)) R zS)) (LH.aj [(0,.ptr 7 0),(1,.I p1),(5,.str (ByteArray.mk #[]))] [(7,.box [.L p0.L,.I p0.At])] R (sN (oA (v:=(.str _)) R zS)) (LH.seq ?_))))
  obtain ⟨r1,ei,h⟩:=ao h
  refine LH.aj [(0,.ptr 7 0),(5,.str (ByteArray.mk #[])),(6,.I r1.1)] [(7,.box [.L r1.2.L,.I r1.2.At])] R (ig R (br R (sN (dX (args:=[.ptr 7 0,.I 1,.I p1]) (ml:=[(7,.box [.L p0.L,.I p0.At])]) (cQ:=[(7,.box [.L r1.2.L,.I r1.2.At])]) R oc R (aI (aI (aI bm))) (nX ei) (mC R mN) (bT R bU) R (bt R zS))))) (LH.block (LH.loop (fun n e m=>∃ (t2:ByteArray) (n3:Int) (l4:List Int) (n5:Int),EE n t2 n3 l4 n5=some r∧e=Env.of [(0,.ptr 7 0),(5,.str t2),(6,.I n3)]∧m=Mem.of [(7,.box [.L l4,.I n5])]) F ⟨(ByteArray.mk #[]),r1.1,r1.2.L,r1.2.At,h,R,R⟩ ?_))
  clear h
  rintro n e m ⟨t2,n3,l4,n5,h,rfl,rfl⟩
  rcases n with _ | n
  · cases (show Option.none=some _ from h)
  obtain ⟨aK,a7⟩:∃ f,f=EE n:=⟨_,rfl⟩
  replace h:EF aK t2 n3 l4 n5=some r:=a7 ▸ h
  unfold EF at h
  refine LH.seq (LH.aj [(0,.ptr 7 0),(5,.str t2),(6,.I n3),(11,.bool (decide (n3 > 0)))] [(7,.box [.L l4,.I n5])] R (br R (sN (jx R R zS))) (LH.cond (t:=(decide (n3 > 0))) R (fun fQ=>?_) (fun fQ=>?_)))
  ·replace h:=aB h fQ
   refine LH.skip (au (LH.wk (aQ [(0,.ptr 7 0),(5,.str t2),(6,.I n3)] [(7,.box [.L l4,.I n5])]) (LH.seq (LH.block ?_))))
   obtain ⟨r7,AR,h⟩:=ao h
   obtain ⟨t8,Wp,h⟩:=ao h
   refine LH.aS [(0,.ptr 7 0),(5,.str t8),(6,.I n3)] [(7,.box [.L r7.2.L,.I r7.2.At])] R (sN (oM (v:=(.str _)) R (ig R (sN (dX (args:=[.ptr 7 0,.I 3]) (ml:=[(7,.box [.L l4,.I n5])]) (cQ:=[(7,.box [.L r7.2.L,.I r7.2.At])]) R gJ R (aI (aI bm)) (kT AR) (mC R mN) (bT R bU) R (sN (cI R R (sN (TX aE Vg R (sN (ka (f:=(LV.int .u8)) (ys:=[(IntKind.u8.wrap (i64 (97+r7.1)))]) Kh WU WW R R R mu (sX ((L9 (ns:=[(IntKind.u8.wrap (i64 (97+r7.1)))]) Kh Vg II R).ok) (sX ((Ci R R Wp).ok) (sN (oA (v:=(.str _)) R zS))))))))))))))) (aY (au (LH.aS [(0,.ptr 7 0),(5,.str t8),(6,.I (i64 (n3 - 1)))] [(7,.box [.L r7.2.L,.I r7.2.At])] R (br R (sN (iS R R (bt R zS)))) ?_)))
   exact bl ⟨t8,(i64 (n3 - 1)),r7.2.L,r7.2.At,a7 ▸ h,R,R⟩ (Wk.eq R R R R)
  replace h:=aA h fQ
  refine LH.exit (cD (b6 (bP (au (LH.aj [(4,.str t2)] [(7,.box [.L l4,.I n5])] R (sN (oM (v:=(.str _)) R (sN (oA (v:=(.str _)) R zS)))) (LH.ret ?_))))))
  obtain rfl:=oI h
  exact aN (aT Tryz.results51) (bO R (bL ⟨aM (mC R mN),R,aX R,Sub.rfl⟩))
theorem Ah {p0:aP} {p1:Int} {r:Bool × aP} (h:oz p0 p1=some r):aO Tryz.prog 30 [.ptr 7 0,.I p1] (Mem.of [(7,.box [.L p0.L,.I p0.At])]) (.bool r.1) (Mem.of [(7,.box [.L r.2.L,.I r.2.At])]):=by
  unfold oz at h
  refine bx Tryz.func30 R (nT Tryz.ntmps30 R) (LH.wk (aQ [(0,.ptr 7 0),(1,.I p1)] [(7,.box [.L p0.L,.I p0.At])]) (LH.aj [(0,.ptr 7 0),(1,.I p1)] [(7,.box [.L p0.L,.I p0.At])] R (ct R zS) ?_))
  obtain ⟨r1,ei,h⟩:=ao h
  refine LH.aj [(4,.bool (r1.1 == (i64 (p1 - 1))))] [(7,.box [.L r1.2.L,.I r1.2.At])] R (ig R (br R (sN (dX (args:=[.ptr 7 0,.I p1]) (ml:=[(7,.box [.L p0.L,.I p0.At])]) (cQ:=[(7,.box [.L r1.2.L,.I r1.2.At])]) R gJ R (aI (aI bm)) (kT ei) (mC R mN) (bT R bU) R (br R (sN (iS R R (sN (gr R R (ct R zS)))))))))) (LH.ret ?_)
  obtain rfl:=oI h
  exact aN (aT Tryz.results30) (bO R (bL ⟨aM (mC R mN),R,aX R,Sub.rfl⟩))
theorem CJ {p0:aP} {r:Int × aP} (h:sj p0=some r):aO Tryz.prog 53 [.ptr 7 0] (Mem.of [(7,.box [.L p0.L,.I p0.At])]) (.I r.1) (Mem.of [(7,.box [.L r.2.L,.I r.2.At])]):=by
  unfold sj at h
  refine bx Tryz.func53 R (nT Tryz.ntmps53 R) (LH.wk (aQ [(0,.ptr 7 0)] [(7,.box [.L p0.L,.I p0.At])]) (LH.aj [(0,.ptr 7 0)] [(7,.box [.L p0.L,.I p0.At])] R (bt R zS) ?_))
  obtain ⟨r1,ei,h⟩:=ao h
  refine LH.aj [(2,.I r1.1)] [(7,.box [.L r1.2.L,.I r1.2.At])] R (ig R (sN (ka (f:=LV.I) (ys:=[(-1),0,1,2,31,32,99,100,200,201,9999,10000,1000000,1000001,1152921504606846976,1152921504606846977,(-1152921504606846976),9223372036854775807,(-9223372036854775808)]) cJ rj bb R R R mu (sN (dX (args:=[.ptr 7 0,.L [(-1),0,1,2,31,32,99,100,200,201,9999,10000,1000000,1000001,1152921504606846976,1152921504606846977,(-1152921504606846976),9223372036854775807,(-9223372036854775808)]]) (ml:=[(7,.box [.L p0.L,.I p0.At])]) (cQ:=[(7,.box [.L r1.2.L,.I r1.2.At])]) R yb R (aI (aI bm)) (EB ei) (mC R mN) (bT R bU) R (bt R zS)))))) (LH.ret ?_)
  obtain rfl:=oI h
  exact aN (aT Tryz.results53) (bO R (bL ⟨aM (mC R mN),R,aX R,Sub.rfl⟩))
theorem Nc {p0:aP} {p1:Int} {r:aq × aP} (h:CG p0 p1=some r):aO Tryz.prog 52 [.ptr 7 0,.I p1] (Mem.of [(7,.box [.L p0.L,.I p0.At])]) (aq.lv r.1) (Mem.of [(7,.box [.L r.2.L,.I r.2.At])]):=by
  unfold CG at h
  refine bx Tryz.func52 R (nT Tryz.ntmps52 R) (LH.wk (aQ [(0,.ptr 7 0),(1,.I p1)] [(7,.box [.L p0.L,.I p0.At])]) (LH.aj [(0,.ptr 7 0),(1,.I p1),(4,.ptr 104 0)] [(7,.box [.L p0.L,.I p0.At]),(104,.box [.I 0,.I 0,.I 0,.I 0,.I 0,.I 0])] R (sN (j0 (id:=104) R Hh R R zS)) ?_))
  obtain ⟨r1,ei,h⟩:=ao h
  obtain ⟨r2,fH,h⟩:=ao h
  obtain ⟨r3,ot,h⟩:=ao h
  refine LH.aj [(0,.ptr 7 0),(1,.I p1),(4,.ptr 104 0),(5,.ptr 105 0)] [(7,.box [.L r3.2.L,.I r3.2.At]),(104,.box [.I 0,.I 0,.I 0,.I 0,.I 0,.I 0]),(105,.box [.I 1,.I r1.1,.I r2.1,.I r3.1,.I 0,.I 0])] R (ig R (sN (dX (args:=[.ptr 7 0,.I 1,.I 12]) (ml:=[(7,.box [.L p0.L,.I p0.At])]) (cQ:=[(7,.box [.L r1.2.L,.I r1.2.At])]) R oc R (aI (aI (aI bm))) (nX ei) (mC R mN) (bT R bU) R (ig R (sN (dX (args:=[.ptr 7 0,.I 4]) (ml:=[(7,.box [.L r1.2.L,.I r1.2.At])]) (cQ:=[(7,.box [.L r2.2.L,.I r2.2.At])]) R gJ R (aI (aI bm)) (kT fH) (mC R mN) (bT R bU) R (ig R (sN (dX (args:=[.ptr 7 0,.I 3]) (ml:=[(7,.box [.L r2.2.L,.I r2.2.At])]) (cQ:=[(7,.box [.L r3.2.L,.I r3.2.At])]) R gJ R (aI (aI bm)) (kT ot) (mC R mN) (bT R bU) R (sN (fU (vs:=[(0,.I 1),(1,.I r1.1),(2,.I r2.1),(3,.I r3.1)]) Q3 Hh R (lf pf bb aE R R R (lf nu bb aE R R R (lf qF bb aE R R R (lf qG bb aE R R R fT)))) (sN (j0 (id:=105) R Hh R R (s_ (cF R R R eu dN R R R zS))))))))))))))) (LH.mid (fun e m=>∃ (l4:List Int) (n5:Int) (n6:Int) (n7:Int) (n8:Int) (n9:Int),CH p1 r2 r3 l4 n5 n6 n7 n8 n9=some r∧Wk (fun id=>Mem.of [(7,.box [.L p0.L,.I p0.At])] id ≠ .none) e m (Env.of [(0,.ptr 7 0),(1,.I p1),(4,.ptr 104 0),(5,.ptr 105 0)]) (Mem.of [(7,.box [.L l4,.I n5]),(104,.box [.I 0,.I 0,.I 0,.I 0,.I 0,.I 0]),(105,.box [.I n6,.I n7,.I r2.1,.I r3.1,.I n8,.I n9])])) ?_ ?_)
  ·obtain ⟨uo,Lq,h⟩:=ao h
   refine LH.aj [(0,.ptr 7 0),(1,.I p1),(4,.ptr 104 0),(5,.ptr 105 0),(15,.bool (uo.1 == 0))] [(7,.box [.L uo.2.L,.I uo.2.At]),(104,.box [.I 0,.I 0,.I 0,.I 0,.I 0,.I 0]),(105,.box [.I 1,.I r1.1,.I r2.1,.I r3.1,.I 0,.I 0])] R (ig R (sN (dX (args:=[.ptr 7 0,.I 3]) (ml:=[(7,.box [.L r3.2.L,.I r3.2.At])]) (cQ:=[(7,.box [.L uo.2.L,.I uo.2.At])]) R gJ R (aI (aI bm)) (kT Lq) (mC R mN) (bT R bU) R (sN (gr R R zS))))) (LH.cond (t:=(uo.1 == 0)) R (fun pK=>?_) (fun pK=>?_))
   ·replace h:=aB h pK
    obtain ⟨cM,AP,h⟩:=ao h
    refine LH.aj [(0,.ptr 7 0),(1,.I p1),(4,.ptr 104 0),(5,.ptr 105 0)] [(7,.box [.L cM.2.L,.I cM.2.At]),(104,.box [.I 0,.I 0,.I 0,.I 0,.I 0,.I 0]),(105,.box [.I 2,.I r1.1,.I r2.1,.I r3.1,.I cM.1,.I 0])] R (ig R (sN (dX (args:=[.ptr 7 0,.I 2,.I 5]) (ml:=[(7,.box [.L uo.2.L,.I uo.2.At])]) (cQ:=[(7,.box [.L cM.2.L,.I cM.2.At])]) R oc R (aI (aI (aI bm))) (nX AP) (mC R mN) (bT R bU) R (sN (dI pf aE bb R R (s_ (cF R R R aE bb R R R (sN (dI ky aE bb R R (s_ (cF R R R aE bb R R R zS))))))))))) ?_
    obtain ⟨IA,SU,h⟩:=ao h
    obtain ⟨kO,Lr,h⟩:=ao h
    exact LH.aS [(0,.ptr 7 0),(1,.I p1),(4,.ptr 104 0),(5,.ptr 105 0)] [(7,.box [.L kO.2.L,.I kO.2.At]),(104,.box [.I 0,.I 0,.I 0,.I 0,.I 0,.I 0]),(105,.box [.I 2,.I kO.1,.I r2.1,.I r3.1,.I cM.1,.I IA.1])] R (ig R (sN (dI ky aE bb R R (sN (dQ R R R R aE bN (sN (dX (args:=[.ptr 7 0,.I cM.1]) (ml:=[(7,.box [.L cM.2.L,.I cM.2.At])]) (cQ:=[(7,.box [.L IA.2.L,.I IA.2.At])]) R gJ R (aI (aI bm)) (kT SU) (mC R mN) (bT R bU) R (ig R (sN (dX (args:=[.ptr 7 0,.I 1,.I 3]) (ml:=[(7,.box [.L IA.2.L,.I IA.2.At])]) (cQ:=[(7,.box [.L kO.2.L,.I kO.2.At])]) R oc R (aI (aI (aI bm))) (nX Lr) (mC R mN) (bT R bU) R (sN (dI nv aE bb R R (s_ (cF R R R aE bb R R R (sN (dI nu aE bb R R (s_ (cF R R R aE bb R R R zS)))))))))))))))))) (au ⟨kO.2.L,kO.2.At,2,kO.1,cM.1,IA.1,h,Wk.eq R R R R⟩)
   replace h:=aA h pK
   exact LH.skip (au ⟨uo.2.L,uo.2.At,1,r1.1,0,0,h,Wk.eq R R R R⟩)
  clear h
  rintro e m ⟨l4,n5,n6,n7,n8,n9,h,hw⟩
  refine LH.wk hw ?_
  clear hw
  unfold CH at h
  refine LH.seq ?_
  obtain ⟨vN,hv,h⟩:=ao h
  refine LH.aj [(0,.ptr 7 0),(4,.ptr 104 0),(5,.ptr 105 0),(34,.bool vN.1)] [(7,.box [.L vN.2.1,.I vN.2.2]),(104,.box [.I 0,.I 0,.I 0,.I 0,.I 0,.I 0]),(105,.box [.I n6,.I n7,.I r2.1,.I r3.1,.I n8,.I n9])] R ?_ ?_
  ·refine br R (sN (jx R R (bM R ?_)))
   by_cases dn:(decide (p1 > 0))=true
   ·replace hv:=aB hv dn
    refine sT R (cB dn) (oM (v:=(.ptr _ _)) R (sT R (cB dn) (oM (v:=(.int _ _)) R ?_)))
    obtain ⟨fD,td,hv⟩:=ao hv
    refine sT R (cB dn) (dX (args:=[.ptr 7 0,.I p1]) (ml:=[(7,.box [.L l4,.I n5])]) (cQ:=[(7,.box [.L fD.2.L,.I fD.2.At])]) R tg R (aI (aI bm)) (Ah td) (mC R mN) (bT R bU) R (sN (aZ (cB dn) (v:=(.bool _)) R ?_)))
    obtain rfl:=oI hv
    exact zS
   ·replace dn:=bF dn
    replace hv:=aA hv dn
    refine sF R R dn (sF R R dn (sF R R dn (sN (aW (cB dn) (v:=(.bool _)) R ?_))))
    obtain rfl:=oI hv
    exact zS
  clear hv
  refine LH.cond (t:=vN.1) R (fun iM=>?_) (fun iM=>?_)
  ·replace h:=aB h iM
   obtain ⟨iC,Lk,h⟩:=ao h
   refine LH.aj [(0,.ptr 7 0),(4,.ptr 104 0),(5,.ptr 105 0),(36,.I iC.1)] [(7,.box [.L iC.2.L,.I iC.2.At]),(104,.box [.I 0,.I 0,.I 0,.I 0,.I 0,.I 0]),(105,.box [.I n6,.I n7,.I r2.1,.I r3.1,.I n8,.I n9])] R (ig R (sN (dX (args:=[.ptr 7 0,.I 6]) (ml:=[(7,.box [.L vN.2.1,.I vN.2.2])]) (cQ:=[(7,.box [.L iC.2.L,.I iC.2.At])]) R gJ R (aI (aI bm)) (kT Lk) (mC R mN) (bT R bU) R zS))) (LH.block (LH.aj [(0,.ptr 7 0),(4,.ptr 104 0),(5,.ptr 105 0),(36,.I iC.1),(40,.bool (iC.1 == 0))] [(7,.box [.L iC.2.L,.I iC.2.At]),(104,.box [.I 0,.I 0,.I 0,.I 0,.I 0,.I 0]),(105,.box [.I n6,.I n7,.I r2.1,.I r3.1,.I n8,.I n9])] R (sN (gr R R (ct R zS))) (LH.cond (t:=(iC.1 == 0)) R (fun km=>?_) (fun km=>?_))))
   ·replace h:=aB h km
    obtain ⟨um,Ll,h⟩:=ao h
    refine LH.aS [(4,.ptr 104 0),(5,.ag [.I um.1,.I n7,.I r2.1,.I r3.1,.I n8,.I n9])] [(7,.box [.L um.2.L,.I um.2.At]),(104,.box [.I 0,.I 0,.I 0,.I 0,.I 0,.I 0])] R (ig R (sN (dX (args:=[.ptr 7 0,.I (-1),.I 3]) (ml:=[(7,.box [.L iC.2.L,.I iC.2.At])]) (cQ:=[(7,.box [.L um.2.L,.I um.2.At])]) R oc R (aI (aI (aI bm))) (nX Ll) (mC R mN) (bT R bU) R (sN (dI pf aE bb R R (s_ (cF R R R aE bb R R R (s0 ((Wk.trans (aQ [(4,.ptr 104 0),(5,.ptr 105 0)] [(7,.box [.L um.2.L,.I um.2.At]),(104,.box [.I 0,.I 0,.I 0,.I 0,.I 0,.I 0]),(105,.box [.I um.1,.I n7,.I r2.1,.I r3.1,.I n8,.I n9])]) (Wk.trans (Wk.bk 105 [.I um.1,.I n7,.I r2.1,.I r3.1,.I n8,.I n9] R R R (bH R)) (Wk.eq R R R R)))))))))))) (aY (au (LH.aj [(4,.ag [.I um.1,.I n7,.I r2.1,.I r3.1,.I n8,.I n9])] [(7,.box [.L um.2.L,.I um.2.At])] R (sN (bc R eu iY dN R R (s_ (cF R R R eu dN R R R (s0 ((Wk.trans (aQ [(4,.ptr 104 0)] [(7,.box [.L um.2.L,.I um.2.At]),(104,.box [.I um.1,.I n7,.I r2.1,.I r3.1,.I n8,.I n9])]) (Wk.trans (Wk.bk 104 [.I um.1,.I n7,.I r2.1,.I r3.1,.I n8,.I n9] R R R (bH R)) (Wk.eq R R R R))))))))) (LH.ret ?_))))
    obtain rfl:=oI h
    exact aN (aT Tryz.results52) (cN R eu iY dN R R (bL ⟨aM (mC R mN),R,aX R,Sub.rfl⟩))
   replace h:=aA h km
   refine LH.aj [(0,.ptr 7 0),(4,.ptr 104 0),(5,.ptr 105 0),(36,.I iC.1),(45,.bool (iC.1 == 1))] [(7,.box [.L iC.2.L,.I iC.2.At]),(104,.box [.I 0,.I 0,.I 0,.I 0,.I 0,.I 0]),(105,.box [.I n6,.I n7,.I r2.1,.I r3.1,.I n8,.I n9])] R (sN (gr R R (ct R zS))) (LH.cond (t:=(iC.1 == 1)) R (fun kE=>?_) (fun kE=>?_))
   ·replace h:=aB h kE
    obtain ⟨eS,wo,h⟩:=ao h
    refine LH.aS [(4,.ptr 104 0),(5,.ag [.I n6,.I eS.1,.I r2.1,.I r3.1,.I n8,.I n9])] [(7,.box [.L eS.2.L,.I eS.2.At]),(104,.box [.I 0,.I 0,.I 0,.I 0,.I 0,.I 0])] R (ig R (sN (ka (f:=LV.I) (ys:=[0,40,41,(-1)]) cJ rj bb R R R mu (sN (dX (args:=[.ptr 7 0,.L [0,40,41,(-1)]]) (ml:=[(7,.box [.L iC.2.L,.I iC.2.At])]) (cQ:=[(7,.box [.L eS.2.L,.I eS.2.At])]) R yb R (aI (aI bm)) (EB wo) (mC R mN) (bT R bU) R (sN (dI nu aE bb R R (s_ (cF R R R aE bb R R R (s0 ((Wk.trans (aQ [(4,.ptr 104 0),(5,.ptr 105 0)] [(7,.box [.L eS.2.L,.I eS.2.At]),(104,.box [.I 0,.I 0,.I 0,.I 0,.I 0,.I 0]),(105,.box [.I n6,.I eS.1,.I r2.1,.I r3.1,.I n8,.I n9])]) (Wk.trans (Wk.bk 105 [.I n6,.I eS.1,.I r2.1,.I r3.1,.I n8,.I n9] R R R (bH R)) (Wk.eq R R R R)))))))))))))) (aY (au (LH.aj [(4,.ag [.I n6,.I eS.1,.I r2.1,.I r3.1,.I n8,.I n9])] [(7,.box [.L eS.2.L,.I eS.2.At])] R (sN (bc R eu iY dN R R (s_ (cF R R R eu dN R R R (s0 ((Wk.trans (aQ [(4,.ptr 104 0)] [(7,.box [.L eS.2.L,.I eS.2.At]),(104,.box [.I n6,.I eS.1,.I r2.1,.I r3.1,.I n8,.I n9])]) (Wk.trans (Wk.bk 104 [.I n6,.I eS.1,.I r2.1,.I r3.1,.I n8,.I n9] R R R (bH R)) (Wk.eq R R R R))))))))) (LH.ret ?_))))
    obtain rfl:=oI h
    exact aN (aT Tryz.results52) (cN R eu iY dN R R (bL ⟨aM (mC R mN),R,aX R,Sub.rfl⟩))
   replace h:=aA h kE
   refine LH.aj [(0,.ptr 7 0),(4,.ptr 104 0),(5,.ptr 105 0),(36,.I iC.1),(51,.bool (iC.1 == 2))] [(7,.box [.L iC.2.L,.I iC.2.At]),(104,.box [.I 0,.I 0,.I 0,.I 0,.I 0,.I 0]),(105,.box [.I n6,.I n7,.I r2.1,.I r3.1,.I n8,.I n9])] R (sN (gr R R (ct R zS))) (LH.cond (t:=(iC.1 == 2)) R (fun ko=>?_) (fun ko=>?_))
   ·replace h:=aB h ko
    obtain ⟨rY,Ln,h⟩:=ao h
    refine LH.aS [(4,.ptr 104 0),(5,.ag [.I n6,.I n7,.I rY.1,.I r3.1,.I n8,.I n9])] [(7,.box [.L rY.2.L,.I rY.2.At]),(104,.box [.I 0,.I 0,.I 0,.I 0,.I 0,.I 0])] R (ig R (sN (dX (args:=[.ptr 7 0]) (ml:=[(7,.box [.L iC.2.L,.I iC.2.At])]) (cQ:=[(7,.box [.L rY.2.L,.I rY.2.At])]) R u6 R (aI bm) (CJ Ln) (mC R mN) (bT R bU) R (sN (dI qF aE bb R R (s_ (cF R R R aE bb R R R (s0 ((Wk.trans (aQ [(4,.ptr 104 0),(5,.ptr 105 0)] [(7,.box [.L rY.2.L,.I rY.2.At]),(104,.box [.I 0,.I 0,.I 0,.I 0,.I 0,.I 0]),(105,.box [.I n6,.I n7,.I rY.1,.I r3.1,.I n8,.I n9])]) (Wk.trans (Wk.bk 105 [.I n6,.I n7,.I rY.1,.I r3.1,.I n8,.I n9] R R R (bH R)) (Wk.eq R R R R)))))))))))) (aY (au (LH.aj [(4,.ag [.I n6,.I n7,.I rY.1,.I r3.1,.I n8,.I n9])] [(7,.box [.L rY.2.L,.I rY.2.At])] R (sN (bc R eu iY dN R R (s_ (cF R R R eu dN R R R (s0 ((Wk.trans (aQ [(4,.ptr 104 0)] [(7,.box [.L rY.2.L,.I rY.2.At]),(104,.box [.I n6,.I n7,.I rY.1,.I r3.1,.I n8,.I n9])]) (Wk.trans (Wk.bk 104 [.I n6,.I n7,.I rY.1,.I r3.1,.I n8,.I n9] R R R (bH R)) (Wk.eq R R R R))))))))) (LH.ret ?_))))
    obtain rfl:=oI h
    exact aN (aT Tryz.results52) (cN R eu iY dN R R (bL ⟨aM (mC R mN),R,aX R,Sub.rfl⟩))
   replace h:=aA h ko
   refine LH.aj [(0,.ptr 7 0),(4,.ptr 104 0),(5,.ptr 105 0),(36,.I iC.1),(56,.bool (iC.1 == 3))] [(7,.box [.L iC.2.L,.I iC.2.At]),(104,.box [.I 0,.I 0,.I 0,.I 0,.I 0,.I 0]),(105,.box [.I n6,.I n7,.I r2.1,.I r3.1,.I n8,.I n9])] R (sN (gr R R (ct R zS))) (LH.cond (t:=(iC.1 == 3)) R (fun uA=>?_) (fun uA=>?_))
   ·replace h:=aB h uA
    obtain ⟨qy,Lo,h⟩:=ao h
    refine LH.aS [(4,.ptr 104 0),(5,.ag [.I n6,.I n7,.I r2.1,.I qy.1,.I n8,.I n9])] [(7,.box [.L qy.2.L,.I qy.2.At]),(104,.box [.I 0,.I 0,.I 0,.I 0,.I 0,.I 0])] R (ig R (sN (dX (args:=[.ptr 7 0]) (ml:=[(7,.box [.L iC.2.L,.I iC.2.At])]) (cQ:=[(7,.box [.L qy.2.L,.I qy.2.At])]) R u6 R (aI bm) (CJ Lo) (mC R mN) (bT R bU) R (sN (dI qG aE bb R R (s_ (cF R R R aE bb R R R (s0 ((Wk.trans (aQ [(4,.ptr 104 0),(5,.ptr 105 0)] [(7,.box [.L qy.2.L,.I qy.2.At]),(104,.box [.I 0,.I 0,.I 0,.I 0,.I 0,.I 0]),(105,.box [.I n6,.I n7,.I r2.1,.I qy.1,.I n8,.I n9])]) (Wk.trans (Wk.bk 105 [.I n6,.I n7,.I r2.1,.I qy.1,.I n8,.I n9] R R R (bH R)) (Wk.eq R R R R)))))))))))) (aY (au (LH.aj [(4,.ag [.I n6,.I n7,.I r2.1,.I qy.1,.I n8,.I n9])] [(7,.box [.L qy.2.L,.I qy.2.At])] R (sN (bc R eu iY dN R R (s_ (cF R R R eu dN R R R (s0 ((Wk.trans (aQ [(4,.ptr 104 0)] [(7,.box [.L qy.2.L,.I qy.2.At]),(104,.box [.I n6,.I n7,.I r2.1,.I qy.1,.I n8,.I n9])]) (Wk.trans (Wk.bk 104 [.I n6,.I n7,.I r2.1,.I qy.1,.I n8,.I n9] R R R (bH R)) (Wk.eq R R R R))))))))) (LH.ret ?_))))
    obtain rfl:=oI h
    exact aN (aT Tryz.results52) (cN R eu iY dN R R (bL ⟨aM (mC R mN),R,aX R,Sub.rfl⟩))
   replace h:=aA h uA
   refine LH.aj [(0,.ptr 7 0),(4,.ptr 104 0),(5,.ptr 105 0),(61,.bool (iC.1 == 4))] [(7,.box [.L iC.2.L,.I iC.2.At]),(104,.box [.I 0,.I 0,.I 0,.I 0,.I 0,.I 0]),(105,.box [.I n6,.I n7,.I r2.1,.I r3.1,.I n8,.I n9])] R (sN (gr R R (ct R zS))) (LH.cond (t:=(iC.1 == 4)) R (fun AA=>?_) (fun AA=>?_))
   ·replace h:=aB h AA
    obtain ⟨wJ,SQ,h⟩:=ao h
    refine LH.aS [(4,.ptr 104 0),(5,.ag [.I n6,.I n7,.I r2.1,.I r3.1,.I wJ.1,.I n9])] [(7,.box [.L wJ.2.L,.I wJ.2.At]),(104,.box [.I 0,.I 0,.I 0,.I 0,.I 0,.I 0])] R (ig R (sN (dX (args:=[.ptr 7 0,.I (-1),.I 6]) (ml:=[(7,.box [.L iC.2.L,.I iC.2.At])]) (cQ:=[(7,.box [.L wJ.2.L,.I wJ.2.At])]) R oc R (aI (aI (aI bm))) (nX SQ) (mC R mN) (bT R bU) R (sN (dI ky aE bb R R (s_ (cF R R R aE bb R R R (s0 ((Wk.trans (aQ [(4,.ptr 104 0),(5,.ptr 105 0)] [(7,.box [.L wJ.2.L,.I wJ.2.At]),(104,.box [.I 0,.I 0,.I 0,.I 0,.I 0,.I 0]),(105,.box [.I n6,.I n7,.I r2.1,.I r3.1,.I wJ.1,.I n9])]) (Wk.trans (Wk.bk 105 [.I n6,.I n7,.I r2.1,.I r3.1,.I wJ.1,.I n9] R R R (bH R)) (Wk.eq R R R R)))))))))))) (aY (au (LH.aj [(4,.ag [.I n6,.I n7,.I r2.1,.I r3.1,.I wJ.1,.I n9])] [(7,.box [.L wJ.2.L,.I wJ.2.At])] R (sN (bc R eu iY dN R R (s_ (cF R R R eu dN R R R (s0 ((Wk.trans (aQ [(4,.ptr 104 0)] [(7,.box [.L wJ.2.L,.I wJ.2.At]),(104,.box [.I n6,.I n7,.I r2.1,.I r3.1,.I wJ.1,.I n9])]) (Wk.trans (Wk.bk 104 [.I n6,.I n7,.I r2.1,.I r3.1,.I wJ.1,.I n9] R R R (bH R)) (Wk.eq R R R R))))))))) (LH.ret ?_))))
    obtain rfl:=oI h
    exact aN (aT Tryz.results52) (cN R eu iY dN R R (bL ⟨aM (mC R mN),R,aX R,Sub.rfl⟩))
   replace h:=aA h AA
   obtain ⟨wL,SR,h⟩:=ao h
   refine LH.aS [(4,.ptr 104 0),(5,.ag [.I n6,.I n7,.I r2.1,.I r3.1,.I n8,.I wL.1])] [(7,.box [.L wL.2.L,.I wL.2.At]),(104,.box [.I 0,.I 0,.I 0,.I 0,.I 0,.I 0])] R (ig R (sN (dX (args:=[.ptr 7 0,.I (-1),.I 5]) (ml:=[(7,.box [.L iC.2.L,.I iC.2.At])]) (cQ:=[(7,.box [.L wL.2.L,.I wL.2.At])]) R oc R (aI (aI (aI bm))) (nX SR) (mC R mN) (bT R bU) R (sN (dI nv aE bb R R (s_ (cF R R R aE bb R R R (s0 ((Wk.trans (aQ [(4,.ptr 104 0),(5,.ptr 105 0)] [(7,.box [.L wL.2.L,.I wL.2.At]),(104,.box [.I 0,.I 0,.I 0,.I 0,.I 0,.I 0]),(105,.box [.I n6,.I n7,.I r2.1,.I r3.1,.I n8,.I wL.1])]) (Wk.trans (Wk.bk 105 [.I n6,.I n7,.I r2.1,.I r3.1,.I n8,.I wL.1] R R R (bH R)) (Wk.eq R R R R)))))))))))) (aY (au (LH.aj [(4,.ag [.I n6,.I n7,.I r2.1,.I r3.1,.I n8,.I wL.1])] [(7,.box [.L wL.2.L,.I wL.2.At])] R (sN (bc R eu iY dN R R (s_ (cF R R R eu dN R R R (s0 ((Wk.trans (aQ [(4,.ptr 104 0)] [(7,.box [.L wL.2.L,.I wL.2.At]),(104,.box [.I n6,.I n7,.I r2.1,.I r3.1,.I n8,.I wL.1])]) (Wk.trans (Wk.bk 104 [.I n6,.I n7,.I r2.1,.I r3.1,.I n8,.I wL.1] R R R (bH R)) (Wk.eq R R R R))))))))) (LH.ret ?_))))
   obtain rfl:=oI h
   exact aN (aT Tryz.results52) (cN R eu iY dN R R (bL ⟨aM (mC R mN),R,aX R,Sub.rfl⟩))
  replace h:=aA h iM
  refine LH.skip (au (LH.wk ((Wk.trans (aQ [(4,.ptr 104 0),(5,.ptr 105 0)] [(7,.box [.L vN.2.1,.I vN.2.2]),(104,.box [.I 0,.I 0,.I 0,.I 0,.I 0,.I 0]),(105,.box [.I n6,.I n7,.I r2.1,.I r3.1,.I n8,.I n9])]) (Wk.trans (Wk.bk 105 [.I n6,.I n7,.I r2.1,.I r3.1,.I n8,.I n9] R R R (bH R)) (aQ [(4,.ptr 104 0),(5,.ag [.I n6,.I n7,.I r2.1,.I r3.1,.I n8,.I n9])] [(7,.box [.L vN.2.1,.I vN.2.2]),(104,.box [.I 0,.I 0,.I 0,.I 0,.I 0,.I 0])])))) (LH.aj [(4,.ag [.I n6,.I n7,.I r2.1,.I r3.1,.I n8,.I n9])] [(7,.box [.L vN.2.1,.I vN.2.2])] R (sN (bc R eu iY dN R R (s_ (cF R R R eu dN R R R (s0 ((Wk.trans (aQ [(4,.ptr 104 0)] [(7,.box [.L vN.2.1,.I vN.2.2]),(104,.box [.I n6,.I n7,.I r2.1,.I r3.1,.I n8,.I n9])]) (Wk.trans (Wk.bk 104 [.I n6,.I n7,.I r2.1,.I r3.1,.I n8,.I n9] R R R (bH R)) (Wk.eq R R R R))))))))) (LH.ret ?_))))
  obtain rfl:=oI h
  exact aN (aT Tryz.results52) (cN R eu iY dN R R (bL ⟨aM (mC R mN),R,aX R,Sub.rfl⟩))
set_option maxHeartbeats 4000000 in
theorem RS {F:Nat} {p0:aP} {p1:Int} {p2:Int} {p3:Int} {r:ai × aP} (h:Ex F p0 p1 p2 p3=some r):aO Tryz.prog 29 [.ptr 7 0,.I p1,.I p2,.I p3] (Mem.of [(7,.box [.L p0.L,.I p0.At])]) (ai.lv r.1) (Mem.of [(7,.box [.L r.2.L,.I r.2.At])]):=by
  unfold Ex at h
  refine bx Tryz.func29 R (nT Tryz.ntmps29 R) (LH.wk (aQ [(0,.ptr 7 0),(1,.I p1),(2,.I p2),(3,.I p3)] [(7,.box [.L p0.L,.I p0.At])]) (LH.aj [(0,.ptr 7 0),(1,.I p1),(2,.I p2),(3,.I p3),(8,.ptr 108 0)] [(7,.box [.L p0.L,.I p0.At]),(108,.box fi)] R (sN (j0 (id:=108) R xf R R zS)) ?_))
  obtain ⟨r1,ei,h⟩:=ao h
  obtain ⟨t2,Wo,h⟩:=ao h
  refine LH.aj [(0,.ptr 7 0),(1,.I p1),(3,.I p3),(8,.ptr 108 0),(9,.ptr 109 0)] [(7,.box [.L r1.2.L,.I r1.2.At]),(108,.box fi),(109,.box [.I p1,.I p2,.str t2,.nil,.nil])] R (br R (br R (ig R (sN (dX (args:=[.ptr 7 0,.I 3]) (ml:=[(7,.box [.L p0.L,.I p0.At])]) (cQ:=[(7,.box [.L r1.2.L,.I r1.2.At])]) R Pb R (aI (aI bm)) (RV ei) (mC R mN) (bT R bU) R (sX ((Ci R R Wo).ok) (sN (fU (vs:=[(0,.I p1),(1,.I p2),(2,.str t2)]) Q1 xf R (lf fb bb aE R R R (lf fP bb aE R R R (lf gY xr po R R R fT))) (sN (j0 (id:=109) R xf R R (s_ (cF R R R cv cd R R R zS)))))))))))) (LH.seq ?_)
  obtain ⟨r3,ot,h⟩:=ao h
  refine LH.aj [(0,.ptr 7 0),(1,.I p1),(3,.I p3),(8,.ptr 108 0),(9,.ptr 109 0),(10,.I r3.1)] [(7,.box [.L r3.2.L,.I r3.2.At]),(108,.box fi),(109,.box [.I p1,.I p2,.str t2,.nil,.nil])] R (ig R (sN (dX (args:=[.ptr 7 0,.I 1,.I 3]) (ml:=[(7,.box [.L r1.2.L,.I r1.2.At])]) (cQ:=[(7,.box [.L r3.2.L,.I r3.2.At])]) R oc R (aI (aI (aI bm))) (nX ot) (mC R mN) (bT R bU) R (bt R zS)))) (LH.block (LH.wk ((Wk.trans (aQ [(0,.ptr 7 0),(1,.I p1),(3,.I p3),(8,.ptr 108 0),(9,.ptr 109 0),(10,.I r3.1)] [(7,.box [.L r3.2.L,.I r3.2.At]),(108,.box fi),(109,.box [.I p1,.I p2,.str t2,.nil,.nil])]) (Wk.trans (aQ [(0,.ptr 7 0),(1,.I p1),(3,.I p3),(8,.ptr 108 0),(9,.ptr 109 0),(10,.I r3.1)] [(7,.box [.L r3.2.L,.I r3.2.At]),(108,.box fi),(109,.box [.I p1,.I p2,.str t2,.nil,.nil])]) (Wk.trans (Wk.vf 129 86 6 109 3 R R R R R (bH R)) (aQ [(0,.ptr 7 0),(1,.I p1),(3,.I p3),(8,.ptr 108 0),(9,.ptr 109 0),(10,.I r3.1)] [(7,.box [.L r3.2.L,.I r3.2.At]),(108,.box fi),(109,.box [.I p1,.I p2,.str t2,.arr 129 (List.length ([]:List aq)),.nil]),(129,.arr 86 6 (List.map aq.lv ([]:List aq)))]))))) (LH.loop (fun n e m=>∃ (n4:Int) (l5:List Int) (n6:Int) (l7:List aq),Ey F p1 p2 p3 t2 n n4 l5 n6 l7=some r∧e=Env.of [(0,.ptr 7 0),(1,.I p1),(3,.I p3),(8,.ptr 108 0),(9,.ptr 109 0),(10,.I n4)]∧m=Mem.of [(7,.box [.L l5,.I n6]),(108,.box fi),(109,.box [.I p1,.I p2,.str t2,.arr 129 l7.length,.nil]),(129,.arr 86 6 (l7.map aq.lv))]) F ⟨r3.1,r3.2.L,r3.2.At,([]:List aq),h,R,R⟩ ?_)))
  clear h
  rintro n e m ⟨n4,l5,n6,l7,h,rfl,rfl⟩
  rcases n with _ | n
  · cases (show Option.none=some _ from h)
  obtain ⟨aK,a7⟩:∃ f,f=Ey F p1 p2 p3 t2 n:=⟨_,rfl⟩
  replace h:Ez F p1 p2 p3 t2 aK n4 l5 n6 l7=some r:=a7 ▸ h
  unfold Ez at h
  refine LH.seq (LH.aj [(0,.ptr 7 0),(1,.I p1),(3,.I p3),(8,.ptr 108 0),(9,.ptr 109 0),(10,.I n4),(21,.bool (decide (n4 > 0)))] [(7,.box [.L l5,.I n6]),(108,.box fi),(109,.box [.I p1,.I p2,.str t2,.arr 129 l7.length,.nil]),(129,.arr 86 6 (l7.map aq.lv))] R (br R (sN (jx R R zS))) (LH.cond (t:=(decide (n4 > 0))) R (fun kY=>?_) (fun kY=>?_)))
  ·replace h:=aB h kY
   refine LH.skip (au (LH.wk (aQ [(0,.ptr 7 0),(1,.I p1),(3,.I p3),(8,.ptr 108 0),(9,.ptr 109 0),(10,.I n4)] [(7,.box [.L l5,.I n6]),(108,.box fi),(109,.box [.I p1,.I p2,.str t2,.arr 129 l7.length,.nil]),(129,.arr 86 6 (l7.map aq.lv))]) (LH.seq (LH.block ?_))))
   obtain ⟨r9,Fx,h⟩:=ao h
   obtain ⟨v10,FE,h⟩:=ao h
   refine LH.ti mixed [] [0,1109,0,100007,0,2,0,100109] [(0,.ptr 7 0),(1,.I p1),(3,.I p3),(8,.ptr 108 0),(9,.ptr 109 0),(10,.I n4)] [(7,.box [.L r9.2.L,.I r9.2.At]),(108,.box fi),(109,.box [.I p1,.I p2,.str t2,.arr 129 v10.length,.nil]),(129,.arr 86 6 (v10.map aq.lv))] R R (by kernel_rfl) (aD (dI c8 db fF R R ⟨R,mD R R R (fun _ b _ d=>dQ R b R R db iW d) (Cd R (mW R R R (fun _ b _ d=>dX (args:=[.ptr 7 0,.I 0]) (ml:=[(7,.box [.L l5,.I n6])]) (cQ:=[(7,.box [.L r9.2.L,.I r9.2.At])]) R Jx R (aI (aI bm)) (Nc Fx) (mC b mN) (bT R bU) R d) (aD (ka (f:=aq.lv) (ys:=[r9.1]) gy BD dN R R R aq.ok ⟨R,yh (nL (f:=aq.lv) gy BD dN R R (bH R) R FE (aD (dI c8 db fF R R ⟨R,mS R R R (fun _ b _ d=>cF R R R db fF b R R d) zM⟩)))⟩))))⟩)) (aY (au (LH.aS [(0,.ptr 7 0),(1,.I p1),(3,.I p3),(8,.ptr 108 0),(9,.ptr 109 0),(10,.I (i64 (n4 - 1)))] [(7,.box [.L r9.2.L,.I r9.2.At]),(108,.box fi),(109,.box [.I p1,.I p2,.str t2,.arr 129 v10.length,.nil]),(129,.arr 86 6 (v10.map aq.lv))] R (br R (sN (iS R R (bt R zS)))) ?_)))
   exact bl ⟨(i64 (n4 - 1)),r9.2.L,r9.2.At,v10,a7 ▸ h,R,R⟩ (Wk.eq R R R R)
  replace h:=aA h kY
  refine LH.exit (cD (b6 (bP (au (LH.wk (aQ [(0,.ptr 7 0),(1,.I p1),(3,.I p3),(8,.ptr 108 0),(9,.ptr 109 0)] [(7,.box [.L l5,.I n6]),(108,.box fi),(109,.box [.I p1,.I p2,.str t2,.arr 129 l7.length,.nil]),(129,.arr 86 6 (l7.map aq.lv))]) (LH.seq (LH.aj [(0,.ptr 7 0),(1,.I p1),(3,.I p3),(8,.ptr 108 0),(9,.ptr 109 0),(11,.I 0)] [(7,.box [.L l5,.I n6]),(108,.box fi),(109,.box [.I p1,.I p2,.str t2,.arr 129 l7.length,.nil]),(129,.arr 86 6 (l7.map aq.lv))] R (bt R zS) (LH.block (LH.wk ((Wk.trans (aQ [(0,.ptr 7 0),(1,.I p1),(3,.I p3),(8,.ptr 108 0),(9,.ptr 109 0),(11,.I 0)] [(7,.box [.L l5,.I n6]),(108,.box fi),(109,.box [.I p1,.I p2,.str t2,.arr 129 l7.length,.nil]),(129,.arr 86 6 (l7.map aq.lv))]) (Wk.trans (aQ [(0,.ptr 7 0),(1,.I p1),(3,.I p3),(8,.ptr 108 0),(9,.ptr 109 0),(11,.I 0)] [(7,.box [.L l5,.I n6]),(108,.box fi),(109,.box [.I p1,.I p2,.str t2,.arr 129 l7.length,.nil]),(129,.arr 86 6 (l7.map aq.lv))]) (Wk.trans (Wk.vf 146 3 1 109 4 R R R R R (bH R)) (aQ [(0,.ptr 7 0),(1,.I p1),(3,.I p3),(8,.ptr 108 0),(9,.ptr 109 0),(11,.I 0)] [(7,.box [.L l5,.I n6]),(108,.box fi),(109,.box [.I p1,.I p2,.str t2,.arr 129 l7.length,.arr 146 (List.length ([]:List Int))]),(129,.arr 86 6 (l7.map aq.lv)),(146,.arr 3 1 (List.map LV.I ([]:List Int)))]))))) (LH.loop (fun n e m=>∃ (n11:Int) (Cb:List Int) (n13:Int) (cU:List Int),CF p1 p2 p3 t2 l7 n n11 Cb n13 cU=some r∧e=Env.of [(0,.ptr 7 0),(1,.I p1),(3,.I p3),(8,.ptr 108 0),(9,.ptr 109 0),(11,.I n11)]∧m=Mem.of [(7,.box [.L Cb,.I n13]),(108,.box fi),(109,.box [.I p1,.I p2,.str t2,.arr 129 l7.length,.arr 146 cU.length]),(129,.arr 86 6 (l7.map aq.lv)),(146,.arr 3 1 (cU.map LV.I))]) F ⟨0,l5,n6,([]:List Int),h,R,R⟩ ?_))))))))))
  clear h
  rintro n e m ⟨n11,Cb,n13,cU,h,rfl,rfl⟩
  rcases n with _ | n
  · cases (show Option.none=some _ from h)
  obtain ⟨fv,eE⟩:∃ f,f=CF p1 p2 p3 t2 l7 n:=⟨_,rfl⟩
  replace h:EA p1 p2 p3 t2 l7 fv n11 Cb n13 cU=some r:=eE ▸ h
  unfold EA at h
  refine LH.seq (LH.aj [(0,.ptr 7 0),(1,.I p1),(3,.I p3),(8,.ptr 108 0),(9,.ptr 109 0),(11,.I n11),(32,.bool (decide (n11<6)))] [(7,.box [.L Cb,.I n13]),(108,.box fi),(109,.box [.I p1,.I p2,.str t2,.arr 129 l7.length,.arr 146 cU.length]),(129,.arr 86 6 (l7.map aq.lv)),(146,.arr 3 1 (cU.map LV.I))] R (br R (sN (fy R R zS))) (LH.cond (t:=(decide (n11<6))) R (fun kD=>?_) (fun kD=>?_)))
  ·replace h:=aB h kD
   refine LH.skip (au (LH.wk (aQ [(0,.ptr 7 0),(1,.I p1),(3,.I p3),(8,.ptr 108 0),(9,.ptr 109 0),(11,.I n11)] [(7,.box [.L Cb,.I n13]),(108,.box fi),(109,.box [.I p1,.I p2,.str t2,.arr 129 l7.length,.arr 146 cU.length]),(129,.arr 86 6 (l7.map aq.lv)),(146,.arr 3 1 (cU.map LV.I))]) (LH.seq (LH.block ?_))))
   obtain ⟨vO,hv,h⟩:=ao h
   refine LH.aj [(0,.ptr 7 0),(1,.I p1),(3,.I p3),(8,.ptr 108 0),(9,.ptr 109 0),(11,.I n11),(41,.bool vO.1)] [(7,.box [.L vO.2.1,.I vO.2.2]),(108,.box fi),(109,.box [.I p1,.I p2,.str t2,.arr 129 l7.length,.arr 146 cU.length]),(129,.arr 86 6 (l7.map aq.lv)),(146,.arr 3 1 (cU.map LV.I))] R ?_ ?_
   ·refine br R (br R (sN (iR R R (bM R ?_))))
    by_cases uz:(n11 != p1)=true
    ·replace hv:=aB hv uz
     refine sT R (cB uz) (oM (v:=(.ptr _ _)) R ?_)
     obtain ⟨eS,wo,hv⟩:=ao hv
     refine sT R (cB uz) (dX (args:=[.ptr 7 0,.I 8]) (ml:=[(7,.box [.L Cb,.I n13])]) (cQ:=[(7,.box [.L eS.2.L,.I eS.2.At])]) R tg R (aI (aI bm)) (Ah wo) (mC R mN) (bT R bU) R (sN (aZ (cB uz) (v:=(.bool _)) R ?_)))
     obtain rfl:=oI hv
     exact zS
    ·replace uz:=bF uz
     replace hv:=aA hv uz
     refine sF R R uz (sF R R uz (sN (aW (cB uz) (v:=(.bool _)) R ?_)))
     obtain rfl:=oI hv
     exact zS
   clear hv
   refine LH.cond (t:=vO.1) R (fun ko=>?_) (fun ko=>?_)
   ·replace h:=aB h ko
    obtain ⟨v23,AT,h⟩:=ao h
    refine LH.aS [(0,.ptr 7 0),(1,.I p1),(3,.I p3),(8,.ptr 108 0),(9,.ptr 109 0),(11,.I n11)] [(7,.box [.L vO.2.1,.I vO.2.2]),(108,.box fi),(109,.box [.I p1,.I p2,.str t2,.arr 129 l7.length,.arr 146 v23.length]),(129,.arr 86 6 (l7.map aq.lv)),(146,.arr 3 1 (v23.map LV.I))] R (sN (dI fx eT jz R R (sN (dQ R R R R eT mI (br R (sN (ka (f:=LV.I) (ys:=[n11]) cJ rj bb R R R mu (sN (nL (f:=LV.I) cJ rj bb R R (bH R) R AT (sN (dI fx eT jz R R (s_ (cF R R R eT jz R R R zS))))))))))))) (aY (au (LH.aS [(0,.ptr 7 0),(1,.I p1),(3,.I p3),(8,.ptr 108 0),(9,.ptr 109 0),(11,.I (i64 (n11+1)))] [(7,.box [.L vO.2.1,.I vO.2.2]),(108,.box fi),(109,.box [.I p1,.I p2,.str t2,.arr 129 l7.length,.arr 146 v23.length]),(129,.arr 86 6 (l7.map aq.lv)),(146,.arr 3 1 (v23.map LV.I))] R (br R (sN (cI R R (bt R zS)))) ?_)))
    exact bl ⟨(i64 (n11+1)),vO.2.1,vO.2.2,v23,eE ▸ h,R,R⟩ (Wk.eq R R R R)
   replace h:=aA h ko
   refine LH.skip (aY (au (LH.aS [(0,.ptr 7 0),(1,.I p1),(3,.I p3),(8,.ptr 108 0),(9,.ptr 109 0),(11,.I (i64 (n11+1)))] [(7,.box [.L vO.2.1,.I vO.2.2]),(108,.box fi),(109,.box [.I p1,.I p2,.str t2,.arr 129 l7.length,.arr 146 cU.length]),(129,.arr 86 6 (l7.map aq.lv)),(146,.arr 3 1 (cU.map LV.I))] R (br R (sN (cI R R (bt R zS)))) ?_)))
   exact bl ⟨(i64 (n11+1)),vO.2.1,vO.2.2,cU,eE ▸ h,R,R⟩ (Wk.eq R R R R)
  replace h:=aA h kD
  refine LH.exit (cD (b6 (bP (au (LH.wk (aQ [(0,.ptr 7 0),(1,.I p1),(3,.I p3),(8,.ptr 108 0),(9,.ptr 109 0)] [(7,.box [.L Cb,.I n13]),(108,.box fi),(109,.box [.I p1,.I p2,.str t2,.arr 129 l7.length,.arr 146 cU.length]),(129,.arr 86 6 (l7.map aq.lv)),(146,.arr 3 1 (cU.map LV.I))]) (LH.seq ?_))))))
  obtain ⟨qh,hv,h⟩:=ao h
  refine LH.aj [(0,.ptr 7 0),(1,.I p1),(8,.ptr 108 0),(9,.ptr 109 0),(54,.bool qh.1)] [(7,.box [.L qh.2.1,.I qh.2.2]),(108,.box fi),(109,.box [.I p1,.I p2,.str t2,.arr 129 l7.length,.arr 146 cU.length]),(129,.arr 86 6 (l7.map aq.lv)),(146,.arr 3 1 (cU.map LV.I))] R ?_ ?_
  ·refine br R (sN (jx R R (bM R ?_)))
   by_cases rv:(decide (p3 > 0))=true
   ·replace hv:=aB hv rv
    refine sT R (cB rv) (oM (v:=(.ptr _ _)) R (sT R (cB rv) (oM (v:=(.int _ _)) R ?_)))
    obtain ⟨uo,Lq,hv⟩:=ao hv
    refine sT R (cB rv) (dX (args:=[.ptr 7 0,.I p3]) (ml:=[(7,.box [.L Cb,.I n13])]) (cQ:=[(7,.box [.L uo.2.L,.I uo.2.At])]) R tg R (aI (aI bm)) (Ah Lq) (mC R mN) (bT R bU) R (sN (aZ (cB rv) (v:=(.bool _)) R ?_)))
    obtain rfl:=oI hv
    exact zS
   ·replace rv:=bF rv
    replace hv:=aA hv rv
    refine sF R R rv (sF R R rv (sF R R rv (sN (aW (cB rv) (v:=(.bool _)) R ?_))))
    obtain rfl:=oI hv
    exact zS
  clear hv
  refine LH.cond (t:=qh.1) R (fun pK=>?_) (fun pK=>?_)
  ·replace h:=aB h pK
   obtain ⟨cM,AP,h⟩:=ao h
   refine LH.aj [(0,.ptr 7 0),(1,.I p1),(8,.ptr 108 0),(9,.ptr 109 0),(56,.I cM.1)] [(7,.box [.L cM.2.L,.I cM.2.At]),(108,.box fi),(109,.box [.I p1,.I p2,.str t2,.arr 129 l7.length,.arr 146 cU.length]),(129,.arr 86 6 (l7.map aq.lv)),(146,.arr 3 1 (cU.map LV.I))] R (ig R (sN (dX (args:=[.ptr 7 0,.I 7]) (ml:=[(7,.box [.L qh.2.1,.I qh.2.2])]) (cQ:=[(7,.box [.L cM.2.L,.I cM.2.At])]) R gJ R (aI (aI bm)) (kT AP) (mC R mN) (bT R bU) R zS))) (LH.block (LH.aj [(0,.ptr 7 0),(1,.I p1),(8,.ptr 108 0),(9,.ptr 109 0),(56,.I cM.1),(86,.bool (cM.1 == 0))] [(7,.box [.L cM.2.L,.I cM.2.At]),(108,.box fi),(109,.box [.I p1,.I p2,.str t2,.arr 129 l7.length,.arr 146 cU.length]),(129,.arr 86 6 (l7.map aq.lv)),(146,.arr 3 1 (cU.map LV.I))] R (sN (gr R R (ct R zS))) (LH.cond (t:=(cM.1 == 0)) R (fun sQ=>?_) (fun sQ=>?_))))
   ·replace h:=aB h sQ
    obtain ⟨kO,Lr,h⟩:=ao h
    refine LH.aS [(8,.ptr 108 0),(9,.ag [.I kO.1,.I p2,.str t2,.al 6 (l7.map aq.lv),.L cU])] [(7,.box [.L kO.2.L,.I kO.2.At]),(108,.box fi)] R (ig R (sN (dX (args:=[.ptr 7 0]) (ml:=[(7,.box [.L cM.2.L,.I cM.2.At])]) (cQ:=[(7,.box [.L kO.2.L,.I kO.2.At])]) R u6 R (aI bm) (CJ Lr) (mC R mN) (bT R bU) R (sN (dI fb aE bb R R (s_ (cF R R R aE bb R R R (s0 ((Wk.trans (aQ [(8,.ptr 108 0),(9,.ptr 109 0)] [(7,.box [.L kO.2.L,.I kO.2.At]),(108,.box fi),(109,.box [.I kO.1,.I p2,.str t2,.arr 129 l7.length,.arr 146 cU.length]),(129,.arr 86 6 (l7.map aq.lv)),(146,.arr 3 1 (cU.map LV.I))]) (Wk.trans (aQ [(8,.ptr 108 0),(9,.ptr 109 0)] [(7,.box [.L kO.2.L,.I kO.2.At]),(108,.box fi),(109,.box [.I kO.1,.I p2,.str t2,.arr 129 l7.length,.arr 146 cU.length]),(129,.arr 86 6 (l7.map aq.lv)),(146,.arr 3 1 (cU.map LV.I))]) (Wk.trans (Wk.trans (Wk.fl (f:=aq.lv) 129 86 6 l7 109 R R R (cw R (cw R (cw R (jm (cw R jl))))) R R (bH R)) (aQ [(8,.ptr 108 0),(9,.ptr 109 0)] [(7,.box [.L kO.2.L,.I kO.2.At]),(108,.box fi),(109,.box [.I kO.1,.I p2,.str t2,.al 6 (l7.map aq.lv),.arr 146 cU.length]),(146,.arr 3 1 (cU.map LV.I))])) (Wk.trans (aQ [(8,.ptr 108 0),(9,.ptr 109 0)] [(7,.box [.L kO.2.L,.I kO.2.At]),(108,.box fi),(109,.box [.I kO.1,.I p2,.str t2,.al 6 (l7.map aq.lv),.arr 146 cU.length]),(146,.arr 3 1 (cU.map LV.I))]) (Wk.trans (Wk.trans (Wk.fl (f:=LV.I) 146 3 1 cU 109 R R R (cw R (cw R (cw R (cw R (jm jl))))) R R (bH R)) (aQ [(8,.ptr 108 0),(9,.ptr 109 0)] [(7,.box [.L kO.2.L,.I kO.2.At]),(108,.box fi),(109,.box [.I kO.1,.I p2,.str t2,.al 6 (l7.map aq.lv),.L cU])])) (Wk.trans (Wk.bk 109 [.I kO.1,.I p2,.str t2,.al 6 (l7.map aq.lv),.L cU] R R R (bH R)) (Wk.eq R R R R)))))))))))))))) (aY (au (LH.aj [(8,.ag [.I kO.1,.I p2,.str t2,.al 6 (l7.map aq.lv),.L cU])] [(7,.box [.L kO.2.L,.I kO.2.At])] R (sN (bc R cv eZ cd R R (s_ (cF R R R cv cd R R R (s0 ((Wk.trans (aQ [(8,.ptr 108 0)] [(7,.box [.L kO.2.L,.I kO.2.At]),(108,.box [.I kO.1,.I p2,.str t2,.al 6 (l7.map aq.lv),.L cU])]) (Wk.trans (Wk.bk 108 [.I kO.1,.I p2,.str t2,.al 6 (l7.map aq.lv),.L cU] R R R (bH R)) (Wk.eq R R R R))))))))) (LH.ret ?_))))
    obtain rfl:=oI h
    exact aN (aT Tryz.results29) (cN R cv eZ cd R R (bL ⟨aM (mC R mN),R,aX R,Sub.rfl⟩))
   replace h:=aA h sQ
   refine LH.aj [(0,.ptr 7 0),(1,.I p1),(8,.ptr 108 0),(9,.ptr 109 0),(56,.I cM.1),(91,.bool (cM.1 == 1))] [(7,.box [.L cM.2.L,.I cM.2.At]),(108,.box fi),(109,.box [.I p1,.I p2,.str t2,.arr 129 l7.length,.arr 146 cU.length]),(129,.arr 86 6 (l7.map aq.lv)),(146,.arr 3 1 (cU.map LV.I))] R (sN (gr R R (ct R zS))) (LH.cond (t:=(cM.1 == 1)) R (fun KI=>?_) (fun KI=>?_))
   ·replace h:=aB h KI
    obtain ⟨o8,SV,h⟩:=ao h
    refine LH.aS [(8,.ptr 108 0),(9,.ag [.I p1,.I o8.1,.str t2,.al 6 (l7.map aq.lv),.L cU])] [(7,.box [.L o8.2.L,.I o8.2.At]),(108,.box fi)] R (ig R (sN (ka (f:=LV.I) (ys:=[0,8,9,(-1)]) cJ rj bb R R R mu (sN (dX (args:=[.ptr 7 0,.L [0,8,9,(-1)]]) (ml:=[(7,.box [.L cM.2.L,.I cM.2.At])]) (cQ:=[(7,.box [.L o8.2.L,.I o8.2.At])]) R yb R (aI (aI bm)) (EB SV) (mC R mN) (bT R bU) R (sN (dI fP aE bb R R (s_ (cF R R R aE bb R R R (s0 ((Wk.trans (aQ [(8,.ptr 108 0),(9,.ptr 109 0)] [(7,.box [.L o8.2.L,.I o8.2.At]),(108,.box fi),(109,.box [.I p1,.I o8.1,.str t2,.arr 129 l7.length,.arr 146 cU.length]),(129,.arr 86 6 (l7.map aq.lv)),(146,.arr 3 1 (cU.map LV.I))]) (Wk.trans (aQ [(8,.ptr 108 0),(9,.ptr 109 0)] [(7,.box [.L o8.2.L,.I o8.2.At]),(108,.box fi),(109,.box [.I p1,.I o8.1,.str t2,.arr 129 l7.length,.arr 146 cU.length]),(129,.arr 86 6 (l7.map aq.lv)),(146,.arr 3 1 (cU.map LV.I))]) (Wk.trans (Wk.trans (Wk.fl (f:=aq.lv) 129 86 6 l7 109 R R R (cw R (cw R (cw R (jm (cw R jl))))) R R (bH R)) (aQ [(8,.ptr 108 0),(9,.ptr 109 0)] [(7,.box [.L o8.2.L,.I o8.2.At]),(108,.box fi),(109,.box [.I p1,.I o8.1,.str t2,.al 6 (l7.map aq.lv),.arr 146 cU.length]),(146,.arr 3 1 (cU.map LV.I))])) (Wk.trans (aQ [(8,.ptr 108 0),(9,.ptr 109 0)] [(7,.box [.L o8.2.L,.I o8.2.At]),(108,.box fi),(109,.box [.I p1,.I o8.1,.str t2,.al 6 (l7.map aq.lv),.arr 146 cU.length]),(146,.arr 3 1 (cU.map LV.I))]) (Wk.trans (Wk.trans (Wk.fl (f:=LV.I) 146 3 1 cU 109 R R R (cw R (cw R (cw R (cw R (jm jl))))) R R (bH R)) (aQ [(8,.ptr 108 0),(9,.ptr 109 0)] [(7,.box [.L o8.2.L,.I o8.2.At]),(108,.box fi),(109,.box [.I p1,.I o8.1,.str t2,.al 6 (l7.map aq.lv),.L cU])])) (Wk.trans (Wk.bk 109 [.I p1,.I o8.1,.str t2,.al 6 (l7.map aq.lv),.L cU] R R R (bH R)) (Wk.eq R R R R)))))))))))))))))) (aY (au (LH.aj [(8,.ag [.I p1,.I o8.1,.str t2,.al 6 (l7.map aq.lv),.L cU])] [(7,.box [.L o8.2.L,.I o8.2.At])] R (sN (bc R cv eZ cd R R (s_ (cF R R R cv cd R R R (s0 ((Wk.trans (aQ [(8,.ptr 108 0)] [(7,.box [.L o8.2.L,.I o8.2.At]),(108,.box [.I p1,.I o8.1,.str t2,.al 6 (l7.map aq.lv),.L cU])]) (Wk.trans (Wk.bk 108 [.I p1,.I o8.1,.str t2,.al 6 (l7.map aq.lv),.L cU] R R R (bH R)) (Wk.eq R R R R))))))))) (LH.ret ?_))))
    obtain rfl:=oI h
    exact aN (aT Tryz.results29) (cN R cv eZ cd R R (bL ⟨aM (mC R mN),R,aX R,Sub.rfl⟩))
   replace h:=aA h KI
   refine LH.aj [(0,.ptr 7 0),(1,.I p1),(8,.ptr 108 0),(9,.ptr 109 0),(56,.I cM.1),(97,.bool (cM.1 == 2))] [(7,.box [.L cM.2.L,.I cM.2.At]),(108,.box fi),(109,.box [.I p1,.I p2,.str t2,.arr 129 l7.length,.arr 146 cU.length]),(129,.arr 86 6 (l7.map aq.lv)),(146,.arr 3 1 (cU.map LV.I))] R (sN (gr R R (ct R zS))) (LH.cond (t:=(cM.1 == 2)) R (fun KJ=>?_) (fun KJ=>?_))
   ·replace h:=aB h KJ
    obtain ⟨lW,Ls,h⟩:=ao h
    obtain ⟨Et,TF,h⟩:=ao h
    refine LH.aS [(8,.ptr 108 0),(9,.ag [.I p1,.I p2,.str Et,.al 6 (l7.map aq.lv),.L cU])] [(7,.box [.L lW.2.L,.I lW.2.At]),(108,.box fi)] R (sN (ka (f:=LV.str) (ys:=[(ByteArray.mk #[]),(ByteArray.mk #[116,97,98,9]),(ByteArray.mk #[48,49,50,51,52,53,54,55,56,57,48,49,50,51,52,53,54,55,56,57,48,49,50,51,52,53,54,55,56,57,48,49,50,51,52,53,54,55,56,57,120])]) Kg WV xr R R R Va (ig R (sN (dX (args:=[.ptr 7 0,.I 3]) (ml:=[(7,.box [.L cM.2.L,.I cM.2.At])]) (cQ:=[(7,.box [.L lW.2.L,.I lW.2.At])]) R gJ R (aI (aI bm)) (kT Ls) (mC R mN) (bT R bU) R (sN (eM (f:=LV.str) Kg po xr R R Va TF R (sN (bh R po D3 (sN (dI gY po xr R R (s_ (cF R R R po xr R R R (s0 ((Wk.trans (aQ [(8,.ptr 108 0),(9,.ptr 109 0)] [(7,.box [.L lW.2.L,.I lW.2.At]),(108,.box fi),(109,.box [.I p1,.I p2,.str Et,.arr 129 l7.length,.arr 146 cU.length]),(129,.arr 86 6 (l7.map aq.lv)),(146,.arr 3 1 (cU.map LV.I))]) (Wk.trans (aQ [(8,.ptr 108 0),(9,.ptr 109 0)] [(7,.box [.L lW.2.L,.I lW.2.At]),(108,.box fi),(109,.box [.I p1,.I p2,.str Et,.arr 129 l7.length,.arr 146 cU.length]),(129,.arr 86 6 (l7.map aq.lv)),(146,.arr 3 1 (cU.map LV.I))]) (Wk.trans (Wk.trans (Wk.fl (f:=aq.lv) 129 86 6 l7 109 R R R (cw R (cw R (cw R (jm (cw R jl))))) R R (bH R)) (aQ [(8,.ptr 108 0),(9,.ptr 109 0)] [(7,.box [.L lW.2.L,.I lW.2.At]),(108,.box fi),(109,.box [.I p1,.I p2,.str Et,.al 6 (l7.map aq.lv),.arr 146 cU.length]),(146,.arr 3 1 (cU.map LV.I))])) (Wk.trans (aQ [(8,.ptr 108 0),(9,.ptr 109 0)] [(7,.box [.L lW.2.L,.I lW.2.At]),(108,.box fi),(109,.box [.I p1,.I p2,.str Et,.al 6 (l7.map aq.lv),.arr 146 cU.length]),(146,.arr 3 1 (cU.map LV.I))]) (Wk.trans (Wk.trans (Wk.fl (f:=LV.I) 146 3 1 cU 109 R R R (cw R (cw R (cw R (cw R (jm jl))))) R R (bH R)) (aQ [(8,.ptr 108 0),(9,.ptr 109 0)] [(7,.box [.L lW.2.L,.I lW.2.At]),(108,.box fi),(109,.box [.I p1,.I p2,.str Et,.al 6 (l7.map aq.lv),.L cU])])) (Wk.trans (Wk.bk 109 [.I p1,.I p2,.str Et,.al 6 (l7.map aq.lv),.L cU] R R R (bH R)) (Wk.eq R R R R)))))))))))))))))))))) (aY (au (LH.aj [(8,.ag [.I p1,.I p2,.str Et,.al 6 (l7.map aq.lv),.L cU])] [(7,.box [.L lW.2.L,.I lW.2.At])] R (sN (bc R cv eZ cd R R (s_ (cF R R R cv cd R R R (s0 ((Wk.trans (aQ [(8,.ptr 108 0)] [(7,.box [.L lW.2.L,.I lW.2.At]),(108,.box [.I p1,.I p2,.str Et,.al 6 (l7.map aq.lv),.L cU])]) (Wk.trans (Wk.bk 108 [.I p1,.I p2,.str Et,.al 6 (l7.map aq.lv),.L cU] R R R (bH R)) (Wk.eq R R R R))))))))) (LH.ret ?_))))
    obtain rfl:=oI h
    exact aN (aT Tryz.results29) (cN R cv eZ cd R R (bL ⟨aM (mC R mN),R,aX R,Sub.rfl⟩))
   replace h:=aA h KJ
   refine LH.aj [(0,.ptr 7 0),(1,.I p1),(8,.ptr 108 0),(9,.ptr 109 0),(56,.I cM.1),(105,.bool (cM.1 == 3))] [(7,.box [.L cM.2.L,.I cM.2.At]),(108,.box fi),(109,.box [.I p1,.I p2,.str t2,.arr 129 l7.length,.arr 146 cU.length]),(129,.arr 86 6 (l7.map aq.lv)),(146,.arr 3 1 (cU.map LV.I))] R (sN (gr R R (ct R zS))) (LH.cond (t:=(cM.1 == 3)) R (fun C3=>?_) (fun C3=>?_))
   ·replace h:=aB h C3
    refine LH.aS [(8,.ptr 108 0),(9,.ag [.I p1,.I p2,.str t2,.nil,.L cU])] [(7,.box [.L cM.2.L,.I cM.2.At]),(108,.box fi)] R (sN (dI c8 db fF R R (s_ (cF R R R db fF R R R (s0 ((Wk.trans (aQ [(8,.ptr 108 0),(9,.ptr 109 0)] [(7,.box [.L cM.2.L,.I cM.2.At]),(108,.box fi),(109,.box [.I p1,.I p2,.str t2,.nil,.arr 146 cU.length]),(146,.arr 3 1 (cU.map LV.I))]) (Wk.trans (aQ [(8,.ptr 108 0),(9,.ptr 109 0)] [(7,.box [.L cM.2.L,.I cM.2.At]),(108,.box fi),(109,.box [.I p1,.I p2,.str t2,.nil,.arr 146 cU.length]),(146,.arr 3 1 (cU.map LV.I))]) (Wk.trans (Wk.trans (Wk.fl (f:=LV.I) 146 3 1 cU 109 R R R (cw R (cw R (cw R (cw R (jm jl))))) R R (bH R)) (aQ [(8,.ptr 108 0),(9,.ptr 109 0)] [(7,.box [.L cM.2.L,.I cM.2.At]),(108,.box fi),(109,.box [.I p1,.I p2,.str t2,.nil,.L cU])])) (Wk.trans (Wk.bk 109 [.I p1,.I p2,.str t2,.nil,.L cU] R R R (bH R)) (Wk.eq R R R R))))))))))) (aY (au (LH.aj [(8,.ag [.I p1,.I p2,.str t2,.nil,.L cU])] [(7,.box [.L cM.2.L,.I cM.2.At])] R (sN (bc R cv eZ cd R R (s_ (cF R R R cv cd R R R (s0 ((Wk.trans (aQ [(8,.ptr 108 0)] [(7,.box [.L cM.2.L,.I cM.2.At]),(108,.box [.I p1,.I p2,.str t2,.nil,.L cU])]) (Wk.trans (Wk.bk 108 [.I p1,.I p2,.str t2,.nil,.L cU] R R R (bH R)) (Wk.eq R R R R))))))))) (LH.ret ?_))))
    obtain rfl:=oI h
    exact aN (aT Tryz.results29) (cN R cv eZ cd R R (bL ⟨aM (mC R mN),R,aX R,(fo.head (lj (Sub.agg (aI (aI (aI (qC (aI bm)))))) bm))⟩))
   replace h:=aA h C3
   refine LH.aj [(0,.ptr 7 0),(1,.I p1),(8,.ptr 108 0),(9,.ptr 109 0),(56,.I cM.1),(108,.bool (cM.1 == 4))] [(7,.box [.L cM.2.L,.I cM.2.At]),(108,.box fi),(109,.box [.I p1,.I p2,.str t2,.arr 129 l7.length,.arr 146 cU.length]),(129,.arr 86 6 (l7.map aq.lv)),(146,.arr 3 1 (cU.map LV.I))] R (sN (gr R R (ct R zS))) (LH.cond (t:=(cM.1 == 4)) R (fun AD=>?_) (fun AD=>?_))
   ·replace h:=aB h AD
    obtain ⟨uq,SZ,h⟩:=ao h
    obtain ⟨BG,Tu,h⟩:=ao h
    refine LH.ti mixed [] [0,1109,0,100007,0,2,0,100109] [(8,.ptr 108 0),(9,.ag [.I p1,.I p2,.str t2,.al 6 (BG.map aq.lv),.L cU])] [(7,.box [.L uq.2.L,.I uq.2.At]),(108,.box fi)] R R (by kernel_rfl) (aD (dI c8 db fF R R ⟨R,mD R R R (fun _ b _ d=>dQ R b R R db iW d) (Cd R (mW R R R (fun _ b _ d=>dX (args:=[.ptr 7 0,.I 1]) (ml:=[(7,.box [.L cM.2.L,.I cM.2.At])]) (cQ:=[(7,.box [.L uq.2.L,.I uq.2.At])]) R Jx R (aI (aI bm)) (Nc SZ) (mC b mN) (bT R bU) R d) (aD (ka (f:=aq.lv) (ys:=[uq.1]) gy BD dN R R R aq.ok ⟨R,yh (nL (f:=aq.lv) gy BD dN R R (bH R) R Tu (aD (dI c8 db fF R R ⟨R,mS R R R (fun _ b _ d=>cF R R R db fF b R R d) (m0 ((Wk.trans (aQ [(8,.ptr 108 0),(9,.ptr 109 0)] [(7,.box [.L uq.2.L,.I uq.2.At]),(108,.box fi),(109,.box [.I p1,.I p2,.str t2,.arr 129 BG.length,.arr 146 cU.length]),(129,.arr 86 6 (BG.map aq.lv)),(146,.arr 3 1 (cU.map LV.I))]) (Wk.trans (aQ [(8,.ptr 108 0),(9,.ptr 109 0)] [(7,.box [.L uq.2.L,.I uq.2.At]),(108,.box fi),(109,.box [.I p1,.I p2,.str t2,.arr 129 BG.length,.arr 146 cU.length]),(129,.arr 86 6 (BG.map aq.lv)),(146,.arr 3 1 (cU.map LV.I))]) (Wk.trans (Wk.trans (Wk.fl (f:=aq.lv) 129 86 6 BG 109 R R R (cw R (cw R (cw R (jm (cw R jl))))) R R (bH R)) (aQ [(8,.ptr 108 0),(9,.ptr 109 0)] [(7,.box [.L uq.2.L,.I uq.2.At]),(108,.box fi),(109,.box [.I p1,.I p2,.str t2,.al 6 (BG.map aq.lv),.arr 146 cU.length]),(146,.arr 3 1 (cU.map LV.I))])) (Wk.trans (aQ [(8,.ptr 108 0),(9,.ptr 109 0)] [(7,.box [.L uq.2.L,.I uq.2.At]),(108,.box fi),(109,.box [.I p1,.I p2,.str t2,.al 6 (BG.map aq.lv),.arr 146 cU.length]),(146,.arr 3 1 (cU.map LV.I))]) (Wk.trans (Wk.trans (Wk.fl (f:=LV.I) 146 3 1 cU 109 R R R (cw R (cw R (cw R (cw R (jm jl))))) R R (bH R)) (aQ [(8,.ptr 108 0),(9,.ptr 109 0)] [(7,.box [.L uq.2.L,.I uq.2.At]),(108,.box fi),(109,.box [.I p1,.I p2,.str t2,.al 6 (BG.map aq.lv),.L cU])])) (Wk.trans (Wk.bk 109 [.I p1,.I p2,.str t2,.al 6 (BG.map aq.lv),.L cU] R R R (bH R)) (Wk.eq R R R R)))))))))⟩)))⟩))))⟩)) (aY (au (LH.aj [(8,.ag [.I p1,.I p2,.str t2,.al 6 (BG.map aq.lv),.L cU])] [(7,.box [.L uq.2.L,.I uq.2.At])] R (sN (bc R cv eZ cd R R (s_ (cF R R R cv cd R R R (s0 ((Wk.trans (aQ [(8,.ptr 108 0)] [(7,.box [.L uq.2.L,.I uq.2.At]),(108,.box [.I p1,.I p2,.str t2,.al 6 (BG.map aq.lv),.L cU])]) (Wk.trans (Wk.bk 108 [.I p1,.I p2,.str t2,.al 6 (BG.map aq.lv),.L cU] R R R (bH R)) (Wk.eq R R R R))))))))) (LH.ret ?_))))
    obtain rfl:=oI h
    exact aN (aT Tryz.results29) (cN R cv eZ cd R R (bL ⟨aM (mC R mN),R,aX R,Sub.rfl⟩))
   replace h:=aA h AD
   refine LH.aj [(0,.ptr 7 0),(1,.I p1),(8,.ptr 108 0),(9,.ptr 109 0),(117,.bool (cM.1 == 5))] [(7,.box [.L cM.2.L,.I cM.2.At]),(108,.box fi),(109,.box [.I p1,.I p2,.str t2,.arr 129 l7.length,.arr 146 cU.length]),(129,.arr 86 6 (l7.map aq.lv)),(146,.arr 3 1 (cU.map LV.I))] R (sN (gr R R (ct R zS))) (LH.cond (t:=(cM.1 == 5)) R (fun KM=>?_) (fun KM=>?_))
   ·replace h:=aB h KM
    obtain ⟨ur,S0,h⟩:=ao h
    obtain ⟨v45,Tv,h⟩:=ao h
    refine LH.ti mixed [] [0,1109,0,0,0,100007,0,2,0,100109] [(8,.ptr 108 0),(9,.ag [.I p1,.I p2,.str t2,.al 6 (l7.map aq.lv),.L v45])] [(7,.box [.L ur.2.L,.I ur.2.At]),(108,.box fi)] R R (by kernel_rfl) (aD (dI fx eT jz R R ⟨R,mD R R R (fun _ b _ d=>dQ R b R R eT mI d) (Cd R (fC R (aD (ka (f:=LV.I) (ys:=[0,p1,(-1),10000,3]) cJ rj bb R R R mu ⟨R,mW R R R (fun _ b _ d=>dX (args:=[.ptr 7 0,.L [0,p1,(-1),10000,3]]) (ml:=[(7,.box [.L cM.2.L,.I cM.2.At])]) (cQ:=[(7,.box [.L ur.2.L,.I ur.2.At])]) R yb R (aI (aI bm)) (EB S0) (mC b mN) (bT R bU) R d) (aD (ka (f:=LV.I) (ys:=[ur.1]) cJ rj bb R R R mu ⟨R,yh (nL (f:=LV.I) cJ rj bb R R (bH R) R Tv (aD (dI fx eT jz R R ⟨R,mS R R R (fun _ b _ d=>cF R R R eT jz b R R d) (m0 ((Wk.trans (aQ [(8,.ptr 108 0),(9,.ptr 109 0)] [(7,.box [.L ur.2.L,.I ur.2.At]),(108,.box fi),(109,.box [.I p1,.I p2,.str t2,.arr 129 l7.length,.arr 146 v45.length]),(129,.arr 86 6 (l7.map aq.lv)),(146,.arr 3 1 (v45.map LV.I))]) (Wk.trans (aQ [(8,.ptr 108 0),(9,.ptr 109 0)] [(7,.box [.L ur.2.L,.I ur.2.At]),(108,.box fi),(109,.box [.I p1,.I p2,.str t2,.arr 129 l7.length,.arr 146 v45.length]),(129,.arr 86 6 (l7.map aq.lv)),(146,.arr 3 1 (v45.map LV.I))]) (Wk.trans (Wk.trans (Wk.fl (f:=aq.lv) 129 86 6 l7 109 R R R (cw R (cw R (cw R (jm (cw R jl))))) R R (bH R)) (aQ [(8,.ptr 108 0),(9,.ptr 109 0)] [(7,.box [.L ur.2.L,.I ur.2.At]),(108,.box fi),(109,.box [.I p1,.I p2,.str t2,.al 6 (l7.map aq.lv),.arr 146 v45.length]),(146,.arr 3 1 (v45.map LV.I))])) (Wk.trans (aQ [(8,.ptr 108 0),(9,.ptr 109 0)] [(7,.box [.L ur.2.L,.I ur.2.At]),(108,.box fi),(109,.box [.I p1,.I p2,.str t2,.al 6 (l7.map aq.lv),.arr 146 v45.length]),(146,.arr 3 1 (v45.map LV.I))]) (Wk.trans (Wk.trans (Wk.fl (f:=LV.I) 146 3 1 v45 109 R R R (cw R (cw R (cw R (cw R (jm jl))))) R R (bH R)) (aQ [(8,.ptr 108 0),(9,.ptr 109 0)] [(7,.box [.L ur.2.L,.I ur.2.At]),(108,.box fi),(109,.box [.I p1,.I p2,.str t2,.al 6 (l7.map aq.lv),.L v45])])) (Wk.trans (Wk.bk 109 [.I p1,.I p2,.str t2,.al 6 (l7.map aq.lv),.L v45] R R R (bH R)) (Wk.eq R R R R)))))))))⟩)))⟩))⟩))))⟩)) (aY (au (LH.aj [(8,.ag [.I p1,.I p2,.str t2,.al 6 (l7.map aq.lv),.L v45])] [(7,.box [.L ur.2.L,.I ur.2.At])] R (sN (bc R cv eZ cd R R (s_ (cF R R R cv cd R R R (s0 ((Wk.trans (aQ [(8,.ptr 108 0)] [(7,.box [.L ur.2.L,.I ur.2.At]),(108,.box [.I p1,.I p2,.str t2,.al 6 (l7.map aq.lv),.L v45])]) (Wk.trans (Wk.bk 108 [.I p1,.I p2,.str t2,.al 6 (l7.map aq.lv),.L v45] R R R (bH R)) (Wk.eq R R R R))))))))) (LH.ret ?_))))
    obtain rfl:=oI h
    exact aN (aT Tryz.results29) (cN R cv eZ cd R R (bL ⟨aM (mC R mN),R,aX R,Sub.rfl⟩))
   replace h:=aA h KM
   obtain ⟨Uh,OA,h⟩:=ao h
   obtain ⟨Ui,OB,h⟩:=ao h
   obtain ⟨Uj,OC,h⟩:=ao h
   obtain ⟨Uk,OD,h⟩:=ao h
   obtain ⟨Ul,OE,h⟩:=ao h
   obtain ⟨Um,OF,h⟩:=ao h
   obtain ⟨BH,Tw,h⟩:=ao h
   refine LH.ti mixed [] [0,1109,0,1109,1129,1129,0,1109,1129,1129,0,1109,1129,1129,0,1109,1129,1129,0,1109,1129,1129,0,1109,1129,1129,0,2,0,100109] [(8,.ptr 108 0),(9,.ag [.I p1,.I p2,.str t2,.al 6 (BH.map aq.lv),.L cU])] [(7,.box [.L cM.2.L,.I cM.2.At]),(108,.box fi)] R R (by kernel_rfl) ?_ ?_
   ·exact aD (dI c8 db fF R R ⟨R,mD R R R (fun _ b _ d=>dQ R b R R db iW d) (aD (dI c8 db fF R R ⟨R,mD R R R (fun _ b _ d=>dQ R b R R db iW d) (mD R R R (fun _ b _ d=>gV (f:=aq.lv) gy eu dN R b R OA d) (mD R R R (fun _ b _ d=>pX (f:=aq.lv) R b (dB OA).2 R R eu iY dN R R d) (aD (dI c8 db fF R R ⟨R,mD R R R (fun _ b _ d=>dQ R b R R db iW d) (mD R R R (fun _ b _ d=>gV (f:=aq.lv) gy eu dN R b R OB d) (mD R R R (fun _ b _ d=>pX (f:=aq.lv) R b (dB OB).2 R R eu iY dN R R d) (aD (dI c8 db fF R R ⟨R,mD R R R (fun _ b _ d=>dQ R b R R db iW d) (mD R R R (fun _ b _ d=>gV (f:=aq.lv) gy eu dN R b R OC d) (mD R R R (fun _ b _ d=>pX (f:=aq.lv) R b (dB OC).2 R R eu iY dN R R d) (aD (dI c8 db fF R R ⟨R,mD R R R (fun _ b _ d=>dQ R b R R db iW d) (mD R R R (fun _ b _ d=>gV (f:=aq.lv) gy eu dN R b R OD d) (mD R R R (fun _ b _ d=>pX (f:=aq.lv) R b (dB OD).2 R R eu iY dN R R d) (aD (dI c8 db fF R R ⟨R,mD R R R (fun _ b _ d=>dQ R b R R db iW d) (mD R R R (fun _ b _ d=>gV (f:=aq.lv) gy eu dN R b R OE d) (mD R R R (fun _ b _ d=>pX (f:=aq.lv) R b (dB OE).2 R R eu iY dN R R d) (aD (dI c8 db fF R R ⟨R,mD R R R (fun _ b _ d=>dQ R b R R db iW d) (mD R R R (fun _ b _ d=>gV (f:=aq.lv) gy eu dN R b R OF d) (mD R R R (fun _ b _ d=>pX (f:=aq.lv) R b (dB OF).2 R R eu iY dN R R d) (aD (ka (f:=aq.lv) (ys:=[Uh,Ui,Uj,Uk,Ul,Um]) gy BD dN R R R aq.ok ⟨R,yh (nL (f:=aq.lv) gy BD dN R R (bH R) R Tw (aD (dI c8 db fF R R ⟨R,mS R R R (fun _ b _ d=>cF R R R db fF b R R d) (m0 ((Wk.trans (aQ [(8,.ptr 108 0),(9,.ptr 109 0)] [(7,.box [.L cM.2.L,.I cM.2.At]),(108,.box fi),(109,.box [.I p1,.I p2,.str t2,.arr 129 BH.length,.arr 146 cU.length]),(129,.arr 86 6 (BH.map aq.lv)),(146,.arr 3 1 (cU.map LV.I))]) (Wk.trans (aQ [(8,.ptr 108 0),(9,.ptr 109 0)] [(7,.box [.L cM.2.L,.I cM.2.At]),(108,.box fi),(109,.box [.I p1,.I p2,.str t2,.arr 129 BH.length,.arr 146 cU.length]),(129,.arr 86 6 (BH.map aq.lv)),(146,.arr 3 1 (cU.map LV.I))]) (Wk.trans (Wk.trans (Wk.fl (f:=aq.lv) 129 86 6 BH 109 R R R (cw R (cw R (cw R (jm (cw R jl))))) R R (bH R)) (aQ [(8,.ptr 108 0),(9,.ptr 109 0)] [(7,.box [.L cM.2.L,.I cM.2.At]),(108,.box fi),(109,.box [.I p1,.I p2,.str t2,.al 6 (BH.map aq.lv),.arr 146 cU.length]),(146,.arr 3 1 (cU.map LV.I))])) (Wk.trans (aQ [(8,.ptr 108 0),(9,.ptr 109 0)] [(7,.box [.L cM.2.L,.I cM.2.At]),(108,.box fi),(109,.box [.I p1,.I p2,.str t2,.al 6 (BH.map aq.lv),.arr 146 cU.length]),(146,.arr 3 1 (cU.map LV.I))]) (Wk.trans (Wk.trans (Wk.fl (f:=LV.I) 146 3 1 cU 109 R R R (cw R (cw R (cw R (cw R (jm jl))))) R R (bH R)) (aQ [(8,.ptr 108 0),(9,.ptr 109 0)] [(7,.box [.L cM.2.L,.I cM.2.At]),(108,.box fi),(109,.box [.I p1,.I p2,.str t2,.al 6 (BH.map aq.lv),.L cU])])) (Wk.trans (Wk.bk 109 [.I p1,.I p2,.str t2,.al 6 (BH.map aq.lv),.L cU] R R R (bH R)) (Wk.eq R R R R)))))))))⟩)))⟩))))⟩))))⟩))))⟩))))⟩))))⟩))))⟩))⟩)
   refine aY (au (LH.aj [(8,.ag [.I p1,.I p2,.str t2,.al 6 (BH.map aq.lv),.L cU])] [(7,.box [.L cM.2.L,.I cM.2.At])] R (sN (bc R cv eZ cd R R (s_ (cF R R R cv cd R R R (s0 ((Wk.trans (aQ [(8,.ptr 108 0)] [(7,.box [.L cM.2.L,.I cM.2.At]),(108,.box [.I p1,.I p2,.str t2,.al 6 (BH.map aq.lv),.L cU])]) (Wk.trans (Wk.bk 108 [.I p1,.I p2,.str t2,.al 6 (BH.map aq.lv),.L cU] R R R (bH R)) (Wk.eq R R R R))))))))) (LH.ret ?_)))
   obtain rfl:=oI h
   exact aN (aT Tryz.results29) (cN R cv eZ cd R R (bL ⟨aM (mC R mN),R,aX R,Sub.rfl⟩))
  replace h:=aA h pK
  refine LH.skip (au (LH.wk ((Wk.trans (aQ [(8,.ptr 108 0),(9,.ptr 109 0)] [(7,.box [.L qh.2.1,.I qh.2.2]),(108,.box fi),(109,.box [.I p1,.I p2,.str t2,.arr 129 l7.length,.arr 146 cU.length]),(129,.arr 86 6 (l7.map aq.lv)),(146,.arr 3 1 (cU.map LV.I))]) (Wk.trans (aQ [(8,.ptr 108 0),(9,.ptr 109 0)] [(7,.box [.L qh.2.1,.I qh.2.2]),(108,.box fi),(109,.box [.I p1,.I p2,.str t2,.arr 129 l7.length,.arr 146 cU.length]),(129,.arr 86 6 (l7.map aq.lv)),(146,.arr 3 1 (cU.map LV.I))]) (Wk.trans (Wk.trans (Wk.fl (f:=aq.lv) 129 86 6 l7 109 R R R (cw R (cw R (cw R (jm (cw R jl))))) R R (bH R)) (aQ [(8,.ptr 108 0),(9,.ptr 109 0)] [(7,.box [.L qh.2.1,.I qh.2.2]),(108,.box fi),(109,.box [.I p1,.I p2,.str t2,.al 6 (l7.map aq.lv),.arr 146 cU.length]),(146,.arr 3 1 (cU.map LV.I))])) (Wk.trans (aQ [(8,.ptr 108 0),(9,.ptr 109 0)] [(7,.box [.L qh.2.1,.I qh.2.2]),(108,.box fi),(109,.box [.I p1,.I p2,.str t2,.al 6 (l7.map aq.lv),.arr 146 cU.length]),(146,.arr 3 1 (cU.map LV.I))]) (Wk.trans (Wk.trans (Wk.fl (f:=LV.I) 146 3 1 cU 109 R R R (cw R (cw R (cw R (cw R (jm jl))))) R R (bH R)) (aQ [(8,.ptr 108 0),(9,.ptr 109 0)] [(7,.box [.L qh.2.1,.I qh.2.2]),(108,.box fi),(109,.box [.I p1,.I p2,.str t2,.al 6 (l7.map aq.lv),.L cU])])) (Wk.trans (Wk.bk 109 [.I p1,.I p2,.str t2,.al 6 (l7.map aq.lv),.L cU] R R R (bH R)) (aQ [(8,.ptr 108 0),(9,.ag [.I p1,.I p2,.str t2,.al 6 (l7.map aq.lv),.L cU])] [(7,.box [.L qh.2.1,.I qh.2.2]),(108,.box fi)])))))))) (LH.aj [(8,.ag [.I p1,.I p2,.str t2,.al 6 (l7.map aq.lv),.L cU])] [(7,.box [.L qh.2.1,.I qh.2.2])] R (sN (bc R cv eZ cd R R (s_ (cF R R R cv cd R R R (s0 ((Wk.trans (aQ [(8,.ptr 108 0)] [(7,.box [.L qh.2.1,.I qh.2.2]),(108,.box [.I p1,.I p2,.str t2,.al 6 (l7.map aq.lv),.L cU])]) (Wk.trans (Wk.bk 108 [.I p1,.I p2,.str t2,.al 6 (l7.map aq.lv),.L cU] R R R (bH R)) (Wk.eq R R R R))))))))) (LH.ret ?_))))
  obtain rfl:=oI h
  exact aN (aT Tryz.results29) (cN R cv eZ cd R R (bL ⟨aM (mC R mN),R,aX R,Sub.rfl⟩))
theorem RU {p0:aP} {p1:Int} {r:aL × aP} (h:CI p0 p1=some r):aO Tryz.prog 31 [.ptr 7 0,.I p1] (Mem.of [(7,.box [.L p0.L,.I p0.At])]) (.agg [.I r.1.Time,.I r.1.Source,.I r.1.Seq]) (Mem.of [(7,.box [.L r.2.L,.I r.2.At])]):=by
  unfold CI at h
  refine bx Tryz.func31 R (nT Tryz.ntmps31 R) (LH.wk (aQ [(0,.ptr 7 0),(1,.I p1)] [(7,.box [.L p0.L,.I p0.At])]) (LH.aj [(0,.ptr 7 0),(1,.I p1),(4,.ptr 104 0)] [(7,.box [.L p0.L,.I p0.At]),(104,.box [.I 0,.I 0,.I 0])] R (sN (j0 (id:=104) R uO R R zS)) ?_))
  obtain ⟨r1,ei,h⟩:=ao h
  obtain ⟨r2,fH,h⟩:=ao h
  obtain ⟨r3,ot,h⟩:=ao h
  refine LH.aj [(0,.ptr 7 0),(1,.I p1),(4,.ptr 104 0),(5,.ptr 105 0)] [(7,.box [.L r3.2.L,.I r3.2.At]),(104,.box [.I 0,.I 0,.I 0]),(105,.box [.I r1.1,.I r2.1,.I r3.1])] R (ig R (sN (dX (args:=[.ptr 7 0,.I 0,.I 24]) (ml:=[(7,.box [.L p0.L,.I p0.At])]) (cQ:=[(7,.box [.L r1.2.L,.I r1.2.At])]) R oc R (aI (aI (aI bm))) (nX ei) (mC R mN) (bT R bU) R (ig R (sN (dX (args:=[.ptr 7 0,.I 0,.I 3]) (ml:=[(7,.box [.L r1.2.L,.I r1.2.At])]) (cQ:=[(7,.box [.L r2.2.L,.I r2.2.At])]) R oc R (aI (aI (aI bm))) (nX fH) (mC R mN) (bT R bU) R (ig R (sN (dX (args:=[.ptr 7 0,.I 0,.I 9]) (ml:=[(7,.box [.L r2.2.L,.I r2.2.At])]) (cQ:=[(7,.box [.L r3.2.L,.I r3.2.At])]) R oc R (aI (aI (aI bm))) (nX ot) (mC R mN) (bT R bU) R (sN (fU (vs:=[(0,.I r1.1),(1,.I r2.1),(2,.I r3.1)]) Hg uO R (lf fc bb aE R R R (lf ez bb aE R R R (lf dL bb aE R R R fT))) (sN (j0 (id:=105) R uO R R (s_ (cF R R R cc b7 R R R zS))))))))))))))) (LH.seq ?_)
  obtain ⟨w7,hv,h⟩:=ao h
  refine LH.aj [(0,.ptr 7 0),(4,.ptr 104 0),(5,.ptr 105 0),(19,.bool w7.1)] [(7,.box [.L w7.2.1,.I w7.2.2]),(104,.box [.I 0,.I 0,.I 0]),(105,.box [.I r1.1,.I r2.1,.I r3.1])] R ?_ ?_
  ·refine br R (sN (jx R R (bM R ?_)))
   by_cases dy:(decide (p1 > 0))=true
   ·replace hv:=aB hv dy
    refine sT R (cB dy) (oM (v:=(.ptr _ _)) R (sT R (cB dy) (oM (v:=(.int _ _)) R ?_)))
    obtain ⟨r9,Fx,hv⟩:=ao hv
    refine sT R (cB dy) (dX (args:=[.ptr 7 0,.I p1]) (ml:=[(7,.box [.L r3.2.L,.I r3.2.At])]) (cQ:=[(7,.box [.L r9.2.L,.I r9.2.At])]) R tg R (aI (aI bm)) (Ah Fx) (mC R mN) (bT R bU) R (sN (aZ (cB dy) (v:=(.bool _)) R ?_)))
    obtain rfl:=oI hv
    exact zS
   ·replace dy:=bF dy
    replace hv:=aA hv dy
    refine sF R R dy (sF R R dy (sF R R dy (sN (aW (cB dy) (v:=(.bool _)) R ?_))))
    obtain rfl:=oI hv
    exact zS
  clear hv
  refine LH.cond (t:=w7.1) R (fun ib=>?_) (fun ib=>?_)
  ·replace h:=aB h ib
   obtain ⟨cm,kr,h⟩:=ao h
   refine LH.aj [(0,.ptr 7 0),(4,.ptr 104 0),(5,.ptr 105 0),(21,.I cm.1)] [(7,.box [.L cm.2.L,.I cm.2.At]),(104,.box [.I 0,.I 0,.I 0]),(105,.box [.I r1.1,.I r2.1,.I r3.1])] R (ig R (sN (dX (args:=[.ptr 7 0,.I 3]) (ml:=[(7,.box [.L w7.2.1,.I w7.2.2])]) (cQ:=[(7,.box [.L cm.2.L,.I cm.2.At])]) R gJ R (aI (aI bm)) (kT kr) (mC R mN) (bT R bU) R zS))) (LH.block (LH.aj [(0,.ptr 7 0),(4,.ptr 104 0),(5,.ptr 105 0),(21,.I cm.1),(25,.bool (cm.1 == 0))] [(7,.box [.L cm.2.L,.I cm.2.At]),(104,.box [.I 0,.I 0,.I 0]),(105,.box [.I r1.1,.I r2.1,.I r3.1])] R (sN (gr R R (ct R zS))) (LH.cond (t:=(cm.1 == 0)) R (fun gh=>?_) (fun gh=>?_))))
   ·replace h:=aB h gh
    obtain ⟨rH,Lj,h⟩:=ao h
    refine LH.aS [(4,.ptr 104 0),(5,.ag [.I rH.1,.I r2.1,.I r3.1])] [(7,.box [.L rH.2.L,.I rH.2.At]),(104,.box [.I 0,.I 0,.I 0])] R (ig R (sN (dX (args:=[.ptr 7 0]) (ml:=[(7,.box [.L cm.2.L,.I cm.2.At])]) (cQ:=[(7,.box [.L rH.2.L,.I rH.2.At])]) R u6 R (aI bm) (CJ Lj) (mC R mN) (bT R bU) R (sN (dI fc aE bb R R (s_ (cF R R R aE bb R R R (s0 ((Wk.trans (aQ [(4,.ptr 104 0),(5,.ptr 105 0)] [(7,.box [.L rH.2.L,.I rH.2.At]),(104,.box [.I 0,.I 0,.I 0]),(105,.box [.I rH.1,.I r2.1,.I r3.1])]) (Wk.trans (Wk.bk 105 [.I rH.1,.I r2.1,.I r3.1] R R R (bH R)) (Wk.eq R R R R)))))))))))) (aY (au (LH.aj [(4,.ag [.I rH.1,.I r2.1,.I r3.1])] [(7,.box [.L rH.2.L,.I rH.2.At])] R (sN (bc R cc gp b7 R R (s_ (cF R R R cc b7 R R R (s0 ((Wk.trans (aQ [(4,.ptr 104 0)] [(7,.box [.L rH.2.L,.I rH.2.At]),(104,.box [.I rH.1,.I r2.1,.I r3.1])]) (Wk.trans (Wk.bk 104 [.I rH.1,.I r2.1,.I r3.1] R R R (bH R)) (Wk.eq R R R R))))))))) (LH.ret ?_))))
    obtain rfl:=oI h
    exact aN (aT Tryz.results31) (cN R cc gp b7 R R (bL ⟨aM (mC R mN),R,aX R,Sub.rfl⟩))
   replace h:=aA h gh
   refine LH.aj [(0,.ptr 7 0),(4,.ptr 104 0),(5,.ptr 105 0),(30,.bool (cm.1 == 1))] [(7,.box [.L cm.2.L,.I cm.2.At]),(104,.box [.I 0,.I 0,.I 0]),(105,.box [.I r1.1,.I r2.1,.I r3.1])] R (sN (gr R R (ct R zS))) (LH.cond (t:=(cm.1 == 1)) R (fun pI=>?_) (fun pI=>?_))
   ·replace h:=aB h pI
    obtain ⟨fD,td,h⟩:=ao h
    refine LH.aS [(4,.ptr 104 0),(5,.ag [.I r1.1,.I fD.1,.I r3.1])] [(7,.box [.L fD.2.L,.I fD.2.At]),(104,.box [.I 0,.I 0,.I 0])] R (ig R (sN (dX (args:=[.ptr 7 0]) (ml:=[(7,.box [.L cm.2.L,.I cm.2.At])]) (cQ:=[(7,.box [.L fD.2.L,.I fD.2.At])]) R u6 R (aI bm) (CJ td) (mC R mN) (bT R bU) R (sN (dI ez aE bb R R (s_ (cF R R R aE bb R R R (s0 ((Wk.trans (aQ [(4,.ptr 104 0),(5,.ptr 105 0)] [(7,.box [.L fD.2.L,.I fD.2.At]),(104,.box [.I 0,.I 0,.I 0]),(105,.box [.I r1.1,.I fD.1,.I r3.1])]) (Wk.trans (Wk.bk 105 [.I r1.1,.I fD.1,.I r3.1] R R R (bH R)) (Wk.eq R R R R)))))))))))) (aY (au (LH.aj [(4,.ag [.I r1.1,.I fD.1,.I r3.1])] [(7,.box [.L fD.2.L,.I fD.2.At])] R (sN (bc R cc gp b7 R R (s_ (cF R R R cc b7 R R R (s0 ((Wk.trans (aQ [(4,.ptr 104 0)] [(7,.box [.L fD.2.L,.I fD.2.At]),(104,.box [.I r1.1,.I fD.1,.I r3.1])]) (Wk.trans (Wk.bk 104 [.I r1.1,.I fD.1,.I r3.1] R R R (bH R)) (Wk.eq R R R R))))))))) (LH.ret ?_))))
    obtain rfl:=oI h
    exact aN (aT Tryz.results31) (cN R cc gp b7 R R (bL ⟨aM (mC R mN),R,aX R,Sub.rfl⟩))
   replace h:=aA h pI
   obtain ⟨fW,Fu,h⟩:=ao h
   refine LH.aS [(4,.ptr 104 0),(5,.ag [.I r1.1,.I r2.1,.I fW.1])] [(7,.box [.L fW.2.L,.I fW.2.At]),(104,.box [.I 0,.I 0,.I 0])] R (ig R (sN (dX (args:=[.ptr 7 0]) (ml:=[(7,.box [.L cm.2.L,.I cm.2.At])]) (cQ:=[(7,.box [.L fW.2.L,.I fW.2.At])]) R u6 R (aI bm) (CJ Fu) (mC R mN) (bT R bU) R (sN (dI dL aE bb R R (s_ (cF R R R aE bb R R R (s0 ((Wk.trans (aQ [(4,.ptr 104 0),(5,.ptr 105 0)] [(7,.box [.L fW.2.L,.I fW.2.At]),(104,.box [.I 0,.I 0,.I 0]),(105,.box [.I r1.1,.I r2.1,.I fW.1])]) (Wk.trans (Wk.bk 105 [.I r1.1,.I r2.1,.I fW.1] R R R (bH R)) (Wk.eq R R R R)))))))))))) (aY (au (LH.aj [(4,.ag [.I r1.1,.I r2.1,.I fW.1])] [(7,.box [.L fW.2.L,.I fW.2.At])] R (sN (bc R cc gp b7 R R (s_ (cF R R R cc b7 R R R (s0 ((Wk.trans (aQ [(4,.ptr 104 0)] [(7,.box [.L fW.2.L,.I fW.2.At]),(104,.box [.I r1.1,.I r2.1,.I fW.1])]) (Wk.trans (Wk.bk 104 [.I r1.1,.I r2.1,.I fW.1] R R R (bH R)) (Wk.eq R R R R))))))))) (LH.ret ?_))))
   obtain rfl:=oI h
   exact aN (aT Tryz.results31) (cN R cc gp b7 R R (bL ⟨aM (mC R mN),R,aX R,Sub.rfl⟩))
  replace h:=aA h ib
  refine LH.skip (au (LH.wk ((Wk.trans (aQ [(4,.ptr 104 0),(5,.ptr 105 0)] [(7,.box [.L w7.2.1,.I w7.2.2]),(104,.box [.I 0,.I 0,.I 0]),(105,.box [.I r1.1,.I r2.1,.I r3.1])]) (Wk.trans (Wk.bk 105 [.I r1.1,.I r2.1,.I r3.1] R R R (bH R)) (aQ [(4,.ptr 104 0),(5,.ag [.I r1.1,.I r2.1,.I r3.1])] [(7,.box [.L w7.2.1,.I w7.2.2]),(104,.box [.I 0,.I 0,.I 0])])))) (LH.aj [(4,.ag [.I r1.1,.I r2.1,.I r3.1])] [(7,.box [.L w7.2.1,.I w7.2.2])] R (sN (bc R cc gp b7 R R (s_ (cF R R R cc b7 R R R (s0 ((Wk.trans (aQ [(4,.ptr 104 0)] [(7,.box [.L w7.2.1,.I w7.2.2]),(104,.box [.I r1.1,.I r2.1,.I r3.1])]) (Wk.trans (Wk.bk 104 [.I r1.1,.I r2.1,.I r3.1] R R R (bH R)) (Wk.eq R R R R))))))))) (LH.ret ?_))))
  obtain rfl:=oI h
  exact aN (aT Tryz.results31) (cN R cc gp b7 R R (bL ⟨aM (mC R mN),R,aX R,Sub.rfl⟩))
set_option maxHeartbeats 4000000 in
theorem Nb {F:Nat} {p0:aP} {p1:Int} {p2:Int} {r:List ax × aP} (h:Kq F p0 p1 p2=some r):aO Tryz.prog 8 [.ptr 7 0,.I p1,.I p2] (Mem.of [(7,.box [.L p0.L,.I p0.At])]) (.al 12 (r.1.map ax.lv)) (Mem.of [(7,.box [.L r.2.L,.I r.2.At])]):=by
  unfold Kq at h
  refine bx Tryz.func8 R (nT Tryz.ntmps8 R) (LH.wk (aQ [(0,.ptr 7 0),(1,.I p1),(2,.I p2)] [(7,.box [.L p0.L,.I p0.At])]) (LH.aj [(0,.ptr 7 0),(1,.I p1),(2,.I p2)] [(7,.box [.L p0.L,.I p0.At])] R (k9 R zS) (LH.aj [(0,.ptr 7 0),(1,.I p1),(2,.I p2),(7,.nil)] [(7,.box [.L p0.L,.I p0.At])] R (k9 R zS) ?_)))
  obtain ⟨v1,jY,h⟩:=ao h
  refine LH.aj [(0,.ptr 7 0),(1,.I p1),(2,.I p2),(7,.nil),(8,.arr 112 v1.length)] [(7,.box [.L p0.L,.I p0.At]),(112,.arr 3 1 (v1.map LV.I))] R (sN (RF (f:=LV.I) (z:=0) (id:=112) R cJ Uc rj bb R R R jY R (nQ R zS))) (LH.seq ?_)
  obtain ⟨r2,fH,h⟩:=ao h
  refine LH.aj [(0,.ptr 7 0),(2,.I p2),(7,.nil),(8,.arr 112 v1.length),(9,.I r2.1)] [(7,.box [.L r2.2.L,.I r2.2.At]),(112,.arr 3 1 (v1.map LV.I))] R (ig R (br R (sN (dX (args:=[.ptr 7 0,.I 0,.I p1]) (ml:=[(7,.box [.L p0.L,.I p0.At])]) (cQ:=[(7,.box [.L r2.2.L,.I r2.2.At])]) R oc R (aI (aI (aI bm))) (nX fH) (mC R mN) (bT R bU) R (bt R zS))))) (LH.block (LH.wk ((Wk.trans (aQ [(0,.ptr 7 0),(2,.I p2),(7,.nil),(8,.arr 112 v1.length),(9,.I r2.1)] [(7,.box [.L r2.2.L,.I r2.2.At]),(112,.arr 3 1 (v1.map LV.I))]) (Wk.trans (aQ [(0,.ptr 7 0),(2,.I p2),(7,.nil),(8,.arr 112 v1.length),(9,.I r2.1)] [(7,.box [.L r2.2.L,.I r2.2.At]),(112,.arr 3 1 (v1.map LV.I))]) (Wk.trans (Wk.tC (fB:=[(0,.ptr 7 0),(2,.I p2),(7,.arr 221 (List.length ([]:List ax))),(8,.arr 112 v1.length),(9,.I r2.1)]) 221 63 12 R R (wK (wK (wO (wK (wK wN)))))) (aQ [(0,.ptr 7 0),(2,.I p2),(7,.arr 221 (List.length ([]:List ax))),(8,.arr 112 v1.length),(9,.I r2.1)] [(7,.box [.L r2.2.L,.I r2.2.At]),(112,.arr 3 1 (v1.map LV.I)),(221,.arr 63 12 (List.map ax.lv ([]:List ax)))]))))) (LH.loop (fun n e m=>∃ (n3:Int) (l4:List Int) (n5:Int) (l6:List Int) (l7:List ax),Ev F p2 n n3 l4 n5 l6 l7=some r∧e=Env.of [(0,.ptr 7 0),(2,.I p2),(7,.arr 221 l7.length),(8,.arr 112 l6.length),(9,.I n3)]∧m=Mem.of [(7,.box [.L l4,.I n5]),(112,.arr 3 1 (l6.map LV.I)),(221,.arr 63 12 (l7.map ax.lv))]) F ⟨r2.1,r2.2.L,r2.2.At,v1,([]:List ax),h,R,R⟩ ?_)))
  clear h
  rintro n e m ⟨n3,l4,n5,l6,l7,h,rfl,rfl⟩
  rcases n with _ | n
  · cases (show Option.none=some _ from h)
  obtain ⟨aK,a7⟩:∃ f,f=Ev F p2 n:=⟨_,rfl⟩
  replace h:Ew F p2 aK n3 l4 n5 l6 l7=some r:=a7 ▸ h
  unfold Ew at h
  refine LH.seq (LH.aj [(0,.ptr 7 0),(2,.I p2),(7,.arr 221 l7.length),(8,.arr 112 l6.length),(9,.I n3),(17,.bool (decide (n3 > 0)))] [(7,.box [.L l4,.I n5]),(112,.arr 3 1 (l6.map LV.I)),(221,.arr 63 12 (l7.map ax.lv))] R (br R (sN (jx R R zS))) (LH.cond (t:=(decide (n3 > 0))) R (fun kY=>?_) (fun kY=>?_)))
  ·replace h:=aB h kY
   refine LH.skip (au (LH.wk (aQ [(0,.ptr 7 0),(2,.I p2),(7,.arr 221 l7.length),(8,.arr 112 l6.length),(9,.I n3)] [(7,.box [.L l4,.I n5]),(112,.arr 3 1 (l6.map LV.I)),(221,.arr 63 12 (l7.map ax.lv))]) (LH.seq (LH.block ?_))))
   obtain ⟨r9,Fx,h⟩:=ao h
   refine LH.aj [(0,.ptr 7 0),(2,.I p2),(7,.arr 221 l7.length),(8,.arr 112 l6.length),(9,.I n3),(10,.I r9.1)] [(7,.box [.L r9.2.L,.I r9.2.At]),(112,.arr 3 1 (l6.map LV.I)),(221,.arr 63 12 (l7.map ax.lv))] R (ig R (sN (dX (args:=[.ptr 7 0,.I 5]) (ml:=[(7,.box [.L l4,.I n5])]) (cQ:=[(7,.box [.L r9.2.L,.I r9.2.At])]) R gJ R (aI (aI bm)) (kT Fx) (mC R mN) (bT R bU) R (bt R zS)))) ?_
   obtain ⟨dG,qu,h⟩:=ao h
   obtain ⟨cm,kr,h⟩:=ao h
   obtain ⟨dD,Ft,h⟩:=ao h
   obtain ⟨fg,ob,h⟩:=ao h
   obtain ⟨e7,tc,h⟩:=ao h
   refine LH.cO mixed [] [0,1221,0,100007,0,0,100007,0,1221,0,0,0,100007,0,0,0,1112,1112,4,0,0,100007,0,2,100111] [(0,.ptr 7 0),(2,.I p2),(7,.arr 221 l7.length),(8,.arr 112 l6.length),(9,.I n3),(10,.I r9.1),(11,.ptr 111 0)] [(7,.box [.L e7.2.L,.I e7.2.At]),(111,.box [.I (i64 ((l7.length:Int)+dG.1)),.I cm.1,.I (l7.length:Int),.I dD.1,.I 0,.I 0,.str (ByteArray.mk #[]),.nil,.nil,.I r9.1,.I (max 1 fg),.I e7.1]),(112,.arr 3 1 (l6.map LV.I)),(221,.arr 63 12 (l7.map ax.lv))] R R (by kernel_rfl) ?_ ?_
   ·exact PN R (mD R R R (fun _ b _ d=>F8 (f:=ax.lv) fR R b d) (Cd R (mW R R R (fun _ b _ d=>dX (args:=[.ptr 7 0,.I 2]) (ml:=[(7,.box [.L r9.2.L,.I r9.2.At])]) (cQ:=[(7,.box [.L dG.2.L,.I dG.2.At])]) R gJ R (aI (aI bm)) (kT qu) (mC b mN) (bT R bU) R d) (aD (cI R R ⟨R,Cd R (mW R R R (fun _ b _ d=>dX (args:=[.ptr 7 0,.I 2]) (ml:=[(7,.box [.L dG.2.L,.I dG.2.At])]) (cQ:=[(7,.box [.L cm.2.L,.I cm.2.At])]) R gJ R (aI (aI bm)) (kT kr) (mC b mN) (bT R bU) R d) (PN R (mD R R R (fun _ b _ d=>F8 (f:=ax.lv) fR R b d) (aD (fU (vs:=[(0,.I (i64 ((l7.length:Int)+dG.1))),(1,.I cm.1),(2,.I (l7.length:Int))]) Hg uO R (lf fc bb aE R R R (lf ez bb aE R R R (lf dL bb aE R R R fT))) ⟨R,Cd R (aD (ka (f:=LV.I) (ys:=[3,4,4,2,5,6]) cJ rj bb R R R mu ⟨R,mW R R R (fun _ b _ d=>dX (args:=[.ptr 7 0,.L [3,4,4,2,5,6]]) (ml:=[(7,.box [.L cm.2.L,.I cm.2.At])]) (cQ:=[(7,.box [.L dD.2.L,.I dD.2.At])]) R yb R (aI (aI bm)) (EB Ft) (mC b mN) (bT R bU) R d) (fC R (PN R (fC R (mD R R R (fun _ b _ d=>gV (f:=LV.I) cJ aE bb R b R ob d) (mD R R R (fun _ b _ d=>wz (f:=LV.I) R b (dB ob).2 R R R aE bN d) (mM (fun _=>Ge R R) (aD (fU (vs:=[(0,.I r9.1),(1,.I (max 1 fg))]) D6 D7 R (lf jK bb aE R R R (lf fa bb aE R R R fT)) ⟨R,Cd R (mW R R R (fun _ b _ d=>dX (args:=[.ptr 7 0,.I 4]) (ml:=[(7,.box [.L dD.2.L,.I dD.2.At])]) (cQ:=[(7,.box [.L e7.2.L,.I e7.2.At])]) R gJ R (aI (aI bm)) (kT tc) (mC b mN) (bT R bU) R d) (aD (fU (vs:=[(0,.agg [.I (i64 ((l7.length:Int)+dG.1)),.I cm.1,.I (l7.length:Int)]),(1,.I dD.1),(3,.agg [.I r9.1,.I (max 1 fg)]),(4,.I e7.1)]) IM xg R (lf di b7 cc R R R (lf dM bb aE R R R (lf e5 gA gM R R R (lf lg bb aE R R R fT)))) ⟨R,yh (j0 (id:=111) R xg R R (mS R R R (fun _ b _ d=>cF R R R eo dF b R R d) zM))⟩)))⟩))))))))⟩))⟩)))))⟩)))))
   refine LH.mid (fun e m=>∃ (L4:List Int) (n16:Int) (n17:Int) (n18:Int) (n19:Int) (t20:ByteArray) (mo:List aq) (mq:List Int) (n23:Int) (n24:Int) (n25:Int) (gT:List Int),MK aK p2 n3 l7 dG cm L4 n16 n17 n18 n19 t20 mo mq n23 n24 n25 gT=some r∧Wk (fun id=>Mem.of [(7,.box [.L p0.L,.I p0.At])] id ≠ .none) e m (Env.of [(0,.ptr 7 0),(2,.I p2),(7,.arr 221 l7.length),(8,.arr 112 gT.length),(9,.I n3),(11,.ptr 111 0)]) (Mem.of [(7,.box [.L L4,.I n16]),(111,.box [.I (i64 ((l7.length:Int)+dG.1)),.I cm.1,.I (l7.length:Int),.I n17,.I n18,.I n19,.str t20,.al 6 (mo.map aq.lv),.L mq,.I n23,.I n24,.I n25]),(112,.arr 3 1 (gT.map LV.I)),(221,.arr 63 12 (l7.map ax.lv))])) ?_ ?_
   ·obtain ⟨RN,hv,h⟩:=ao h
    refine LH.aj [(0,.ptr 7 0),(2,.I p2),(7,.arr 221 l7.length),(8,.arr 112 l6.length),(9,.I n3),(10,.I r9.1),(11,.ptr 111 0),(54,.bool RN)] [(7,.box [.L e7.2.L,.I e7.2.At]),(111,.box [.I (i64 ((l7.length:Int)+dG.1)),.I cm.1,.I (l7.length:Int),.I dD.1,.I 0,.I 0,.str (ByteArray.mk #[]),.nil,.nil,.I r9.1,.I (max 1 fg),.I e7.1]),(112,.arr 3 1 (l6.map LV.I)),(221,.arr 63 12 (l7.map ax.lv))] R ?_ ?_
    ·refine jQ R (br R ?_)
     obtain ⟨Q6,OG,hv⟩:=ao hv
     refine sN (gV (f:=LV.I) cJ aE bb R R R OG (sN (wz (f:=LV.I) R R (dB OG).2 R R R aE bN (sN (gr R R (bM R ?_))))))
     by_cases rz:(Q6 == 0)=true
     ·replace hv:=aB hv rz
      refine sF R R rz (sF R R rz (sF R R rz (sN (aZ (cB rz) (v:=(.bool _)) R ?_))))
      obtain rfl:=oI hv
      exact zS
     ·replace rz:=bF rz
      replace hv:=aA hv rz
      refine sT R (cB rz) (dI dM aE bb R R (sT R (cB rz) (dQ R R R R aE bN (sT R (cB rz) (gr R R (sN (aW (cB rz) (v:=(.bool _)) R ?_)))))))
      obtain rfl:=oI hv
      exact zS
    clear hv
    refine LH.cond (t:=RN) R (fun HX=>?_) (fun HX=>?_)
    ·replace h:=aB h HX
     refine LH.aj [(0,.ptr 7 0),(2,.I p2),(7,.arr 221 l7.length),(8,.arr 112 l6.length),(9,.I n3),(10,.I r9.1),(11,.ptr 111 0)] [(7,.box [.L e7.2.L,.I e7.2.At]),(111,.box [.I (i64 ((l7.length:Int)+dG.1)),.I cm.1,.I (l7.length:Int),.I 2,.I 0,.I 0,.str (ByteArray.mk #[]),.nil,.nil,.I r9.1,.I (max 1 fg),.I e7.1]),(112,.arr 3 1 (l6.map LV.I)),(221,.arr 63 12 (l7.map ax.lv))] R (sN (dI dM aE bb R R (s_ (cF R R R aE bb R R R zS)))) (LH.mid (fun e m=>∃ (JL:Int),ML aK F p2 n3 l6 l7 r9 dG cm e7 JL=some r∧Wk (fun id=>Mem.of [(7,.box [.L p0.L,.I p0.At])] id ≠ .none) e m (Env.of [(0,.ptr 7 0),(2,.I p2),(7,.arr 221 l7.length),(8,.arr 112 l6.length),(9,.I n3),(10,.I r9.1),(11,.ptr 111 0)]) (Mem.of [(7,.box [.L e7.2.L,.I e7.2.At]),(111,.box [.I (i64 ((l7.length:Int)+dG.1)),.I cm.1,.I (l7.length:Int),.I JL,.I 0,.I 0,.str (ByteArray.mk #[]),.nil,.nil,.I r9.1,.I (max 1 fg),.I e7.1]),(112,.arr 3 1 (l6.map LV.I)),(221,.arr 63 12 (l7.map ax.lv))])) ?_ ?_)
     ·obtain ⟨Q8,OK,h⟩:=ao h
      refine LH.aj [(0,.ptr 7 0),(2,.I p2),(7,.arr 221 l7.length),(8,.arr 112 l6.length),(9,.I n3),(10,.I r9.1),(11,.ptr 111 0),(60,.bool (Q8 == 0))] [(7,.box [.L e7.2.L,.I e7.2.At]),(111,.box [.I (i64 ((l7.length:Int)+dG.1)),.I cm.1,.I (l7.length:Int),.I 2,.I 0,.I 0,.str (ByteArray.mk #[]),.nil,.nil,.I r9.1,.I (max 1 fg),.I e7.1]),(112,.arr 3 1 (l6.map LV.I)),(221,.arr 63 12 (l7.map ax.lv))] R (jQ R (br R (sN (gV (f:=LV.I) cJ aE bb R R R OK (sN (wz (f:=LV.I) R R (dB OK).2 R R R aE bN (sN (gr R R zS)))))))) (LH.cond (t:=(Q8 == 0)) R (fun KS=>?_) (fun KS=>?_))
      ·replace h:=aB h KS
       exact LH.aS [(0,.ptr 7 0),(2,.I p2),(7,.arr 221 l7.length),(8,.arr 112 l6.length),(9,.I n3),(10,.I r9.1),(11,.ptr 111 0)] [(7,.box [.L e7.2.L,.I e7.2.At]),(111,.box [.I (i64 ((l7.length:Int)+dG.1)),.I cm.1,.I (l7.length:Int),.I 1,.I 0,.I 0,.str (ByteArray.mk #[]),.nil,.nil,.I r9.1,.I (max 1 fg),.I e7.1]),(112,.arr 3 1 (l6.map LV.I)),(221,.arr 63 12 (l7.map ax.lv))] R (sN (dI dM aE bb R R (s_ (cF R R R aE bb R R R zS)))) (au ⟨1,h,Wk.eq R R R R⟩)
      replace h:=aA h KS
      exact LH.skip (au ⟨2,h,Wk.eq R R R R⟩)
     clear h
     rintro e m ⟨JL,h,hw⟩
     refine LH.wk hw ?_
     clear hw
     unfold ML at h
     obtain ⟨HG,OH,h⟩:=ao h
     obtain ⟨Vm,OI,h⟩:=ao h
     refine LH.aj [(0,.ptr 7 0),(2,.I p2),(7,.arr 221 l7.length),(8,.arr 112 (List.length (l6.set r9.1.toNat (min (i64 (HG+1)) 9)))),(9,.I n3),(10,.I r9.1),(11,.ptr 111 0)] [(7,.box [.L e7.2.L,.I e7.2.At]),(111,.box [.I (i64 ((l7.length:Int)+dG.1)),.I cm.1,.I (l7.length:Int),.I JL,.I 0,.I 0,.str (ByteArray.mk #[]),.nil,.nil,.I r9.1,.I (max 1 fg),.I e7.1]),(112,.arr 3 1 (List.map LV.I (l6.set r9.1.toNat (min (i64 (HG+1)) 9)))),(221,.arr 63 12 (l7.map ax.lv))] R (jQ R (br R (jQ R (br R (sN (gV (f:=LV.I) cJ aE bb R R R OH (sN (wz (f:=LV.I) R R (dB OH).2 R R R aE bN (sN (cI R R (sX ((Mf R R).ok) (sN (gV (f:=LV.I) cJ aE bb R R R OI (s_ (qx (f:=LV.I) (z':=(min (i64 (HG+1)) 9)) R R R R aE bb R (dB OI).2 R (s0 (Wk.to (eC R (eC R (eC R (eC (congrArg (LV.arr 112) (by simp)) (eC R (eC R (eC R eN))))))) ⟨R,R,R,R,trivial⟩ R (aX R)))))))))))))))))) ?_
     obtain ⟨Q7,OJ,h⟩:=ao h
     obtain ⟨rJ,Ta,h⟩:=ao h
     refine LH.aS [(0,.ptr 7 0),(2,.I p2),(7,.arr 221 l7.length),(8,.arr 112 (List.length (l6.set r9.1.toNat (min (i64 (HG+1)) 9)))),(9,.I n3),(11,.ptr 111 0)] [(7,.box [.L rJ.2.L,.I rJ.2.At]),(111,.box [.I (i64 ((l7.length:Int)+dG.1)),.I cm.1,.I (l7.length:Int),.I JL,.I rJ.1.ID,.I rJ.1.Version,.str rJ.1.bJ,.al 6 (rJ.1.aH.map aq.lv),.L rJ.1.aF,.I 0,.I 0,.I 0]),(112,.arr 3 1 (List.map LV.I (l6.set r9.1.toNat (min (i64 (HG+1)) 9)))),(221,.arr 63 12 (l7.map ax.lv))] R ?_ ?_
     ·exact ig R (br R (jQ R (br R (sN (gV (f:=LV.I) cJ aE bb R R R OJ (sN (wz (f:=LV.I) R R (dB OJ).2 R R R aE bN (br R (sN (dX (args:=[.ptr 7 0,.I r9.1,.I Q7,.I p2]) (ml:=[(7,.box [.L e7.2.L,.I e7.2.At])]) (cQ:=[(7,.box [.L rJ.2.L,.I rJ.2.At])]) R OX R (aI (aI (aI (aI bm)))) (RS Ta) (mC R mN) (bT R bU) R (sN (fU (vs:=[]) D6 D7 R fT (sN (dI fe cv cd R R (s_ (cF R R R cv cd R R R (sN (dI e5 gM gA R R (s_ (cF R R R gM gA R R R (sN (dI lg aE bb R R (s_ (cF R R R aE bb R R R zS))))))))))))))))))))))))
     exact au ⟨rJ.2.L,rJ.2.At,JL,rJ.1.ID,rJ.1.Version,rJ.1.bJ,rJ.1.aH,rJ.1.aF,0,0,0,(l6.set r9.1.toNat (min (i64 (HG+1)) 9)),h,Wk.eq R R R R⟩
    replace h:=aA h HX
    exact LH.skip (au ⟨e7.2.L,e7.2.At,dD.1,0,0,(ByteArray.mk #[]),([]:List aq),([]:List Int),r9.1,(max 1 fg),e7.1,l6,h,(Wk.trans (aQ [(0,.ptr 7 0),(2,.I p2),(7,.arr 221 l7.length),(8,.arr 112 l6.length),(9,.I n3),(11,.ptr 111 0)] [(7,.box [.L e7.2.L,.I e7.2.At]),(111,.box [.I (i64 ((l7.length:Int)+dG.1)),.I cm.1,.I (l7.length:Int),.I dD.1,.I 0,.I 0,.str (ByteArray.mk #[]),.nil,.nil,.I r9.1,.I (max 1 fg),.I e7.1]),(112,.arr 3 1 (l6.map LV.I)),(221,.arr 63 12 (l7.map ax.lv))]) (Wk.trans (aQ [(0,.ptr 7 0),(2,.I p2),(7,.arr 221 l7.length),(8,.arr 112 l6.length),(9,.I n3),(11,.ptr 111 0)] [(7,.box [.L e7.2.L,.I e7.2.At]),(111,.box [.I (i64 ((l7.length:Int)+dG.1)),.I cm.1,.I (l7.length:Int),.I dD.1,.I 0,.I 0,.str (ByteArray.mk #[]),.nil,.nil,.I r9.1,.I (max 1 fg),.I e7.1]),(112,.arr 3 1 (l6.map LV.I)),(221,.arr 63 12 (l7.map ax.lv))]) (Wk.trans (Wk.vf 10117 86 6 111 7 R R R R R (bH R)) (Wk.trans (aQ [(0,.ptr 7 0),(2,.I p2),(7,.arr 221 l7.length),(8,.arr 112 l6.length),(9,.I n3),(11,.ptr 111 0)] [(7,.box [.L e7.2.L,.I e7.2.At]),(111,.box [.I (i64 ((l7.length:Int)+dG.1)),.I cm.1,.I (l7.length:Int),.I dD.1,.I 0,.I 0,.str (ByteArray.mk #[]),.arr 10117 (List.length ([]:List aq)),.nil,.I r9.1,.I (max 1 fg),.I e7.1]),(112,.arr 3 1 (l6.map LV.I)),(221,.arr 63 12 (l7.map ax.lv)),(10117,.arr 86 6 (List.map aq.lv ([]:List aq)))]) (Wk.trans (Wk.trans (Wk.fl (f:=aq.lv) 10117 86 6 ([]:List aq) 111 R R R (cw R (cw R (cw R (cw R (cw R (cw R (cw R (jm (cw R (cw R (cw R (cw R jl)))))))))))) R R (bH R)) (aQ [(0,.ptr 7 0),(2,.I p2),(7,.arr 221 l7.length),(8,.arr 112 l6.length),(9,.I n3),(11,.ptr 111 0)] [(7,.box [.L e7.2.L,.I e7.2.At]),(111,.box [.I (i64 ((l7.length:Int)+dG.1)),.I cm.1,.I (l7.length:Int),.I dD.1,.I 0,.I 0,.str (ByteArray.mk #[]),.al 6 (List.map aq.lv ([]:List aq)),.nil,.I r9.1,.I (max 1 fg),.I e7.1]),(112,.arr 3 1 (l6.map LV.I)),(221,.arr 63 12 (l7.map ax.lv))])) (Wk.trans (aQ [(0,.ptr 7 0),(2,.I p2),(7,.arr 221 l7.length),(8,.arr 112 l6.length),(9,.I n3),(11,.ptr 111 0)] [(7,.box [.L e7.2.L,.I e7.2.At]),(111,.box [.I (i64 ((l7.length:Int)+dG.1)),.I cm.1,.I (l7.length:Int),.I dD.1,.I 0,.I 0,.str (ByteArray.mk #[]),.al 6 (List.map aq.lv ([]:List aq)),.nil,.I r9.1,.I (max 1 fg),.I e7.1]),(112,.arr 3 1 (l6.map LV.I)),(221,.arr 63 12 (l7.map ax.lv))]) (Wk.trans (Wk.vf 10118 3 1 111 8 R R R R R (bH R)) (Wk.trans (aQ [(0,.ptr 7 0),(2,.I p2),(7,.arr 221 l7.length),(8,.arr 112 l6.length),(9,.I n3),(11,.ptr 111 0)] [(7,.box [.L e7.2.L,.I e7.2.At]),(111,.box [.I (i64 ((l7.length:Int)+dG.1)),.I cm.1,.I (l7.length:Int),.I dD.1,.I 0,.I 0,.str (ByteArray.mk #[]),.al 6 (List.map aq.lv ([]:List aq)),.arr 10118 (List.length ([]:List Int)),.I r9.1,.I (max 1 fg),.I e7.1]),(112,.arr 3 1 (l6.map LV.I)),(221,.arr 63 12 (l7.map ax.lv)),(10118,.arr 3 1 (List.map LV.I ([]:List Int)))]) (Wk.trans (Wk.trans (Wk.fl (f:=LV.I) 10118 3 1 ([]:List Int) 111 R R R (cw R (cw R (cw R (cw R (cw R (cw R (cw R (cw R (jm (cw R (cw R (cw R jl)))))))))))) R R (bH R)) (aQ [(0,.ptr 7 0),(2,.I p2),(7,.arr 221 l7.length),(8,.arr 112 l6.length),(9,.I n3),(11,.ptr 111 0)] [(7,.box [.L e7.2.L,.I e7.2.At]),(111,.box [.I (i64 ((l7.length:Int)+dG.1)),.I cm.1,.I (l7.length:Int),.I dD.1,.I 0,.I 0,.str (ByteArray.mk #[]),.al 6 (List.map aq.lv ([]:List aq)),.L ([]:List Int),.I r9.1,.I (max 1 fg),.I e7.1]),(112,.arr 3 1 (l6.map LV.I)),(221,.arr 63 12 (l7.map ax.lv))])) (Wk.eq R R R R))))))))))⟩)
   clear h
   rintro e m ⟨L4,n16,n17,n18,n19,t20,mo,mq,n23,n24,n25,gT,h,hw⟩
   refine LH.wk hw ?_
   clear hw
   unfold MK at h
   refine LH.mid (fun e m=>∃ (n27:Int) (n28:Int) (n29:Int) (n30:Int) (n31:Int) (n32:Int) (n33:Int) (L5:List Int) (n35:Int),Hp aK n3 l7 n18 t20 mo mq n25 gT n27 n28 n29 n30 n31 n32 n33 L5 n35=some r∧Wk (fun id=>Mem.of [(7,.box [.L p0.L,.I p0.At])] id ≠ .none) e m (Env.of [(0,.ptr 7 0),(2,.I p2),(7,.arr 221 l7.length),(8,.arr 112 gT.length),(9,.I n3),(11,.ag [.I n27,.I n28,.I n29,.I n30,.I n18,.I n31,.str t20,.al 6 (mo.map aq.lv),.L mq,.I n32,.I n33,.I n25])]) (Mem.of [(7,.box [.L L5,.I n35]),(112,.arr 3 1 (gT.map LV.I)),(221,.arr 63 12 (l7.map ax.lv))])) ?_ ?_
   ·obtain ⟨Af,hv,h⟩:=ao h
    refine LH.aj [(0,.ptr 7 0),(2,.I p2),(7,.arr 221 l7.length),(8,.arr 112 gT.length),(9,.I n3),(11,.ptr 111 0),(89,.bool Af.1)] [(7,.box [.L Af.2.1,.I Af.2.2]),(111,.box [.I (i64 ((l7.length:Int)+dG.1)),.I cm.1,.I (l7.length:Int),.I n17,.I n18,.I n19,.str t20,.al 6 (mo.map aq.lv),.L mq,.I n23,.I n24,.I n25]),(112,.arr 3 1 (gT.map LV.I)),(221,.arr 63 12 (l7.map ax.lv))] R ?_ ?_
    ·refine br R (sN (jx R R (bM R ?_)))
     by_cases ry:(decide (p2 > 0))=true
     ·replace hv:=aB hv ry
      refine sT R (cB ry) (oM (v:=(.ptr _ _)) R (sT R (cB ry) (oM (v:=(.int _ _)) R ?_)))
      obtain ⟨M8,S3,hv⟩:=ao hv
      refine sT R (cB ry) (dX (args:=[.ptr 7 0,.I p2]) (ml:=[(7,.box [.L L4,.I n16])]) (cQ:=[(7,.box [.L M8.2.L,.I M8.2.At])]) R tg R (aI (aI bm)) (Ah S3) (mC R mN) (bT R bU) R (sN (aZ (cB ry) (v:=(.bool _)) R ?_)))
      obtain rfl:=oI hv
      exact zS
     ·replace ry:=bF ry
      replace hv:=aA hv ry
      refine sF R R ry (sF R R ry (sF R R ry (sN (aW (cB ry) (v:=(.bool _)) R ?_))))
      obtain rfl:=oI hv
      exact zS
    clear hv
    refine LH.cond (t:=Af.1) R (fun KN=>?_) (fun KN=>?_)
    ·replace h:=aB h KN
     obtain ⟨kP,S4,h⟩:=ao h
     refine LH.aj [(0,.ptr 7 0),(2,.I p2),(7,.arr 221 l7.length),(8,.arr 112 gT.length),(9,.I n3),(11,.ptr 111 0),(91,.I kP.1)] [(7,.box [.L kP.2.L,.I kP.2.At]),(111,.box [.I (i64 ((l7.length:Int)+dG.1)),.I cm.1,.I (l7.length:Int),.I n17,.I n18,.I n19,.str t20,.al 6 (mo.map aq.lv),.L mq,.I n23,.I n24,.I n25]),(112,.arr 3 1 (gT.map LV.I)),(221,.arr 63 12 (l7.map ax.lv))] R (ig R (sN (dX (args:=[.ptr 7 0,.I 5]) (ml:=[(7,.box [.L Af.2.1,.I Af.2.2])]) (cQ:=[(7,.box [.L kP.2.L,.I kP.2.At])]) R gJ R (aI (aI bm)) (kT S4) (mC R mN) (bT R bU) R zS))) (LH.block (LH.aj [(0,.ptr 7 0),(2,.I p2),(7,.arr 221 l7.length),(8,.arr 112 gT.length),(9,.I n3),(11,.ptr 111 0),(91,.I kP.1),(96,.bool (kP.1 == 0))] [(7,.box [.L kP.2.L,.I kP.2.At]),(111,.box [.I (i64 ((l7.length:Int)+dG.1)),.I cm.1,.I (l7.length:Int),.I n17,.I n18,.I n19,.str t20,.al 6 (mo.map aq.lv),.L mq,.I n23,.I n24,.I n25]),(112,.arr 3 1 (gT.map LV.I)),(221,.arr 63 12 (l7.map ax.lv))] R (sN (gr R R (ct R zS))) (LH.cond (t:=(kP.1 == 0)) R (fun KO=>?_) (fun KO=>?_))))
     ·replace h:=aB h KO
      obtain ⟨z7,S5,h⟩:=ao h
      exact LH.aS [(0,.ptr 7 0),(2,.I p2),(7,.arr 221 l7.length),(8,.arr 112 gT.length),(9,.I n3),(11,.ag [.I (i64 ((l7.length:Int)+dG.1)),.I cm.1,.I (l7.length:Int),.I z7.1,.I n18,.I n19,.str t20,.al 6 (mo.map aq.lv),.L mq,.I n23,.I n24,.I n25])] [(7,.box [.L z7.2.L,.I z7.2.At]),(112,.arr 3 1 (gT.map LV.I)),(221,.arr 63 12 (l7.map ax.lv))] R (ig R (sN (dX (args:=[.ptr 7 0,.I (-1),.I 8]) (ml:=[(7,.box [.L kP.2.L,.I kP.2.At])]) (cQ:=[(7,.box [.L z7.2.L,.I z7.2.At])]) R oc R (aI (aI (aI bm))) (nX S5) (mC R mN) (bT R bU) R (sN (dI dM aE bb R R (s_ (cF R R R aE bb R R R (s0 ((Wk.trans (aQ [(0,.ptr 7 0),(2,.I p2),(7,.arr 221 l7.length),(8,.arr 112 gT.length),(9,.I n3),(11,.ptr 111 0)] [(7,.box [.L z7.2.L,.I z7.2.At]),(111,.box [.I (i64 ((l7.length:Int)+dG.1)),.I cm.1,.I (l7.length:Int),.I z7.1,.I n18,.I n19,.str t20,.al 6 (mo.map aq.lv),.L mq,.I n23,.I n24,.I n25]),(112,.arr 3 1 (gT.map LV.I)),(221,.arr 63 12 (l7.map ax.lv))]) (Wk.trans (Wk.bk 111 [.I (i64 ((l7.length:Int)+dG.1)),.I cm.1,.I (l7.length:Int),.I z7.1,.I n18,.I n19,.str t20,.al 6 (mo.map aq.lv),.L mq,.I n23,.I n24,.I n25] R R R (bH R)) (Wk.eq R R R R)))))))))))) (aY (au ⟨(i64 ((l7.length:Int)+dG.1)),cm.1,(l7.length:Int),z7.1,n19,n23,n24,z7.2.L,z7.2.At,h,Wk.eq R R R R⟩))
     replace h:=aA h KO
     refine LH.aj [(0,.ptr 7 0),(2,.I p2),(7,.arr 221 l7.length),(8,.arr 112 gT.length),(9,.I n3),(11,.ptr 111 0),(91,.I kP.1),(101,.bool (kP.1 == 1))] [(7,.box [.L kP.2.L,.I kP.2.At]),(111,.box [.I (i64 ((l7.length:Int)+dG.1)),.I cm.1,.I (l7.length:Int),.I n17,.I n18,.I n19,.str t20,.al 6 (mo.map aq.lv),.L mq,.I n23,.I n24,.I n25]),(112,.arr 3 1 (gT.map LV.I)),(221,.arr 63 12 (l7.map ax.lv))] R (sN (gr R R (ct R zS))) (LH.cond (t:=(kP.1 == 1)) R (fun KP=>?_) (fun KP=>?_))
     ·replace h:=aB h KP
      obtain ⟨z8,S6,h⟩:=ao h
      exact LH.aS [(0,.ptr 7 0),(2,.I p2),(7,.arr 221 l7.length),(8,.arr 112 gT.length),(9,.I n3),(11,.ag [.I (i64 ((l7.length:Int)+dG.1)),.I cm.1,.I (l7.length:Int),.I n17,.I n18,.I n19,.str t20,.al 6 (mo.map aq.lv),.L mq,.I n23,.I z8.1,.I n25])] [(7,.box [.L z8.2.L,.I z8.2.At]),(112,.arr 3 1 (gT.map LV.I)),(221,.arr 63 12 (l7.map ax.lv))] R (ig R (sN (dX (args:=[.ptr 7 0,.I (-1),.I 3]) (ml:=[(7,.box [.L kP.2.L,.I kP.2.At])]) (cQ:=[(7,.box [.L z8.2.L,.I z8.2.At])]) R oc R (aI (aI (aI bm))) (nX S6) (mC R mN) (bT R bU) R (sN (dI e5 gM gA R R (sN (dI fa aE bb R R (s_ (cF R R R aE bb R R R (s0 ((Wk.trans (aQ [(0,.ptr 7 0),(2,.I p2),(7,.arr 221 l7.length),(8,.arr 112 gT.length),(9,.I n3),(11,.ptr 111 0)] [(7,.box [.L z8.2.L,.I z8.2.At]),(111,.box [.I (i64 ((l7.length:Int)+dG.1)),.I cm.1,.I (l7.length:Int),.I n17,.I n18,.I n19,.str t20,.al 6 (mo.map aq.lv),.L mq,.I n23,.I z8.1,.I n25]),(112,.arr 3 1 (gT.map LV.I)),(221,.arr 63 12 (l7.map ax.lv))]) (Wk.trans (Wk.bk 111 [.I (i64 ((l7.length:Int)+dG.1)),.I cm.1,.I (l7.length:Int),.I n17,.I n18,.I n19,.str t20,.al 6 (mo.map aq.lv),.L mq,.I n23,.I z8.1,.I n25] R R R (bH R)) (Wk.eq R R R R)))))))))))))) (aY (au ⟨(i64 ((l7.length:Int)+dG.1)),cm.1,(l7.length:Int),n17,n19,n23,z8.1,z8.2.L,z8.2.At,h,Wk.eq R R R R⟩))
     replace h:=aA h KP
     refine LH.aj [(0,.ptr 7 0),(2,.I p2),(7,.arr 221 l7.length),(8,.arr 112 gT.length),(9,.I n3),(11,.ptr 111 0),(91,.I kP.1),(107,.bool (kP.1 == 2))] [(7,.box [.L kP.2.L,.I kP.2.At]),(111,.box [.I (i64 ((l7.length:Int)+dG.1)),.I cm.1,.I (l7.length:Int),.I n17,.I n18,.I n19,.str t20,.al 6 (mo.map aq.lv),.L mq,.I n23,.I n24,.I n25]),(112,.arr 3 1 (gT.map LV.I)),(221,.arr 63 12 (l7.map ax.lv))] R (sN (gr R R (ct R zS))) (LH.cond (t:=(kP.1 == 2)) R (fun KQ=>?_) (fun KQ=>?_))
     ·replace h:=aB h KQ
      obtain ⟨Aa,S7,h⟩:=ao h
      exact LH.aS [(0,.ptr 7 0),(2,.I p2),(7,.arr 221 l7.length),(8,.arr 112 gT.length),(9,.I n3),(11,.ag [.I (i64 ((l7.length:Int)+dG.1)),.I cm.1,.I (l7.length:Int),.I n17,.I n18,.I n19,.str t20,.al 6 (mo.map aq.lv),.L mq,.I Aa.1,.I n24,.I n25])] [(7,.box [.L Aa.2.L,.I Aa.2.At]),(112,.arr 3 1 (gT.map LV.I)),(221,.arr 63 12 (l7.map ax.lv))] R (ig R (sN (dX (args:=[.ptr 7 0,.I 7]) (ml:=[(7,.box [.L kP.2.L,.I kP.2.At])]) (cQ:=[(7,.box [.L Aa.2.L,.I Aa.2.At])]) R gJ R (aI (aI bm)) (kT S7) (mC R mN) (bT R bU) R (sN (dI e5 gM gA R R (sN (dI jK aE bb R R (s_ (cF R R R aE bb R R R (s0 ((Wk.trans (aQ [(0,.ptr 7 0),(2,.I p2),(7,.arr 221 l7.length),(8,.arr 112 gT.length),(9,.I n3),(11,.ptr 111 0)] [(7,.box [.L Aa.2.L,.I Aa.2.At]),(111,.box [.I (i64 ((l7.length:Int)+dG.1)),.I cm.1,.I (l7.length:Int),.I n17,.I n18,.I n19,.str t20,.al 6 (mo.map aq.lv),.L mq,.I Aa.1,.I n24,.I n25]),(112,.arr 3 1 (gT.map LV.I)),(221,.arr 63 12 (l7.map ax.lv))]) (Wk.trans (Wk.bk 111 [.I (i64 ((l7.length:Int)+dG.1)),.I cm.1,.I (l7.length:Int),.I n17,.I n18,.I n19,.str t20,.al 6 (mo.map aq.lv),.L mq,.I Aa.1,.I n24,.I n25] R R R (bH R)) (Wk.eq R R R R)))))))))))))) (aY (au ⟨(i64 ((l7.length:Int)+dG.1)),cm.1,(l7.length:Int),n17,n19,Aa.1,n24,Aa.2.L,Aa.2.At,h,Wk.eq R R R R⟩))
     replace h:=aA h KQ
     refine LH.aj [(0,.ptr 7 0),(2,.I p2),(7,.arr 221 l7.length),(8,.arr 112 gT.length),(9,.I n3),(11,.ptr 111 0),(113,.bool (kP.1 == 3))] [(7,.box [.L kP.2.L,.I kP.2.At]),(111,.box [.I (i64 ((l7.length:Int)+dG.1)),.I cm.1,.I (l7.length:Int),.I n17,.I n18,.I n19,.str t20,.al 6 (mo.map aq.lv),.L mq,.I n23,.I n24,.I n25]),(112,.arr 3 1 (gT.map LV.I)),(221,.arr 63 12 (l7.map ax.lv))] R (sN (gr R R (ct R zS))) (LH.cond (t:=(kP.1 == 3)) R (fun KR=>?_) (fun KR=>?_))
     ·replace h:=aB h KR
      obtain ⟨qZ,S8,h⟩:=ao h
      exact LH.aS [(0,.ptr 7 0),(2,.I p2),(7,.arr 221 l7.length),(8,.arr 112 gT.length),(9,.I n3),(11,.ag [.I qZ.1.Time,.I qZ.1.Source,.I qZ.1.Seq,.I n17,.I n18,.I n19,.str t20,.al 6 (mo.map aq.lv),.L mq,.I n23,.I n24,.I n25])] [(7,.box [.L qZ.2.L,.I qZ.2.At]),(112,.arr 3 1 (gT.map LV.I)),(221,.arr 63 12 (l7.map ax.lv))] R (ig R (sN (dX (args:=[.ptr 7 0,.I 3]) (ml:=[(7,.box [.L kP.2.L,.I kP.2.At])]) (cQ:=[(7,.box [.L qZ.2.L,.I qZ.2.At])]) R OY R (aI (aI bm)) (RU S8) (mC R mN) (bT R bU) R (sN (dI di cc b7 R R (s_ (cF R R R cc b7 R R R (s0 ((Wk.trans (aQ [(0,.ptr 7 0),(2,.I p2),(7,.arr 221 l7.length),(8,.arr 112 gT.length),(9,.I n3),(11,.ptr 111 0)] [(7,.box [.L qZ.2.L,.I qZ.2.At]),(111,.box [.I qZ.1.Time,.I qZ.1.Source,.I qZ.1.Seq,.I n17,.I n18,.I n19,.str t20,.al 6 (mo.map aq.lv),.L mq,.I n23,.I n24,.I n25]),(112,.arr 3 1 (gT.map LV.I)),(221,.arr 63 12 (l7.map ax.lv))]) (Wk.trans (Wk.bk 111 [.I qZ.1.Time,.I qZ.1.Source,.I qZ.1.Seq,.I n17,.I n18,.I n19,.str t20,.al 6 (mo.map aq.lv),.L mq,.I n23,.I n24,.I n25] R R R (bH R)) (Wk.eq R R R R)))))))))))) (aY (au ⟨qZ.1.Time,qZ.1.Source,qZ.1.Seq,n17,n19,n23,n24,qZ.2.L,qZ.2.At,h,Wk.eq R R R R⟩))
     replace h:=aA h KR
     obtain ⟨Ab,S9,h⟩:=ao h
     exact LH.aS [(0,.ptr 7 0),(2,.I p2),(7,.arr 221 l7.length),(8,.arr 112 gT.length),(9,.I n3),(11,.ag [.I (i64 ((l7.length:Int)+dG.1)),.I cm.1,.I (l7.length:Int),.I n17,.I n18,.I Ab.1,.str t20,.al 6 (mo.map aq.lv),.L mq,.I n23,.I n24,.I n25])] [(7,.box [.L Ab.2.L,.I Ab.2.At]),(112,.arr 3 1 (gT.map LV.I)),(221,.arr 63 12 (l7.map ax.lv))] R (ig R (sN (dX (args:=[.ptr 7 0,.I 0,.I 3]) (ml:=[(7,.box [.L kP.2.L,.I kP.2.At])]) (cQ:=[(7,.box [.L Ab.2.L,.I Ab.2.At])]) R oc R (aI (aI (aI bm))) (nX S9) (mC R mN) (bT R bU) R (sN (dI fe cv cd R R (sN (dI fP aE bb R R (s_ (cF R R R aE bb R R R (s0 ((Wk.trans (aQ [(0,.ptr 7 0),(2,.I p2),(7,.arr 221 l7.length),(8,.arr 112 gT.length),(9,.I n3),(11,.ptr 111 0)] [(7,.box [.L Ab.2.L,.I Ab.2.At]),(111,.box [.I (i64 ((l7.length:Int)+dG.1)),.I cm.1,.I (l7.length:Int),.I n17,.I n18,.I Ab.1,.str t20,.al 6 (mo.map aq.lv),.L mq,.I n23,.I n24,.I n25]),(112,.arr 3 1 (gT.map LV.I)),(221,.arr 63 12 (l7.map ax.lv))]) (Wk.trans (Wk.bk 111 [.I (i64 ((l7.length:Int)+dG.1)),.I cm.1,.I (l7.length:Int),.I n17,.I n18,.I Ab.1,.str t20,.al 6 (mo.map aq.lv),.L mq,.I n23,.I n24,.I n25] R R R (bH R)) (Wk.eq R R R R)))))))))))))) (aY (au ⟨(i64 ((l7.length:Int)+dG.1)),cm.1,(l7.length:Int),n17,Ab.1,n23,n24,Ab.2.L,Ab.2.At,h,Wk.eq R R R R⟩))
    replace h:=aA h KN
    exact LH.skip (au ⟨(i64 ((l7.length:Int)+dG.1)),cm.1,(l7.length:Int),n17,n19,n23,n24,Af.2.1,Af.2.2,h,(Wk.trans (aQ [(0,.ptr 7 0),(2,.I p2),(7,.arr 221 l7.length),(8,.arr 112 gT.length),(9,.I n3),(11,.ptr 111 0)] [(7,.box [.L Af.2.1,.I Af.2.2]),(111,.box [.I (i64 ((l7.length:Int)+dG.1)),.I cm.1,.I (l7.length:Int),.I n17,.I n18,.I n19,.str t20,.al 6 (mo.map aq.lv),.L mq,.I n23,.I n24,.I n25]),(112,.arr 3 1 (gT.map LV.I)),(221,.arr 63 12 (l7.map ax.lv))]) (Wk.trans (Wk.bk 111 [.I (i64 ((l7.length:Int)+dG.1)),.I cm.1,.I (l7.length:Int),.I n17,.I n18,.I n19,.str t20,.al 6 (mo.map aq.lv),.L mq,.I n23,.I n24,.I n25] R R R (bH R)) (Wk.eq R R R R)))⟩)
   clear h
   rintro e m ⟨n27,n28,n29,n30,n31,n32,n33,L5,n35,h,hw⟩
   refine LH.wk hw ?_
   clear hw
   unfold Hp at h
   obtain ⟨D8,Ts,h⟩:=ao h
   refine LH.aj [(0,.ptr 7 0),(2,.I p2),(7,.arr 221 D8.length),(8,.arr 112 gT.length),(9,.I n3)] [(7,.box [.L L5,.I n35]),(112,.arr 3 1 (gT.map LV.I)),(221,.arr 63 12 (D8.map ax.lv))] R (jQ R (sN (bc R eo iX dF R R (sN (ka (f:=ax.lv) (ys:=[(ax.mk (aL.mk n27 n28 n29) n30 (ai.mk n18 n31 t20 mo mq) (bR.mk n32 n33) n25)]) fR zF dF R R R ax.ok (sN (nL (f:=ax.lv) fR zF dF R R (bH R) R Ts (nQ R zS)))))))) ?_
   obtain ⟨lW,Ls,h⟩:=ao h
   refine LH.aj [(0,.ptr 7 0),(2,.I p2),(7,.arr 221 D8.length),(8,.arr 112 gT.length),(9,.I n3),(123,.bool lW.1)] [(7,.box [.L lW.2.L,.I lW.2.At]),(112,.arr 3 1 (gT.map LV.I)),(221,.arr 63 12 (D8.map ax.lv))] R (ig R (sN (dX (args:=[.ptr 7 0,.I 8]) (ml:=[(7,.box [.L L5,.I n35])]) (cQ:=[(7,.box [.L lW.2.L,.I lW.2.At])]) R tg R (aI (aI bm)) (Ah Ls) (mC R mN) (bT R bU) R zS))) (LH.cond (t:=lW.1) R (fun AB=>?_) (fun AB=>?_))
   ·replace h:=aB h AB
    obtain ⟨Eo,SY,h⟩:=ao h
    obtain ⟨Ug,Oz,h⟩:=ao h
    obtain ⟨v41,LD,h⟩:=ao h
    refine LH.aS [(0,.ptr 7 0),(2,.I p2),(7,.arr 221 v41.length),(8,.arr 112 gT.length),(9,.I n3)] [(7,.box [.L Eo.2.L,.I Eo.2.At]),(112,.arr 3 1 (gT.map LV.I)),(221,.arr 63 12 (v41.map ax.lv))] R (jQ R (jQ R (ig R (jQ R (sN (F8 (f:=ax.lv) fR R R (sN (dX (args:=[.ptr 7 0,.I (D8.length:Int)]) (ml:=[(7,.box [.L lW.2.L,.I lW.2.At])]) (cQ:=[(7,.box [.L Eo.2.L,.I Eo.2.At])]) R gJ R (aI (aI bm)) (kT SY) (mC R mN) (bT R bU) R (sN (gV (f:=ax.lv) fR eo dF R R R Oz (sN (pX (f:=ax.lv) R R (dB Oz).2 R R eo iX dF R R (sN (ka (f:=ax.lv) (ys:=[Ug]) fR zF dF R R R ax.ok (sN (nL (f:=ax.lv) fR zF dF R R (bH R) R LD (nQ R zS))))))))))))))))) (aY (au (LH.aS [(0,.ptr 7 0),(2,.I p2),(7,.arr 221 v41.length),(8,.arr 112 gT.length),(9,.I (i64 (n3 - 1)))] [(7,.box [.L Eo.2.L,.I Eo.2.At]),(112,.arr 3 1 (gT.map LV.I)),(221,.arr 63 12 (v41.map ax.lv))] R (br R (sN (iS R R (bt R zS)))) ?_)))
    exact bl ⟨(i64 (n3 - 1)),Eo.2.L,Eo.2.At,gT,v41,a7 ▸ h,R,R⟩ (Wk.eq R R R R)
   replace h:=aA h AB
   refine LH.skip (aY (au (LH.aS [(0,.ptr 7 0),(2,.I p2),(7,.arr 221 D8.length),(8,.arr 112 gT.length),(9,.I (i64 (n3 - 1)))] [(7,.box [.L lW.2.L,.I lW.2.At]),(112,.arr 3 1 (gT.map LV.I)),(221,.arr 63 12 (D8.map ax.lv))] R (br R (sN (iS R R (bt R zS)))) ?_)))
   exact bl ⟨(i64 (n3 - 1)),lW.2.L,lW.2.At,gT,D8,a7 ▸ h,R,R⟩ (Wk.eq R R R R)
  replace h:=aA h kY
  refine LH.exit (cD (b6 (bP (au (LH.wk ((Wk.trans (aQ [(7,.arr 221 l7.length)] [(7,.box [.L l4,.I n5]),(221,.arr 63 12 (l7.map ax.lv))]) (Wk.trans (Wk.lC (f:=ax.lv) (fB:=[(7,.al 12 (l7.map ax.lv))]) 221 63 12 l7 R R (bH R) (fZ fN)) (aQ [(7,.al 12 (l7.map ax.lv))] [(7,.box [.L l4,.I n5])])))) (LH.aj [(6,.al 12 (l7.map ax.lv))] [(7,.box [.L l4,.I n5])] R (fh R (qB R zS)) (LH.ret ?_)))))))
  obtain rfl:=oI h
  exact aN (aT Tryz.results8) (bO R (bL ⟨aM (mC R mN),R,aX R,Sub.rfl⟩))
theorem P2 {F:Nat} {p0:List ax} {p1:(ax→Option aL)} {p2:(ax→ax→Option Bool)} {r:List aL × List Int} {dY:Nat} {df:List LV} (A7:eh Tryz.prog dY) (o7:LV.bo df=true) (A8:∀ (x0:ax) (q:aL),p1 x0=some q→aO Tryz.prog dY ([.agg [.I x0.ar.Time,.I x0.ar.Source,.I x0.ar.Seq,.I x0.Kind,.I x0.Item.ID,.I x0.Item.Version,.str x0.Item.bJ,.al 6 (x0.Item.aH.map aq.lv),.L x0.Item.aF,.I x0.Ref.ID,.I x0.Ref.Version,.I x0.Form]]++df) (Mem.of []) (.agg [.I q.Time,.I q.Source,.I q.Seq]) (Mem.of [])) {eB:Nat} {dA:List LV} (Du:eh Tryz.prog eB) (uG:LV.bo dA=true) (Dv:∀ (x0:ax) (x1:ax) (q:Bool),p2 x0 x1=some q→aO Tryz.prog eB ([.agg [.I x0.ar.Time,.I x0.ar.Source,.I x0.ar.Seq,.I x0.Kind,.I x0.Item.ID,.I x0.Item.Version,.str x0.Item.bJ,.al 6 (x0.Item.aH.map aq.lv),.L x0.Item.aF,.I x0.Ref.ID,.I x0.Ref.Version,.I x0.Form],.agg [.I x1.ar.Time,.I x1.ar.Source,.I x1.ar.Seq,.I x1.Kind,.I x1.Item.ID,.I x1.Item.Version,.str x1.Item.bJ,.al 6 (x1.Item.aH.map aq.lv),.L x1.Item.aF,.I x1.Ref.ID,.I x1.Ref.Version,.I x1.Form]]++dA) (Mem.of []) (.bool q) (Mem.of [])) (h:Gw F p0 p1 p2=some r):aO Tryz.prog 72 [.al 12 (p0.map ax.lv),.fn dY df,.fn eB dA] (Mem.of []) (.cV [.al 3 (r.1.map aL.lv),.L r.2]) (Mem.of []):=by
  have Gl:∀ {l:List LV},LV.bo l=true→LV.bo (l++dA)=true:=Mp uG
  have eR:LV.bK dA=[]:=gl uG
  have Gk:∀ {l:List LV},LV.bo l=true→LV.bo (l++df)=true:=Mp o7
  have eG:LV.bK df=[]:=gl o7
  unfold Gw at h
  refine bx Tryz.func72 R (nT Tryz.ntmps72 R) (LH.wk (Wk.to (el:=[(0,.al 12 (p0.map ax.lv)),(1,.fn dY df),(2,.fn eB dA)]) (ml:=[]) (eQ ⟨R,R,R,trivial⟩) mN (by simp [aV,LV.refs,LV.bK,LV.cells,da,Env.args,Env.of,Env.put,Env.drop,eG,eR]) (aX R)) (LH.aj [(0,.al 12 (p0.map ax.lv)),(1,.fn dY df),(2,.fn eB dA)] [] R (k9 R (k9 R (s0 (Wk.to (eQ ⟨R,R,R,trivial⟩) mN (by simp [aV,LV.refs,LV.bK,LV.cells,da,Env.args,Env.of,Env.put,Env.drop,eG,eR]) (aX R))))) ?_))
  obtain ⟨v1,jY,h⟩:=ao h
  refine LH.aj [(0,.al 12 (p0.map ax.lv)),(1,.fn dY df),(2,.fn eB dA),(8,.arr 117 v1.length)] [(117,.arr 61 3 (v1.map aL.lv))] R (fh R (sN (bV (f:=ax.lv) fR R (sN (RF (f:=aL.lv) (z:=(aL.mk 0 0 0)) (id:=117) R e6 uO MC b7 R R R jY R (nQ R (s0 (Wk.to (eQ ⟨R,R,R,R,trivial⟩) ⟨R,trivial⟩ (by simp [aV,LV.refs,LV.bK,LV.cells,da,Env.args,Env.of,Env.put,Env.drop,eG,eR]) (aX R))))))))) ?_
  obtain ⟨v2,xl,h⟩:=ao h
  refine LH.aj [(0,.al 12 (p0.map ax.lv)),(1,.fn dY df),(2,.fn eB dA),(8,.arr 117 v1.length),(9,.arr 120 v2.length)] [(117,.arr 61 3 (v1.map aL.lv)),(120,.arr 3 1 (v2.map LV.I))] R (fh R (sN (bV (f:=ax.lv) fR R (sN (RF (f:=LV.I) (z:=0) (id:=120) R cJ Uc rj bb R R R xl R (nQ R (s0 (Wk.to (eQ ⟨R,R,R,R,R,trivial⟩) ⟨R,R,trivial⟩ (by simp [aV,LV.refs,LV.bK,LV.cells,da,Env.args,Env.of,Env.put,Env.drop,eG,eR]) (aX R))))))))) (LH.aj [(0,.al 12 (p0.map ax.lv)),(1,.fn dY df),(2,.fn eB dA),(8,.arr 117 v1.length),(9,.arr 120 v2.length),(10,.mp 121)] [(117,.arr 61 3 (v1.map aL.lv)),(120,.arr 3 1 (v2.map LV.I)),(121,.map 61 3 (dO aL.lv LV.I ([]:List (aL × Int))))] R (sX ((tx (kt:=61) (vt:=3) (id:=121) R).ok) (sN (oA (v:=(.mp _)) R (s0 (Wk.to (eQ ⟨R,R,R,R,R,R,trivial⟩) ⟨R,R,R,trivial⟩ (by simp [aV,LV.refs,LV.bK,LV.cells,da,Env.args,Env.of,Env.put,Env.drop,eG,eR]) (aX R)))))) (LH.seq (LH.aj [(0,.al 12 (p0.map ax.lv)),(1,.fn dY df),(2,.fn eB dA),(8,.arr 117 v1.length),(9,.arr 120 v2.length),(10,.mp 121),(22,.al 12 (p0.map ax.lv)),(23,.I (p0.length:Int)),(24,.I 0)] [(117,.arr 61 3 (v1.map aL.lv)),(120,.arr 3 1 (v2.map LV.I)),(121,.map 61 3 (dO aL.lv LV.I ([]:List (aL × Int))))] R (fh R (sN (bV (f:=ax.lv) fR R (br R (s0 (Wk.to (eQ ⟨R,R,R,R,R,R,R,R,R,trivial⟩) ⟨R,R,R,trivial⟩ (by simp [aV,LV.refs,LV.bK,LV.cells,da,Env.args,Env.of,Env.put,Env.drop,eG,eR]) (aX R))))))) (LH.block (LH.loop (fun n e m=>∃ (n3:Int) (l4:List aL) (l5:List Int) (m6:List (aL × Int)),Ba p0 p1 p2 n n3 l4 l5 m6=some r∧e=Env.of [(0,.al 12 (p0.map ax.lv)),(1,.fn dY df),(2,.fn eB dA),(8,.arr 117 l4.length),(9,.arr 120 l5.length),(10,.mp 121),(22,.al 12 (p0.map ax.lv)),(23,.I (p0.length:Int)),(24,.I n3)]∧m=Mem.of [(117,.arr 61 3 (l4.map aL.lv)),(120,.arr 3 1 (l5.map LV.I)),(121,.map 61 3 (dO aL.lv LV.I m6))]) F ⟨0,v1,v2,([]:List (aL × Int)),h,R,R⟩ ?_)))))
  clear h
  rintro n e m ⟨n3,l4,l5,m6,h,rfl,rfl⟩
  rcases n with _ | n
  · cases (show Option.none=some _ from h)
  obtain ⟨aK,a7⟩:∃ f,f=Ba p0 p1 p2 n:=⟨_,rfl⟩
  replace h:Gt p0 p1 p2 aK n3 l4 l5 m6=some r:=a7 ▸ h
  unfold Gt at h
  refine LH.aj [(0,.al 12 (p0.map ax.lv)),(1,.fn dY df),(2,.fn eB dA),(8,.arr 117 l4.length),(9,.arr 120 l5.length),(10,.mp 121),(22,.al 12 (p0.map ax.lv)),(23,.I (p0.length:Int)),(24,.I n3),(25,.bool (decide (n3<(p0.length:Int))))] [(117,.arr 61 3 (l4.map aL.lv)),(120,.arr 3 1 (l5.map LV.I)),(121,.map 61 3 (dO aL.lv LV.I m6))] R (sN (fy R R (s0 (Wk.to (eQ ⟨R,R,R,R,R,R,R,R,R,R,trivial⟩) ⟨R,R,R,trivial⟩ (by simp [aV,LV.refs,LV.bK,LV.cells,da,Env.args,Env.of,Env.put,Env.drop,eG,eR]) (aX R))))) (LH.seq (LH.cond (t:=(decide (n3<(p0.length:Int)))) R (fun jd=>?_) (fun jd=>?_)))
  ·replace h:=aB h jd
   refine LH.skip (au (LH.wk (Wk.to (el:=[(0,.al 12 (p0.map ax.lv)),(1,.fn dY df),(2,.fn eB dA),(8,.arr 117 l4.length),(9,.arr 120 l5.length),(10,.mp 121),(22,.al 12 (p0.map ax.lv)),(23,.I (p0.length:Int)),(24,.I n3)]) (ml:=[(117,.arr 61 3 (l4.map aL.lv)),(120,.arr 3 1 (l5.map LV.I)),(121,.map 61 3 (dO aL.lv LV.I m6))]) (eQ ⟨R,R,R,R,R,R,R,R,R,trivial⟩) ⟨R,R,R,trivial⟩ (by simp [aV,LV.refs,LV.bK,LV.cells,da,Env.args,Env.of,Env.put,Env.drop,eG,eR]) (aX R)) (LH.seq (LH.block ?_))))
   obtain ⟨x8,uD,h⟩:=ao h
   refine LH.aj [(0,.al 12 (p0.map ax.lv)),(1,.fn dY df),(2,.fn eB dA),(8,.arr 117 l4.length),(9,.arr 120 l5.length),(10,.mp 121),(11,.I n3),(12,.ptr 112 0),(22,.al 12 (p0.map ax.lv)),(23,.I (p0.length:Int)),(24,.I n3)] [(112,.box [.I x8.ar.Time,.I x8.ar.Source,.I x8.ar.Seq,.I x8.Kind,.I x8.Item.ID,.I x8.Item.Version,.str x8.Item.bJ,.al 6 (x8.Item.aH.map aq.lv),.L x8.Item.aF,.I x8.Ref.ID,.I x8.Ref.Version,.I x8.Form]),(117,.arr 61 3 (l4.map aL.lv)),(120,.arr 3 1 (l5.map LV.I)),(121,.map 61 3 (dO aL.lv LV.I m6))] R (br R (sN (eM (f:=ax.lv) fR eo dF R R ax.ok uD R (sN (bc R eo iX dF R R (sN (j0 (id:=112) R xg R R (bt R (s_ (cF R R R eo dF R R R (s0 (Wk.to (eQ ⟨R,R,R,R,R,R,R,R,R,R,R,trivial⟩) ⟨R,R,R,R,trivial⟩ (by simp [aV,LV.refs,LV.bK,LV.cells,da,Env.args,Env.of,Env.put,Env.drop,eG,eR]) (aX R))))))))))))) ?_
   obtain ⟨r9,Fx,h⟩:=ao h
   obtain ⟨pq,rE,h⟩:=ao h
   refine LH.aj [(0,.al 12 (p0.map ax.lv)),(1,.fn dY df),(2,.fn eB dA),(8,.arr 117 (List.length (l4.set n3.toNat r9))),(9,.arr 120 l5.length),(10,.mp 121),(11,.I n3),(12,.ptr 112 0),(22,.al 12 (p0.map ax.lv)),(23,.I (p0.length:Int)),(24,.I n3)] [(112,.box [.I x8.ar.Time,.I x8.ar.Source,.I x8.ar.Seq,.I x8.Kind,.I x8.Item.ID,.I x8.Item.Version,.str x8.Item.bJ,.al 6 (x8.Item.aH.map aq.lv),.L x8.Item.aF,.I x8.Ref.ID,.I x8.Ref.Version,.I x8.Form]),(117,.arr 61 3 (List.map aL.lv (l4.set n3.toNat r9))),(120,.arr 3 1 (l5.map LV.I)),(121,.map 61 3 (dO aL.lv LV.I m6))] R ?_ ?_
   ·refine jQ R (br R (sN (oM (v:=(.fn _ _)) R (sN (lJ R R R eo iX dF R R (sN (ej (args:=[.agg [.I x8.ar.Time,.I x8.ar.Source,.I x8.ar.Seq,.I x8.Kind,.I x8.Item.ID,.I x8.Item.Version,.str x8.Item.bJ,.al 6 (x8.Item.aH.map aq.lv),.L x8.Item.aF,.I x8.Ref.ID,.I x8.Ref.Version,.I x8.Form]]++df) (gB:=[.agg [.I x8.ar.Time,.I x8.ar.Source,.I x8.ar.Seq,.I x8.Kind,.I x8.Item.ID,.I x8.Item.Version,.str x8.Item.bJ,.al 6 (x8.Item.aH.map aq.lv),.L x8.Item.aF,.I x8.Ref.ID,.I x8.Ref.Version,.I x8.Form]]++df) R A7 R fo.rfl (A8 _ _ Fx) (Gk R) ?_)))))))
    exact sN (gV (f:=aL.lv) e6 cc b7 R R R rE (s_ (qx (f:=aL.lv) (z':=r9) R R R R cc b7 R (dB rE).2 R (s0 (Wk.to (eC R (eC R (eC R (eC (congrArg (LV.arr 117) (by simp)) (eC R (eC R (eC R (eC R (eC R (eC R (eC R eN))))))))))) ⟨R,R,R,R,trivial⟩ (by simp [aV,LV.refs,LV.bK,LV.cells,da,Env.args,Env.of,Env.put,Env.drop,eG,eR]) (aX R))))))
   obtain ⟨bg,xZ,h⟩:=ao h
   refine LH.aj [(0,.al 12 (p0.map ax.lv)),(1,.fn dY df),(2,.fn eB dA),(8,.arr 117 (List.length (l4.set n3.toNat r9))),(9,.arr 120 l5.length),(10,.mp 121),(11,.I n3),(12,.ptr 112 0),(13,.I ((gU m6 bg).getD 0)),(14,.bool ((gU m6 bg).isSome)),(22,.al 12 (p0.map ax.lv)),(23,.I (p0.length:Int)),(24,.I n3)] [(112,.box [.I x8.ar.Time,.I x8.ar.Source,.I x8.ar.Seq,.I x8.Kind,.I x8.Item.ID,.I x8.Item.Version,.str x8.Item.bJ,.al 6 (x8.Item.aH.map aq.lv),.L x8.Item.aF,.I x8.Ref.ID,.I x8.Ref.Version,.I x8.Form]),(117,.arr 61 3 (List.map aL.lv (l4.set n3.toNat r9))),(120,.arr 3 1 (l5.map LV.I)),(121,.map 61 3 (dO aL.lv LV.I m6))] R (sN (oM (v:=(.mp _)) R (jQ R (br R (sN (gV (f:=aL.lv) e6 cc b7 R R R xZ (sN (pX (f:=aL.lv) R R (dB xZ).2 R R cc gp b7 R R (sX ((tw (f:=aL.lv) (g:=LV.I) (xs:=m6) (key:=bg) (z:=0) Ki JI PH R R R Uc).ok) (wU R (sN (fV R R (sN (fV R R (bt R (ct R (s0 (Wk.to (eQ ⟨R,R,R,R,R,R,R,R,R,R,R,R,R,trivial⟩) ⟨R,R,R,R,trivial⟩ (by simp [aV,LV.refs,LV.bK,LV.cells,da,Env.args,Env.of,Env.put,Env.drop,eG,eR]) (aX R))))))))))))))))))) (LH.aj [(0,.al 12 (p0.map ax.lv)),(1,.fn dY df),(2,.fn eB dA),(8,.arr 117 (List.length (l4.set n3.toNat r9))),(9,.arr 120 l5.length),(10,.mp 121),(11,.I n3),(12,.ptr 112 0),(13,.I ((gU m6 bg).getD 0)),(22,.al 12 (p0.map ax.lv)),(23,.I (p0.length:Int)),(24,.I n3),(45,.bool (!((gU m6 bg).isSome)))] [(112,.box [.I x8.ar.Time,.I x8.ar.Source,.I x8.ar.Seq,.I x8.Kind,.I x8.Item.ID,.I x8.Item.Version,.str x8.Item.bJ,.al 6 (x8.Item.aH.map aq.lv),.L x8.Item.aF,.I x8.Ref.ID,.I x8.Ref.Version,.I x8.Form]),(117,.arr 61 3 (List.map aL.lv (l4.set n3.toNat r9))),(120,.arr 3 1 (l5.map LV.I)),(121,.map 61 3 (dO aL.lv LV.I m6))] R (bM R (sN (ic R (s0 (Wk.to (eQ ⟨R,R,R,R,R,R,R,R,R,R,R,R,R,trivial⟩) ⟨R,R,R,R,trivial⟩ (by simp [aV,LV.refs,LV.bK,LV.cells,da,Env.args,Env.of,Env.put,Env.drop,eG,eR]) (aX R)))))) (LH.cond (t:=(!((gU m6 bg).isSome))) R (fun gh=>?_) (fun gh=>?_)))
   ·replace h:=aB h gh
    obtain ⟨fg,ob,h⟩:=ao h
    refine LH.aS [(0,.al 12 (p0.map ax.lv)),(1,.fn dY df),(2,.fn eB dA),(8,.arr 117 (List.length (l4.set n3.toNat r9))),(9,.arr 120 l5.length),(10,.mp 121),(22,.al 12 (p0.map ax.lv)),(23,.I (p0.length:Int)),(24,.I n3)] [(117,.arr 61 3 (List.map aL.lv (l4.set n3.toNat r9))),(120,.arr 3 1 (l5.map LV.I)),(121,.map 61 3 (dO aL.lv LV.I (ee m6 fg n3)))] R (sN (oM (v:=(.mp _)) R (jQ R (br R (sN (gV (f:=aL.lv) e6 cc b7 R R R ob (sN (pX (f:=aL.lv) R R (dB ob).2 R R cc gp b7 R R (br R (HB ((iU (f:=aL.lv) (g:=LV.I) (xs:=m6) (key:=fg) (val:=n3) (.inl R) Ki JI PH (fun _=>R) R R R R).ok) (s0 (Wk.to (eQ ⟨R,R,R,R,R,R,R,R,R,trivial⟩) ⟨R,R,R,trivial⟩ (by simp [aV,LV.refs,LV.bK,LV.cells,da,Env.args,Env.of,Env.put,Env.drop,eG,eR]) (aX R))))))))))))) (aY (au (LH.aS [(0,.al 12 (p0.map ax.lv)),(1,.fn dY df),(2,.fn eB dA),(8,.arr 117 (List.length (l4.set n3.toNat r9))),(9,.arr 120 l5.length),(10,.mp 121),(22,.al 12 (p0.map ax.lv)),(23,.I (p0.length:Int)),(24,.I (i64 (n3+1)))] [(117,.arr 61 3 (List.map aL.lv (l4.set n3.toNat r9))),(120,.arr 3 1 (l5.map LV.I)),(121,.map 61 3 (dO aL.lv LV.I (ee m6 fg n3)))] R (sN (cI R R (br R (s0 (Wk.to (eQ ⟨R,R,R,R,R,R,R,R,R,trivial⟩) ⟨R,R,R,trivial⟩ (by simp [aV,LV.refs,LV.bK,LV.cells,da,Env.args,Env.of,Env.put,Env.drop,eG,eR]) (aX R)))))) ?_)))
    exact bl ⟨(i64 (n3+1)),(l4.set n3.toNat r9),l5,(ee m6 fg n3),a7 ▸ h,R,R⟩ (Wk.to (eQ ⟨R,R,R,R,R,R,R,R,R,trivial⟩) ⟨R,R,R,trivial⟩ (by simp [aV,LV.refs,LV.bK,LV.cells,da,Env.args,Env.of,Env.put,Env.drop,eG,eR]) (aX R))
   replace h:=aA h gh
   obtain ⟨og,FM,h⟩:=ao h
   obtain ⟨fD,td,h⟩:=ao h
   refine LH.cO mixed [] [0,0,0,0,0,1112,0,0] [(0,.al 12 (p0.map ax.lv)),(1,.fn dY df),(2,.fn eB dA),(8,.arr 117 (List.length (l4.set n3.toNat r9))),(9,.arr 120 l5.length),(10,.mp 121),(11,.I n3),(22,.al 12 (p0.map ax.lv)),(23,.I (p0.length:Int)),(24,.I n3),(59,.bool (!fD))] [(117,.arr 61 3 (List.map aL.lv (l4.set n3.toNat r9))),(120,.arr 3 1 (l5.map LV.I)),(121,.map 61 3 (dO aL.lv LV.I m6))] R R (by kernel_rfl) ?_ ?_
   ·refine WM R (rV R (fC R (aD (eM (f:=ax.lv) fR eo dF R R ax.ok FM R ⟨R,aD (bc R eo iX dF R R ⟨R,mD R R R (fun _ b _ d=>lJ R b R eo iX dF R R d) (aD (ej (args:=[.agg [.I og.ar.Time,.I og.ar.Source,.I og.ar.Seq,.I og.Kind,.I og.Item.ID,.I og.Item.Version,.str og.Item.bJ,.al 6 (og.Item.aH.map aq.lv),.L og.Item.aF,.I og.Ref.ID,.I og.Ref.Version,.I og.Form],.agg [.I x8.ar.Time,.I x8.ar.Source,.I x8.ar.Seq,.I x8.Kind,.I x8.Item.ID,.I x8.Item.Version,.str x8.Item.bJ,.al 6 (x8.Item.aH.map aq.lv),.L x8.Item.aF,.I x8.Ref.ID,.I x8.Ref.Version,.I x8.Form]]++dA) (gB:=[.agg [.I og.ar.Time,.I og.ar.Source,.I og.ar.Seq,.I og.Kind,.I og.Item.ID,.I og.Item.Version,.str og.Item.bJ,.al 6 (og.Item.aH.map aq.lv),.L og.Item.aF,.I og.Ref.ID,.I og.Ref.Version,.I og.Form],.agg [.I x8.ar.Time,.I x8.ar.Source,.I x8.ar.Seq,.I x8.Kind,.I x8.Item.ID,.I x8.Item.Version,.str x8.Item.bJ,.al 6 (x8.Item.aH.map aq.lv),.L x8.Item.aF,.I x8.Ref.ID,.I x8.Ref.Version,.I x8.Form]]++dA) R Du R fo.rfl (Dv _ _ _ td) (Gl R) ⟨R,?_⟩))⟩)⟩))))
    exact aD (ic R ⟨R,m0 (Wk.to (eQ ⟨R,R,R,R,R,R,R,R,R,R,R,trivial⟩) ⟨R,R,R,trivial⟩ (by simp [aV,LV.refs,LV.bK,LV.cells,da,Env.args,Env.of,Env.put,Env.drop,eG,eR]) (aX R))⟩)
   refine LH.cond (t:=(!fD)) R (fun iM=>?_) (fun iM=>?_)
   ·replace h:=aB h iM
    obtain ⟨qj,ya,h⟩:=ao h
    refine LH.aS [(0,.al 12 (p0.map ax.lv)),(1,.fn dY df),(2,.fn eB dA),(8,.arr 117 (List.length (l4.set n3.toNat r9))),(9,.arr 120 (List.length (l5.set n3.toNat 1))),(10,.mp 121),(22,.al 12 (p0.map ax.lv)),(23,.I (p0.length:Int)),(24,.I n3)] [(117,.arr 61 3 (List.map aL.lv (l4.set n3.toNat r9))),(120,.arr 3 1 (List.map LV.I (l5.set n3.toNat 1))),(121,.map 61 3 (dO aL.lv LV.I m6))] R (jQ R (br R (sN (gV (f:=LV.I) cJ aE bb R R R ya (s_ (qx (f:=LV.I) (z':=1) R R R R aE bb R (dB ya).2 R (s0 (Wk.to (eC R (eC R (eC R (eC R (eC (congrArg (LV.arr 120) (by simp)) (eC R (eC R (eC R (eC R eN))))))))) ⟨R,R,R,trivial⟩ (by simp [aV,LV.refs,LV.bK,LV.cells,da,Env.args,Env.of,Env.put,Env.drop,eG,eR]) (aX R))))))))) (aY (au (LH.aS [(0,.al 12 (p0.map ax.lv)),(1,.fn dY df),(2,.fn eB dA),(8,.arr 117 (List.length (l4.set n3.toNat r9))),(9,.arr 120 (List.length (l5.set n3.toNat 1))),(10,.mp 121),(22,.al 12 (p0.map ax.lv)),(23,.I (p0.length:Int)),(24,.I (i64 (n3+1)))] [(117,.arr 61 3 (List.map aL.lv (l4.set n3.toNat r9))),(120,.arr 3 1 (List.map LV.I (l5.set n3.toNat 1))),(121,.map 61 3 (dO aL.lv LV.I m6))] R (sN (cI R R (br R (s0 (Wk.to (eQ ⟨R,R,R,R,R,R,R,R,R,trivial⟩) ⟨R,R,R,trivial⟩ (by simp [aV,LV.refs,LV.bK,LV.cells,da,Env.args,Env.of,Env.put,Env.drop,eG,eR]) (aX R)))))) ?_)))
    exact bl ⟨(i64 (n3+1)),(l4.set n3.toNat r9),(l5.set n3.toNat 1),m6,a7 ▸ h,R,R⟩ (Wk.to (eQ ⟨R,R,R,R,R,R,R,R,R,trivial⟩) ⟨R,R,R,trivial⟩ (by simp [aV,LV.refs,LV.bK,LV.cells,da,Env.args,Env.of,Env.put,Env.drop,eG,eR]) (aX R))
   replace h:=aA h iM
   refine LH.skip (aY (au (LH.aS [(0,.al 12 (p0.map ax.lv)),(1,.fn dY df),(2,.fn eB dA),(8,.arr 117 (List.length (l4.set n3.toNat r9))),(9,.arr 120 l5.length),(10,.mp 121),(22,.al 12 (p0.map ax.lv)),(23,.I (p0.length:Int)),(24,.I (i64 (n3+1)))] [(117,.arr 61 3 (List.map aL.lv (l4.set n3.toNat r9))),(120,.arr 3 1 (l5.map LV.I)),(121,.map 61 3 (dO aL.lv LV.I m6))] R (sN (cI R R (br R (s0 (Wk.to (eQ ⟨R,R,R,R,R,R,R,R,R,trivial⟩) ⟨R,R,R,trivial⟩ (by simp [aV,LV.refs,LV.bK,LV.cells,da,Env.args,Env.of,Env.put,Env.drop,eG,eR]) (aX R)))))) ?_)))
   exact bl ⟨(i64 (n3+1)),(l4.set n3.toNat r9),l5,m6,a7 ▸ h,R,R⟩ (Wk.to (eQ ⟨R,R,R,R,R,R,R,R,R,trivial⟩) ⟨R,R,R,trivial⟩ (by simp [aV,LV.refs,LV.bK,LV.cells,da,Env.args,Env.of,Env.put,Env.drop,eG,eR]) (aX R))
  replace h:=aA h jd
  refine LH.exit (cD (b6 (bP (au (LH.wk ((Wk.trans (Wk.to (el:=[(8,.arr 117 l4.length),(9,.arr 120 l5.length)]) (ml:=[(117,.arr 61 3 (l4.map aL.lv)),(120,.arr 3 1 (l5.map LV.I))]) (eQ ⟨R,R,trivial⟩) ⟨R,R,trivial⟩ (by simp [aV,LV.refs,LV.bK,LV.cells,da,Env.args,Env.of,Env.put,Env.drop,eG,eR]) (aX R)) (Wk.trans (Wk.lC (f:=aL.lv) (fB:=[(8,.al 3 (l4.map aL.lv)),(9,.arr 120 l5.length)]) 117 61 3 l4 R R (bH R) (fZ (fK R fN))) (Wk.trans (Wk.lC (f:=LV.I) (fB:=[(8,.al 3 (l4.map aL.lv)),(9,.L l5)]) 120 3 1 l5 R R (bH R) (fK R (fZ fN))) (Wk.to (el:=[(8,.al 3 (l4.map aL.lv)),(9,.L l5)]) (ml:=[]) (eQ ⟨R,R,trivial⟩) mN (by simp [aV,LV.refs,LV.bK,LV.cells,da,Env.args,Env.of,Env.put,Env.drop,eG,eR]) (aX R)))))) (LH.aj [(6,.al 3 (l4.map aL.lv)),(7,.L l5)] [] R (fh R (fh R (qB R (qB R (s0 (Wk.to (eQ ⟨R,R,trivial⟩) mN (by simp [aV,LV.refs,LV.bK,LV.cells,da,Env.args,Env.of,Env.put,Env.drop,eG,eR]) (aX R))))))) (LH.ret ?_)))))))
  obtain rfl:=oI h
  exact aN (aT Tryz.results72) (bO R (bO R (bL ⟨aM mN,R,aX R,(Sub.cV (aI (aI bm)))⟩)))
theorem Qx {p0:aL} {r:Bool} (h:Cv p0=some r):aO Tryz.prog 103 [.agg [.I p0.Time,.I p0.Source,.I p0.Seq]] (Mem.of []) (.bool r) (Mem.of []):=by
  unfold Cv at h
  refine bx Tryz.func103 R (nT Tryz.ntmps103 R) (LH.wk (aQ [(0,.agg [.I p0.Time,.I p0.Source,.I p0.Seq])] []) (LH.aj [(1,.ag [.I p0.Time,.I p0.Source,.I p0.Seq])] [] R (sB (de R R R R (ct R zS))) (LH.aj [(2,.bool ((decide (p0.Time ≥ 0)) && ((decide (p0.Time≤1000000)) && ((decide (p0.Source ≥ 0)) && ((decide (p0.Source≤99)) && ((decide (p0.Seq ≥ 0)) && (decide (p0.Seq≤9999))))))))] [] R ?_ ?_)))
  ·refine sN (aw fc aE bb R R R (sN (bh R aE bN (sN (pW R R (bM R ?_))))))
   by_cases cE:(decide (p0.Time ≥ 0))=true
   ·refine sT R (cB cE) (aw fc aE bb R R R (sT R (cB cE) (bh R aE bN (sT R (cB cE) (Im R R (sN (aZ (cB cE) (v:=(.bool _)) R (bM R ?_))))))))
    by_cases bS:(decide (p0.Time≤1000000))=true
    ·refine sT R (cB bS) (aw ez aE bb R R R (sT R (cB bS) (bh R aE bN (sT R (cB bS) (pW R R (sN (aZ (cB bS) (v:=(.bool _)) R (bM R ?_))))))))
     by_cases bG:(decide (p0.Source ≥ 0))=true
     ·refine sT R (cB bG) (aw ez aE bb R R R (sT R (cB bG) (bh R aE bN (sT R (cB bG) (Im R R (sN (aZ (cB bG) (v:=(.bool _)) R (bM R ?_))))))))
      by_cases bI:(decide (p0.Source≤99))=true
      ·refine sT R (cB bI) (aw dL aE bb R R R (sT R (cB bI) (bh R aE bN (sT R (cB bI) (pW R R (sN (aZ (cB bI) (v:=(.bool _)) R (bM R ?_))))))))
       by_cases cn:(decide (p0.Seq ≥ 0))=true
       ·exact sT R (cB cn) (aw dL aE bb R R R (sT R (cB cn) (bh R aE bN (sT R (cB cn) (Im R R (sN (aZ (cB cn) (v:=(.bool _)) R (ct R (s0 (Wk.to (eC (cB (Eq.trans (Eq.trans (Eq.trans (Eq.trans (dP cn) (dP bI)) (dP bG)) (dP bS)) (dP cE))) eN) mN R (aX R)))))))))))
       ·replace cn:=bF cn
        exact sF R R cn (sF R R cn (sF R R cn (sN (aW (cB cn) (v:=(.bool _)) R (ct R (s0 (Wk.to (eC (cB (Eq.trans (Eq.trans (Eq.trans (Eq.trans (kB cn) (dP bI)) (dP bG)) (dP bS)) (dP cE))) eN) mN R (aX R))))))))
      ·replace bI:=bF bI
       exact sF R R bI (sF R R bI (sF R R bI (sN (aW (cB bI) (v:=(.bool _)) R (bM R (sF R R R (sF R R R (sF R R R (sN (aW R (v:=(.bool _)) R (ct R (s0 (Wk.to (eC (cB (Eq.trans (Eq.trans (Eq.trans (kB bI) (dP bG)) (dP bS)) (dP cE))) eN) mN R (aX R))))))))))))))
     ·replace bG:=bF bG
      exact sF R R bG (sF R R bG (sF R R bG (sN (aW (cB bG) (v:=(.bool _)) R (bM R (sF R R R (sF R R R (sF R R R (sN (aW R (v:=(.bool _)) R (bM R (sF R R R (sF R R R (sF R R R (sN (aW R (v:=(.bool _)) R (ct R (s0 (Wk.to (eC (cB (Eq.trans (Eq.trans (kB bG) (dP bS)) (dP cE))) eN) mN R (aX R))))))))))))))))))))
    ·replace bS:=bF bS
     exact sF R R bS (sF R R bS (sF R R bS (sN (aW (cB bS) (v:=(.bool _)) R (bM R (sF R R R (sF R R R (sF R R R (sN (aW R (v:=(.bool _)) R (bM R (sF R R R (sF R R R (sF R R R (sN (aW R (v:=(.bool _)) R (bM R (sF R R R (sF R R R (sF R R R (sN (aW R (v:=(.bool _)) R (ct R (s0 (Wk.to (eC (cB (Eq.trans (kB bS) (dP cE))) eN) mN R (aX R))))))))))))))))))))))))))
   ·replace cE:=bF cE
    exact sF R R cE (sF R R cE (sF R R cE (sN (aW (cB cE) (v:=(.bool _)) R (bM R (sF R R R (sF R R R (sF R R R (sN (aW R (v:=(.bool _)) R (bM R (sF R R R (sF R R R (sF R R R (sN (aW R (v:=(.bool _)) R (bM R (sF R R R (sF R R R (sF R R R (sN (aW R (v:=(.bool _)) R (bM R (sF R R R (sF R R R (sF R R R (sN (aW R (v:=(.bool _)) R (ct R (s0 (Wk.to (eC (cB (kB cE)) eN) mN R (aX R))))))))))))))))))))))))))))))))
  refine LH.ret ?_
  obtain rfl:=oI h
  exact aN (aT Tryz.results103) (bO R (bL ⟨aM mN,R,aX R,Sub.rfl⟩))
theorem lz {p0:Int} {r:Bool} (h:cmp_isNaN_int p0=some r):aO Tryz.prog 109 [.I p0] (Mem.of []) (.bool r) (Mem.of []):=by
  unfold cmp_isNaN_int at h
  refine bx Tryz.func109 R (nT Tryz.ntmps109 R) (LH.wk (aQ [(0,.I p0)] []) (LH.aj [(0,.I p0)] [] R (ct R zS) (LH.aj [(2,.bool (p0 != p0))] [] R (br R (br R (sN (iR R R (ct R zS))))) (LH.ret ?_))))
  obtain rfl:=oI h
  exact aN (aT Tryz.results109) (bO R (bL ⟨aM mN,R,aX R,Sub.rfl⟩))
theorem dh {p0:Int} {p1:Int} {r:Int} (h:cL p0 p1=some r):aO Tryz.prog 97 [.I p0,.I p1] (Mem.of []) (.I r) (Mem.of []):=by
  unfold cL at h
  refine bx Tryz.func97 R (nT Tryz.ntmps97 R) (LH.wk (aQ [(0,.I p0),(1,.I p1)] []) (LH.aj [(0,.I p0),(1,.I p1)] [] R (bt R zS) ?_))
  obtain ⟨r1,ei,h⟩:=ao h
  refine LH.aj [(0,.I p0),(1,.I p1),(5,.bool r1)] [] R (br R (sN (ej (args:=[.I p0]) R FP R (aI bm) (lz ei) R (ct R zS)))) ?_
  obtain ⟨r2,fH,h⟩:=ao h
  refine LH.aj [(0,.I p0),(1,.I p1),(5,.bool r1),(6,.bool r2)] [] R (br R (sN (ej (args:=[.I p1]) R FP R (aI bm) (lz fH) R (ct R zS)))) (LH.seq (LH.aj [(0,.I p0),(1,.I p1),(6,.bool r2),(11,.bool r1)] [] R (bM R zS) (LH.cond (t:=r1) R (fun ix=>?_) (fun ix=>?_))))
  ·replace h:=aB h ix
   refine LH.seq (LH.aj [(12,.bool r2)] [] R (bM R zS) (LH.cond (t:=r2) R (fun hT=>?_) (fun hT=>?_)))
   ·replace h:=aB h hT
    refine LH.aj [(4,.I 0)] [] R (bt R zS) (LH.ret (aU (aU ?_)))
    obtain rfl:=oI h
    exact aN (aT Tryz.results97) (bO R (bL ⟨aM mN,R,aX R,Sub.rfl⟩))
   replace h:=aA h hT
   refine LH.skip (au (LH.aj [(4,.I (-1))] [] R (bt R zS) (LH.ret (aU ?_))))
   obtain rfl:=oI h
   exact aN (aT Tryz.results97) (bO R (bL ⟨aM mN,R,aX R,Sub.rfl⟩))
  replace h:=aA h ix
  refine LH.skip (au (LH.wk (aQ [(0,.I p0),(1,.I p1),(6,.bool r2)] []) (LH.seq (LH.aj [(0,.I p0),(1,.I p1),(13,.bool r2)] [] R (bM R zS) (LH.cond (t:=r2) R (fun kM=>?_) (fun kM=>?_))))))
  ·replace h:=aB h kM
   refine LH.aj [(4,.I 1)] [] R (bt R zS) (LH.ret (aU ?_))
   obtain rfl:=oI h
   exact aN (aT Tryz.results97) (bO R (bL ⟨aM mN,R,aX R,Sub.rfl⟩))
  replace h:=aA h kM
  refine LH.skip (au (LH.wk (aQ [(0,.I p0),(1,.I p1)] []) (LH.seq (LH.aj [(0,.I p0),(1,.I p1),(16,.bool (decide (p0<p1)))] [] R (br R (br R (sN (fy R R zS)))) (LH.cond (t:=(decide (p0<p1))) R (fun fQ=>?_) (fun fQ=>?_))))))
  ·replace h:=aB h fQ
   refine LH.aj [(4,.I (-1))] [] R (bt R zS) (LH.ret (aU ?_))
   obtain rfl:=oI h
   exact aN (aT Tryz.results97) (bO R (bL ⟨aM mN,R,aX R,Sub.rfl⟩))
  replace h:=aA h fQ
  refine LH.skip (au (LH.wk (aQ [(0,.I p0),(1,.I p1)] []) (LH.seq (LH.aj [(19,.bool (decide (p0 > p1)))] [] R (br R (br R (sN (jx R R zS)))) (LH.cond (t:=(decide (p0 > p1))) R (fun jd=>?_) (fun jd=>?_))))))
  ·replace h:=aB h jd
   refine LH.aj [(4,.I 1)] [] R (bt R zS) (LH.ret (aU ?_))
   obtain rfl:=oI h
   exact aN (aT Tryz.results97) (bO R (bL ⟨aM mN,R,aX R,Sub.rfl⟩))
  replace h:=aA h jd
  refine LH.skip (au (LH.aj [(4,.I 0)] [] R (bt R zS) (LH.ret ?_)))
  obtain rfl:=oI h
  exact aN (aT Tryz.results97) (bO R (bL ⟨aM mN,R,aX R,Sub.rfl⟩))
theorem kX {F:Nat} {p0:List Int} {r:Int} (h:gR F p0=some r):aO Tryz.prog 105 [.L p0] (Mem.of []) (.I r) (Mem.of []):=by
  unfold gR at h
  refine bx Tryz.func105 R (nT Tryz.ntmps105 R) (LH.wk (aQ [(0,.L p0)] []) (LH.aj [(0,.L p0)] [] R (bt R zS) (LH.aj [(0,.L p0),(3,.I 0)] [] R (bt R zS) (LH.seq (LH.aj [(3,.I 0),(6,.L p0),(7,.I (p0.length:Int)),(8,.I 0)] [] R (fh R (sN (bV (f:=LV.I) cJ R (br R zS)))) (LH.block (LH.loop (fun n e m=>∃ (n1:Int),eU p0 n n1=some r∧e=Env.of [(3,.I 0),(6,.L p0),(7,.I (p0.length:Int)),(8,.I n1)]∧m=Mem.of []) F ⟨0,h,R,R⟩ ?_)))))))
  clear h
  rintro n e m ⟨n1,h,rfl,rfl⟩
  rcases n with _ | n
  · cases (show Option.none=some _ from h)
  obtain ⟨aK,a7⟩:∃ f,f=eU p0 n:=⟨_,rfl⟩
  replace h:fA p0 aK n1=some r:=a7 ▸ h
  unfold fA at h
  refine LH.aj [(3,.I 0),(6,.L p0),(7,.I (p0.length:Int)),(8,.I n1),(9,.bool (decide (n1<(p0.length:Int))))] [] R (sN (fy R R zS)) (LH.seq (LH.cond (t:=(decide (n1<(p0.length:Int)))) R (fun fG=>?_) (fun fG=>?_)))
  ·replace h:=aB h fG
   refine LH.skip (au (LH.wk (aQ [(3,.I 0),(6,.L p0),(7,.I (p0.length:Int)),(8,.I n1)] []) (LH.seq (LH.block ?_))))
   obtain ⟨x3,gj,h⟩:=ao h
   refine LH.aj [(3,.I 0),(5,.I x3),(6,.L p0),(7,.I (p0.length:Int)),(8,.I n1)] [] R (sN (eM (f:=LV.I) cJ aE bb R R mu gj R (sN (bh R aE bN (bt R zS))))) (LH.aj [(3,.I 0),(5,.I x3),(6,.L p0),(7,.I (p0.length:Int)),(8,.I n1),(14,.bool (x3 != 0))] [] R (br R (br R (sN (iR R R zS)))) (LH.cond (t:=(x3 != 0)) R (fun hT=>?_) (fun hT=>?_)))
   ·replace h:=aB h hT
    refine LH.aj [(2,.I x3)] [] R (br R (bt R zS)) (LH.ret (bD (aU (dW (bD (aU ?_))))))
    obtain rfl:=oI h
    exact aN (aT Tryz.results105) (bO R (bL ⟨aM mN,R,aX R,Sub.rfl⟩))
   replace h:=aA h hT
   refine LH.skip (aY (au (LH.aS [(3,.I 0),(6,.L p0),(7,.I (p0.length:Int)),(8,.I (i64 (n1+1)))] [] R (sN (cI R R (br R zS))) ?_)))
   exact bl ⟨(i64 (n1+1)),a7 ▸ h,R,R⟩ (Wk.eq R R R R)
  replace h:=aA h fG
  refine LH.exit (cD (b6 (bP (au (LH.aj [(2,.I 0)] [] R (br R (bt R zS)) (LH.ret ?_))))))
  obtain rfl:=oI h
  exact aN (aT Tryz.results105) (bO R (bL ⟨aM mN,R,aX R,Sub.rfl⟩))
theorem JT {F:Nat} {p0:aL} {p1:aL} {r:Int} (h:DC F p0 p1=some r):aO Tryz.prog 106 [.agg [.I p0.Time,.I p0.Source,.I p0.Seq],.agg [.I p1.Time,.I p1.Source,.I p1.Seq]] (Mem.of []) (.I r) (Mem.of []):=by
  unfold DC at h
  refine bx Tryz.func106 R (nT Tryz.ntmps106 R) (LH.wk (aQ [(0,.agg [.I p0.Time,.I p0.Source,.I p0.Seq]),(1,.agg [.I p1.Time,.I p1.Source,.I p1.Seq])] []) (LH.aj [(2,.ag [.I p0.Time,.I p0.Source,.I p0.Seq]),(3,.ag [.I p1.Time,.I p1.Source,.I p1.Seq])] [] R (sB (de R R R R (sB (de R R R R (bt R zS))))) ?_))
  obtain ⟨r1,ei,h⟩:=ao h
  obtain ⟨r2,fH,h⟩:=ao h
  obtain ⟨r3,ot,h⟩:=ao h
  refine LH.cO mixed [] [0,0,0,0,0,0,0,0,0,0,0,0,0] [(4,.I r3)] [] R R (by kernel_rfl) (aD (aw ez aE bb R R R ⟨R,aD (bh R aE bN ⟨R,aD (aw ez aE bb R R R ⟨R,aD (bh R aE bN ⟨R,aD (ej (args:=[.I p0.Source,.I p1.Source]) R th R (aI (aI bm)) (dh ei) R ⟨R,aD (aw dL aE bb R R R ⟨R,aD (bh R aE bN ⟨R,aD (aw dL aE bb R R R ⟨R,aD (bh R aE bN ⟨R,aD (ej (args:=[.I p0.Seq,.I p1.Seq]) R th R (aI (aI bm)) (dh fH) R ⟨R,aD (ka (f:=LV.I) (ys:=[r1,r2]) cJ rj bb R R R mu ⟨R,aD (ej (args:=[.L [r1,r2]]) R AZ R (aI bm) (kX ot) R ⟨R,M6 R zM⟩)⟩)⟩)⟩)⟩)⟩)⟩)⟩)⟩)⟩)⟩)⟩)) (LH.ret ?_)
  obtain rfl:=oI h
  exact aN (aT Tryz.results106) (bO R (bL ⟨aM mN,R,aX R,Sub.rfl⟩))
theorem Ql {F:Nat} {p0:Int} {p1:Int} {c0:List aL} {r:Int} (h:vm F p0 p1 c0=some r):aO Tryz.prog 104 [.I p0,.I p1,.ag [.al 3 (c0.map aL.lv)]] (Mem.of []) (.I r) (Mem.of []):=by
  unfold vm at h
  refine bx Tryz.func104 R (nT Tryz.ntmps104 R) (LH.wk (aQ [(0,.I p0),(1,.I p1),(2,.ag [.al 3 (c0.map aL.lv)])] []) (LH.aj [(0,.I p0),(1,.I p1),(2,.ag [.al 3 (c0.map aL.lv)])] [] R (bt R zS) ?_))
  obtain ⟨x1,M0,h⟩:=ao h
  obtain ⟨x2,LM,h⟩:=ao h
  obtain ⟨r3,ot,h⟩:=ao h
  obtain ⟨r4,Fw,h⟩:=ao h
  obtain ⟨r5,AQ,h⟩:=ao h
  refine LH.cO mixed [] [0,0,0,0,0,0,0,0,0,0,0,0,0,0,0] [(5,.I r5)] [] R R (by kernel_rfl) ?_ ?_
  ·exact aD (bh R nw nj ⟨R,fC R (aD (eM (f:=aL.lv) e6 cc b7 R R aL.ok M0 R ⟨R,aD (bc R cc gp b7 R R ⟨R,aD (bh R nw nj ⟨R,fC R (aD (eM (f:=aL.lv) e6 cc b7 R R aL.ok LM R ⟨R,aD (bc R cc gp b7 R R ⟨R,aD (ej (args:=[.agg [.I x1.Time,.I x1.Source,.I x1.Seq],.agg [.I x2.Time,.I x2.Source,.I x2.Seq]]) R FO R (aI (aI bm)) (JT ot) R ⟨R,fC R (fC R (aD (ej (args:=[.I p0,.I p1]) R th R (aI (aI bm)) (dh Fw) R ⟨R,aD (ka (f:=LV.I) (ys:=[r3,r4]) cJ rj bb R R R mu ⟨R,aD (ej (args:=[.L [r3,r4]]) R AZ R (aI bm) (kX AQ) R ⟨R,M6 R zM⟩)⟩)⟩)))⟩)⟩)⟩))⟩)⟩)⟩))⟩)
  refine LH.ret ?_
  obtain rfl:=oI h
  exact aN (aT Tryz.results104) (bO R (bL ⟨aM mN,R,aX R,Sub.rfl⟩))
theorem Qt {F:Nat} {p0:List aL} {p1:List Int} {r:List ep} (h:Cu F p0 p1=some r):aO Tryz.prog 85 [.al 3 (p0.map aL.lv),.L p1] (Mem.of []) (.al 2 (r.map ep.lv)) (Mem.of []):=by
  unfold Cu at h
  refine bx Tryz.func85 R (nT Tryz.ntmps85 R) (LH.wk (aQ [(0,.al 3 (p0.map aL.lv)),(1,.L p1)] []) (LH.aj [(1,.L p1),(2,.ag [.al 3 (p0.map aL.lv)])] [] R (sB (de R R R R (k9 R zS))) (LH.aj [(1,.L p1),(2,.ag [.al 3 (p0.map aL.lv)]),(5,.nil)] [] R (k9 R zS) (LH.seq (LH.aj [(1,.L p1),(2,.ag [.al 3 (p0.map aL.lv)]),(5,.nil),(13,.al 3 (p0.map aL.lv)),(14,.I (p0.length:Int)),(15,.I 0)] [] R (sN (bh R nw nj (sN (bV (f:=aL.lv) e6 R (br R zS))))) (LH.block (LH.wk ((Wk.trans (aQ [(1,.L p1),(2,.ag [.al 3 (p0.map aL.lv)]),(5,.nil),(13,.al 3 (p0.map aL.lv)),(14,.I (p0.length:Int)),(15,.I 0)] []) (Wk.trans (aQ [(1,.L p1),(2,.ag [.al 3 (p0.map aL.lv)]),(5,.nil),(13,.al 3 (p0.map aL.lv)),(14,.I (p0.length:Int)),(15,.I 0)] []) (Wk.trans (Wk.tC (fB:=[(1,.L p1),(2,.ag [.al 3 (p0.map aL.lv)]),(5,.arr 125 (List.length ([]:List Int))),(13,.al 3 (p0.map aL.lv)),(14,.I (p0.length:Int)),(15,.I 0)]) 125 3 1 R R (wK (wK (wO (wK (wK (wK wN))))))) (aQ [(1,.L p1),(2,.ag [.al 3 (p0.map aL.lv)]),(5,.arr 125 (List.length ([]:List Int))),(13,.al 3 (p0.map aL.lv)),(14,.I (p0.length:Int)),(15,.I 0)] [(125,.arr 3 1 (List.map LV.I ([]:List Int)))]))))) (LH.loop (fun n e m=>∃ (n1:Int) (l2:List Int),DP F p0 p1 n n1 l2=some r∧e=Env.of [(1,.L p1),(2,.ag [.al 3 (p0.map aL.lv)]),(5,.arr 125 l2.length),(13,.al 3 (p0.map aL.lv)),(14,.I (p0.length:Int)),(15,.I n1)]∧m=Mem.of [(125,.arr 3 1 (l2.map LV.I))]) F ⟨0,([]:List Int),h,R,R⟩ ?_))))))))
  clear h
  rintro n e m ⟨n1,l2,h,rfl,rfl⟩
  rcases n with _ | n
  · cases (show Option.none=some _ from h)
  obtain ⟨aK,a7⟩:∃ f,f=DP F p0 p1 n:=⟨_,rfl⟩
  replace h:GU F p0 p1 aK n1 l2=some r:=a7 ▸ h
  unfold GU at h
  refine LH.aj [(1,.L p1),(2,.ag [.al 3 (p0.map aL.lv)]),(5,.arr 125 l2.length),(13,.al 3 (p0.map aL.lv)),(14,.I (p0.length:Int)),(15,.I n1),(16,.bool (decide (n1<(p0.length:Int))))] [(125,.arr 3 1 (l2.map LV.I))] R (sN (fy R R zS)) (LH.seq (LH.cond (t:=(decide (n1<(p0.length:Int)))) R (fun ix=>?_) (fun ix=>?_)))
  ·replace h:=aB h ix
   refine LH.skip (au (LH.wk (aQ [(1,.L p1),(2,.ag [.al 3 (p0.map aL.lv)]),(5,.arr 125 l2.length),(13,.al 3 (p0.map aL.lv)),(14,.I (p0.length:Int)),(15,.I n1)] [(125,.arr 3 1 (l2.map LV.I))]) (LH.seq (LH.block ?_))))
   obtain ⟨x4,AW,h⟩:=ao h
   refine LH.aj [(1,.L p1),(2,.ag [.al 3 (p0.map aL.lv)]),(5,.arr 125 l2.length),(6,.I n1),(7,.ag [.I x4.Time,.I x4.Source,.I x4.Seq]),(13,.al 3 (p0.map aL.lv)),(14,.I (p0.length:Int)),(15,.I n1)] [(125,.arr 3 1 (l2.map LV.I))] R (br R (sN (eM (f:=aL.lv) e6 cc b7 R R aL.ok AW R (sN (bc R cc gp b7 R R (sN (j0 (id:=107) R uO R R (bt R (s_ (cF R R R cc b7 R R R (s0 ((Wk.trans (aQ [(1,.L p1),(2,.ag [.al 3 (p0.map aL.lv)]),(5,.arr 125 l2.length),(6,.I n1),(7,.ptr 107 0),(13,.al 3 (p0.map aL.lv)),(14,.I (p0.length:Int)),(15,.I n1)] [(107,.box [.I x4.Time,.I x4.Source,.I x4.Seq]),(125,.arr 3 1 (l2.map LV.I))]) (Wk.trans (Wk.bk 107 [.I x4.Time,.I x4.Source,.I x4.Seq] R R R (bH R)) (Wk.eq R R R R))))))))))))))) ?_
   obtain ⟨r5,AQ,h⟩:=ao h
   refine LH.aj [(1,.L p1),(2,.ag [.al 3 (p0.map aL.lv)]),(5,.arr 125 l2.length),(6,.I n1),(13,.al 3 (p0.map aL.lv)),(14,.I (p0.length:Int)),(15,.I n1),(21,.bool r5)] [(125,.arr 3 1 (l2.map LV.I))] R (sN (bc R cc gp b7 R R (sN (ej (args:=[.agg [.I x4.Time,.I x4.Source,.I x4.Seq]]) R L2 R (aI bm) (Qx AQ) R zS)))) (LH.cond (t:=r5) R (fun fQ=>?_) (fun fQ=>?_))
   ·replace h:=aB h fQ
    obtain ⟨v7,Wt,h⟩:=ao h
    refine LH.aS [(1,.L p1),(2,.ag [.al 3 (p0.map aL.lv)]),(5,.arr 125 v7.length),(13,.al 3 (p0.map aL.lv)),(14,.I (p0.length:Int)),(15,.I n1)] [(125,.arr 3 1 (v7.map LV.I))] R (jQ R (br R (sN (ka (f:=LV.I) (ys:=[n1]) cJ rj bb R R R mu (sN (nL (f:=LV.I) cJ rj bb R R (bH R) R Wt (nQ R zS))))))) (aY (au (LH.aS [(1,.L p1),(2,.ag [.al 3 (p0.map aL.lv)]),(5,.arr 125 v7.length),(13,.al 3 (p0.map aL.lv)),(14,.I (p0.length:Int)),(15,.I (i64 (n1+1)))] [(125,.arr 3 1 (v7.map LV.I))] R (sN (cI R R (br R zS))) ?_)))
    exact bl ⟨(i64 (n1+1)),v7,a7 ▸ h,R,R⟩ (Wk.eq R R R R)
   replace h:=aA h fQ
   refine LH.skip (aY (au (LH.aS [(1,.L p1),(2,.ag [.al 3 (p0.map aL.lv)]),(5,.arr 125 l2.length),(13,.al 3 (p0.map aL.lv)),(14,.I (p0.length:Int)),(15,.I (i64 (n1+1)))] [(125,.arr 3 1 (l2.map LV.I))] R (sN (cI R R (br R zS))) ?_)))
   exact bl ⟨(i64 (n1+1)),l2,a7 ▸ h,R,R⟩ (Wk.eq R R R R)
  replace h:=aA h ix
  refine LH.exit (cD (b6 (bP (au ?_))))
  obtain ⟨l8,UO,h⟩:=ao h
  refine LH.aj [(1,.L p1),(2,.ag [.al 3 (p0.map aL.lv)]),(5,.L l8)] [] R (jQ R (sN (PW (vs:=[.ag [.al 3 (p0.map aL.lv)]]) R (sN (dX (args:=[.arr 125 l2.length,.fn 104 [.ag [.al 3 (p0.map aL.lv)]]]) (ml:=[(125,.arr 3 1 (l2.map LV.I))]) (cQ:=[(125,.arr 3 1 (l8.map LV.I))]) R JG R (aI (aI bm)) (zq Tryz.Ke R L3 R (fun _ _ _ h=>Ql h) 125 3 UO) (mC R mN) (bT R bU) R (s0 ((Wk.trans (Wk.to (el:=[(1,.L p1),(2,.ag [.al 3 (p0.map aL.lv)]),(5,.arr 125 l8.length)]) (ml:=[(125,.arr 3 1 (l8.map LV.I))]) (eC R (eC R (eC (congrArg (LV.arr 125) (vJ UO)) eN))) ⟨R,trivial⟩ R (aX R)) (Wk.trans (Wk.lC (f:=LV.I) (fB:=[(1,.L p1),(2,.ag [.al 3 (p0.map aL.lv)]),(5,.L l8)]) 125 3 1 l8 R R (bH R) (fK R (fK R (fZ fN)))) (Wk.eq R R R R)))))))))) (LH.aj [(1,.L p1),(2,.ag [.al 3 (p0.map aL.lv)]),(5,.L l8),(8,.nil)] [] R (k9 R zS) (LH.seq (LH.aj [(1,.L p1),(2,.ag [.al 3 (p0.map aL.lv)]),(8,.nil),(30,.L l8),(31,.I (l8.length:Int)),(32,.I 0)] [] R (fh R (sN (bV (f:=LV.I) cJ R (br R zS)))) (LH.block (LH.wk ((Wk.trans (aQ [(1,.L p1),(2,.ag [.al 3 (p0.map aL.lv)]),(8,.nil),(30,.L l8),(31,.I (l8.length:Int)),(32,.I 0)] []) (Wk.trans (aQ [(1,.L p1),(2,.ag [.al 3 (p0.map aL.lv)]),(8,.nil),(30,.L l8),(31,.I (l8.length:Int)),(32,.I 0)] []) (Wk.trans (Wk.tC (fB:=[(1,.L p1),(2,.ag [.al 3 (p0.map aL.lv)]),(8,.arr 161 (List.length ([]:List ep))),(30,.L l8),(31,.I (l8.length:Int)),(32,.I 0)]) 161 137 2 R R (wK (wK (wO (wK (wK (wK wN))))))) (aQ [(1,.L p1),(2,.ag [.al 3 (p0.map aL.lv)]),(8,.arr 161 (List.length ([]:List ep))),(30,.L l8),(31,.I (l8.length:Int)),(32,.I 0)] [(161,.arr 137 2 (List.map ep.lv ([]:List ep)))]))))) (LH.loop (fun n e m=>∃ (n9:Int) (gF:List ep),DQ F p0 p1 l8 n n9 gF=some r∧e=Env.of [(1,.L p1),(2,.ag [.al 3 (p0.map aL.lv)]),(8,.arr 161 gF.length),(30,.L l8),(31,.I (l8.length:Int)),(32,.I n9)]∧m=Mem.of [(161,.arr 137 2 (gF.map ep.lv))]) F ⟨0,([]:List ep),h,R,R⟩ ?_))))))
  clear h
  rintro n e m ⟨n9,gF,h,rfl,rfl⟩
  rcases n with _ | n
  · cases (show Option.none=some _ from h)
  obtain ⟨fv,eE⟩:∃ f,f=DQ F p0 p1 l8 n:=⟨_,rfl⟩
  replace h:GV F p0 p1 l8 fv n9 gF=some r:=eE ▸ h
  unfold GV at h
  refine LH.aj [(1,.L p1),(2,.ag [.al 3 (p0.map aL.lv)]),(8,.arr 161 gF.length),(30,.L l8),(31,.I (l8.length:Int)),(32,.I n9),(33,.bool (decide (n9<(l8.length:Int))))] [(161,.arr 137 2 (gF.map ep.lv))] R (sN (fy R R zS)) (LH.seq (LH.cond (t:=(decide (n9<(l8.length:Int)))) R (fun iL=>?_) (fun iL=>?_)))
  ·replace h:=aB h iL
   refine LH.skip (au (LH.wk (aQ [(1,.L p1),(2,.ag [.al 3 (p0.map aL.lv)]),(8,.arr 161 gF.length),(30,.L l8),(31,.I (l8.length:Int)),(32,.I n9)] [(161,.arr 137 2 (gF.map ep.lv))]) (LH.seq (LH.block ?_))))
   obtain ⟨gG,pS,h⟩:=ao h
   refine LH.aj [(1,.L p1),(2,.ag [.al 3 (p0.map aL.lv)]),(8,.arr 161 gF.length),(10,.I gG),(30,.L l8),(31,.I (l8.length:Int)),(32,.I n9)] [(161,.arr 137 2 (gF.map ep.lv))] R (sN (eM (f:=LV.I) cJ aE bb R R mu pS R (sN (bh R aE bN (bt R zS))))) (LH.aj [(1,.L p1),(2,.ag [.al 3 (p0.map aL.lv)]),(8,.arr 161 gF.length),(10,.I gG),(11,.I (i64 ((gF.length:Int) - 1))),(30,.L l8),(31,.I (l8.length:Int)),(32,.I n9)] [(161,.arr 137 2 (gF.map ep.lv))] R (jQ R (sN (F8 (f:=ep.lv) ri R R (sN (iS R R (bt R zS)))))) (LH.seq ?_))
   obtain ⟨IW,hv,h⟩:=ao h
   refine LH.cO mixed [] [0,0,0,0,0,0,1,1,1,0,0,0,0,0,0,0,0,0] [(1,.L p1),(2,.ag [.al 3 (p0.map aL.lv)]),(8,.arr 161 gF.length),(10,.I gG),(11,.I (i64 ((gF.length:Int) - 1))),(30,.L l8),(31,.I (l8.length:Int)),(32,.I n9),(56,.bool IW)] [(161,.arr 137 2 (gF.map ep.lv))] R R (by kernel_rfl) ?_ ?_
   ·refine fC R (aD (fy R R ⟨R,iQ R ?_⟩))
    by_cases b4:(decide ((i64 ((gF.length:Int) - 1))<0))=true
    ·replace hv:=aB hv b4
     refine mF R R b4 (mF R R b4 (mF R R b4 (mF R R b4 (mF R R b4 (mF R R b4 (mF R R b4 (mF R R b4 (mF R R b4 (mF R R b4 (mF R R b4 (mF R R b4 (mF R R b4 (mF R R b4 (aD (aZ (cB b4) (v:=(.bool _)) R ⟨R,?_⟩)))))))))))))))
     obtain rfl:=oI hv
     exact zM
    ·replace b4:=bF b4
     replace hv:=aA hv b4
     refine mT R (cB b4) (aD (bh R nw nj ⟨R,mT R (cB b4) (PN R (mT R (cB b4) (fC R ?_)))⟩))
     obtain ⟨CE,wx,hv⟩:=ao hv
     refine mT R (cB b4) (PO (gV (f:=ep.lv) ri vL rk R R R wx ⟨R,mT R (cB b4) (PO (Il (f:=ep.lv) sa aE bb R R R ⟨R,mT R (cB b4) (PO (wz (f:=ep.lv) R R (dB wx).2 R R R aE bN ⟨R,?_⟩))⟩))⟩))
     obtain ⟨qj,ya,hv⟩:=ao hv
     refine mT R (cB b4) (aD (eM (f:=aL.lv) e6 cc b7 R R aL.ok ya R ⟨R,mT R (cB b4) (aD (bc R cc gp b7 R R ⟨R,mT R (cB b4) (aD (bh R nw nj ⟨R,mT R (cB b4) (fC R ?_)⟩))⟩))⟩))
     obtain ⟨IX,LK,hv⟩:=ao hv
     refine mT R (cB b4) (aD (eM (f:=aL.lv) e6 cc b7 R R aL.ok LK R ⟨R,mT R (cB b4) (aD (bc R cc gp b7 R R ⟨R,?_⟩))⟩))
     obtain ⟨um,Ll,hv⟩:=ao hv
     refine mT R (cB b4) (aD (ej (args:=[.agg [.I qj.Time,.I qj.Source,.I qj.Seq],.agg [.I IX.Time,.I IX.Source,.I IX.Seq]]) R FO R (aI (aI bm)) (JT Ll) R ⟨R,mT R (cB b4) (aD (iR R R ⟨R,aD (aW (cB b4) (v:=(.bool _)) R ⟨R,?_⟩)⟩))⟩))
     obtain rfl:=oI hv
     exact zM
   clear hv
   refine LH.cond (t:=IW) R (fun kE=>?_) (fun kE=>?_)
   ·replace h:=aB h kE
    obtain ⟨v21,Tk,h⟩:=ao h
    refine LH.aj [(1,.L p1),(2,.ag [.al 3 (p0.map aL.lv)]),(8,.arr 161 v21.length),(30,.L l8),(31,.I (l8.length:Int)),(32,.I n9)] [(161,.arr 137 2 (v21.map ep.lv))] R (jQ R (br R (sN (fU (vs:=[(0,.I gG),(1,.bool false)]) QZ Kk R (lf sa bb aE R R R (lf xa lP jL R R R fT)) (sN (ka (f:=ep.lv) (ys:=[(ep.mk gG false)]) ri Kj rk R R R ep.ok (sN (nL (f:=ep.lv) ri Kj rk R R (bH R) R Tk (nQ R zS))))))))) (LH.exit (cD (bP (au (LH.aS [(1,.L p1),(2,.ag [.al 3 (p0.map aL.lv)]),(8,.arr 161 v21.length),(30,.L l8),(31,.I (l8.length:Int)),(32,.I (i64 (n9+1)))] [(161,.arr 137 2 (v21.map ep.lv))] R (sN (cI R R (br R zS))) ?_)))))
    exact bl ⟨(i64 (n9+1)),v21,eE ▸ h,R,R⟩ (Wk.eq R R R R)
   replace h:=aA h kE
   refine LH.skip (au ?_)
   obtain ⟨Kn,H8,h⟩:=ao h
   refine LH.aj [(1,.L p1),(2,.ag [.al 3 (p0.map aL.lv)]),(8,.arr 161 gF.length),(10,.I gG),(11,.I (i64 ((gF.length:Int) - 1))),(12,.I Kn.first),(30,.L l8),(31,.I (l8.length:Int)),(32,.I n9)] [(161,.arr 137 2 (gF.map ep.lv))] R (jQ R (br R (sN (gV (f:=ep.lv) ri vL rk R R R H8 (sN (Il (f:=ep.lv) sa aE bb R R R (sN (wz (f:=ep.lv) R R (dB H8).2 R R R aE bN (bt R zS))))))))) ?_
   obtain ⟨RK,hv,h⟩:=ao h
   refine LH.cO mixed [] [0,0,0,0,0,0,0,0,0,0,0,0,0,0,0,0,0,0,0,0] [(1,.L p1),(2,.ag [.al 3 (p0.map aL.lv)]),(8,.arr 161 gF.length),(11,.I (i64 ((gF.length:Int) - 1))),(30,.L l8),(31,.I (l8.length:Int)),(32,.I n9),(86,.bool RK)] [(161,.arr 137 2 (gF.map ep.lv))] R R (by kernel_rfl) ?_ ?_
   ·refine aD (bh R nw nj ⟨R,fC R ?_⟩)
    obtain ⟨M9,H9,hv⟩:=ao hv
    refine aD (eM (f:=aL.lv) e6 cc b7 R R aL.ok H9 R ⟨R,aD (bc R cc gp b7 R R ⟨R,aD (bh R nw nj ⟨R,fC R ?_⟩)⟩)⟩)
    obtain ⟨MI,LN,hv⟩:=ao hv
    refine aD (eM (f:=aL.lv) e6 cc b7 R R aL.ok LN R ⟨R,aD (bc R cc gp b7 R R ⟨R,aD (Io R R (EG M9 MI) ⟨R,iQ R ?_⟩)⟩)⟩)
    by_cases jX:(!(decide (M9=MI)))=true
    ·replace hv:=aB hv jX
     refine mF R R jX (mF R R jX (mF R R jX (mF R R jX (mF R R jX (mF R R jX (mF R R jX (mF R R jX (mF R R jX (aD (aZ (cB jX) (v:=(.bool _)) R ⟨R,?_⟩))))))))))
     obtain rfl:=oI hv
     exact zM
    ·replace jX:=bF jX
     replace hv:=aA hv jX
     refine mT R (cB jX) (rV R (mT R (cB jX) (fC R ?_)))
     obtain ⟨RO,Ia,hv⟩:=ao hv
     refine mT R (cB jX) (aD (eM (f:=LV.I) cJ aE bb R R mu Ia R ⟨R,mT R (cB jX) (aD (bh R aE bN ⟨R,mT R (cB jX) (rV R (mT R (cB jX) (fC R ?_)))⟩))⟩))
     obtain ⟨Na,LO,hv⟩:=ao hv
     refine mT R (cB jX) (aD (eM (f:=LV.I) cJ aE bb R R mu LO R ⟨R,mT R (cB jX) (aD (bh R aE bN ⟨R,mT R (cB jX) (aD (iR R R ⟨R,aD (aW (cB jX) (v:=(.bool _)) R ⟨R,?_⟩)⟩))⟩))⟩))
     obtain rfl:=oI hv
     exact zM
   clear hv
   refine LH.cond (t:=RK) R (fun pK=>?_) (fun pK=>?_)
   ·replace h:=aB h pK
    obtain ⟨Es,Ib,h⟩:=ao h
    refine LH.aS [(1,.L p1),(2,.ag [.al 3 (p0.map aL.lv)]),(8,.arr 161 (List.length (gF.set ((i64 ((gF.length:Int) - 1)).toNat) (ep.mk Es.first true)))),(30,.L l8),(31,.I (l8.length:Int)),(32,.I n9)] [(161,.arr 137 2 (List.map ep.lv (gF.set ((i64 ((gF.length:Int) - 1)).toNat) (ep.mk Es.first true))))] R (jQ R (br R (sN (gV (f:=ep.lv) ri vL rk R R R Ib (sN (Il (f:=ep.lv) xa jL lP R R R (s_ (qx (f:=ep.lv) (z':=(ep.mk Es.first true)) R R R R jL lP R (dB Ib).2 R (s0 (Wk.to (eC R (eC R (eC (congrArg (LV.arr 161) (by simp)) (eC R (eC R (eC R eN)))))) ⟨R,trivial⟩ R (aX R))))))))))) (aY (au (LH.aS [(1,.L p1),(2,.ag [.al 3 (p0.map aL.lv)]),(8,.arr 161 (List.length (gF.set ((i64 ((gF.length:Int) - 1)).toNat) (ep.mk Es.first true)))),(30,.L l8),(31,.I (l8.length:Int)),(32,.I (i64 (n9+1)))] [(161,.arr 137 2 (List.map ep.lv (gF.set ((i64 ((gF.length:Int) - 1)).toNat) (ep.mk Es.first true))))] R (sN (cI R R (br R zS))) ?_)))
    exact bl ⟨(i64 (n9+1)),(gF.set ((i64 ((gF.length:Int) - 1)).toNat) (ep.mk Es.first true)),eE ▸ h,R,R⟩ (Wk.eq R R R R)
   replace h:=aA h pK
   refine LH.skip (aY (au (LH.aS [(1,.L p1),(2,.ag [.al 3 (p0.map aL.lv)]),(8,.arr 161 gF.length),(30,.L l8),(31,.I (l8.length:Int)),(32,.I (i64 (n9+1)))] [(161,.arr 137 2 (gF.map ep.lv))] R (sN (cI R R (br R zS))) ?_)))
   exact bl ⟨(i64 (n9+1)),gF,eE ▸ h,R,R⟩ (Wk.eq R R R R)
  replace h:=aA h iL
  refine LH.exit (cD (b6 (bP (au (LH.wk ((Wk.trans (aQ [(8,.arr 161 gF.length)] [(161,.arr 137 2 (gF.map ep.lv))]) (Wk.trans (Wk.lC (f:=ep.lv) (fB:=[(8,.al 2 (gF.map ep.lv))]) 161 137 2 gF R R (bH R) (fZ fN)) (aQ [(8,.al 2 (gF.map ep.lv))] [])))) (LH.aj [(4,.al 2 (gF.map ep.lv))] [] R (fh R (qB R zS)) (LH.ret ?_)))))))
  obtain rfl:=oI h
  exact aN (aT Tryz.results85) (bO R (bL ⟨aM mN,R,aX R,Sub.rfl⟩))
theorem Qp {F:Nat} {p0:aL} {p1:aL} {r:Int} (h:yT F p0 p1=some r):aO Tryz.prog 88 [.agg [.I p0.Time,.I p0.Source,.I p0.Seq],.agg [.I p1.Time,.I p1.Source,.I p1.Seq]] (Mem.of []) (.I r) (Mem.of []):=by
  unfold yT at h
  refine bx Tryz.func88 R (nT Tryz.ntmps88 R) (LH.wk (aQ [(0,.agg [.I p0.Time,.I p0.Source,.I p0.Seq]),(1,.agg [.I p1.Time,.I p1.Source,.I p1.Seq])] []) (LH.aj [(2,.ag [.I p0.Time,.I p0.Source,.I p0.Seq]),(3,.ag [.I p1.Time,.I p1.Source,.I p1.Seq])] [] R (sB (de R R R R (sB (de R R R R (bt R zS))))) ?_))
  obtain ⟨r1,ei,h⟩:=ao h
  obtain ⟨r2,fH,h⟩:=ao h
  obtain ⟨r3,ot,h⟩:=ao h
  obtain ⟨r4,Fw,h⟩:=ao h
  refine LH.cO mixed [] [0,0,0,0,0,0,0,0,0,0,0,0,0,0,0,0,0,0] [(4,.I r4)] [] R R (by kernel_rfl) ?_ ?_
  ·exact aD (aw fc aE bb R R R ⟨R,aD (bh R aE bN ⟨R,aD (aw fc aE bb R R R ⟨R,aD (bh R aE bN ⟨R,aD (ej (args:=[.I p0.Time,.I p1.Time]) R th R (aI (aI bm)) (dh ei) R ⟨R,aD (aw ez aE bb R R R ⟨R,aD (bh R aE bN ⟨R,aD (aw ez aE bb R R R ⟨R,aD (bh R aE bN ⟨R,aD (ej (args:=[.I p0.Source,.I p1.Source]) R th R (aI (aI bm)) (dh fH) R ⟨R,aD (aw dL aE bb R R R ⟨R,aD (bh R aE bN ⟨R,aD (aw dL aE bb R R R ⟨R,aD (bh R aE bN ⟨R,aD (ej (args:=[.I p0.Seq,.I p1.Seq]) R th R (aI (aI bm)) (dh ot) R ⟨R,aD (ka (f:=LV.I) (ys:=[r1,r2,r3]) cJ rj bb R R R mu ⟨R,aD (ej (args:=[.L [r1,r2,r3]]) R AZ R (aI bm) (kX Fw) R ⟨R,M6 R zM⟩)⟩)⟩)⟩)⟩)⟩)⟩)⟩)⟩)⟩)⟩)⟩)⟩)⟩)⟩)⟩)⟩)
  refine LH.ret ?_
  obtain rfl:=oI h
  exact aN (aT Tryz.results88) (bO R (bL ⟨aM mN,R,aX R,Sub.rfl⟩))
theorem P6 {F:Nat} {p0:Int} {p1:Int} {c0:List aL} {r:Int} (h:DK F p0 p1 c0=some r):aO Tryz.prog 87 [.I p0,.I p1,.ag [.al 3 (c0.map aL.lv)]] (Mem.of []) (.I r) (Mem.of []):=by
  unfold DK at h
  refine bx Tryz.func87 R (nT Tryz.ntmps87 R) (LH.wk (aQ [(0,.I p0),(1,.I p1),(2,.ag [.al 3 (c0.map aL.lv)])] []) (LH.aj [(0,.I p0),(1,.I p1),(2,.ag [.al 3 (c0.map aL.lv)])] [] R (bt R zS) ?_))
  obtain ⟨x1,M0,h⟩:=ao h
  obtain ⟨x2,LM,h⟩:=ao h
  obtain ⟨r3,ot,h⟩:=ao h
  refine LH.cO mixed [] [0,0,0,0,0,0,0,0,0,0] [(5,.I r3)] [] R R (by kernel_rfl) (aD (bh R nw nj ⟨R,fC R (aD (eM (f:=aL.lv) e6 cc b7 R R aL.ok M0 R ⟨R,aD (bc R cc gp b7 R R ⟨R,aD (bh R nw nj ⟨R,fC R (aD (eM (f:=aL.lv) e6 cc b7 R R aL.ok LM R ⟨R,aD (bc R cc gp b7 R R ⟨R,aD (ej (args:=[.agg [.I x1.Time,.I x1.Source,.I x1.Seq],.agg [.I x2.Time,.I x2.Source,.I x2.Seq]]) R Py R (aI (aI bm)) (Qp ot) R ⟨R,M6 R zM⟩)⟩)⟩))⟩)⟩)⟩))⟩)) (LH.ret ?_)
  obtain rfl:=oI h
  exact aN (aT Tryz.results87) (bO R (bL ⟨aM mN,R,aX R,Sub.rfl⟩))
theorem Qe {F:Nat} {p0:List aL} {p1:List Int} {r:List Int × Int} (h:DO F p0 p1=some r):aO Tryz.prog 73 [.al 3 (p0.map aL.lv),.L p1] (Mem.of []) (.cV [.L r.1,.I r.2]) (Mem.of []):=by
  unfold DO at h
  refine bx Tryz.func73 R (nT Tryz.ntmps73 R) (LH.wk (aQ [(0,.al 3 (p0.map aL.lv)),(1,.L p1)] []) (LH.aj [(1,.L p1),(2,.ag [.al 3 (p0.map aL.lv)])] [] R (sB (de R R R R (k9 R (bt R zS)))) (LH.seq (LH.aj [(1,.L p1),(2,.ag [.al 3 (p0.map aL.lv)]),(13,.bool ((p0.length:Int) != (p1.length:Int)))] [] R (sN (bh R nw nj (sN (bV (f:=aL.lv) e6 R (fh R (sN (bV (f:=LV.I) cJ R (sN (iR R R zS))))))))) (LH.cond (t:=((p0.length:Int) != (p1.length:Int))) R (fun jc=>?_) (fun jc=>?_))))))
  ·replace h:=aB h jc
   refine LH.aj [(4,.nil),(5,.I 1)] [] R (k9 R (bt R zS)) (LH.ret (aU ?_))
   obtain rfl:=oI h
   exact aN (aT Tryz.results73) (bO R (bO R (bL ⟨aM mN,R,aX R,(Sub.cV (qC (aI bm)))⟩)))
  replace h:=aA h jc
  refine LH.skip (au (LH.aj [(1,.L p1),(2,.ag [.al 3 (p0.map aL.lv)]),(6,.nil)] [] R (k9 R zS) (LH.seq ?_)))
  obtain ⟨r2,fH,h⟩:=ao h
  refine LH.aj [(2,.ag [.al 3 (p0.map aL.lv)]),(6,.nil),(16,.al 2 (r2.map ep.lv)),(17,.I (r2.length:Int)),(18,.I 0)] [] R (sN (bh R nw nj (fh R (sN (ej (args:=[.al 3 (p0.map aL.lv),.L p1]) R Pw R (aI (aI bm)) (Qt fH) R (sN (bV (f:=ep.lv) ri R (br R zS)))))))) (LH.block (LH.wk ((Wk.trans (aQ [(2,.ag [.al 3 (p0.map aL.lv)]),(6,.nil),(16,.al 2 (r2.map ep.lv)),(17,.I (r2.length:Int)),(18,.I 0)] []) (Wk.trans (aQ [(2,.ag [.al 3 (p0.map aL.lv)]),(6,.nil),(16,.al 2 (r2.map ep.lv)),(17,.I (r2.length:Int)),(18,.I 0)] []) (Wk.trans (Wk.tC (fB:=[(2,.ag [.al 3 (p0.map aL.lv)]),(6,.arr 129 (List.length ([]:List Int))),(16,.al 2 (r2.map ep.lv)),(17,.I (r2.length:Int)),(18,.I 0)]) 129 3 1 R R (wK (wO (wK (wK (wK wN)))))) (aQ [(2,.ag [.al 3 (p0.map aL.lv)]),(6,.arr 129 (List.length ([]:List Int))),(16,.al 2 (r2.map ep.lv)),(17,.I (r2.length:Int)),(18,.I 0)] [(129,.arr 3 1 (List.map LV.I ([]:List Int)))]))))) (LH.loop (fun n e m=>∃ (n3:Int) (l4:List Int),DH F p0 r2 n n3 l4=some r∧e=Env.of [(2,.ag [.al 3 (p0.map aL.lv)]),(6,.arr 129 l4.length),(16,.al 2 (r2.map ep.lv)),(17,.I (r2.length:Int)),(18,.I n3)]∧m=Mem.of [(129,.arr 3 1 (l4.map LV.I))]) F ⟨0,([]:List Int),h,R,R⟩ ?_)))
  clear h
  rintro n e m ⟨n3,l4,h,rfl,rfl⟩
  rcases n with _ | n
  · cases (show Option.none=some _ from h)
  obtain ⟨aK,a7⟩:∃ f,f=DH F p0 r2 n:=⟨_,rfl⟩
  replace h:GL F p0 r2 aK n3 l4=some r:=a7 ▸ h
  unfold GL at h
  refine LH.aj [(2,.ag [.al 3 (p0.map aL.lv)]),(6,.arr 129 l4.length),(16,.al 2 (r2.map ep.lv)),(17,.I (r2.length:Int)),(18,.I n3),(19,.bool (decide (n3<(r2.length:Int))))] [(129,.arr 3 1 (l4.map LV.I))] R (sN (fy R R zS)) (LH.seq (LH.cond (t:=(decide (n3<(r2.length:Int)))) R (fun kM=>?_) (fun kM=>?_)))
  ·replace h:=aB h kM
   refine LH.skip (au (LH.wk (aQ [(2,.ag [.al 3 (p0.map aL.lv)]),(6,.arr 129 l4.length),(16,.al 2 (r2.map ep.lv)),(17,.I (r2.length:Int)),(18,.I n3)] [(129,.arr 3 1 (l4.map LV.I))]) (LH.seq (LH.block ?_))))
   obtain ⟨x6,LP,h⟩:=ao h
   refine LH.aj [(2,.ag [.al 3 (p0.map aL.lv)]),(6,.arr 129 l4.length),(8,.ag [.I x6.first,.bool x6.dV]),(16,.al 2 (r2.map ep.lv)),(17,.I (r2.length:Int)),(18,.I n3)] [(129,.arr 3 1 (l4.map LV.I))] R (sN (eM (f:=ep.lv) ri vL rk R R ep.ok LP R (sN (bc R vL QV rk R R (sN (j0 (id:=108) R Kk R R (s_ (cF R R R vL rk R R R (s0 ((Wk.trans (aQ [(2,.ag [.al 3 (p0.map aL.lv)]),(6,.arr 129 l4.length),(8,.ptr 108 0),(16,.al 2 (r2.map ep.lv)),(17,.I (r2.length:Int)),(18,.I n3)] [(108,.box [.I x6.first,.bool x6.dV]),(129,.arr 3 1 (l4.map LV.I))]) (Wk.trans (Wk.bk 108 [.I x6.first,.bool x6.dV] R R R (bH R)) (Wk.eq R R R R))))))))))))) (LH.aj [(2,.ag [.al 3 (p0.map aL.lv)]),(6,.arr 129 l4.length),(8,.ag [.I x6.first,.bool x6.dV]),(16,.al 2 (r2.map ep.lv)),(17,.I (r2.length:Int)),(18,.I n3),(24,.bool (!x6.dV))] [(129,.arr 3 1 (l4.map LV.I))] R (sN (aw xa jL lP R R R (sN (bh R jL uN (sN (ic R zS)))))) (LH.cond (t:=(!x6.dV)) R (fun jd=>?_) (fun jd=>?_)))
   ·replace h:=aB h jd
    obtain ⟨v8,Ov,h⟩:=ao h
    refine LH.aS [(2,.ag [.al 3 (p0.map aL.lv)]),(6,.arr 129 v8.length),(16,.al 2 (r2.map ep.lv)),(17,.I (r2.length:Int)),(18,.I n3)] [(129,.arr 3 1 (v8.map LV.I))] R (jQ R (sN (aw sa aE bb R R R (sN (bh R aE bN (sN (ka (f:=LV.I) (ys:=[x6.first]) cJ rj bb R R R mu (sN (nL (f:=LV.I) cJ rj bb R R (bH R) R Ov (nQ R zS)))))))))) (aY (au (LH.aS [(2,.ag [.al 3 (p0.map aL.lv)]),(6,.arr 129 v8.length),(16,.al 2 (r2.map ep.lv)),(17,.I (r2.length:Int)),(18,.I (i64 (n3+1)))] [(129,.arr 3 1 (v8.map LV.I))] R (sN (cI R R (br R zS))) ?_)))
    exact bl ⟨(i64 (n3+1)),v8,a7 ▸ h,R,R⟩ (Wk.eq R R R R)
   replace h:=aA h jd
   refine LH.skip (aY (au (LH.aS [(2,.ag [.al 3 (p0.map aL.lv)]),(6,.arr 129 l4.length),(16,.al 2 (r2.map ep.lv)),(17,.I (r2.length:Int)),(18,.I (i64 (n3+1)))] [(129,.arr 3 1 (l4.map LV.I))] R (sN (cI R R (br R zS))) ?_)))
   exact bl ⟨(i64 (n3+1)),l4,a7 ▸ h,R,R⟩ (Wk.eq R R R R)
  replace h:=aA h kM
  refine LH.exit (cD (b6 (bP (au (LH.wk (aQ [(2,.ag [.al 3 (p0.map aL.lv)]),(6,.arr 129 l4.length)] [(129,.arr 3 1 (l4.map LV.I))]) (LH.seq (LH.aj [(2,.ag [.al 3 (p0.map aL.lv)]),(6,.arr 129 l4.length),(33,.bool (decide ((l4.length:Int) > 300)))] [(129,.arr 3 1 (l4.map LV.I))] R (jQ R (sN (F8 (f:=LV.I) cJ R R (sN (jx R R zS))))) (LH.cond (t:=(decide ((l4.length:Int) > 300))) R (fun uh=>?_) (fun uh=>?_)))))))))
  ·replace h:=aB h uh
   refine LH.aj [(4,.nil),(5,.I 3)] [] R (k9 R (bt R zS)) (LH.ret (aU ?_))
   obtain rfl:=oI h
   exact aN (aT Tryz.results73) (bO R (bO R (bL ⟨aM mN,R,aX R,(Sub.cV (qC (aI bm)))⟩)))
  replace h:=aA h uh
  refine LH.skip (au ?_)
  obtain ⟨gF,N0,h⟩:=ao h
  refine LH.aj [(6,.L gF)] [] R (jQ R (sN (PW (vs:=[.ag [.al 3 (p0.map aL.lv)]]) R (sN (dX (args:=[.arr 129 l4.length,.fn 87 [.ag [.al 3 (p0.map aL.lv)]]]) (ml:=[(129,.arr 3 1 (l4.map LV.I))]) (cQ:=[(129,.arr 3 1 (gF.map LV.I))]) R JG R (aI (aI bm)) (zq Tryz.Ke R Px R (fun _ _ _ h=>P6 h) 129 3 N0) (mC R mN) (bT R bU) R (s0 ((Wk.trans (Wk.to (el:=[(6,.arr 129 gF.length)]) (ml:=[(129,.arr 3 1 (gF.map LV.I))]) (eC (congrArg (LV.arr 129) (vJ N0)) eN) ⟨R,trivial⟩ R (aX R)) (Wk.trans (Wk.lC (f:=LV.I) (fB:=[(6,.L gF)]) 129 3 1 gF R R (bH R) (fZ fN)) (Wk.eq R R R R)))))))))) (LH.aj [(4,.L gF),(5,.I 0)] [] R (fh R (qB R (bt R zS))) (LH.ret ?_))
  obtain rfl:=oI h
  exact aN (aT Tryz.results73) (bO R (bO R (bL ⟨aM mN,R,aX R,(Sub.cV (aI (aI bm)))⟩)))
theorem P0 {F:Nat} {p0:List ax} {p1:(ax→Option aL)} {p2:(ax→ax→Option Bool)} {r:List Int × Int} {dY:Nat} {df:List LV} (A7:eh Tryz.prog dY) (o7:LV.bo df=true) (A8:∀ (x0:ax) (q:aL),p1 x0=some q→aO Tryz.prog dY ([.agg [.I x0.ar.Time,.I x0.ar.Source,.I x0.ar.Seq,.I x0.Kind,.I x0.Item.ID,.I x0.Item.Version,.str x0.Item.bJ,.al 6 (x0.Item.aH.map aq.lv),.L x0.Item.aF,.I x0.Ref.ID,.I x0.Ref.Version,.I x0.Form]]++df) (Mem.of []) (.agg [.I q.Time,.I q.Source,.I q.Seq]) (Mem.of [])) {eB:Nat} {dA:List LV} (Du:eh Tryz.prog eB) (uG:LV.bo dA=true) (Dv:∀ (x0:ax) (x1:ax) (q:Bool),p2 x0 x1=some q→aO Tryz.prog eB ([.agg [.I x0.ar.Time,.I x0.ar.Source,.I x0.ar.Seq,.I x0.Kind,.I x0.Item.ID,.I x0.Item.Version,.str x0.Item.bJ,.al 6 (x0.Item.aH.map aq.lv),.L x0.Item.aF,.I x0.Ref.ID,.I x0.Ref.Version,.I x0.Form],.agg [.I x1.ar.Time,.I x1.ar.Source,.I x1.ar.Seq,.I x1.Kind,.I x1.Item.ID,.I x1.Item.Version,.str x1.Item.bJ,.al 6 (x1.Item.aH.map aq.lv),.L x1.Item.aF,.I x1.Ref.ID,.I x1.Ref.Version,.I x1.Form]]++dA) (Mem.of []) (.bool q) (Mem.of [])) (h:Gv F p0 p1 p2=some r):aO Tryz.prog 54 [.al 12 (p0.map ax.lv),.fn dY df,.fn eB dA] (Mem.of []) (.cV [.L r.1,.I r.2]) (Mem.of []):=by
  have Gl:∀ {l:List LV},LV.bo l=true→LV.bo (l++dA)=true:=Mp uG
  have eR:LV.bK dA=[]:=gl uG
  have Gk:∀ {l:List LV},LV.bo l=true→LV.bo (l++df)=true:=Mp o7
  have eG:LV.bK df=[]:=gl o7
  unfold Gv at h
  refine bx Tryz.func54 R (nT Tryz.ntmps54 R) (LH.wk (Wk.to (el:=[(0,.al 12 (p0.map ax.lv)),(1,.fn dY df),(2,.fn eB dA)]) (ml:=[]) (eQ ⟨R,R,R,trivial⟩) mN (by simp [aV,LV.refs,LV.bK,LV.cells,da,Env.args,Env.of,Env.put,Env.drop,eG,eR]) (aX R)) (LH.aj [(0,.al 12 (p0.map ax.lv)),(1,.fn dY df),(2,.fn eB dA)] [] R (k9 R (bt R (s0 (Wk.to (eQ ⟨R,R,R,trivial⟩) mN (by simp [aV,LV.refs,LV.bK,LV.cells,da,Env.args,Env.of,Env.put,Env.drop,eG,eR]) (aX R))))) ?_))
  obtain ⟨r1,ei,h⟩:=ao h
  refine LH.aj [(8,.al 3 (r1.1.map aL.lv)),(9,.L r1.2)] [] R (fh R (sN (oM (v:=(.fn _ _)) R (sN (oM (v:=(.fn _ _)) R (sN (ej (args:=[.al 12 (p0.map ax.lv),.fn dY df,.fn eB dA]) R Pn R (aI (aI (aI bm))) (P2 A7 o7 A8 Du uG Dv ei) (by simp [LV.pure,LV.bo,o7,uG]) (wU R (sN (fV R R (sN (fV R R (qB R (qB R (s0 (Wk.to (eQ ⟨R,R,trivial⟩) mN (by simp [aV,LV.refs,LV.bK,LV.cells,da,Env.args,Env.of,Env.put,Env.drop,eG,eR]) (aX R))))))))))))))))) ?_
  obtain ⟨r2,fH,h⟩:=ao h
  refine LH.aj [(6,.L r2.1),(7,.I r2.2)] [] R (fh R (fh R (sN (ej (args:=[.al 3 (r1.1.map aL.lv),.L r1.2]) R Po R (aI (aI bm)) (Qe fH) R (sN (fV R R (sN (fV R R (qB R (bt R (s0 (Wk.to (eQ ⟨R,R,trivial⟩) mN (by simp [aV,LV.refs,LV.bK,LV.cells,da,Env.args,Env.of,Env.put,Env.drop,eG,eR]) (aX R))))))))))))) (LH.ret ?_)
  obtain rfl:=oI h
  exact aN (aT Tryz.results54) (bO R (bO R (bL ⟨aM mN,R,aX R,(Sub.cV (aI (aI bm)))⟩)))
theorem P7 {p0:ax} {r:aL} (h:Co p0=some r):aO Tryz.prog 55 [ax.lv p0] (Mem.of []) (.agg [.I r.Time,.I r.Source,.I r.Seq]) (Mem.of []):=by
  unfold Co at h
  refine bx Tryz.func55 R (nT Tryz.ntmps55 R) (LH.wk (aQ [(0,ax.lv p0)] []) (LH.aj [(1,.ag (ax.lv p0).cells),(2,.ptr 102 0)] [(102,.box [.I 0,.I 0,.I 0])] R (sB (de R R R R (sN (j0 (id:=102) R uO R R zS)))) (LH.aj [(2,.ag [.I p0.ar.Time,.I p0.ar.Source,.I p0.ar.Seq])] [] R (sN (aw di cc b7 R R R (sN (bc R cc gp b7 R R (s_ (cF R R R cc b7 R R R (s0 ((Wk.trans (aQ [(2,.ptr 102 0)] [(102,.box [.I p0.ar.Time,.I p0.ar.Source,.I p0.ar.Seq])]) (Wk.trans (Wk.bk 102 [.I p0.ar.Time,.I p0.ar.Source,.I p0.ar.Seq] R R R (bH R)) (Wk.eq R R R R))))))))))) (LH.ret ?_))))
  obtain rfl:=oI h
  exact aN (aT Tryz.results55) (cN R cc gp b7 R R (bL ⟨aM mN,R,aX R,Sub.rfl⟩))
theorem P3 {F:Nat} {p0:List aq} {p1:List aq} {r:Bool} (h:Gy F p0 p1=some r):aO Tryz.prog 89 [.al 6 (p0.map aq.lv),.al 6 (p1.map aq.lv)] (Mem.of []) (.bool r) (Mem.of []):=by
  unfold Gy at h
  refine bx Tryz.func89 R (nT Tryz.ntmps89 R) (LH.wk (aQ [(0,.al 6 (p0.map aq.lv)),(1,.al 6 (p1.map aq.lv))] []) (LH.aj [(0,.al 6 (p0.map aq.lv)),(1,.al 6 (p1.map aq.lv))] [] R (ct R zS) (LH.seq (LH.aj [(0,.al 6 (p0.map aq.lv)),(1,.al 6 (p1.map aq.lv)),(10,.bool ((p0.length:Int) != (p1.length:Int)))] [] R (fh R (sN (bV (f:=aq.lv) gy R (fh R (sN (bV (f:=aq.lv) gy R (sN (iR R R zS)))))))) (LH.cond (t:=((p0.length:Int) != (p1.length:Int))) R (fun jc=>?_) (fun jc=>?_))))))
  ·replace h:=aB h jc
   refine LH.aj [(4,.bool false)] [] R (ct R zS) (LH.ret (aU ?_))
   obtain rfl:=oI h
   exact aN (aT Tryz.results89) (bO R (bL ⟨aM mN,R,aX R,Sub.rfl⟩))
  replace h:=aA h jc
  refine LH.skip (au (LH.wk (aQ [(0,.al 6 (p0.map aq.lv)),(1,.al 6 (p1.map aq.lv))] []) (LH.seq (LH.aj [(0,.al 6 (p0.map aq.lv)),(1,.al 6 (p1.map aq.lv)),(12,.I (p0.length:Int)),(13,.I 0)] [] R (fh R (sN (bV (f:=aq.lv) gy R (br R zS)))) (LH.block (LH.loop (fun n e m=>∃ (n2:Int),DA p0 p1 n n2=some r∧e=Env.of [(0,.al 6 (p0.map aq.lv)),(1,.al 6 (p1.map aq.lv)),(12,.I (p0.length:Int)),(13,.I n2)]∧m=Mem.of []) F ⟨0,h,R,R⟩ ?_))))))
  clear h
  rintro n e m ⟨n2,h,rfl,rfl⟩
  rcases n with _ | n
  · cases (show Option.none=some _ from h)
  obtain ⟨aK,a7⟩:∃ f,f=DA p0 p1 n:=⟨_,rfl⟩
  replace h:Gu p0 p1 aK n2=some r:=a7 ▸ h
  unfold Gu at h
  refine LH.aj [(0,.al 6 (p0.map aq.lv)),(1,.al 6 (p1.map aq.lv)),(12,.I (p0.length:Int)),(13,.I n2),(14,.bool (decide (n2<(p0.length:Int))))] [] R (sN (fy R R zS)) (LH.seq (LH.cond (t:=(decide (n2<(p0.length:Int)))) R (fun ix=>?_) (fun ix=>?_)))
  ·replace h:=aB h ix
   refine LH.skip (au (LH.wk (aQ [(0,.al 6 (p0.map aq.lv)),(1,.al 6 (p1.map aq.lv)),(12,.I (p0.length:Int)),(13,.I n2)] []) (LH.seq (LH.block (LH.aj [(0,.al 6 (p0.map aq.lv)),(1,.al 6 (p1.map aq.lv)),(5,.I n2),(12,.I (p0.length:Int)),(13,.I n2)] [] R (br R (bt R zS)) ?_)))))
   obtain ⟨x4,AW,h⟩:=ao h
   obtain ⟨x5,mG,h⟩:=ao h
   refine LH.cO mixed [] [0,0,0,0,0,0,0,0,0] [(0,.al 6 (p0.map aq.lv)),(1,.al 6 (p1.map aq.lv)),(12,.I (p0.length:Int)),(13,.I n2),(24,.bool (!(decide (x4=x5))))] [] R R (by kernel_rfl) (rV R (fC R (aD (eM (f:=aq.lv) gy eu dN R R aq.ok AW R ⟨R,aD (bc R eu iY dN R R ⟨R,rV R (fC R (aD (eM (f:=aq.lv) gy eu dN R R aq.ok mG R ⟨R,aD (bc R eu iY dN R R ⟨R,aD (Io R R (Nh x4 x5) ⟨R,zM⟩)⟩)⟩)))⟩)⟩)))) (LH.cond (t:=(!(decide (x4=x5)))) R (fun fQ=>?_) (fun fQ=>?_))
   ·replace h:=aB h fQ
    refine LH.aj [(4,.bool false)] [] R (ct R zS) (LH.ret (bD (aU (dW (bD (aU ?_))))))
    obtain rfl:=oI h
    exact aN (aT Tryz.results89) (bO R (bL ⟨aM mN,R,aX R,Sub.rfl⟩))
   replace h:=aA h fQ
   refine LH.skip (aY (au (LH.aS [(0,.al 6 (p0.map aq.lv)),(1,.al 6 (p1.map aq.lv)),(12,.I (p0.length:Int)),(13,.I (i64 (n2+1)))] [] R (sN (cI R R (br R zS))) ?_)))
   exact bl ⟨(i64 (n2+1)),a7 ▸ h,R,R⟩ (Wk.eq R R R R)
  replace h:=aA h ix
  refine LH.exit (cD (b6 (bP (au (LH.aj [(4,.bool true)] [] R (ct R zS) (LH.ret ?_))))))
  obtain rfl:=oI h
  exact aN (aT Tryz.results89) (bO R (bL ⟨aM mN,R,aX R,Sub.rfl⟩))
end Go.Proofs.YtmollikhdbaikaaGreat
