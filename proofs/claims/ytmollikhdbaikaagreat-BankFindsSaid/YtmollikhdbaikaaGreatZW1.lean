import Derived.Test.YtmollikhdbaikaaGreatZLc
import Derived.Test.YtmollikhdbaikaaGreatZLb
import Derived.Test.YtmollikhdbaikaaGreatZRow
import Derived.Test.YtmollikhdbaikaaGreatZFacts
import Derived.Test.YtmollikhdbaikaaGreatZEqs
import Derived.Test.YtmollikhdbaikaaGreatZSort
import Derived.Test.YtmollikhdbaikaaGreatZSh
set_option linter.unusedVariables false
set_option linter.unusedSimpArgs false
set_option maxRecDepth 100000
set_option maxHeartbeats 1000000
namespace Go.Proofs.YtmollikhdbaikaaGreat
open Go.L Go.Sh
theorem Qg {p0:List Int} {r:aP} (h:lp p0=some r):aM Tryz.prog 7 [.L p0] (Mem.of []) (.ptr 110 0) (Mem.of [(110,.box [.L r.L,.I r.At])]):=by
  unfold lp at h
  refine br Tryz.func7 R (nT Tryz.ntmps7 R) (LH.wk (aS [(0,.L p0)] []) (LH.aj [(0,.L p0)] [] R (sN (oA (v:=.fh) R zS)) (LH.seq (LH.aj [(0,.L p0),(5,.bool (decide ((p0.length:Int) > 600)))] [] R (fp R (sN (bW (f:=LV.I) cE R (sN (iP R R zS))))) (LH.cond (t:=(decide ((p0.length:Int) > 600))) R (fun jF=>?_) (fun jF=>?_))))))
  ·replace h:=aB h jF
   obtain ⟨v2,wY,h⟩:=ao h
   refine LH.aU [(0,.L v2)] [] R (fp R (sN (TE (f:=LV.I) cE aD ba R R R wY (qR R zS)))) (au (LH.aj [(2,.ptr 110 0)] [(110,.box [.L v2,.I 0])] R (fp R (sN (fU (vs:=[(0,.L v2)]) QB QD R (lf wP jq eM R R R fT) (sN (Rb (id:=110) R R R R R R (TL R zS)))))) (LH.ret ?_)))
   obtain rfl:=oI h
   exact aO (aT Tryz.results7) (bU R (bS ⟨aN (mC R mN),R,aZ R,Sub.rfl⟩))
  replace h:=aA h jF
  refine LH.skip (au (LH.aj [(2,.ptr 110 0)] [(110,.box [.L p0,.I 0])] R (fp R (sN (fU (vs:=[(0,.L p0)]) QB QD R (lf wP jq eM R R R fT) (sN (Rb (id:=110) R R R R R R (TL R zS)))))) (LH.ret ?_)))
  obtain rfl:=oI h
  exact aO (aT Tryz.results7) (bU R (bS ⟨aN (mC R mN),R,aZ R,Sub.rfl⟩))
theorem Qi {p0:List Int} {r:aP} (h:lp p0=some r):aM Tryz.prog 7 [.L p0] (Mem.of []) (.ptr 7 0) (Mem.of [(7,.box [.L r.L,.I r.At])]):=aM.DG 7 rfl (Qg h)
theorem Rs {p0:aP} {r:Int × aP} (h:Eo p0=some r):aM Tryz.prog 50 [.ptr 7 0] (Mem.of [(7,.box [.L p0.L,.I p0.At])]) (.I r.1) (Mem.of [(7,.box [.L r.2.L,.I r.2.At])]):=by
  unfold Eo at h
  refine br Tryz.func50 R (nT Tryz.ntmps50 R) (LH.wk (aS [(0,.ptr 7 0)] [(7,.box [.L p0.L,.I p0.At])]) (LH.aj [(0,.ptr 7 0)] [(7,.box [.L p0.L,.I p0.At])] R (bo R zS) (LH.seq (LH.di mixed [] [0,0,0,1007,0,0,0,1007,0,0] [(0,.ptr 7 0),(12,.bool (decide (p0.At ≥ (p0.L.length:Int))))] [(7,.box [.L p0.L,.I p0.At])] R R (by kernel_rfl) (BX R (aF (FX R ⟨R,aF (dD wQ aD ba R R ⟨R,mD R R R (fun _ b _ d=>dM R b R R aD bQ d) (BX R (aF (FX R ⟨R,aF (dD wP eM jq R R ⟨R,mD R R R (fun _ b _ d=>dM R b R R eM mo d) (aF (bW (f:=LV.I) cE R ⟨R,aF (pJ R R ⟨R,zM⟩)⟩))⟩)⟩)))⟩)⟩))) (LH.cond (t:=(decide (p0.At ≥ (p0.L.length:Int)))) R (fun jF=>?_) (fun jF=>?_))))))
  ·replace h:=aB h jF
   refine LH.aj [(2,.I 0)] [(7,.box [.L p0.L,.I p0.At])] R (bo R zS) (LH.ret (aW ?_))
   obtain rfl:=oI h
   exact aO (aT Tryz.results50) (bU R (bS ⟨aN (mC R mN),R,aZ R,Sub.rfl⟩))
  replace h:=aA h jF
  refine LH.skip (au (LH.aj [(0,.ptr 7 0)] [(7,.box [.L p0.L,.I (i64 (p0.At+1))])] R (hZ R (sN (FX R (sN (dD wQ aD ba R R (sN (dM R R R R aD bQ (sN (cD R R (sN (FX R (sN (dD wQ aD ba R R (s_ (cG R R R aD ba R R R zS))))))))))))))) ?_))
  obtain ⟨x2,Ll,h⟩:=ao h
  refine LH.di mixed [] [0,0,0,1007,0,0,0,1007,0,0,0,0] [(2,.I x2)] [(7,.box [.L p0.L,.I (i64 (p0.At+1))])] R R (by kernel_rfl) (BX R (aF (FX R ⟨R,aF (dD wP eM jq R R ⟨R,mD R R R (fun _ b _ d=>dM R b R R eM mo d) (BX R (aF (FX R ⟨R,aF (dD wQ aD ba R R ⟨R,mD R R R (fun _ b _ d=>dM R b R R aD bQ d) (aF (iA R R ⟨R,aF (eG (f:=LV.I) cE aD ba R R lY Ll R ⟨R,aF (bb R aD bQ ⟨R,MB R zM⟩)⟩)⟩))⟩)⟩)))⟩)⟩))) (LH.ret ?_)
  obtain rfl:=oI h
  exact aO (aT Tryz.results50) (bU R (bS ⟨aN (mC R mN),R,aZ R,Sub.rfl⟩))
theorem Gh {p0:Int} {p1:Int} {r:Int} (h:kg p0 p1=some r):aM Tryz.prog 18 [.I p0,.I p1] (Mem.of []) (.I r) (Mem.of []):=by
  unfold kg at h
  refine br Tryz.func18 R (nT Tryz.ntmps18 R) (LH.wk (aS [(0,.I p0),(1,.I p1)] []) (LH.aj [(0,.I p0),(1,.I p1)] [] R (bo R zS) (LH.seq (LH.aj [(0,.I p0),(1,.I p1),(6,.bool (decide (p1<1)))] [] R (bj R (sN (fi R R zS))) (LH.cond (t:=(decide (p1<1))) R (fun jF=>?_) (fun jF=>?_))))))
  ·replace h:=aB h jF
   refine LH.aj [(4,.I 0)] [] R (bo R zS) (LH.ret (aW ?_))
   obtain rfl:=oI h
   exact aO (aT Tryz.results18) (bU R (bS ⟨aN mN,R,aZ R,Sub.rfl⟩))
  replace h:=aA h jF
  refine LH.skip (au ?_)
  obtain ⟨v2,wY,h⟩:=ao h
  refine LH.aj [(0,.I v2),(1,.I p1)] [] R (bj R (bj R (sN (TD R R wY (bo R zS))))) (LH.seq (LH.aj [(0,.I v2),(1,.I p1),(11,.bool (decide (v2<0)))] [] R (bj R (sN (fi R R zS))) (LH.cond (t:=(decide (v2<0))) R (fun iK=>?_) (fun iK=>?_))))
  ·replace h:=aB h iK
   refine LH.aU [(0,.I (i64 (v2+p1)))] [] R (bj R (bj R (sN (cD R R (bo R zS))))) (au (LH.aj [(4,.I (i64 (v2+p1)))] [] R (bj R (bo R zS)) (LH.ret ?_)))
   obtain rfl:=oI h
   exact aO (aT Tryz.results18) (bU R (bS ⟨aN mN,R,aZ R,Sub.rfl⟩))
  replace h:=aA h iK
  refine LH.skip (au (LH.aj [(4,.I v2)] [] R (bj R (bo R zS)) (LH.ret ?_)))
  obtain rfl:=oI h
  exact aO (aT Tryz.results18) (bU R (bS ⟨aN mN,R,aZ R,Sub.rfl⟩))
theorem kN {p0:aP} {p1:Int} {r:Int × aP} (h:ja p0 p1=some r):aM Tryz.prog 27 [.ptr 7 0,.I p1] (Mem.of [(7,.box [.L p0.L,.I p0.At])]) (.I r.1) (Mem.of [(7,.box [.L r.2.L,.I r.2.At])]):=by
  unfold ja at h
  refine br Tryz.func27 R (nT Tryz.ntmps27 R) (LH.wk (aS [(0,.ptr 7 0),(1,.I p1)] [(7,.box [.L p0.L,.I p0.At])]) (LH.aj [(0,.ptr 7 0),(1,.I p1)] [(7,.box [.L p0.L,.I p0.At])] R (bo R zS) ?_))
  obtain ⟨r1,ee,h⟩:=ao h
  obtain ⟨r2,fD,h⟩:=ao h
  refine LH.aj [(4,.I r2)] [(7,.box [.L r1.2.L,.I r1.2.At])] R (hZ R (sN (eX (args:=[.ptr 7 0]) (ml:=[(7,.box [.L p0.L,.I p0.At])]) (de:=[(7,.box [.L r1.2.L,.I r1.2.At])]) R OE R (aH bn) (Rs ee) (mC R mN) (cn R cz) R (bj R (sN (dQ (args:=[.I r1.1,.I p1]) R FE R (aH (aH bn)) (Gh fD) R (bo R zS))))))) (LH.ret ?_)
  obtain rfl:=oI h
  exact aO (aT Tryz.results27) (bU R (bS ⟨aN (mC R mN),R,aZ R,Sub.rfl⟩))
theorem nF {p0:aP} {p1:Int} {p2:Int} {r:Int × aP} (h:kO p0 p1 p2=some r):aM Tryz.prog 9 [.ptr 7 0,.I p1,.I p2] (Mem.of [(7,.box [.L p0.L,.I p0.At])]) (.I r.1) (Mem.of [(7,.box [.L r.2.L,.I r.2.At])]):=by
  unfold kO at h
  refine br Tryz.func9 R (nT Tryz.ntmps9 R) (LH.wk (aS [(0,.ptr 7 0),(1,.I p1),(2,.I p2)] [(7,.box [.L p0.L,.I p0.At])]) (LH.aj [(0,.ptr 7 0),(1,.I p1),(2,.I p2)] [(7,.box [.L p0.L,.I p0.At])] R (bo R zS) ?_))
  obtain ⟨r1,ee,h⟩:=ao h
  refine LH.aj [(6,.I (i64 (p1+r1.1)))] [(7,.box [.L r1.2.L,.I r1.2.At])] R (bj R (hZ R (bj R (bj R (sN (iA R R (sN (cD R R (sN (eX (args:=[.ptr 7 0,.I (i64 ((i64 (p2 - p1))+1))]) (ml:=[(7,.box [.L p0.L,.I p0.At])]) (de:=[(7,.box [.L r1.2.L,.I r1.2.At])]) R gG R (aH (aH bn)) (kN ee) (mC R mN) (cn R cz) R (sN (cD R R (bo R zS))))))))))))) (LH.ret ?_)
  obtain rfl:=oI h
  exact aO (aT Tryz.results9) (bU R (bS ⟨aN (mC R mN),R,aZ R,Sub.rfl⟩))
theorem En {p0:aP} {p1:List Int} {r:Int × aP} (h:ui p0 p1=some r):aM Tryz.prog 28 [.ptr 7 0,.L p1] (Mem.of [(7,.box [.L p0.L,.I p0.At])]) (.I r.1) (Mem.of [(7,.box [.L r.2.L,.I r.2.At])]):=by
  unfold ui at h
  refine br Tryz.func28 R (nT Tryz.ntmps28 R) (LH.wk (aS [(0,.ptr 7 0),(1,.L p1)] [(7,.box [.L p0.L,.I p0.At])]) (LH.aj [(0,.ptr 7 0),(1,.L p1)] [(7,.box [.L p0.L,.I p0.At])] R (bo R zS) ?_))
  obtain ⟨r1,ee,h⟩:=ao h
  obtain ⟨x2,Ll,h⟩:=ao h
  refine LH.aj [(4,.I x2)] [(7,.box [.L r1.2.L,.I r1.2.At])] R (fp R (hZ R (fp R (sN (bW (f:=LV.I) cE R (sN (eX (args:=[.ptr 7 0,.I (p1.length:Int)]) (ml:=[(7,.box [.L p0.L,.I p0.At])]) (de:=[(7,.box [.L r1.2.L,.I r1.2.At])]) R gG R (aH (aH bn)) (kN ee) (mC R mN) (cn R cz) R (sN (eG (f:=LV.I) cE aD ba R R lY Ll R (sN (bb R aD bQ (bo R zS)))))))))))) (LH.ret ?_)
  obtain rfl:=oI h
  exact aO (aT Tryz.results28) (bU R (bS ⟨aN (mC R mN),R,aZ R,Sub.rfl⟩))
theorem Ru {F:Nat} {p0:aP} {p1:Int} {r:ByteArray × aP} (h:Ep F p0 p1=some r):aM Tryz.prog 51 [.ptr 7 0,.I p1] (Mem.of [(7,.box [.L p0.L,.I p0.At])]) (.str r.1) (Mem.of [(7,.box [.L r.2.L,.I r.2.At])]):=by
  unfold Ep at h
  refine br Tryz.func51 R (nT Tryz.ntmps51 R) (LH.wk (aS [(0,.ptr 7 0),(1,.I p1)] [(7,.box [.L p0.L,.I p0.At])]) (LH.aj [(0,.ptr 7 0),(1,.I p1)] [(7,.box [.L p0.L,.I p0.At])] R (sN (oA (v:=(.str _)) R zS)) (LH.aj [(0,.ptr 7 0),(1,.I p1),(5,.str (ByteArray.mk #[]))] [(7,.box [.L p0.L,.I p0.At])] R (sN (oA (v:=(.str _)) R zS)) (LH.seq ?_))))
  obtain ⟨r1,ee,h⟩:=ao h
  refine LH.aj [(0,.ptr 7 0),(5,.str (ByteArray.mk #[])),(6,.I r1.1)] [(7,.box [.L r1.2.L,.I r1.2.At])] R (hZ R (bj R (sN (eX (args:=[.ptr 7 0,.I 1,.I p1]) (ml:=[(7,.box [.L p0.L,.I p0.At])]) (de:=[(7,.box [.L r1.2.L,.I r1.2.At])]) R nK R (aH (aH (aH bn))) (nF ee) (mC R mN) (cn R cz) R (bo R zS))))) (LH.block (LH.loop (fun n e m=>∃ (t2:ByteArray) (n3:Int) (l4:List Int) (n5:Int),Er n t2 n3 l4 n5=some r∧e=Env.of [(0,.ptr 7 0),(5,.str t2),(6,.I n3)]∧m=Mem.of [(7,.box [.L l4,.I n5])]) F ⟨(ByteArray.mk #[]),r1.1,r1.2.L,r1.2.At,h,R,R⟩ ?_))
  clear h
  rintro n e m ⟨t2,n3,l4,n5,h,rfl,rfl⟩
  rcases n with _ | n
  · cases (show Option.none=some _ from h)
  obtain ⟨aJ,a7⟩:∃ f,f=Er n:=⟨_,rfl⟩
  replace h:Es aJ t2 n3 l4 n5=some r:=a7 ▸ h
  unfold Es at h
  refine LH.seq (LH.aj [(0,.ptr 7 0),(5,.str t2),(6,.I n3),(11,.bool (decide (n3 > 0)))] [(7,.box [.L l4,.I n5])] R (bj R (sN (iP R R zS))) (LH.cond (t:=(decide (n3 > 0))) R (fun fP=>?_) (fun fP=>?_)))
  ·replace h:=aB h fP
   refine LH.skip (au (LH.wk (aS [(0,.ptr 7 0),(5,.str t2),(6,.I n3)] [(7,.box [.L l4,.I n5])]) (LH.seq (LH.block ?_))))
   obtain ⟨r7,Az,h⟩:=ao h
   obtain ⟨t8,V6,h⟩:=ao h
   refine LH.aU [(0,.ptr 7 0),(5,.str t8),(6,.I n3)] [(7,.box [.L r7.2.L,.I r7.2.At])] R (sN (oM (v:=(.str _)) R (hZ R (sN (eX (args:=[.ptr 7 0,.I 3]) (ml:=[(7,.box [.L l4,.I n5])]) (de:=[(7,.box [.L r7.2.L,.I r7.2.At])]) R gG R (aH (aH bn)) (kN Az) (mC R mN) (cn R cz) R (sN (cD R R (sN (TC aD UU R (sN (jZ (f:=(LV.int .u8)) (ys:=[(IntKind.u8.wrap (i64 (97+r7.1)))]) JW WB WD R R R lY (sX ((LI (ns:=[(IntKind.u8.wrap (i64 (97+r7.1)))]) JW UU Iy R).ok) (sX ((B2 R R V6).ok) (sN (oA (v:=(.str _)) R zS))))))))))))))) (aY (au (LH.aU [(0,.ptr 7 0),(5,.str t8),(6,.I (i64 (n3 - 1)))] [(7,.box [.L r7.2.L,.I r7.2.At])] R (bj R (sN (iA R R (bo R zS)))) ?_)))
   exact bh ⟨t8,(i64 (n3 - 1)),r7.2.L,r7.2.At,a7 ▸ h,R,R⟩ (Wk.eq R R R R)
  replace h:=aA h fP
  refine LH.exit (cw (bY (bO (au (LH.aj [(4,.str t2)] [(7,.box [.L l4,.I n5])] R (sN (oM (v:=(.str _)) R (sN (oA (v:=(.str _)) R zS)))) (LH.ret ?_))))))
  obtain rfl:=oI h
  exact aO (aT Tryz.results51) (bU R (bS ⟨aN (mC R mN),R,aZ R,Sub.rfl⟩))
theorem zO {p0:aP} {p1:Int} {r:Bool × aP} (h:oc p0 p1=some r):aM Tryz.prog 30 [.ptr 7 0,.I p1] (Mem.of [(7,.box [.L p0.L,.I p0.At])]) (.bool r.1) (Mem.of [(7,.box [.L r.2.L,.I r.2.At])]):=by
  unfold oc at h
  refine br Tryz.func30 R (nT Tryz.ntmps30 R) (LH.wk (aS [(0,.ptr 7 0),(1,.I p1)] [(7,.box [.L p0.L,.I p0.At])]) (LH.aj [(0,.ptr 7 0),(1,.I p1)] [(7,.box [.L p0.L,.I p0.At])] R (b4 R zS) ?_))
  obtain ⟨r1,ee,h⟩:=ao h
  refine LH.aj [(4,.bool (r1.1 == (i64 (p1 - 1))))] [(7,.box [.L r1.2.L,.I r1.2.At])] R (hZ R (bj R (sN (eX (args:=[.ptr 7 0,.I p1]) (ml:=[(7,.box [.L p0.L,.I p0.At])]) (de:=[(7,.box [.L r1.2.L,.I r1.2.At])]) R gG R (aH (aH bn)) (kN ee) (mC R mN) (cn R cz) R (bj R (sN (iA R R (sN (gp R R (b4 R zS)))))))))) (LH.ret ?_)
  obtain rfl:=oI h
  exact aO (aT Tryz.results30) (bU R (bS ⟨aN (mC R mN),R,aZ R,Sub.rfl⟩))
theorem Cs {p0:aP} {r:Int × aP} (h:rY p0=some r):aM Tryz.prog 53 [.ptr 7 0] (Mem.of [(7,.box [.L p0.L,.I p0.At])]) (.I r.1) (Mem.of [(7,.box [.L r.2.L,.I r.2.At])]):=by
  unfold rY at h
  refine br Tryz.func53 R (nT Tryz.ntmps53 R) (LH.wk (aS [(0,.ptr 7 0)] [(7,.box [.L p0.L,.I p0.At])]) (LH.aj [(0,.ptr 7 0)] [(7,.box [.L p0.L,.I p0.At])] R (bo R zS) ?_))
  obtain ⟨r1,ee,h⟩:=ao h
  refine LH.aj [(2,.I r1.1)] [(7,.box [.L r1.2.L,.I r1.2.At])] R (hZ R (sN (jZ (f:=LV.I) (ys:=[(-1),0,1,2,31,32,99,100,200,201,9999,10000,1000000,1000001,1152921504606846976,1152921504606846977,(-1152921504606846976),9223372036854775807,(-9223372036854775808)]) cE qV ba R R R lY (sN (eX (args:=[.ptr 7 0,.L [(-1),0,1,2,31,32,99,100,200,201,9999,10000,1000000,1000001,1152921504606846976,1152921504606846977,(-1152921504606846976),9223372036854775807,(-9223372036854775808)]]) (ml:=[(7,.box [.L p0.L,.I p0.At])]) (de:=[(7,.box [.L r1.2.L,.I r1.2.At])]) R xK R (aH (aH bn)) (En ee) (mC R mN) (cn R cz) R (bo R zS)))))) (LH.ret ?_)
  obtain rfl:=oI h
  exact aO (aT Tryz.results53) (bU R (bS ⟨aN (mC R mN),R,aZ R,Sub.rfl⟩))
theorem MH {p0:aP} {p1:Int} {r:aq × aP} (h:Cp p0 p1=some r):aM Tryz.prog 52 [.ptr 7 0,.I p1] (Mem.of [(7,.box [.L p0.L,.I p0.At])]) (aq.lv r.1) (Mem.of [(7,.box [.L r.2.L,.I r.2.At])]):=by
  unfold Cp at h
  refine br Tryz.func52 R (nT Tryz.ntmps52 R) (LH.wk (aS [(0,.ptr 7 0),(1,.I p1)] [(7,.box [.L p0.L,.I p0.At])]) (LH.aj [(0,.ptr 7 0),(1,.I p1),(4,.ptr 104 0)] [(7,.box [.L p0.L,.I p0.At]),(104,.box [.I 0,.I 0,.I 0,.I 0,.I 0,.I 0])] R (sN (iE (id:=104) R G9 R R zS)) ?_))
  obtain ⟨r1,ee,h⟩:=ao h
  obtain ⟨r2,fD,h⟩:=ao h
  obtain ⟨r3,nW,h⟩:=ao h
  refine LH.aj [(0,.ptr 7 0),(1,.I p1),(4,.ptr 104 0),(5,.ptr 105 0)] [(7,.box [.L r3.2.L,.I r3.2.At]),(104,.box [.I 0,.I 0,.I 0,.I 0,.I 0,.I 0]),(105,.box [.I 1,.I r1.1,.I r2.1,.I r3.1,.I 0,.I 0])] R (hZ R (sN (eX (args:=[.ptr 7 0,.I 1,.I 12]) (ml:=[(7,.box [.L p0.L,.I p0.At])]) (de:=[(7,.box [.L r1.2.L,.I r1.2.At])]) R nK R (aH (aH (aH bn))) (nF ee) (mC R mN) (cn R cz) R (hZ R (sN (eX (args:=[.ptr 7 0,.I 4]) (ml:=[(7,.box [.L r1.2.L,.I r1.2.At])]) (de:=[(7,.box [.L r2.2.L,.I r2.2.At])]) R gG R (aH (aH bn)) (kN fD) (mC R mN) (cn R cz) R (hZ R (sN (eX (args:=[.ptr 7 0,.I 3]) (ml:=[(7,.box [.L r2.2.L,.I r2.2.At])]) (de:=[(7,.box [.L r3.2.L,.I r3.2.At])]) R gG R (aH (aH bn)) (kN nW) (mC R mN) (cn R cz) R (sN (fU (vs:=[(0,.I 1),(1,.I r1.1),(2,.I r2.1),(3,.I r3.1)]) QC G9 R (lf oY ba aD R R R (lf mY ba aD R R R (lf qm ba aD R R R (lf qo ba aD R R R fT)))) (sN (iE (id:=105) R G9 R R (s_ (cG R R R ek dJ R R R zS))))))))))))))) (LH.mid (fun e m=>∃ (l4:List Int) (n5:Int) (n6:Int) (n7:Int) (n8:Int) (n9:Int),Cq p1 r2 r3 l4 n5 n6 n7 n8 n9=some r∧Wk (fun id=>Mem.of [(7,.box [.L p0.L,.I p0.At])] id ≠ .none) e m (Env.of [(0,.ptr 7 0),(1,.I p1),(4,.ptr 104 0),(5,.ptr 105 0)]) (Mem.of [(7,.box [.L l4,.I n5]),(104,.box [.I 0,.I 0,.I 0,.I 0,.I 0,.I 0]),(105,.box [.I n6,.I n7,.I r2.1,.I r3.1,.I n8,.I n9])])) ?_ ?_)
  ·obtain ⟨ue,K0,h⟩:=ao h
   refine LH.aj [(0,.ptr 7 0),(1,.I p1),(4,.ptr 104 0),(5,.ptr 105 0),(15,.bool (ue.1 == 0))] [(7,.box [.L ue.2.L,.I ue.2.At]),(104,.box [.I 0,.I 0,.I 0,.I 0,.I 0,.I 0]),(105,.box [.I 1,.I r1.1,.I r2.1,.I r3.1,.I 0,.I 0])] R (hZ R (sN (eX (args:=[.ptr 7 0,.I 3]) (ml:=[(7,.box [.L r3.2.L,.I r3.2.At])]) (de:=[(7,.box [.L ue.2.L,.I ue.2.At])]) R gG R (aH (aH bn)) (kN K0) (mC R mN) (cn R cz) R (sN (gp R R zS))))) (LH.cond (t:=(ue.1 == 0)) R (fun pt=>?_) (fun pt=>?_))
   ·replace h:=aB h pt
    obtain ⟨dg,Fj,h⟩:=ao h
    refine LH.aj [(0,.ptr 7 0),(1,.I p1),(4,.ptr 104 0),(5,.ptr 105 0)] [(7,.box [.L dg.2.L,.I dg.2.At]),(104,.box [.I 0,.I 0,.I 0,.I 0,.I 0,.I 0]),(105,.box [.I 2,.I r1.1,.I r2.1,.I r3.1,.I dg.1,.I 0])] R (hZ R (sN (eX (args:=[.ptr 7 0,.I 2,.I 5]) (ml:=[(7,.box [.L ue.2.L,.I ue.2.At])]) (de:=[(7,.box [.L dg.2.L,.I dg.2.At])]) R nK R (aH (aH (aH bn))) (nF Fj) (mC R mN) (cn R cz) R (sN (dD oY aD ba R R (s_ (cG R R R aD ba R R R (sN (dD ko aD ba R R (s_ (cG R R R aD ba R R R zS))))))))))) ?_
    obtain ⟨Iq,Sv,h⟩:=ao h
    obtain ⟨kH,K1,h⟩:=ao h
    exact LH.aU [(0,.ptr 7 0),(1,.I p1),(4,.ptr 104 0),(5,.ptr 105 0)] [(7,.box [.L kH.2.L,.I kH.2.At]),(104,.box [.I 0,.I 0,.I 0,.I 0,.I 0,.I 0]),(105,.box [.I 2,.I kH.1,.I r2.1,.I r3.1,.I dg.1,.I Iq.1])] R (hZ R (sN (dD ko aD ba R R (sN (dM R R R R aD bQ (sN (eX (args:=[.ptr 7 0,.I dg.1]) (ml:=[(7,.box [.L dg.2.L,.I dg.2.At])]) (de:=[(7,.box [.L Iq.2.L,.I Iq.2.At])]) R gG R (aH (aH bn)) (kN Sv) (mC R mN) (cn R cz) R (hZ R (sN (eX (args:=[.ptr 7 0,.I 1,.I 3]) (ml:=[(7,.box [.L Iq.2.L,.I Iq.2.At])]) (de:=[(7,.box [.L kH.2.L,.I kH.2.At])]) R nK R (aH (aH (aH bn))) (nF K1) (mC R mN) (cn R cz) R (sN (dD mZ aD ba R R (s_ (cG R R R aD ba R R R (sN (dD mY aD ba R R (s_ (cG R R R aD ba R R R zS)))))))))))))))))) (au ⟨kH.2.L,kH.2.At,2,kH.1,dg.1,Iq.1,h,Wk.eq R R R R⟩)
   replace h:=aA h pt
   exact LH.skip (au ⟨ue.2.L,ue.2.At,1,r1.1,0,0,h,Wk.eq R R R R⟩)
  clear h
  rintro e m ⟨l4,n5,n6,n7,n8,n9,h,hw⟩
  refine LH.wk hw ?_
  clear hw
  unfold Cq at h
  refine LH.seq ?_
  obtain ⟨vA,hv,h⟩:=ao h
  refine LH.aj [(0,.ptr 7 0),(4,.ptr 104 0),(5,.ptr 105 0),(34,.bool vA.1)] [(7,.box [.L vA.2.1,.I vA.2.2]),(104,.box [.I 0,.I 0,.I 0,.I 0,.I 0,.I 0]),(105,.box [.I n6,.I n7,.I r2.1,.I r3.1,.I n8,.I n9])] R ?_ ?_
  ·refine bj R (sN (iP R R (bD R ?_)))
   by_cases cN:(decide (p1 > 0))=true
   ·replace hv:=aB hv cN
    refine sT R (cB cN) (oM (v:=(.ptr _ _)) R (sT R (cB cN) (oM (v:=(.int _ _)) R ?_)))
    obtain ⟨gq,vY,hv⟩:=ao hv
    refine sT R (cB cN) (eX (args:=[.ptr 7 0,.I p1]) (ml:=[(7,.box [.L l4,.I n5])]) (de:=[(7,.box [.L gq.2.L,.I gq.2.At])]) R s7 R (aH (aH bn)) (zO vY) (mC R mN) (cn R cz) R (sN (aX (cB cN) (v:=(.bool _)) R ?_)))
    obtain rfl:=oI hv
    exact zS
   ·replace cN:=bF cN
    replace hv:=aA hv cN
    refine sF R R cN (sF R R cN (sF R R cN (sN (aQ (cB cN) (v:=(.bool _)) R ?_))))
    obtain rfl:=oI hv
    exact zS
  clear hv
  refine LH.cond (t:=vA.1) R (fun iJ=>?_) (fun iJ=>?_)
  ·replace h:=aB h iJ
   obtain ⟨iw,KY,h⟩:=ao h
   refine LH.aj [(0,.ptr 7 0),(4,.ptr 104 0),(5,.ptr 105 0),(36,.I iw.1)] [(7,.box [.L iw.2.L,.I iw.2.At]),(104,.box [.I 0,.I 0,.I 0,.I 0,.I 0,.I 0]),(105,.box [.I n6,.I n7,.I r2.1,.I r3.1,.I n8,.I n9])] R (hZ R (sN (eX (args:=[.ptr 7 0,.I 6]) (ml:=[(7,.box [.L vA.2.1,.I vA.2.2])]) (de:=[(7,.box [.L iw.2.L,.I iw.2.At])]) R gG R (aH (aH bn)) (kN KY) (mC R mN) (cn R cz) R zS))) (LH.block (LH.aj [(0,.ptr 7 0),(4,.ptr 104 0),(5,.ptr 105 0),(36,.I iw.1),(40,.bool (iw.1 == 0))] [(7,.box [.L iw.2.L,.I iw.2.At]),(104,.box [.I 0,.I 0,.I 0,.I 0,.I 0,.I 0]),(105,.box [.I n6,.I n7,.I r2.1,.I r3.1,.I n8,.I n9])] R (sN (gp R R (b4 R zS))) (LH.cond (t:=(iw.1 == 0)) R (fun ke=>?_) (fun ke=>?_))))
   ·replace h:=aB h ke
    obtain ⟨qN,Fi,h⟩:=ao h
    refine LH.aU [(4,.ptr 104 0),(5,.ag [.I qN.1,.I n7,.I r2.1,.I r3.1,.I n8,.I n9])] [(7,.box [.L qN.2.L,.I qN.2.At]),(104,.box [.I 0,.I 0,.I 0,.I 0,.I 0,.I 0])] R (hZ R (sN (eX (args:=[.ptr 7 0,.I (-1),.I 3]) (ml:=[(7,.box [.L iw.2.L,.I iw.2.At])]) (de:=[(7,.box [.L qN.2.L,.I qN.2.At])]) R nK R (aH (aH (aH bn))) (nF Fi) (mC R mN) (cn R cz) R (sN (dD oY aD ba R R (s_ (cG R R R aD ba R R R (s0 ((Wk.trans (aS [(4,.ptr 104 0),(5,.ptr 105 0)] [(7,.box [.L qN.2.L,.I qN.2.At]),(104,.box [.I 0,.I 0,.I 0,.I 0,.I 0,.I 0]),(105,.box [.I qN.1,.I n7,.I r2.1,.I r3.1,.I n8,.I n9])]) (Wk.trans (Wk.bg 105 [.I qN.1,.I n7,.I r2.1,.I r3.1,.I n8,.I n9] R R R (bM R)) (Wk.eq R R R R)))))))))))) (aY (au (LH.aj [(4,.ag [.I qN.1,.I n7,.I r2.1,.I r3.1,.I n8,.I n9])] [(7,.box [.L qN.2.L,.I qN.2.At])] R (sN (bd R ek iU dJ R R (s_ (cG R R R ek dJ R R R (s0 ((Wk.trans (aS [(4,.ptr 104 0)] [(7,.box [.L qN.2.L,.I qN.2.At]),(104,.box [.I qN.1,.I n7,.I r2.1,.I r3.1,.I n8,.I n9])]) (Wk.trans (Wk.bg 104 [.I qN.1,.I n7,.I r2.1,.I r3.1,.I n8,.I n9] R R R (bM R)) (Wk.eq R R R R))))))))) (LH.ret ?_))))
    obtain rfl:=oI h
    exact aO (aT Tryz.results52) (cT R ek iU dJ R R (bS ⟨aN (mC R mN),R,aZ R,Sub.rfl⟩))
   replace h:=aA h ke
   refine LH.aj [(0,.ptr 7 0),(4,.ptr 104 0),(5,.ptr 105 0),(36,.I iw.1),(45,.bool (iw.1 == 1))] [(7,.box [.L iw.2.L,.I iw.2.At]),(104,.box [.I 0,.I 0,.I 0,.I 0,.I 0,.I 0]),(105,.box [.I n6,.I n7,.I r2.1,.I r3.1,.I n8,.I n9])] R (sN (gp R R (b4 R zS))) (LH.cond (t:=(iw.1 == 1)) R (fun ky=>?_) (fun ky=>?_))
   ·replace h:=aB h ky
    obtain ⟨hT,Aw,h⟩:=ao h
    refine LH.aU [(4,.ptr 104 0),(5,.ag [.I n6,.I hT.1,.I r2.1,.I r3.1,.I n8,.I n9])] [(7,.box [.L hT.2.L,.I hT.2.At]),(104,.box [.I 0,.I 0,.I 0,.I 0,.I 0,.I 0])] R (hZ R (sN (jZ (f:=LV.I) (ys:=[0,40,41,(-1)]) cE qV ba R R R lY (sN (eX (args:=[.ptr 7 0,.L [0,40,41,(-1)]]) (ml:=[(7,.box [.L iw.2.L,.I iw.2.At])]) (de:=[(7,.box [.L hT.2.L,.I hT.2.At])]) R xK R (aH (aH bn)) (En Aw) (mC R mN) (cn R cz) R (sN (dD mY aD ba R R (s_ (cG R R R aD ba R R R (s0 ((Wk.trans (aS [(4,.ptr 104 0),(5,.ptr 105 0)] [(7,.box [.L hT.2.L,.I hT.2.At]),(104,.box [.I 0,.I 0,.I 0,.I 0,.I 0,.I 0]),(105,.box [.I n6,.I hT.1,.I r2.1,.I r3.1,.I n8,.I n9])]) (Wk.trans (Wk.bg 105 [.I n6,.I hT.1,.I r2.1,.I r3.1,.I n8,.I n9] R R R (bM R)) (Wk.eq R R R R)))))))))))))) (aY (au (LH.aj [(4,.ag [.I n6,.I hT.1,.I r2.1,.I r3.1,.I n8,.I n9])] [(7,.box [.L hT.2.L,.I hT.2.At])] R (sN (bd R ek iU dJ R R (s_ (cG R R R ek dJ R R R (s0 ((Wk.trans (aS [(4,.ptr 104 0)] [(7,.box [.L hT.2.L,.I hT.2.At]),(104,.box [.I n6,.I hT.1,.I r2.1,.I r3.1,.I n8,.I n9])]) (Wk.trans (Wk.bg 104 [.I n6,.I hT.1,.I r2.1,.I r3.1,.I n8,.I n9] R R R (bM R)) (Wk.eq R R R R))))))))) (LH.ret ?_))))
    obtain rfl:=oI h
    exact aO (aT Tryz.results52) (cT R ek iU dJ R R (bS ⟨aN (mC R mN),R,aZ R,Sub.rfl⟩))
   replace h:=aA h ky
   refine LH.aj [(0,.ptr 7 0),(4,.ptr 104 0),(5,.ptr 105 0),(36,.I iw.1),(51,.bool (iw.1 == 2))] [(7,.box [.L iw.2.L,.I iw.2.At]),(104,.box [.I 0,.I 0,.I 0,.I 0,.I 0,.I 0]),(105,.box [.I n6,.I n7,.I r2.1,.I r3.1,.I n8,.I n9])] R (sN (gp R R (b4 R zS))) (LH.cond (t:=(iw.1 == 2)) R (fun lG=>?_) (fun lG=>?_))
   ·replace h:=aB h lG
    obtain ⟨rP,KZ,h⟩:=ao h
    refine LH.aU [(4,.ptr 104 0),(5,.ag [.I n6,.I n7,.I rP.1,.I r3.1,.I n8,.I n9])] [(7,.box [.L rP.2.L,.I rP.2.At]),(104,.box [.I 0,.I 0,.I 0,.I 0,.I 0,.I 0])] R (hZ R (sN (eX (args:=[.ptr 7 0]) (ml:=[(7,.box [.L iw.2.L,.I iw.2.At])]) (de:=[(7,.box [.L rP.2.L,.I rP.2.At])]) R uX R (aH bn) (Cs KZ) (mC R mN) (cn R cz) R (sN (dD qm aD ba R R (s_ (cG R R R aD ba R R R (s0 ((Wk.trans (aS [(4,.ptr 104 0),(5,.ptr 105 0)] [(7,.box [.L rP.2.L,.I rP.2.At]),(104,.box [.I 0,.I 0,.I 0,.I 0,.I 0,.I 0]),(105,.box [.I n6,.I n7,.I rP.1,.I r3.1,.I n8,.I n9])]) (Wk.trans (Wk.bg 105 [.I n6,.I n7,.I rP.1,.I r3.1,.I n8,.I n9] R R R (bM R)) (Wk.eq R R R R)))))))))))) (aY (au (LH.aj [(4,.ag [.I n6,.I n7,.I rP.1,.I r3.1,.I n8,.I n9])] [(7,.box [.L rP.2.L,.I rP.2.At])] R (sN (bd R ek iU dJ R R (s_ (cG R R R ek dJ R R R (s0 ((Wk.trans (aS [(4,.ptr 104 0)] [(7,.box [.L rP.2.L,.I rP.2.At]),(104,.box [.I n6,.I n7,.I rP.1,.I r3.1,.I n8,.I n9])]) (Wk.trans (Wk.bg 104 [.I n6,.I n7,.I rP.1,.I r3.1,.I n8,.I n9] R R R (bM R)) (Wk.eq R R R R))))))))) (LH.ret ?_))))
    obtain rfl:=oI h
    exact aO (aT Tryz.results52) (cT R ek iU dJ R R (bS ⟨aN (mC R mN),R,aZ R,Sub.rfl⟩))
   replace h:=aA h lG
   refine LH.aj [(0,.ptr 7 0),(4,.ptr 104 0),(5,.ptr 105 0),(36,.I iw.1),(56,.bool (iw.1 == 3))] [(7,.box [.L iw.2.L,.I iw.2.At]),(104,.box [.I 0,.I 0,.I 0,.I 0,.I 0,.I 0]),(105,.box [.I n6,.I n7,.I r2.1,.I r3.1,.I n8,.I n9])] R (sN (gp R R (b4 R zS))) (LH.cond (t:=(iw.1 == 3)) R (fun Ad=>?_) (fun Ad=>?_))
   ·replace h:=aB h Ad
    obtain ⟨wx,Sr,h⟩:=ao h
    refine LH.aU [(4,.ptr 104 0),(5,.ag [.I n6,.I n7,.I r2.1,.I wx.1,.I n8,.I n9])] [(7,.box [.L wx.2.L,.I wx.2.At]),(104,.box [.I 0,.I 0,.I 0,.I 0,.I 0,.I 0])] R (hZ R (sN (eX (args:=[.ptr 7 0]) (ml:=[(7,.box [.L iw.2.L,.I iw.2.At])]) (de:=[(7,.box [.L wx.2.L,.I wx.2.At])]) R uX R (aH bn) (Cs Sr) (mC R mN) (cn R cz) R (sN (dD qo aD ba R R (s_ (cG R R R aD ba R R R (s0 ((Wk.trans (aS [(4,.ptr 104 0),(5,.ptr 105 0)] [(7,.box [.L wx.2.L,.I wx.2.At]),(104,.box [.I 0,.I 0,.I 0,.I 0,.I 0,.I 0]),(105,.box [.I n6,.I n7,.I r2.1,.I wx.1,.I n8,.I n9])]) (Wk.trans (Wk.bg 105 [.I n6,.I n7,.I r2.1,.I wx.1,.I n8,.I n9] R R R (bM R)) (Wk.eq R R R R)))))))))))) (aY (au (LH.aj [(4,.ag [.I n6,.I n7,.I r2.1,.I wx.1,.I n8,.I n9])] [(7,.box [.L wx.2.L,.I wx.2.At])] R (sN (bd R ek iU dJ R R (s_ (cG R R R ek dJ R R R (s0 ((Wk.trans (aS [(4,.ptr 104 0)] [(7,.box [.L wx.2.L,.I wx.2.At]),(104,.box [.I n6,.I n7,.I r2.1,.I wx.1,.I n8,.I n9])]) (Wk.trans (Wk.bg 104 [.I n6,.I n7,.I r2.1,.I wx.1,.I n8,.I n9] R R R (bM R)) (Wk.eq R R R R))))))))) (LH.ret ?_))))
    obtain rfl:=oI h
    exact aO (aT Tryz.results52) (cT R ek iU dJ R R (bS ⟨aN (mC R mN),R,aZ R,Sub.rfl⟩))
   replace h:=aA h Ad
   refine LH.aj [(0,.ptr 7 0),(4,.ptr 104 0),(5,.ptr 105 0),(61,.bool (iw.1 == 4))] [(7,.box [.L iw.2.L,.I iw.2.At]),(104,.box [.I 0,.I 0,.I 0,.I 0,.I 0,.I 0]),(105,.box [.I n6,.I n7,.I r2.1,.I r3.1,.I n8,.I n9])] R (sN (gp R R (b4 R zS))) (LH.cond (t:=(iw.1 == 4)) R (fun Ae=>?_) (fun Ae=>?_))
   ·replace h:=aB h Ae
    obtain ⟨wy,St,h⟩:=ao h
    refine LH.aU [(4,.ptr 104 0),(5,.ag [.I n6,.I n7,.I r2.1,.I r3.1,.I wy.1,.I n9])] [(7,.box [.L wy.2.L,.I wy.2.At]),(104,.box [.I 0,.I 0,.I 0,.I 0,.I 0,.I 0])] R (hZ R (sN (eX (args:=[.ptr 7 0,.I (-1),.I 6]) (ml:=[(7,.box [.L iw.2.L,.I iw.2.At])]) (de:=[(7,.box [.L wy.2.L,.I wy.2.At])]) R nK R (aH (aH (aH bn))) (nF St) (mC R mN) (cn R cz) R (sN (dD ko aD ba R R (s_ (cG R R R aD ba R R R (s0 ((Wk.trans (aS [(4,.ptr 104 0),(5,.ptr 105 0)] [(7,.box [.L wy.2.L,.I wy.2.At]),(104,.box [.I 0,.I 0,.I 0,.I 0,.I 0,.I 0]),(105,.box [.I n6,.I n7,.I r2.1,.I r3.1,.I wy.1,.I n9])]) (Wk.trans (Wk.bg 105 [.I n6,.I n7,.I r2.1,.I r3.1,.I wy.1,.I n9] R R R (bM R)) (Wk.eq R R R R)))))))))))) (aY (au (LH.aj [(4,.ag [.I n6,.I n7,.I r2.1,.I r3.1,.I wy.1,.I n9])] [(7,.box [.L wy.2.L,.I wy.2.At])] R (sN (bd R ek iU dJ R R (s_ (cG R R R ek dJ R R R (s0 ((Wk.trans (aS [(4,.ptr 104 0)] [(7,.box [.L wy.2.L,.I wy.2.At]),(104,.box [.I n6,.I n7,.I r2.1,.I r3.1,.I wy.1,.I n9])]) (Wk.trans (Wk.bg 104 [.I n6,.I n7,.I r2.1,.I r3.1,.I wy.1,.I n9] R R R (bM R)) (Wk.eq R R R R))))))))) (LH.ret ?_))))
    obtain rfl:=oI h
    exact aO (aT Tryz.results52) (cT R ek iU dJ R R (bS ⟨aN (mC R mN),R,aZ R,Sub.rfl⟩))
   replace h:=aA h Ae
   obtain ⟨wz,Su,h⟩:=ao h
   refine LH.aU [(4,.ptr 104 0),(5,.ag [.I n6,.I n7,.I r2.1,.I r3.1,.I n8,.I wz.1])] [(7,.box [.L wz.2.L,.I wz.2.At]),(104,.box [.I 0,.I 0,.I 0,.I 0,.I 0,.I 0])] R (hZ R (sN (eX (args:=[.ptr 7 0,.I (-1),.I 5]) (ml:=[(7,.box [.L iw.2.L,.I iw.2.At])]) (de:=[(7,.box [.L wz.2.L,.I wz.2.At])]) R nK R (aH (aH (aH bn))) (nF Su) (mC R mN) (cn R cz) R (sN (dD mZ aD ba R R (s_ (cG R R R aD ba R R R (s0 ((Wk.trans (aS [(4,.ptr 104 0),(5,.ptr 105 0)] [(7,.box [.L wz.2.L,.I wz.2.At]),(104,.box [.I 0,.I 0,.I 0,.I 0,.I 0,.I 0]),(105,.box [.I n6,.I n7,.I r2.1,.I r3.1,.I n8,.I wz.1])]) (Wk.trans (Wk.bg 105 [.I n6,.I n7,.I r2.1,.I r3.1,.I n8,.I wz.1] R R R (bM R)) (Wk.eq R R R R)))))))))))) (aY (au (LH.aj [(4,.ag [.I n6,.I n7,.I r2.1,.I r3.1,.I n8,.I wz.1])] [(7,.box [.L wz.2.L,.I wz.2.At])] R (sN (bd R ek iU dJ R R (s_ (cG R R R ek dJ R R R (s0 ((Wk.trans (aS [(4,.ptr 104 0)] [(7,.box [.L wz.2.L,.I wz.2.At]),(104,.box [.I n6,.I n7,.I r2.1,.I r3.1,.I n8,.I wz.1])]) (Wk.trans (Wk.bg 104 [.I n6,.I n7,.I r2.1,.I r3.1,.I n8,.I wz.1] R R R (bM R)) (Wk.eq R R R R))))))))) (LH.ret ?_))))
   obtain rfl:=oI h
   exact aO (aT Tryz.results52) (cT R ek iU dJ R R (bS ⟨aN (mC R mN),R,aZ R,Sub.rfl⟩))
  replace h:=aA h iJ
  refine LH.skip (au (LH.wk ((Wk.trans (aS [(4,.ptr 104 0),(5,.ptr 105 0)] [(7,.box [.L vA.2.1,.I vA.2.2]),(104,.box [.I 0,.I 0,.I 0,.I 0,.I 0,.I 0]),(105,.box [.I n6,.I n7,.I r2.1,.I r3.1,.I n8,.I n9])]) (Wk.trans (Wk.bg 105 [.I n6,.I n7,.I r2.1,.I r3.1,.I n8,.I n9] R R R (bM R)) (aS [(4,.ptr 104 0),(5,.ag [.I n6,.I n7,.I r2.1,.I r3.1,.I n8,.I n9])] [(7,.box [.L vA.2.1,.I vA.2.2]),(104,.box [.I 0,.I 0,.I 0,.I 0,.I 0,.I 0])])))) (LH.aj [(4,.ag [.I n6,.I n7,.I r2.1,.I r3.1,.I n8,.I n9])] [(7,.box [.L vA.2.1,.I vA.2.2])] R (sN (bd R ek iU dJ R R (s_ (cG R R R ek dJ R R R (s0 ((Wk.trans (aS [(4,.ptr 104 0)] [(7,.box [.L vA.2.1,.I vA.2.2]),(104,.box [.I n6,.I n7,.I r2.1,.I r3.1,.I n8,.I n9])]) (Wk.trans (Wk.bg 104 [.I n6,.I n7,.I r2.1,.I r3.1,.I n8,.I n9] R R R (bM R)) (Wk.eq R R R R))))))))) (LH.ret ?_))))
  obtain rfl:=oI h
  exact aO (aT Tryz.results52) (cT R ek iU dJ R R (bS ⟨aN (mC R mN),R,aZ R,Sub.rfl⟩))
set_option maxHeartbeats 4000000 in
theorem Rr {F:Nat} {p0:aP} {p1:Int} {p2:Int} {p3:Int} {r:ai × aP} (h:Ej F p0 p1 p2 p3=some r):aM Tryz.prog 29 [.ptr 7 0,.I p1,.I p2,.I p3] (Mem.of [(7,.box [.L p0.L,.I p0.At])]) (ai.lv r.1) (Mem.of [(7,.box [.L r.2.L,.I r.2.At])]):=by
  unfold Ej at h
  refine br Tryz.func29 R (nT Tryz.ntmps29 R) (LH.wk (aS [(0,.ptr 7 0),(1,.I p1),(2,.I p2),(3,.I p3)] [(7,.box [.L p0.L,.I p0.At])]) (LH.aj [(0,.ptr 7 0),(1,.I p1),(2,.I p2),(3,.I p3),(8,.ptr 108 0)] [(7,.box [.L p0.L,.I p0.At]),(108,.box eh)] R (sN (iE (id:=108) R mr R R zS)) ?_))
  obtain ⟨r1,ee,h⟩:=ao h
  obtain ⟨t2,V5,h⟩:=ao h
  refine LH.aj [(0,.ptr 7 0),(1,.I p1),(3,.I p3),(8,.ptr 108 0),(9,.ptr 109 0)] [(7,.box [.L r1.2.L,.I r1.2.At]),(108,.box eh),(109,.box [.I p1,.I p2,.str t2,.nil,.nil])] R (bj R (bj R (hZ R (sN (eX (args:=[.ptr 7 0,.I 3]) (ml:=[(7,.box [.L p0.L,.I p0.At])]) (de:=[(7,.box [.L r1.2.L,.I r1.2.At])]) R OF R (aH (aH bn)) (Ru ee) (mC R mN) (cn R cz) R (sX ((B2 R R V5).ok) (sN (fU (vs:=[(0,.I p1),(1,.I p2),(2,.str t2)]) G7 mr R (lf e9 ba aD R R R (lf fL ba aD R R R (lf gV xc o8 R R R fT))) (sN (iE (id:=109) R mr R R (s_ (cG R R R bT bN R R R zS)))))))))))) (LH.seq ?_)
  obtain ⟨r3,nW,h⟩:=ao h
  refine LH.aj [(0,.ptr 7 0),(1,.I p1),(3,.I p3),(8,.ptr 108 0),(9,.ptr 109 0),(10,.I r3.1)] [(7,.box [.L r3.2.L,.I r3.2.At]),(108,.box eh),(109,.box [.I p1,.I p2,.str t2,.nil,.nil])] R (hZ R (sN (eX (args:=[.ptr 7 0,.I 1,.I 3]) (ml:=[(7,.box [.L r1.2.L,.I r1.2.At])]) (de:=[(7,.box [.L r3.2.L,.I r3.2.At])]) R nK R (aH (aH (aH bn))) (nF nW) (mC R mN) (cn R cz) R (bo R zS)))) (LH.block (LH.wk ((Wk.trans (aS [(0,.ptr 7 0),(1,.I p1),(3,.I p3),(8,.ptr 108 0),(9,.ptr 109 0),(10,.I r3.1)] [(7,.box [.L r3.2.L,.I r3.2.At]),(108,.box eh),(109,.box [.I p1,.I p2,.str t2,.nil,.nil])]) (Wk.trans (aS [(0,.ptr 7 0),(1,.I p1),(3,.I p3),(8,.ptr 108 0),(9,.ptr 109 0),(10,.I r3.1)] [(7,.box [.L r3.2.L,.I r3.2.At]),(108,.box eh),(109,.box [.I p1,.I p2,.str t2,.nil,.nil])]) (Wk.trans (Wk.u3 129 86 6 109 3 R R R R R (bM R)) (aS [(0,.ptr 7 0),(1,.I p1),(3,.I p3),(8,.ptr 108 0),(9,.ptr 109 0),(10,.I r3.1)] [(7,.box [.L r3.2.L,.I r3.2.At]),(108,.box eh),(109,.box [.I p1,.I p2,.str t2,.arr 129 (List.length ([]:List aq)),.nil]),(129,.arr 86 6 (List.map aq.lv ([]:List aq)))]))))) (LH.loop (fun n e m=>∃ (n4:Int) (l5:List Int) (n6:Int) (l7:List aq),Ek F p1 p2 p3 t2 n n4 l5 n6 l7=some r∧e=Env.of [(0,.ptr 7 0),(1,.I p1),(3,.I p3),(8,.ptr 108 0),(9,.ptr 109 0),(10,.I n4)]∧m=Mem.of [(7,.box [.L l5,.I n6]),(108,.box eh),(109,.box [.I p1,.I p2,.str t2,.arr 129 l7.length,.nil]),(129,.arr 86 6 (l7.map aq.lv))]) F ⟨r3.1,r3.2.L,r3.2.At,([]:List aq),h,R,R⟩ ?_)))
  clear h
  rintro n e m ⟨n4,l5,n6,l7,h,rfl,rfl⟩
  rcases n with _ | n
  · cases (show Option.none=some _ from h)
  obtain ⟨aJ,a7⟩:∃ f,f=Ek F p1 p2 p3 t2 n:=⟨_,rfl⟩
  replace h:El F p1 p2 p3 t2 aJ n4 l5 n6 l7=some r:=a7 ▸ h
  unfold El at h
  refine LH.seq (LH.aj [(0,.ptr 7 0),(1,.I p1),(3,.I p3),(8,.ptr 108 0),(9,.ptr 109 0),(10,.I n4),(21,.bool (decide (n4 > 0)))] [(7,.box [.L l5,.I n6]),(108,.box eh),(109,.box [.I p1,.I p2,.str t2,.arr 129 l7.length,.nil]),(129,.arr 86 6 (l7.map aq.lv))] R (bj R (sN (iP R R zS))) (LH.cond (t:=(decide (n4 > 0))) R (fun kS=>?_) (fun kS=>?_)))
  ·replace h:=aB h kS
   refine LH.skip (au (LH.wk (aS [(0,.ptr 7 0),(1,.I p1),(3,.I p3),(8,.ptr 108 0),(9,.ptr 109 0),(10,.I n4)] [(7,.box [.L l5,.I n6]),(108,.box eh),(109,.box [.I p1,.I p2,.str t2,.arr 129 l7.length,.nil]),(129,.arr 86 6 (l7.map aq.lv))]) (LH.seq (LH.block ?_))))
   obtain ⟨r9,AA,h⟩:=ao h
   obtain ⟨v10,Fs,h⟩:=ao h
   refine LH.s9 mixed [] [0,1109,0,100007,0,2,0,100109] [(0,.ptr 7 0),(1,.I p1),(3,.I p3),(8,.ptr 108 0),(9,.ptr 109 0),(10,.I n4)] [(7,.box [.L r9.2.L,.I r9.2.At]),(108,.box eh),(109,.box [.I p1,.I p2,.str t2,.arr 129 v10.length,.nil]),(129,.arr 86 6 (v10.map aq.lv))] R R (by kernel_rfl) (aF (dD cZ c8 fC R R ⟨R,mD R R R (fun _ b _ d=>dM R b R R c8 iT d) (BX R (mW R R R (fun _ b _ d=>eX (args:=[.ptr 7 0,.I 0]) (ml:=[(7,.box [.L l5,.I n6])]) (de:=[(7,.box [.L r9.2.L,.I r9.2.At])]) R Jl R (aH (aH bn)) (MH AA) (mC b mN) (cn R cz) R d) (aF (jZ (f:=aq.lv) (ys:=[r9.1]) gu Bl dJ R R R aq.ok ⟨R,Ht (nw (f:=aq.lv) gu Bl dJ R R (bM R) R Fs (aF (dD cZ c8 fC R R ⟨R,mS R R R (fun _ b _ d=>cG R R R c8 fC b R R d) zM⟩)))⟩))))⟩)) (aY (au (LH.aU [(0,.ptr 7 0),(1,.I p1),(3,.I p3),(8,.ptr 108 0),(9,.ptr 109 0),(10,.I (i64 (n4 - 1)))] [(7,.box [.L r9.2.L,.I r9.2.At]),(108,.box eh),(109,.box [.I p1,.I p2,.str t2,.arr 129 v10.length,.nil]),(129,.arr 86 6 (v10.map aq.lv))] R (bj R (sN (iA R R (bo R zS)))) ?_)))
   exact bh ⟨(i64 (n4 - 1)),r9.2.L,r9.2.At,v10,a7 ▸ h,R,R⟩ (Wk.eq R R R R)
  replace h:=aA h kS
  refine LH.exit (cw (bY (bO (au (LH.wk (aS [(0,.ptr 7 0),(1,.I p1),(3,.I p3),(8,.ptr 108 0),(9,.ptr 109 0)] [(7,.box [.L l5,.I n6]),(108,.box eh),(109,.box [.I p1,.I p2,.str t2,.arr 129 l7.length,.nil]),(129,.arr 86 6 (l7.map aq.lv))]) (LH.seq (LH.aj [(0,.ptr 7 0),(1,.I p1),(3,.I p3),(8,.ptr 108 0),(9,.ptr 109 0),(11,.I 0)] [(7,.box [.L l5,.I n6]),(108,.box eh),(109,.box [.I p1,.I p2,.str t2,.arr 129 l7.length,.nil]),(129,.arr 86 6 (l7.map aq.lv))] R (bo R zS) (LH.block (LH.wk ((Wk.trans (aS [(0,.ptr 7 0),(1,.I p1),(3,.I p3),(8,.ptr 108 0),(9,.ptr 109 0),(11,.I 0)] [(7,.box [.L l5,.I n6]),(108,.box eh),(109,.box [.I p1,.I p2,.str t2,.arr 129 l7.length,.nil]),(129,.arr 86 6 (l7.map aq.lv))]) (Wk.trans (aS [(0,.ptr 7 0),(1,.I p1),(3,.I p3),(8,.ptr 108 0),(9,.ptr 109 0),(11,.I 0)] [(7,.box [.L l5,.I n6]),(108,.box eh),(109,.box [.I p1,.I p2,.str t2,.arr 129 l7.length,.nil]),(129,.arr 86 6 (l7.map aq.lv))]) (Wk.trans (Wk.u3 146 3 1 109 4 R R R R R (bM R)) (aS [(0,.ptr 7 0),(1,.I p1),(3,.I p3),(8,.ptr 108 0),(9,.ptr 109 0),(11,.I 0)] [(7,.box [.L l5,.I n6]),(108,.box eh),(109,.box [.I p1,.I p2,.str t2,.arr 129 l7.length,.arr 146 (List.length ([]:List Int))]),(129,.arr 86 6 (l7.map aq.lv)),(146,.arr 3 1 (List.map LV.I ([]:List Int)))]))))) (LH.loop (fun n e m=>∃ (n11:Int) (BV:List Int) (n13:Int) (cR:List Int),Co p1 p2 p3 t2 l7 n n11 BV n13 cR=some r∧e=Env.of [(0,.ptr 7 0),(1,.I p1),(3,.I p3),(8,.ptr 108 0),(9,.ptr 109 0),(11,.I n11)]∧m=Mem.of [(7,.box [.L BV,.I n13]),(108,.box eh),(109,.box [.I p1,.I p2,.str t2,.arr 129 l7.length,.arr 146 cR.length]),(129,.arr 86 6 (l7.map aq.lv)),(146,.arr 3 1 (cR.map LV.I))]) F ⟨0,l5,n6,([]:List Int),h,R,R⟩ ?_))))))))))
  clear h
  rintro n e m ⟨n11,BV,n13,cR,h,rfl,rfl⟩
  rcases n with _ | n
  · cases (show Option.none=some _ from h)
  obtain ⟨fo,eB⟩:∃ f,f=Co p1 p2 p3 t2 l7 n:=⟨_,rfl⟩
  replace h:Em p1 p2 p3 t2 l7 fo n11 BV n13 cR=some r:=eB ▸ h
  unfold Em at h
  refine LH.seq (LH.aj [(0,.ptr 7 0),(1,.I p1),(3,.I p3),(8,.ptr 108 0),(9,.ptr 109 0),(11,.I n11),(32,.bool (decide (n11<6)))] [(7,.box [.L BV,.I n13]),(108,.box eh),(109,.box [.I p1,.I p2,.str t2,.arr 129 l7.length,.arr 146 cR.length]),(129,.arr 86 6 (l7.map aq.lv)),(146,.arr 3 1 (cR.map LV.I))] R (bj R (sN (fi R R zS))) (LH.cond (t:=(decide (n11<6))) R (fun kx=>?_) (fun kx=>?_)))
  ·replace h:=aB h kx
   refine LH.skip (au (LH.wk (aS [(0,.ptr 7 0),(1,.I p1),(3,.I p3),(8,.ptr 108 0),(9,.ptr 109 0),(11,.I n11)] [(7,.box [.L BV,.I n13]),(108,.box eh),(109,.box [.I p1,.I p2,.str t2,.arr 129 l7.length,.arr 146 cR.length]),(129,.arr 86 6 (l7.map aq.lv)),(146,.arr 3 1 (cR.map LV.I))]) (LH.seq (LH.block ?_))))
   obtain ⟨vB,hv,h⟩:=ao h
   refine LH.aj [(0,.ptr 7 0),(1,.I p1),(3,.I p3),(8,.ptr 108 0),(9,.ptr 109 0),(11,.I n11),(41,.bool vB.1)] [(7,.box [.L vB.2.1,.I vB.2.2]),(108,.box eh),(109,.box [.I p1,.I p2,.str t2,.arr 129 l7.length,.arr 146 cR.length]),(129,.arr 86 6 (l7.map aq.lv)),(146,.arr 3 1 (cR.map LV.I))] R ?_ ?_
   ·refine bj R (bj R (sN (jR R R (bD R ?_))))
    by_cases kc:(n11 != p1)=true
    ·replace hv:=aB hv kc
     refine sT R (cB kc) (oM (v:=(.ptr _ _)) R ?_)
     obtain ⟨hT,Aw,hv⟩:=ao hv
     refine sT R (cB kc) (eX (args:=[.ptr 7 0,.I 8]) (ml:=[(7,.box [.L BV,.I n13])]) (de:=[(7,.box [.L hT.2.L,.I hT.2.At])]) R s7 R (aH (aH bn)) (zO Aw) (mC R mN) (cn R cz) R (sN (aX (cB kc) (v:=(.bool _)) R ?_)))
     obtain rfl:=oI hv
     exact zS
    ·replace kc:=bF kc
     replace hv:=aA hv kc
     refine sF R R kc (sF R R kc (sN (aQ (cB kc) (v:=(.bool _)) R ?_)))
     obtain rfl:=oI hv
     exact zS
   clear hv
   refine LH.cond (t:=vB.1) R (fun lG=>?_) (fun lG=>?_)
   ·replace h:=aB h lG
    obtain ⟨v23,AD,h⟩:=ao h
    refine LH.aU [(0,.ptr 7 0),(1,.I p1),(3,.I p3),(8,.ptr 108 0),(9,.ptr 109 0),(11,.I n11)] [(7,.box [.L vB.2.1,.I vB.2.2]),(108,.box eh),(109,.box [.I p1,.I p2,.str t2,.arr 129 l7.length,.arr 146 v23.length]),(129,.arr 86 6 (l7.map aq.lv)),(146,.arr 3 1 (v23.map LV.I))] R (sN (dD fq eM jq R R (sN (dM R R R R eM mo (bj R (sN (jZ (f:=LV.I) (ys:=[n11]) cE qV ba R R R lY (sN (nw (f:=LV.I) cE qV ba R R (bM R) R AD (sN (dD fq eM jq R R (s_ (cG R R R eM jq R R R zS))))))))))))) (aY (au (LH.aU [(0,.ptr 7 0),(1,.I p1),(3,.I p3),(8,.ptr 108 0),(9,.ptr 109 0),(11,.I (i64 (n11+1)))] [(7,.box [.L vB.2.1,.I vB.2.2]),(108,.box eh),(109,.box [.I p1,.I p2,.str t2,.arr 129 l7.length,.arr 146 v23.length]),(129,.arr 86 6 (l7.map aq.lv)),(146,.arr 3 1 (v23.map LV.I))] R (bj R (sN (cD R R (bo R zS)))) ?_)))
    exact bh ⟨(i64 (n11+1)),vB.2.1,vB.2.2,v23,eB ▸ h,R,R⟩ (Wk.eq R R R R)
   replace h:=aA h lG
   refine LH.skip (aY (au (LH.aU [(0,.ptr 7 0),(1,.I p1),(3,.I p3),(8,.ptr 108 0),(9,.ptr 109 0),(11,.I (i64 (n11+1)))] [(7,.box [.L vB.2.1,.I vB.2.2]),(108,.box eh),(109,.box [.I p1,.I p2,.str t2,.arr 129 l7.length,.arr 146 cR.length]),(129,.arr 86 6 (l7.map aq.lv)),(146,.arr 3 1 (cR.map LV.I))] R (bj R (sN (cD R R (bo R zS)))) ?_)))
   exact bh ⟨(i64 (n11+1)),vB.2.1,vB.2.2,cR,eB ▸ h,R,R⟩ (Wk.eq R R R R)
  replace h:=aA h kx
  refine LH.exit (cw (bY (bO (au (LH.wk (aS [(0,.ptr 7 0),(1,.I p1),(3,.I p3),(8,.ptr 108 0),(9,.ptr 109 0)] [(7,.box [.L BV,.I n13]),(108,.box eh),(109,.box [.I p1,.I p2,.str t2,.arr 129 l7.length,.arr 146 cR.length]),(129,.arr 86 6 (l7.map aq.lv)),(146,.arr 3 1 (cR.map LV.I))]) (LH.seq ?_))))))
  obtain ⟨pX,hv,h⟩:=ao h
  refine LH.aj [(0,.ptr 7 0),(1,.I p1),(8,.ptr 108 0),(9,.ptr 109 0),(54,.bool pX.1)] [(7,.box [.L pX.2.1,.I pX.2.2]),(108,.box eh),(109,.box [.I p1,.I p2,.str t2,.arr 129 l7.length,.arr 146 cR.length]),(129,.arr 86 6 (l7.map aq.lv)),(146,.arr 3 1 (cR.map LV.I))] R ?_ ?_
  ·refine bj R (sN (iP R R (bD R ?_)))
   by_cases rj:(decide (p3 > 0))=true
   ·replace hv:=aB hv rj
    refine sT R (cB rj) (oM (v:=(.ptr _ _)) R (sT R (cB rj) (oM (v:=(.int _ _)) R ?_)))
    obtain ⟨ue,K0,hv⟩:=ao hv
    refine sT R (cB rj) (eX (args:=[.ptr 7 0,.I p3]) (ml:=[(7,.box [.L BV,.I n13])]) (de:=[(7,.box [.L ue.2.L,.I ue.2.At])]) R s7 R (aH (aH bn)) (zO K0) (mC R mN) (cn R cz) R (sN (aX (cB rj) (v:=(.bool _)) R ?_)))
    obtain rfl:=oI hv
    exact zS
   ·replace rj:=bF rj
    replace hv:=aA hv rj
    refine sF R R rj (sF R R rj (sF R R rj (sN (aQ (cB rj) (v:=(.bool _)) R ?_))))
    obtain rfl:=oI hv
    exact zS
  clear hv
  refine LH.cond (t:=pX.1) R (fun pt=>?_) (fun pt=>?_)
  ·replace h:=aB h pt
   obtain ⟨dg,Fj,h⟩:=ao h
   refine LH.aj [(0,.ptr 7 0),(1,.I p1),(8,.ptr 108 0),(9,.ptr 109 0),(56,.I dg.1)] [(7,.box [.L dg.2.L,.I dg.2.At]),(108,.box eh),(109,.box [.I p1,.I p2,.str t2,.arr 129 l7.length,.arr 146 cR.length]),(129,.arr 86 6 (l7.map aq.lv)),(146,.arr 3 1 (cR.map LV.I))] R (hZ R (sN (eX (args:=[.ptr 7 0,.I 7]) (ml:=[(7,.box [.L pX.2.1,.I pX.2.2])]) (de:=[(7,.box [.L dg.2.L,.I dg.2.At])]) R gG R (aH (aH bn)) (kN Fj) (mC R mN) (cn R cz) R zS))) (LH.block (LH.aj [(0,.ptr 7 0),(1,.I p1),(8,.ptr 108 0),(9,.ptr 109 0),(56,.I dg.1),(86,.bool (dg.1 == 0))] [(7,.box [.L dg.2.L,.I dg.2.At]),(108,.box eh),(109,.box [.I p1,.I p2,.str t2,.arr 129 l7.length,.arr 146 cR.length]),(129,.arr 86 6 (l7.map aq.lv)),(146,.arr 3 1 (cR.map LV.I))] R (sN (gp R R (b4 R zS))) (LH.cond (t:=(dg.1 == 0)) R (fun Ag=>?_) (fun Ag=>?_))))
   ·replace h:=aB h Ag
    obtain ⟨kH,K1,h⟩:=ao h
    refine LH.aU [(8,.ptr 108 0),(9,.ag [.I kH.1,.I p2,.str t2,.ak 6 (l7.map aq.lv),.L cR])] [(7,.box [.L kH.2.L,.I kH.2.At]),(108,.box eh)] R (hZ R (sN (eX (args:=[.ptr 7 0]) (ml:=[(7,.box [.L dg.2.L,.I dg.2.At])]) (de:=[(7,.box [.L kH.2.L,.I kH.2.At])]) R uX R (aH bn) (Cs K1) (mC R mN) (cn R cz) R (sN (dD e9 aD ba R R (s_ (cG R R R aD ba R R R (s0 ((Wk.trans (aS [(8,.ptr 108 0),(9,.ptr 109 0)] [(7,.box [.L kH.2.L,.I kH.2.At]),(108,.box eh),(109,.box [.I kH.1,.I p2,.str t2,.arr 129 l7.length,.arr 146 cR.length]),(129,.arr 86 6 (l7.map aq.lv)),(146,.arr 3 1 (cR.map LV.I))]) (Wk.trans (aS [(8,.ptr 108 0),(9,.ptr 109 0)] [(7,.box [.L kH.2.L,.I kH.2.At]),(108,.box eh),(109,.box [.I kH.1,.I p2,.str t2,.arr 129 l7.length,.arr 146 cR.length]),(129,.arr 86 6 (l7.map aq.lv)),(146,.arr 3 1 (cR.map LV.I))]) (Wk.trans (Wk.trans (Wk.fY (f:=aq.lv) 129 86 6 l7 109 R R R (b6 R (b6 R (b6 R (kb (b6 R ka))))) R R (bM R)) (aS [(8,.ptr 108 0),(9,.ptr 109 0)] [(7,.box [.L kH.2.L,.I kH.2.At]),(108,.box eh),(109,.box [.I kH.1,.I p2,.str t2,.ak 6 (l7.map aq.lv),.arr 146 cR.length]),(146,.arr 3 1 (cR.map LV.I))])) (Wk.trans (aS [(8,.ptr 108 0),(9,.ptr 109 0)] [(7,.box [.L kH.2.L,.I kH.2.At]),(108,.box eh),(109,.box [.I kH.1,.I p2,.str t2,.ak 6 (l7.map aq.lv),.arr 146 cR.length]),(146,.arr 3 1 (cR.map LV.I))]) (Wk.trans (Wk.trans (Wk.fY (f:=LV.I) 146 3 1 cR 109 R R R (b6 R (b6 R (b6 R (b6 R (kb ka))))) R R (bM R)) (aS [(8,.ptr 108 0),(9,.ptr 109 0)] [(7,.box [.L kH.2.L,.I kH.2.At]),(108,.box eh),(109,.box [.I kH.1,.I p2,.str t2,.ak 6 (l7.map aq.lv),.L cR])])) (Wk.trans (Wk.bg 109 [.I kH.1,.I p2,.str t2,.ak 6 (l7.map aq.lv),.L cR] R R R (bM R)) (Wk.eq R R R R)))))))))))))))) (aY (au (LH.aj [(8,.ag [.I kH.1,.I p2,.str t2,.ak 6 (l7.map aq.lv),.L cR])] [(7,.box [.L kH.2.L,.I kH.2.At])] R (sN (bd R bT dO bN R R (s_ (cG R R R bT bN R R R (s0 ((Wk.trans (aS [(8,.ptr 108 0)] [(7,.box [.L kH.2.L,.I kH.2.At]),(108,.box [.I kH.1,.I p2,.str t2,.ak 6 (l7.map aq.lv),.L cR])]) (Wk.trans (Wk.bg 108 [.I kH.1,.I p2,.str t2,.ak 6 (l7.map aq.lv),.L cR] R R R (bM R)) (Wk.eq R R R R))))))))) (LH.ret ?_))))
    obtain rfl:=oI h
    exact aO (aT Tryz.results29) (cT R bT dO bN R R (bS ⟨aN (mC R mN),R,aZ R,Sub.rfl⟩))
   replace h:=aA h Ag
   refine LH.aj [(0,.ptr 7 0),(1,.I p1),(8,.ptr 108 0),(9,.ptr 109 0),(56,.I dg.1),(91,.bool (dg.1 == 1))] [(7,.box [.L dg.2.L,.I dg.2.At]),(108,.box eh),(109,.box [.I p1,.I p2,.str t2,.arr 129 l7.length,.arr 146 cR.length]),(129,.arr 86 6 (l7.map aq.lv)),(146,.arr 3 1 (cR.map LV.I))] R (sN (gp R R (b4 R zS))) (LH.cond (t:=(dg.1 == 1)) R (fun Kn=>?_) (fun Kn=>?_))
   ·replace h:=aB h Kn
    obtain ⟨oR,Sw,h⟩:=ao h
    refine LH.aU [(8,.ptr 108 0),(9,.ag [.I p1,.I oR.1,.str t2,.ak 6 (l7.map aq.lv),.L cR])] [(7,.box [.L oR.2.L,.I oR.2.At]),(108,.box eh)] R (hZ R (sN (jZ (f:=LV.I) (ys:=[0,8,9,(-1)]) cE qV ba R R R lY (sN (eX (args:=[.ptr 7 0,.L [0,8,9,(-1)]]) (ml:=[(7,.box [.L dg.2.L,.I dg.2.At])]) (de:=[(7,.box [.L oR.2.L,.I oR.2.At])]) R xK R (aH (aH bn)) (En Sw) (mC R mN) (cn R cz) R (sN (dD fL aD ba R R (s_ (cG R R R aD ba R R R (s0 ((Wk.trans (aS [(8,.ptr 108 0),(9,.ptr 109 0)] [(7,.box [.L oR.2.L,.I oR.2.At]),(108,.box eh),(109,.box [.I p1,.I oR.1,.str t2,.arr 129 l7.length,.arr 146 cR.length]),(129,.arr 86 6 (l7.map aq.lv)),(146,.arr 3 1 (cR.map LV.I))]) (Wk.trans (aS [(8,.ptr 108 0),(9,.ptr 109 0)] [(7,.box [.L oR.2.L,.I oR.2.At]),(108,.box eh),(109,.box [.I p1,.I oR.1,.str t2,.arr 129 l7.length,.arr 146 cR.length]),(129,.arr 86 6 (l7.map aq.lv)),(146,.arr 3 1 (cR.map LV.I))]) (Wk.trans (Wk.trans (Wk.fY (f:=aq.lv) 129 86 6 l7 109 R R R (b6 R (b6 R (b6 R (kb (b6 R ka))))) R R (bM R)) (aS [(8,.ptr 108 0),(9,.ptr 109 0)] [(7,.box [.L oR.2.L,.I oR.2.At]),(108,.box eh),(109,.box [.I p1,.I oR.1,.str t2,.ak 6 (l7.map aq.lv),.arr 146 cR.length]),(146,.arr 3 1 (cR.map LV.I))])) (Wk.trans (aS [(8,.ptr 108 0),(9,.ptr 109 0)] [(7,.box [.L oR.2.L,.I oR.2.At]),(108,.box eh),(109,.box [.I p1,.I oR.1,.str t2,.ak 6 (l7.map aq.lv),.arr 146 cR.length]),(146,.arr 3 1 (cR.map LV.I))]) (Wk.trans (Wk.trans (Wk.fY (f:=LV.I) 146 3 1 cR 109 R R R (b6 R (b6 R (b6 R (b6 R (kb ka))))) R R (bM R)) (aS [(8,.ptr 108 0),(9,.ptr 109 0)] [(7,.box [.L oR.2.L,.I oR.2.At]),(108,.box eh),(109,.box [.I p1,.I oR.1,.str t2,.ak 6 (l7.map aq.lv),.L cR])])) (Wk.trans (Wk.bg 109 [.I p1,.I oR.1,.str t2,.ak 6 (l7.map aq.lv),.L cR] R R R (bM R)) (Wk.eq R R R R)))))))))))))))))) (aY (au (LH.aj [(8,.ag [.I p1,.I oR.1,.str t2,.ak 6 (l7.map aq.lv),.L cR])] [(7,.box [.L oR.2.L,.I oR.2.At])] R (sN (bd R bT dO bN R R (s_ (cG R R R bT bN R R R (s0 ((Wk.trans (aS [(8,.ptr 108 0)] [(7,.box [.L oR.2.L,.I oR.2.At]),(108,.box [.I p1,.I oR.1,.str t2,.ak 6 (l7.map aq.lv),.L cR])]) (Wk.trans (Wk.bg 108 [.I p1,.I oR.1,.str t2,.ak 6 (l7.map aq.lv),.L cR] R R R (bM R)) (Wk.eq R R R R))))))))) (LH.ret ?_))))
    obtain rfl:=oI h
    exact aO (aT Tryz.results29) (cT R bT dO bN R R (bS ⟨aN (mC R mN),R,aZ R,Sub.rfl⟩))
   replace h:=aA h Kn
   refine LH.aj [(0,.ptr 7 0),(1,.I p1),(8,.ptr 108 0),(9,.ptr 109 0),(56,.I dg.1),(97,.bool (dg.1 == 2))] [(7,.box [.L dg.2.L,.I dg.2.At]),(108,.box eh),(109,.box [.I p1,.I p2,.str t2,.arr 129 l7.length,.arr 146 cR.length]),(129,.arr 86 6 (l7.map aq.lv)),(146,.arr 3 1 (cR.map LV.I))] R (sN (gp R R (b4 R zS))) (LH.cond (t:=(dg.1 == 2)) R (fun Ko=>?_) (fun Ko=>?_))
   ·replace h:=aB h Ko
    obtain ⟨lJ,K2,h⟩:=ao h
    obtain ⟨Ef,Tg,h⟩:=ao h
    refine LH.aU [(8,.ptr 108 0),(9,.ag [.I p1,.I p2,.str Ef,.ak 6 (l7.map aq.lv),.L cR])] [(7,.box [.L lJ.2.L,.I lJ.2.At]),(108,.box eh)] R (sN (jZ (f:=LV.str) (ys:=[(ByteArray.mk #[]),(ByteArray.mk #[116,97,98,9]),(ByteArray.mk #[48,49,50,51,52,53,54,55,56,57,48,49,50,51,52,53,54,55,56,57,48,49,50,51,52,53,54,55,56,57,48,49,50,51,52,53,54,55,56,57,120])]) JV WC xc R R R UO (hZ R (sN (eX (args:=[.ptr 7 0,.I 3]) (ml:=[(7,.box [.L dg.2.L,.I dg.2.At])]) (de:=[(7,.box [.L lJ.2.L,.I lJ.2.At])]) R gG R (aH (aH bn)) (kN K2) (mC R mN) (cn R cz) R (sN (eG (f:=LV.str) JV o8 xc R R UO Tg R (sN (bb R o8 DP (sN (dD gV o8 xc R R (s_ (cG R R R o8 xc R R R (s0 ((Wk.trans (aS [(8,.ptr 108 0),(9,.ptr 109 0)] [(7,.box [.L lJ.2.L,.I lJ.2.At]),(108,.box eh),(109,.box [.I p1,.I p2,.str Ef,.arr 129 l7.length,.arr 146 cR.length]),(129,.arr 86 6 (l7.map aq.lv)),(146,.arr 3 1 (cR.map LV.I))]) (Wk.trans (aS [(8,.ptr 108 0),(9,.ptr 109 0)] [(7,.box [.L lJ.2.L,.I lJ.2.At]),(108,.box eh),(109,.box [.I p1,.I p2,.str Ef,.arr 129 l7.length,.arr 146 cR.length]),(129,.arr 86 6 (l7.map aq.lv)),(146,.arr 3 1 (cR.map LV.I))]) (Wk.trans (Wk.trans (Wk.fY (f:=aq.lv) 129 86 6 l7 109 R R R (b6 R (b6 R (b6 R (kb (b6 R ka))))) R R (bM R)) (aS [(8,.ptr 108 0),(9,.ptr 109 0)] [(7,.box [.L lJ.2.L,.I lJ.2.At]),(108,.box eh),(109,.box [.I p1,.I p2,.str Ef,.ak 6 (l7.map aq.lv),.arr 146 cR.length]),(146,.arr 3 1 (cR.map LV.I))])) (Wk.trans (aS [(8,.ptr 108 0),(9,.ptr 109 0)] [(7,.box [.L lJ.2.L,.I lJ.2.At]),(108,.box eh),(109,.box [.I p1,.I p2,.str Ef,.ak 6 (l7.map aq.lv),.arr 146 cR.length]),(146,.arr 3 1 (cR.map LV.I))]) (Wk.trans (Wk.trans (Wk.fY (f:=LV.I) 146 3 1 cR 109 R R R (b6 R (b6 R (b6 R (b6 R (kb ka))))) R R (bM R)) (aS [(8,.ptr 108 0),(9,.ptr 109 0)] [(7,.box [.L lJ.2.L,.I lJ.2.At]),(108,.box eh),(109,.box [.I p1,.I p2,.str Ef,.ak 6 (l7.map aq.lv),.L cR])])) (Wk.trans (Wk.bg 109 [.I p1,.I p2,.str Ef,.ak 6 (l7.map aq.lv),.L cR] R R R (bM R)) (Wk.eq R R R R)))))))))))))))))))))) (aY (au (LH.aj [(8,.ag [.I p1,.I p2,.str Ef,.ak 6 (l7.map aq.lv),.L cR])] [(7,.box [.L lJ.2.L,.I lJ.2.At])] R (sN (bd R bT dO bN R R (s_ (cG R R R bT bN R R R (s0 ((Wk.trans (aS [(8,.ptr 108 0)] [(7,.box [.L lJ.2.L,.I lJ.2.At]),(108,.box [.I p1,.I p2,.str Ef,.ak 6 (l7.map aq.lv),.L cR])]) (Wk.trans (Wk.bg 108 [.I p1,.I p2,.str Ef,.ak 6 (l7.map aq.lv),.L cR] R R R (bM R)) (Wk.eq R R R R))))))))) (LH.ret ?_))))
    obtain rfl:=oI h
    exact aO (aT Tryz.results29) (cT R bT dO bN R R (bS ⟨aN (mC R mN),R,aZ R,Sub.rfl⟩))
   replace h:=aA h Ko
   refine LH.aj [(0,.ptr 7 0),(1,.I p1),(8,.ptr 108 0),(9,.ptr 109 0),(56,.I dg.1),(105,.bool (dg.1 == 3))] [(7,.box [.L dg.2.L,.I dg.2.At]),(108,.box eh),(109,.box [.I p1,.I p2,.str t2,.arr 129 l7.length,.arr 146 cR.length]),(129,.arr 86 6 (l7.map aq.lv)),(146,.arr 3 1 (cR.map LV.I))] R (sN (gp R R (b4 R zS))) (LH.cond (t:=(dg.1 == 3)) R (fun CN=>?_) (fun CN=>?_))
   ·replace h:=aB h CN
    refine LH.aU [(8,.ptr 108 0),(9,.ag [.I p1,.I p2,.str t2,.nil,.L cR])] [(7,.box [.L dg.2.L,.I dg.2.At]),(108,.box eh)] R (sN (dD cZ c8 fC R R (s_ (cG R R R c8 fC R R R (s0 ((Wk.trans (aS [(8,.ptr 108 0),(9,.ptr 109 0)] [(7,.box [.L dg.2.L,.I dg.2.At]),(108,.box eh),(109,.box [.I p1,.I p2,.str t2,.nil,.arr 146 cR.length]),(146,.arr 3 1 (cR.map LV.I))]) (Wk.trans (aS [(8,.ptr 108 0),(9,.ptr 109 0)] [(7,.box [.L dg.2.L,.I dg.2.At]),(108,.box eh),(109,.box [.I p1,.I p2,.str t2,.nil,.arr 146 cR.length]),(146,.arr 3 1 (cR.map LV.I))]) (Wk.trans (Wk.trans (Wk.fY (f:=LV.I) 146 3 1 cR 109 R R R (b6 R (b6 R (b6 R (b6 R (kb ka))))) R R (bM R)) (aS [(8,.ptr 108 0),(9,.ptr 109 0)] [(7,.box [.L dg.2.L,.I dg.2.At]),(108,.box eh),(109,.box [.I p1,.I p2,.str t2,.nil,.L cR])])) (Wk.trans (Wk.bg 109 [.I p1,.I p2,.str t2,.nil,.L cR] R R R (bM R)) (Wk.eq R R R R))))))))))) (aY (au (LH.aj [(8,.ag [.I p1,.I p2,.str t2,.nil,.L cR])] [(7,.box [.L dg.2.L,.I dg.2.At])] R (sN (bd R bT dO bN R R (s_ (cG R R R bT bN R R R (s0 ((Wk.trans (aS [(8,.ptr 108 0)] [(7,.box [.L dg.2.L,.I dg.2.At]),(108,.box [.I p1,.I p2,.str t2,.nil,.L cR])]) (Wk.trans (Wk.bg 108 [.I p1,.I p2,.str t2,.nil,.L cR] R R R (bM R)) (Wk.eq R R R R))))))))) (LH.ret ?_))))
    obtain rfl:=oI h
    exact aO (aT Tryz.results29) (cT R bT dO bN R R (bS ⟨aN (mC R mN),R,aZ R,(fv.head (o7 (Sub.agg (aH (aH (aH (oV (aH bn)))))) bn))⟩))
   replace h:=aA h CN
   refine LH.aj [(0,.ptr 7 0),(1,.I p1),(8,.ptr 108 0),(9,.ptr 109 0),(56,.I dg.1),(108,.bool (dg.1 == 4))] [(7,.box [.L dg.2.L,.I dg.2.At]),(108,.box eh),(109,.box [.I p1,.I p2,.str t2,.arr 129 l7.length,.arr 146 cR.length]),(129,.arr 86 6 (l7.map aq.lv)),(146,.arr 3 1 (cR.map LV.I))] R (sN (gp R R (b4 R zS))) (LH.cond (t:=(dg.1 == 4)) R (fun Ai=>?_) (fun Ai=>?_))
   ·replace h:=aB h Ai
    obtain ⟨uf,Sz,h⟩:=ao h
    obtain ⟨Bp,S5,h⟩:=ao h
    refine LH.s9 mixed [] [0,1109,0,100007,0,2,0,100109] [(8,.ptr 108 0),(9,.ag [.I p1,.I p2,.str t2,.ak 6 (Bp.map aq.lv),.L cR])] [(7,.box [.L uf.2.L,.I uf.2.At]),(108,.box eh)] R R (by kernel_rfl) (aF (dD cZ c8 fC R R ⟨R,mD R R R (fun _ b _ d=>dM R b R R c8 iT d) (BX R (mW R R R (fun _ b _ d=>eX (args:=[.ptr 7 0,.I 1]) (ml:=[(7,.box [.L dg.2.L,.I dg.2.At])]) (de:=[(7,.box [.L uf.2.L,.I uf.2.At])]) R Jl R (aH (aH bn)) (MH Sz) (mC b mN) (cn R cz) R d) (aF (jZ (f:=aq.lv) (ys:=[uf.1]) gu Bl dJ R R R aq.ok ⟨R,Ht (nw (f:=aq.lv) gu Bl dJ R R (bM R) R S5 (aF (dD cZ c8 fC R R ⟨R,mS R R R (fun _ b _ d=>cG R R R c8 fC b R R d) (m0 ((Wk.trans (aS [(8,.ptr 108 0),(9,.ptr 109 0)] [(7,.box [.L uf.2.L,.I uf.2.At]),(108,.box eh),(109,.box [.I p1,.I p2,.str t2,.arr 129 Bp.length,.arr 146 cR.length]),(129,.arr 86 6 (Bp.map aq.lv)),(146,.arr 3 1 (cR.map LV.I))]) (Wk.trans (aS [(8,.ptr 108 0),(9,.ptr 109 0)] [(7,.box [.L uf.2.L,.I uf.2.At]),(108,.box eh),(109,.box [.I p1,.I p2,.str t2,.arr 129 Bp.length,.arr 146 cR.length]),(129,.arr 86 6 (Bp.map aq.lv)),(146,.arr 3 1 (cR.map LV.I))]) (Wk.trans (Wk.trans (Wk.fY (f:=aq.lv) 129 86 6 Bp 109 R R R (b6 R (b6 R (b6 R (kb (b6 R ka))))) R R (bM R)) (aS [(8,.ptr 108 0),(9,.ptr 109 0)] [(7,.box [.L uf.2.L,.I uf.2.At]),(108,.box eh),(109,.box [.I p1,.I p2,.str t2,.ak 6 (Bp.map aq.lv),.arr 146 cR.length]),(146,.arr 3 1 (cR.map LV.I))])) (Wk.trans (aS [(8,.ptr 108 0),(9,.ptr 109 0)] [(7,.box [.L uf.2.L,.I uf.2.At]),(108,.box eh),(109,.box [.I p1,.I p2,.str t2,.ak 6 (Bp.map aq.lv),.arr 146 cR.length]),(146,.arr 3 1 (cR.map LV.I))]) (Wk.trans (Wk.trans (Wk.fY (f:=LV.I) 146 3 1 cR 109 R R R (b6 R (b6 R (b6 R (b6 R (kb ka))))) R R (bM R)) (aS [(8,.ptr 108 0),(9,.ptr 109 0)] [(7,.box [.L uf.2.L,.I uf.2.At]),(108,.box eh),(109,.box [.I p1,.I p2,.str t2,.ak 6 (Bp.map aq.lv),.L cR])])) (Wk.trans (Wk.bg 109 [.I p1,.I p2,.str t2,.ak 6 (Bp.map aq.lv),.L cR] R R R (bM R)) (Wk.eq R R R R)))))))))⟩)))⟩))))⟩)) (aY (au (LH.aj [(8,.ag [.I p1,.I p2,.str t2,.ak 6 (Bp.map aq.lv),.L cR])] [(7,.box [.L uf.2.L,.I uf.2.At])] R (sN (bd R bT dO bN R R (s_ (cG R R R bT bN R R R (s0 ((Wk.trans (aS [(8,.ptr 108 0)] [(7,.box [.L uf.2.L,.I uf.2.At]),(108,.box [.I p1,.I p2,.str t2,.ak 6 (Bp.map aq.lv),.L cR])]) (Wk.trans (Wk.bg 108 [.I p1,.I p2,.str t2,.ak 6 (Bp.map aq.lv),.L cR] R R R (bM R)) (Wk.eq R R R R))))))))) (LH.ret ?_))))
    obtain rfl:=oI h
    exact aO (aT Tryz.results29) (cT R bT dO bN R R (bS ⟨aN (mC R mN),R,aZ R,Sub.rfl⟩))
   replace h:=aA h Ai
   refine LH.aj [(0,.ptr 7 0),(1,.I p1),(8,.ptr 108 0),(9,.ptr 109 0),(117,.bool (dg.1 == 5))] [(7,.box [.L dg.2.L,.I dg.2.At]),(108,.box eh),(109,.box [.I p1,.I p2,.str t2,.arr 129 l7.length,.arr 146 cR.length]),(129,.arr 86 6 (l7.map aq.lv)),(146,.arr 3 1 (cR.map LV.I))] R (sN (gp R R (b4 R zS))) (LH.cond (t:=(dg.1 == 5)) R (fun Kq=>?_) (fun Kq=>?_))
   ·replace h:=aB h Kq
    obtain ⟨ug,SA,h⟩:=ao h
    obtain ⟨v45,S6,h⟩:=ao h
    refine LH.s9 mixed [] [0,1109,0,0,0,100007,0,2,0,100109] [(8,.ptr 108 0),(9,.ag [.I p1,.I p2,.str t2,.ak 6 (l7.map aq.lv),.L v45])] [(7,.box [.L ug.2.L,.I ug.2.At]),(108,.box eh)] R R (by kernel_rfl) (aF (dD fq eM jq R R ⟨R,mD R R R (fun _ b _ d=>dM R b R R eM mo d) (BX R (fF R (aF (jZ (f:=LV.I) (ys:=[0,p1,(-1),10000,3]) cE qV ba R R R lY ⟨R,mW R R R (fun _ b _ d=>eX (args:=[.ptr 7 0,.L [0,p1,(-1),10000,3]]) (ml:=[(7,.box [.L dg.2.L,.I dg.2.At])]) (de:=[(7,.box [.L ug.2.L,.I ug.2.At])]) R xK R (aH (aH bn)) (En SA) (mC b mN) (cn R cz) R d) (aF (jZ (f:=LV.I) (ys:=[ug.1]) cE qV ba R R R lY ⟨R,Ht (nw (f:=LV.I) cE qV ba R R (bM R) R S6 (aF (dD fq eM jq R R ⟨R,mS R R R (fun _ b _ d=>cG R R R eM jq b R R d) (m0 ((Wk.trans (aS [(8,.ptr 108 0),(9,.ptr 109 0)] [(7,.box [.L ug.2.L,.I ug.2.At]),(108,.box eh),(109,.box [.I p1,.I p2,.str t2,.arr 129 l7.length,.arr 146 v45.length]),(129,.arr 86 6 (l7.map aq.lv)),(146,.arr 3 1 (v45.map LV.I))]) (Wk.trans (aS [(8,.ptr 108 0),(9,.ptr 109 0)] [(7,.box [.L ug.2.L,.I ug.2.At]),(108,.box eh),(109,.box [.I p1,.I p2,.str t2,.arr 129 l7.length,.arr 146 v45.length]),(129,.arr 86 6 (l7.map aq.lv)),(146,.arr 3 1 (v45.map LV.I))]) (Wk.trans (Wk.trans (Wk.fY (f:=aq.lv) 129 86 6 l7 109 R R R (b6 R (b6 R (b6 R (kb (b6 R ka))))) R R (bM R)) (aS [(8,.ptr 108 0),(9,.ptr 109 0)] [(7,.box [.L ug.2.L,.I ug.2.At]),(108,.box eh),(109,.box [.I p1,.I p2,.str t2,.ak 6 (l7.map aq.lv),.arr 146 v45.length]),(146,.arr 3 1 (v45.map LV.I))])) (Wk.trans (aS [(8,.ptr 108 0),(9,.ptr 109 0)] [(7,.box [.L ug.2.L,.I ug.2.At]),(108,.box eh),(109,.box [.I p1,.I p2,.str t2,.ak 6 (l7.map aq.lv),.arr 146 v45.length]),(146,.arr 3 1 (v45.map LV.I))]) (Wk.trans (Wk.trans (Wk.fY (f:=LV.I) 146 3 1 v45 109 R R R (b6 R (b6 R (b6 R (b6 R (kb ka))))) R R (bM R)) (aS [(8,.ptr 108 0),(9,.ptr 109 0)] [(7,.box [.L ug.2.L,.I ug.2.At]),(108,.box eh),(109,.box [.I p1,.I p2,.str t2,.ak 6 (l7.map aq.lv),.L v45])])) (Wk.trans (Wk.bg 109 [.I p1,.I p2,.str t2,.ak 6 (l7.map aq.lv),.L v45] R R R (bM R)) (Wk.eq R R R R)))))))))⟩)))⟩))⟩))))⟩)) (aY (au (LH.aj [(8,.ag [.I p1,.I p2,.str t2,.ak 6 (l7.map aq.lv),.L v45])] [(7,.box [.L ug.2.L,.I ug.2.At])] R (sN (bd R bT dO bN R R (s_ (cG R R R bT bN R R R (s0 ((Wk.trans (aS [(8,.ptr 108 0)] [(7,.box [.L ug.2.L,.I ug.2.At]),(108,.box [.I p1,.I p2,.str t2,.ak 6 (l7.map aq.lv),.L v45])]) (Wk.trans (Wk.bg 108 [.I p1,.I p2,.str t2,.ak 6 (l7.map aq.lv),.L v45] R R R (bM R)) (Wk.eq R R R R))))))))) (LH.ret ?_))))
    obtain rfl:=oI h
    exact aO (aT Tryz.results29) (cT R bT dO bN R R (bS ⟨aN (mC R mN),R,aZ R,Sub.rfl⟩))
   replace h:=aA h Kq
   obtain ⟨TV,NZ,h⟩:=ao h
   obtain ⟨TW,N0,h⟩:=ao h
   obtain ⟨TX,N1,h⟩:=ao h
   obtain ⟨TY,N2,h⟩:=ao h
   obtain ⟨TZ,N3,h⟩:=ao h
   obtain ⟨T0,N4,h⟩:=ao h
   obtain ⟨Bq,S7,h⟩:=ao h
   refine LH.s9 mixed [] [0,1109,0,1109,1129,1129,0,1109,1129,1129,0,1109,1129,1129,0,1109,1129,1129,0,1109,1129,1129,0,1109,1129,1129,0,2,0,100109] [(8,.ptr 108 0),(9,.ag [.I p1,.I p2,.str t2,.ak 6 (Bq.map aq.lv),.L cR])] [(7,.box [.L dg.2.L,.I dg.2.At]),(108,.box eh)] R R (by kernel_rfl) ?_ ?_
   ·exact aF (dD cZ c8 fC R R ⟨R,mD R R R (fun _ b _ d=>dM R b R R c8 iT d) (aF (dD cZ c8 fC R R ⟨R,mD R R R (fun _ b _ d=>dM R b R R c8 iT d) (mD R R R (fun _ b _ d=>gS (f:=aq.lv) gu ek dJ R b R NZ d) (mD R R R (fun _ b _ d=>pK (f:=aq.lv) R b (dB NZ).2 R R ek iU dJ R R d) (aF (dD cZ c8 fC R R ⟨R,mD R R R (fun _ b _ d=>dM R b R R c8 iT d) (mD R R R (fun _ b _ d=>gS (f:=aq.lv) gu ek dJ R b R N0 d) (mD R R R (fun _ b _ d=>pK (f:=aq.lv) R b (dB N0).2 R R ek iU dJ R R d) (aF (dD cZ c8 fC R R ⟨R,mD R R R (fun _ b _ d=>dM R b R R c8 iT d) (mD R R R (fun _ b _ d=>gS (f:=aq.lv) gu ek dJ R b R N1 d) (mD R R R (fun _ b _ d=>pK (f:=aq.lv) R b (dB N1).2 R R ek iU dJ R R d) (aF (dD cZ c8 fC R R ⟨R,mD R R R (fun _ b _ d=>dM R b R R c8 iT d) (mD R R R (fun _ b _ d=>gS (f:=aq.lv) gu ek dJ R b R N2 d) (mD R R R (fun _ b _ d=>pK (f:=aq.lv) R b (dB N2).2 R R ek iU dJ R R d) (aF (dD cZ c8 fC R R ⟨R,mD R R R (fun _ b _ d=>dM R b R R c8 iT d) (mD R R R (fun _ b _ d=>gS (f:=aq.lv) gu ek dJ R b R N3 d) (mD R R R (fun _ b _ d=>pK (f:=aq.lv) R b (dB N3).2 R R ek iU dJ R R d) (aF (dD cZ c8 fC R R ⟨R,mD R R R (fun _ b _ d=>dM R b R R c8 iT d) (mD R R R (fun _ b _ d=>gS (f:=aq.lv) gu ek dJ R b R N4 d) (mD R R R (fun _ b _ d=>pK (f:=aq.lv) R b (dB N4).2 R R ek iU dJ R R d) (aF (jZ (f:=aq.lv) (ys:=[TV,TW,TX,TY,TZ,T0]) gu Bl dJ R R R aq.ok ⟨R,Ht (nw (f:=aq.lv) gu Bl dJ R R (bM R) R S7 (aF (dD cZ c8 fC R R ⟨R,mS R R R (fun _ b _ d=>cG R R R c8 fC b R R d) (m0 ((Wk.trans (aS [(8,.ptr 108 0),(9,.ptr 109 0)] [(7,.box [.L dg.2.L,.I dg.2.At]),(108,.box eh),(109,.box [.I p1,.I p2,.str t2,.arr 129 Bq.length,.arr 146 cR.length]),(129,.arr 86 6 (Bq.map aq.lv)),(146,.arr 3 1 (cR.map LV.I))]) (Wk.trans (aS [(8,.ptr 108 0),(9,.ptr 109 0)] [(7,.box [.L dg.2.L,.I dg.2.At]),(108,.box eh),(109,.box [.I p1,.I p2,.str t2,.arr 129 Bq.length,.arr 146 cR.length]),(129,.arr 86 6 (Bq.map aq.lv)),(146,.arr 3 1 (cR.map LV.I))]) (Wk.trans (Wk.trans (Wk.fY (f:=aq.lv) 129 86 6 Bq 109 R R R (b6 R (b6 R (b6 R (kb (b6 R ka))))) R R (bM R)) (aS [(8,.ptr 108 0),(9,.ptr 109 0)] [(7,.box [.L dg.2.L,.I dg.2.At]),(108,.box eh),(109,.box [.I p1,.I p2,.str t2,.ak 6 (Bq.map aq.lv),.arr 146 cR.length]),(146,.arr 3 1 (cR.map LV.I))])) (Wk.trans (aS [(8,.ptr 108 0),(9,.ptr 109 0)] [(7,.box [.L dg.2.L,.I dg.2.At]),(108,.box eh),(109,.box [.I p1,.I p2,.str t2,.ak 6 (Bq.map aq.lv),.arr 146 cR.length]),(146,.arr 3 1 (cR.map LV.I))]) (Wk.trans (Wk.trans (Wk.fY (f:=LV.I) 146 3 1 cR 109 R R R (b6 R (b6 R (b6 R (b6 R (kb ka))))) R R (bM R)) (aS [(8,.ptr 108 0),(9,.ptr 109 0)] [(7,.box [.L dg.2.L,.I dg.2.At]),(108,.box eh),(109,.box [.I p1,.I p2,.str t2,.ak 6 (Bq.map aq.lv),.L cR])])) (Wk.trans (Wk.bg 109 [.I p1,.I p2,.str t2,.ak 6 (Bq.map aq.lv),.L cR] R R R (bM R)) (Wk.eq R R R R)))))))))⟩)))⟩))))⟩))))⟩))))⟩))))⟩))))⟩))))⟩))⟩)
   refine aY (au (LH.aj [(8,.ag [.I p1,.I p2,.str t2,.ak 6 (Bq.map aq.lv),.L cR])] [(7,.box [.L dg.2.L,.I dg.2.At])] R (sN (bd R bT dO bN R R (s_ (cG R R R bT bN R R R (s0 ((Wk.trans (aS [(8,.ptr 108 0)] [(7,.box [.L dg.2.L,.I dg.2.At]),(108,.box [.I p1,.I p2,.str t2,.ak 6 (Bq.map aq.lv),.L cR])]) (Wk.trans (Wk.bg 108 [.I p1,.I p2,.str t2,.ak 6 (Bq.map aq.lv),.L cR] R R R (bM R)) (Wk.eq R R R R))))))))) (LH.ret ?_)))
   obtain rfl:=oI h
   exact aO (aT Tryz.results29) (cT R bT dO bN R R (bS ⟨aN (mC R mN),R,aZ R,Sub.rfl⟩))
  replace h:=aA h pt
  refine LH.skip (au (LH.wk ((Wk.trans (aS [(8,.ptr 108 0),(9,.ptr 109 0)] [(7,.box [.L pX.2.1,.I pX.2.2]),(108,.box eh),(109,.box [.I p1,.I p2,.str t2,.arr 129 l7.length,.arr 146 cR.length]),(129,.arr 86 6 (l7.map aq.lv)),(146,.arr 3 1 (cR.map LV.I))]) (Wk.trans (aS [(8,.ptr 108 0),(9,.ptr 109 0)] [(7,.box [.L pX.2.1,.I pX.2.2]),(108,.box eh),(109,.box [.I p1,.I p2,.str t2,.arr 129 l7.length,.arr 146 cR.length]),(129,.arr 86 6 (l7.map aq.lv)),(146,.arr 3 1 (cR.map LV.I))]) (Wk.trans (Wk.trans (Wk.fY (f:=aq.lv) 129 86 6 l7 109 R R R (b6 R (b6 R (b6 R (kb (b6 R ka))))) R R (bM R)) (aS [(8,.ptr 108 0),(9,.ptr 109 0)] [(7,.box [.L pX.2.1,.I pX.2.2]),(108,.box eh),(109,.box [.I p1,.I p2,.str t2,.ak 6 (l7.map aq.lv),.arr 146 cR.length]),(146,.arr 3 1 (cR.map LV.I))])) (Wk.trans (aS [(8,.ptr 108 0),(9,.ptr 109 0)] [(7,.box [.L pX.2.1,.I pX.2.2]),(108,.box eh),(109,.box [.I p1,.I p2,.str t2,.ak 6 (l7.map aq.lv),.arr 146 cR.length]),(146,.arr 3 1 (cR.map LV.I))]) (Wk.trans (Wk.trans (Wk.fY (f:=LV.I) 146 3 1 cR 109 R R R (b6 R (b6 R (b6 R (b6 R (kb ka))))) R R (bM R)) (aS [(8,.ptr 108 0),(9,.ptr 109 0)] [(7,.box [.L pX.2.1,.I pX.2.2]),(108,.box eh),(109,.box [.I p1,.I p2,.str t2,.ak 6 (l7.map aq.lv),.L cR])])) (Wk.trans (Wk.bg 109 [.I p1,.I p2,.str t2,.ak 6 (l7.map aq.lv),.L cR] R R R (bM R)) (aS [(8,.ptr 108 0),(9,.ag [.I p1,.I p2,.str t2,.ak 6 (l7.map aq.lv),.L cR])] [(7,.box [.L pX.2.1,.I pX.2.2]),(108,.box eh)])))))))) (LH.aj [(8,.ag [.I p1,.I p2,.str t2,.ak 6 (l7.map aq.lv),.L cR])] [(7,.box [.L pX.2.1,.I pX.2.2])] R (sN (bd R bT dO bN R R (s_ (cG R R R bT bN R R R (s0 ((Wk.trans (aS [(8,.ptr 108 0)] [(7,.box [.L pX.2.1,.I pX.2.2]),(108,.box [.I p1,.I p2,.str t2,.ak 6 (l7.map aq.lv),.L cR])]) (Wk.trans (Wk.bg 108 [.I p1,.I p2,.str t2,.ak 6 (l7.map aq.lv),.L cR] R R R (bM R)) (Wk.eq R R R R))))))))) (LH.ret ?_))))
  obtain rfl:=oI h
  exact aO (aT Tryz.results29) (cT R bT dO bN R R (bS ⟨aN (mC R mN),R,aZ R,Sub.rfl⟩))
theorem Rt {p0:aP} {p1:Int} {r:aL × aP} (h:Cr p0 p1=some r):aM Tryz.prog 31 [.ptr 7 0,.I p1] (Mem.of [(7,.box [.L p0.L,.I p0.At])]) (.agg [.I r.1.Time,.I r.1.Source,.I r.1.Seq]) (Mem.of [(7,.box [.L r.2.L,.I r.2.At])]):=by
  unfold Cr at h
  refine br Tryz.func31 R (nT Tryz.ntmps31 R) (LH.wk (aS [(0,.ptr 7 0),(1,.I p1)] [(7,.box [.L p0.L,.I p0.At])]) (LH.aj [(0,.ptr 7 0),(1,.I p1),(4,.ptr 104 0)] [(7,.box [.L p0.L,.I p0.At]),(104,.box [.I 0,.I 0,.I 0])] R (sN (iE (id:=104) R uF R R zS)) ?_))
  obtain ⟨r1,ee,h⟩:=ao h
  obtain ⟨r2,fD,h⟩:=ao h
  obtain ⟨r3,nW,h⟩:=ao h
  refine LH.aj [(0,.ptr 7 0),(1,.I p1),(4,.ptr 104 0),(5,.ptr 105 0)] [(7,.box [.L r3.2.L,.I r3.2.At]),(104,.box [.I 0,.I 0,.I 0]),(105,.box [.I r1.1,.I r2.1,.I r3.1])] R (hZ R (sN (eX (args:=[.ptr 7 0,.I 0,.I 24]) (ml:=[(7,.box [.L p0.L,.I p0.At])]) (de:=[(7,.box [.L r1.2.L,.I r1.2.At])]) R nK R (aH (aH (aH bn))) (nF ee) (mC R mN) (cn R cz) R (hZ R (sN (eX (args:=[.ptr 7 0,.I 0,.I 3]) (ml:=[(7,.box [.L r1.2.L,.I r1.2.At])]) (de:=[(7,.box [.L r2.2.L,.I r2.2.At])]) R nK R (aH (aH (aH bn))) (nF fD) (mC R mN) (cn R cz) R (hZ R (sN (eX (args:=[.ptr 7 0,.I 0,.I 9]) (ml:=[(7,.box [.L r2.2.L,.I r2.2.At])]) (de:=[(7,.box [.L r3.2.L,.I r3.2.At])]) R nK R (aH (aH (aH bn))) (nF nW) (mC R mN) (cn R cz) R (sN (fU (vs:=[(0,.I r1.1),(1,.I r2.1),(2,.I r3.1)]) G8 uF R (lf fa ba aD R R R (lf eu ba aD R R R (lf dI ba aD R R R fT))) (sN (iE (id:=105) R uF R R (s_ (cG R R R cg b7 R R R zS))))))))))))))) (LH.seq ?_)
  obtain ⟨w7,hv,h⟩:=ao h
  refine LH.aj [(0,.ptr 7 0),(4,.ptr 104 0),(5,.ptr 105 0),(19,.bool w7.1)] [(7,.box [.L w7.2.1,.I w7.2.2]),(104,.box [.I 0,.I 0,.I 0]),(105,.box [.I r1.1,.I r2.1,.I r3.1])] R ?_ ?_
  ·refine bj R (sN (iP R R (bD R ?_)))
   by_cases dt:(decide (p1 > 0))=true
   ·replace hv:=aB hv dt
    refine sT R (cB dt) (oM (v:=(.ptr _ _)) R (sT R (cB dt) (oM (v:=(.int _ _)) R ?_)))
    obtain ⟨r9,AA,hv⟩:=ao hv
    refine sT R (cB dt) (eX (args:=[.ptr 7 0,.I p1]) (ml:=[(7,.box [.L r3.2.L,.I r3.2.At])]) (de:=[(7,.box [.L r9.2.L,.I r9.2.At])]) R s7 R (aH (aH bn)) (zO AA) (mC R mN) (cn R cz) R (sN (aX (cB dt) (v:=(.bool _)) R ?_)))
    obtain rfl:=oI hv
    exact zS
   ·replace dt:=bF dt
    replace hv:=aA hv dt
    refine sF R R dt (sF R R dt (sF R R dt (sN (aQ (cB dt) (v:=(.bool _)) R ?_))))
    obtain rfl:=oI hv
    exact zS
  clear hv
  refine LH.cond (t:=w7.1) R (fun hY=>?_) (fun hY=>?_)
  ·replace h:=aB h hY
   obtain ⟨cM,lH,h⟩:=ao h
   refine LH.aj [(0,.ptr 7 0),(4,.ptr 104 0),(5,.ptr 105 0),(21,.I cM.1)] [(7,.box [.L cM.2.L,.I cM.2.At]),(104,.box [.I 0,.I 0,.I 0]),(105,.box [.I r1.1,.I r2.1,.I r3.1])] R (hZ R (sN (eX (args:=[.ptr 7 0,.I 3]) (ml:=[(7,.box [.L w7.2.1,.I w7.2.2])]) (de:=[(7,.box [.L cM.2.L,.I cM.2.At])]) R gG R (aH (aH bn)) (kN lH) (mC R mN) (cn R cz) R zS))) (LH.block (LH.aj [(0,.ptr 7 0),(4,.ptr 104 0),(5,.ptr 105 0),(21,.I cM.1),(25,.bool (cM.1 == 0))] [(7,.box [.L cM.2.L,.I cM.2.At]),(104,.box [.I 0,.I 0,.I 0]),(105,.box [.I r1.1,.I r2.1,.I r3.1])] R (sN (gp R R (b4 R zS))) (LH.cond (t:=(cM.1 == 0)) R (fun gP=>?_) (fun gP=>?_))))
   ·replace h:=aB h gP
    obtain ⟨pN,Fg,h⟩:=ao h
    refine LH.aU [(4,.ptr 104 0),(5,.ag [.I pN.1,.I r2.1,.I r3.1])] [(7,.box [.L pN.2.L,.I pN.2.At]),(104,.box [.I 0,.I 0,.I 0])] R (hZ R (sN (eX (args:=[.ptr 7 0]) (ml:=[(7,.box [.L cM.2.L,.I cM.2.At])]) (de:=[(7,.box [.L pN.2.L,.I pN.2.At])]) R uX R (aH bn) (Cs Fg) (mC R mN) (cn R cz) R (sN (dD fa aD ba R R (s_ (cG R R R aD ba R R R (s0 ((Wk.trans (aS [(4,.ptr 104 0),(5,.ptr 105 0)] [(7,.box [.L pN.2.L,.I pN.2.At]),(104,.box [.I 0,.I 0,.I 0]),(105,.box [.I pN.1,.I r2.1,.I r3.1])]) (Wk.trans (Wk.bg 105 [.I pN.1,.I r2.1,.I r3.1] R R R (bM R)) (Wk.eq R R R R)))))))))))) (aY (au (LH.aj [(4,.ag [.I pN.1,.I r2.1,.I r3.1])] [(7,.box [.L pN.2.L,.I pN.2.At])] R (sN (bd R cg gj b7 R R (s_ (cG R R R cg b7 R R R (s0 ((Wk.trans (aS [(4,.ptr 104 0)] [(7,.box [.L pN.2.L,.I pN.2.At]),(104,.box [.I pN.1,.I r2.1,.I r3.1])]) (Wk.trans (Wk.bg 104 [.I pN.1,.I r2.1,.I r3.1] R R R (bM R)) (Wk.eq R R R R))))))))) (LH.ret ?_))))
    obtain rfl:=oI h
    exact aO (aT Tryz.results31) (cT R cg gj b7 R R (bS ⟨aN (mC R mN),R,aZ R,Sub.rfl⟩))
   replace h:=aA h gP
   refine LH.aj [(0,.ptr 7 0),(4,.ptr 104 0),(5,.ptr 105 0),(30,.bool (cM.1 == 1))] [(7,.box [.L cM.2.L,.I cM.2.At]),(104,.box [.I 0,.I 0,.I 0]),(105,.box [.I r1.1,.I r2.1,.I r3.1])] R (sN (gp R R (b4 R zS))) (LH.cond (t:=(cM.1 == 1)) R (fun sJ=>?_) (fun sJ=>?_))
   ·replace h:=aB h sJ
    obtain ⟨gq,vY,h⟩:=ao h
    refine LH.aU [(4,.ptr 104 0),(5,.ag [.I r1.1,.I gq.1,.I r3.1])] [(7,.box [.L gq.2.L,.I gq.2.At]),(104,.box [.I 0,.I 0,.I 0])] R (hZ R (sN (eX (args:=[.ptr 7 0]) (ml:=[(7,.box [.L cM.2.L,.I cM.2.At])]) (de:=[(7,.box [.L gq.2.L,.I gq.2.At])]) R uX R (aH bn) (Cs vY) (mC R mN) (cn R cz) R (sN (dD eu aD ba R R (s_ (cG R R R aD ba R R R (s0 ((Wk.trans (aS [(4,.ptr 104 0),(5,.ptr 105 0)] [(7,.box [.L gq.2.L,.I gq.2.At]),(104,.box [.I 0,.I 0,.I 0]),(105,.box [.I r1.1,.I gq.1,.I r3.1])]) (Wk.trans (Wk.bg 105 [.I r1.1,.I gq.1,.I r3.1] R R R (bM R)) (Wk.eq R R R R)))))))))))) (aY (au (LH.aj [(4,.ag [.I r1.1,.I gq.1,.I r3.1])] [(7,.box [.L gq.2.L,.I gq.2.At])] R (sN (bd R cg gj b7 R R (s_ (cG R R R cg b7 R R R (s0 ((Wk.trans (aS [(4,.ptr 104 0)] [(7,.box [.L gq.2.L,.I gq.2.At]),(104,.box [.I r1.1,.I gq.1,.I r3.1])]) (Wk.trans (Wk.bg 104 [.I r1.1,.I gq.1,.I r3.1] R R R (bM R)) (Wk.eq R R R R))))))))) (LH.ret ?_))))
    obtain rfl:=oI h
    exact aO (aT Tryz.results31) (cT R cg gj b7 R R (bS ⟨aN (mC R mN),R,aZ R,Sub.rfl⟩))
   replace h:=aA h sJ
   obtain ⟨jT,Fh,h⟩:=ao h
   refine LH.aU [(4,.ptr 104 0),(5,.ag [.I r1.1,.I r2.1,.I jT.1])] [(7,.box [.L jT.2.L,.I jT.2.At]),(104,.box [.I 0,.I 0,.I 0])] R (hZ R (sN (eX (args:=[.ptr 7 0]) (ml:=[(7,.box [.L cM.2.L,.I cM.2.At])]) (de:=[(7,.box [.L jT.2.L,.I jT.2.At])]) R uX R (aH bn) (Cs Fh) (mC R mN) (cn R cz) R (sN (dD dI aD ba R R (s_ (cG R R R aD ba R R R (s0 ((Wk.trans (aS [(4,.ptr 104 0),(5,.ptr 105 0)] [(7,.box [.L jT.2.L,.I jT.2.At]),(104,.box [.I 0,.I 0,.I 0]),(105,.box [.I r1.1,.I r2.1,.I jT.1])]) (Wk.trans (Wk.bg 105 [.I r1.1,.I r2.1,.I jT.1] R R R (bM R)) (Wk.eq R R R R)))))))))))) (aY (au (LH.aj [(4,.ag [.I r1.1,.I r2.1,.I jT.1])] [(7,.box [.L jT.2.L,.I jT.2.At])] R (sN (bd R cg gj b7 R R (s_ (cG R R R cg b7 R R R (s0 ((Wk.trans (aS [(4,.ptr 104 0)] [(7,.box [.L jT.2.L,.I jT.2.At]),(104,.box [.I r1.1,.I r2.1,.I jT.1])]) (Wk.trans (Wk.bg 104 [.I r1.1,.I r2.1,.I jT.1] R R R (bM R)) (Wk.eq R R R R))))))))) (LH.ret ?_))))
   obtain rfl:=oI h
   exact aO (aT Tryz.results31) (cT R cg gj b7 R R (bS ⟨aN (mC R mN),R,aZ R,Sub.rfl⟩))
  replace h:=aA h hY
  refine LH.skip (au (LH.wk ((Wk.trans (aS [(4,.ptr 104 0),(5,.ptr 105 0)] [(7,.box [.L w7.2.1,.I w7.2.2]),(104,.box [.I 0,.I 0,.I 0]),(105,.box [.I r1.1,.I r2.1,.I r3.1])]) (Wk.trans (Wk.bg 105 [.I r1.1,.I r2.1,.I r3.1] R R R (bM R)) (aS [(4,.ptr 104 0),(5,.ag [.I r1.1,.I r2.1,.I r3.1])] [(7,.box [.L w7.2.1,.I w7.2.2]),(104,.box [.I 0,.I 0,.I 0])])))) (LH.aj [(4,.ag [.I r1.1,.I r2.1,.I r3.1])] [(7,.box [.L w7.2.1,.I w7.2.2])] R (sN (bd R cg gj b7 R R (s_ (cG R R R cg b7 R R R (s0 ((Wk.trans (aS [(4,.ptr 104 0)] [(7,.box [.L w7.2.1,.I w7.2.2]),(104,.box [.I r1.1,.I r2.1,.I r3.1])]) (Wk.trans (Wk.bg 104 [.I r1.1,.I r2.1,.I r3.1] R R R (bM R)) (Wk.eq R R R R))))))))) (LH.ret ?_))))
  obtain rfl:=oI h
  exact aO (aT Tryz.results31) (cT R cg gj b7 R R (bS ⟨aN (mC R mN),R,aZ R,Sub.rfl⟩))
set_option maxHeartbeats 4000000 in
theorem Ro {F:Nat} {p0:aP} {p1:Int} {p2:Int} {r:List ax × aP} (h:Mj F p0 p1 p2=some r):aM Tryz.prog 8 [.ptr 7 0,.I p1,.I p2] (Mem.of [(7,.box [.L p0.L,.I p0.At])]) (.ak 12 (r.1.map ax.lv)) (Mem.of [(7,.box [.L r.2.L,.I r.2.At])]):=by
  unfold Mj at h
  refine br Tryz.func8 R (nT Tryz.ntmps8 R) (LH.wk (aS [(0,.ptr 7 0),(1,.I p1),(2,.I p2)] [(7,.box [.L p0.L,.I p0.At])]) (LH.aj [(0,.ptr 7 0),(1,.I p1),(2,.I p2)] [(7,.box [.L p0.L,.I p0.At])] R (kX R zS) (LH.aj [(0,.ptr 7 0),(1,.I p1),(2,.I p2),(7,.nil)] [(7,.box [.L p0.L,.I p0.At])] R (kX R zS) ?_)))
  obtain ⟨v1,kr,h⟩:=ao h
  refine LH.aj [(0,.ptr 7 0),(1,.I p1),(2,.I p2),(7,.nil),(8,.arr 112 v1.length)] [(7,.box [.L p0.L,.I p0.At]),(112,.arr 3 1 (v1.map LV.I))] R (sN (Rc (f:=LV.I) (z:=0) (id:=112) R cE TQ qV ba R R R kr R (nM R zS))) (LH.seq ?_)
  obtain ⟨r2,fD,h⟩:=ao h
  refine LH.aj [(0,.ptr 7 0),(2,.I p2),(7,.nil),(8,.arr 112 v1.length),(9,.I r2.1)] [(7,.box [.L r2.2.L,.I r2.2.At]),(112,.arr 3 1 (v1.map LV.I))] R (hZ R (bj R (sN (eX (args:=[.ptr 7 0,.I 0,.I p1]) (ml:=[(7,.box [.L p0.L,.I p0.At])]) (de:=[(7,.box [.L r2.2.L,.I r2.2.At])]) R nK R (aH (aH (aH bn))) (nF fD) (mC R mN) (cn R cz) R (bo R zS))))) (LH.block (LH.wk ((Wk.trans (aS [(0,.ptr 7 0),(2,.I p2),(7,.nil),(8,.arr 112 v1.length),(9,.I r2.1)] [(7,.box [.L r2.2.L,.I r2.2.At]),(112,.arr 3 1 (v1.map LV.I))]) (Wk.trans (aS [(0,.ptr 7 0),(2,.I p2),(7,.nil),(8,.arr 112 v1.length),(9,.I r2.1)] [(7,.box [.L r2.2.L,.I r2.2.At]),(112,.arr 3 1 (v1.map LV.I))]) (Wk.trans (Wk.tt (fy:=[(0,.ptr 7 0),(2,.I p2),(7,.arr 221 (List.length ([]:List ax))),(8,.arr 112 v1.length),(9,.I r2.1)]) 221 63 12 R R (wK (wK (wO (wK (wK wN)))))) (aS [(0,.ptr 7 0),(2,.I p2),(7,.arr 221 (List.length ([]:List ax))),(8,.arr 112 v1.length),(9,.I r2.1)] [(7,.box [.L r2.2.L,.I r2.2.At]),(112,.arr 3 1 (v1.map LV.I)),(221,.arr 63 12 (List.map ax.lv ([]:List ax)))]))))) (LH.loop (fun n e m=>∃ (n3:Int) (l4:List Int) (n5:Int) (l6:List Int) (l7:List ax),Eh F p2 n n3 l4 n5 l6 l7=some r∧e=Env.of [(0,.ptr 7 0),(2,.I p2),(7,.arr 221 l7.length),(8,.arr 112 l6.length),(9,.I n3)]∧m=Mem.of [(7,.box [.L l4,.I n5]),(112,.arr 3 1 (l6.map LV.I)),(221,.arr 63 12 (l7.map ax.lv))]) F ⟨r2.1,r2.2.L,r2.2.At,v1,([]:List ax),h,R,R⟩ ?_)))
  clear h
  rintro n e m ⟨n3,l4,n5,l6,l7,h,rfl,rfl⟩
  rcases n with _ | n
  · cases (show Option.none=some _ from h)
  obtain ⟨aJ,a7⟩:∃ f,f=Eh F p2 n:=⟨_,rfl⟩
  replace h:Ei F p2 aJ n3 l4 n5 l6 l7=some r:=a7 ▸ h
  unfold Ei at h
  refine LH.seq (LH.aj [(0,.ptr 7 0),(2,.I p2),(7,.arr 221 l7.length),(8,.arr 112 l6.length),(9,.I n3),(17,.bool (decide (n3 > 0)))] [(7,.box [.L l4,.I n5]),(112,.arr 3 1 (l6.map LV.I)),(221,.arr 63 12 (l7.map ax.lv))] R (bj R (sN (iP R R zS))) (LH.cond (t:=(decide (n3 > 0))) R (fun kS=>?_) (fun kS=>?_)))
  ·replace h:=aB h kS
   refine LH.skip (au (LH.wk (aS [(0,.ptr 7 0),(2,.I p2),(7,.arr 221 l7.length),(8,.arr 112 l6.length),(9,.I n3)] [(7,.box [.L l4,.I n5]),(112,.arr 3 1 (l6.map LV.I)),(221,.arr 63 12 (l7.map ax.lv))]) (LH.seq (LH.block ?_))))
   obtain ⟨r9,AA,h⟩:=ao h
   refine LH.aj [(0,.ptr 7 0),(2,.I p2),(7,.arr 221 l7.length),(8,.arr 112 l6.length),(9,.I n3),(10,.I r9.1)] [(7,.box [.L r9.2.L,.I r9.2.At]),(112,.arr 3 1 (l6.map LV.I)),(221,.arr 63 12 (l7.map ax.lv))] R (hZ R (sN (eX (args:=[.ptr 7 0,.I 5]) (ml:=[(7,.box [.L l4,.I n5])]) (de:=[(7,.box [.L r9.2.L,.I r9.2.At])]) R gG R (aH (aH bn)) (kN AA) (mC R mN) (cn R cz) R (bo R zS)))) ?_
   obtain ⟨dy,qb,h⟩:=ao h
   obtain ⟨cM,lH,h⟩:=ao h
   obtain ⟨dz,Ff,h⟩:=ao h
   obtain ⟨fe,nI,h⟩:=ao h
   obtain ⟨fg,vX,h⟩:=ao h
   refine LH.di mixed [] [0,1221,0,100007,0,0,100007,0,1221,0,0,0,100007,0,0,0,1112,1112,4,0,0,100007,0,2,100111] [(0,.ptr 7 0),(2,.I p2),(7,.arr 221 l7.length),(8,.arr 112 l6.length),(9,.I n3),(10,.I r9.1),(11,.ptr 111 0)] [(7,.box [.L fg.2.L,.I fg.2.At]),(111,.box [.I (i64 ((l7.length:Int)+dy.1)),.I cM.1,.I (l7.length:Int),.I dz.1,.I 0,.I 0,.str (ByteArray.mk #[]),.nil,.nil,.I r9.1,.I (max 1 fe),.I fg.1]),(112,.arr 3 1 (l6.map LV.I)),(221,.arr 63 12 (l7.map ax.lv))] R R (by kernel_rfl) ?_ ?_
   ·exact Pk R (mD R R R (fun _ b _ d=>FW (f:=ax.lv) gA R b d) (BX R (mW R R R (fun _ b _ d=>eX (args:=[.ptr 7 0,.I 2]) (ml:=[(7,.box [.L r9.2.L,.I r9.2.At])]) (de:=[(7,.box [.L dy.2.L,.I dy.2.At])]) R gG R (aH (aH bn)) (kN qb) (mC b mN) (cn R cz) R d) (aF (cD R R ⟨R,BX R (mW R R R (fun _ b _ d=>eX (args:=[.ptr 7 0,.I 2]) (ml:=[(7,.box [.L dy.2.L,.I dy.2.At])]) (de:=[(7,.box [.L cM.2.L,.I cM.2.At])]) R gG R (aH (aH bn)) (kN lH) (mC b mN) (cn R cz) R d) (Pk R (mD R R R (fun _ b _ d=>FW (f:=ax.lv) gA R b d) (aF (fU (vs:=[(0,.I (i64 ((l7.length:Int)+dy.1))),(1,.I cM.1),(2,.I (l7.length:Int))]) G8 uF R (lf fa ba aD R R R (lf eu ba aD R R R (lf dI ba aD R R R fT))) ⟨R,BX R (aF (jZ (f:=LV.I) (ys:=[3,4,4,2,5,6]) cE qV ba R R R lY ⟨R,mW R R R (fun _ b _ d=>eX (args:=[.ptr 7 0,.L [3,4,4,2,5,6]]) (ml:=[(7,.box [.L cM.2.L,.I cM.2.At])]) (de:=[(7,.box [.L dz.2.L,.I dz.2.At])]) R xK R (aH (aH bn)) (En Ff) (mC b mN) (cn R cz) R d) (fF R (Pk R (fF R (mD R R R (fun _ b _ d=>gS (f:=LV.I) cE aD ba R b R nI d) (mD R R R (fun _ b _ d=>we (f:=LV.I) R b (dB nI).2 R R R aD bQ d) (mM (fun _=>F2 R R) (aF (fU (vs:=[(0,.I r9.1),(1,.I (max 1 fe))]) uD uE R (lf fJ ba aD R R R (lf dm ba aD R R R fT)) ⟨R,BX R (mW R R R (fun _ b _ d=>eX (args:=[.ptr 7 0,.I 4]) (ml:=[(7,.box [.L dz.2.L,.I dz.2.At])]) (de:=[(7,.box [.L fg.2.L,.I fg.2.At])]) R gG R (aH (aH bn)) (kN vX) (mC b mN) (cn R cz) R d) (aF (fU (vs:=[(0,.agg [.I (i64 ((l7.length:Int)+dy.1)),.I cM.1,.I (l7.length:Int)]),(1,.I dz.1),(3,.agg [.I r9.1,.I (max 1 fe)]),(4,.I fg.1)]) IC zn R (lf dh b7 cg R R R (lf fb ba aD R R R (lf eV gv gH R R R (lf kY ba aD R R R fT)))) ⟨R,Ht (iE (id:=111) R zn R R (mS R R R (fun _ b _ d=>cG R R R fB eA b R R d) zM))⟩)))⟩))))))))⟩))⟩)))))⟩)))))
   refine LH.mid (fun e m=>∃ (LB:List Int) (n16:Int) (n17:Int) (n18:Int) (n19:Int) (t20:ByteArray) (lV:List aq) (lW:List Int) (n23:Int) (n24:Int) (n25:Int) (gQ:List Int),Mk aJ p2 n3 l7 dy cM LB n16 n17 n18 n19 t20 lV lW n23 n24 n25 gQ=some r∧Wk (fun id=>Mem.of [(7,.box [.L p0.L,.I p0.At])] id ≠ .none) e m (Env.of [(0,.ptr 7 0),(2,.I p2),(7,.arr 221 l7.length),(8,.arr 112 gQ.length),(9,.I n3),(11,.ptr 111 0)]) (Mem.of [(7,.box [.L LB,.I n16]),(111,.box [.I (i64 ((l7.length:Int)+dy.1)),.I cM.1,.I (l7.length:Int),.I n17,.I n18,.I n19,.str t20,.ak 6 (lV.map aq.lv),.L lW,.I n23,.I n24,.I n25]),(112,.arr 3 1 (gQ.map LV.I)),(221,.arr 63 12 (l7.map ax.lv))])) ?_ ?_
   ·obtain ⟨Rl,hv,h⟩:=ao h
    refine LH.aj [(0,.ptr 7 0),(2,.I p2),(7,.arr 221 l7.length),(8,.arr 112 l6.length),(9,.I n3),(10,.I r9.1),(11,.ptr 111 0),(54,.bool Rl)] [(7,.box [.L fg.2.L,.I fg.2.At]),(111,.box [.I (i64 ((l7.length:Int)+dy.1)),.I cM.1,.I (l7.length:Int),.I dz.1,.I 0,.I 0,.str (ByteArray.mk #[]),.nil,.nil,.I r9.1,.I (max 1 fe),.I fg.1]),(112,.arr 3 1 (l6.map LV.I)),(221,.arr 63 12 (l7.map ax.lv))] R ?_ ?_
    ·refine j0 R (bj R ?_)
     obtain ⟨QG,N5,hv⟩:=ao hv
     refine sN (gS (f:=LV.I) cE aD ba R R R N5 (sN (we (f:=LV.I) R R (dB N5).2 R R R aD bQ (sN (gp R R (bD R ?_))))))
     by_cases rl:(QG == 0)=true
     ·replace hv:=aB hv rl
      refine sF R R rl (sF R R rl (sF R R rl (sN (aX (cB rl) (v:=(.bool _)) R ?_))))
      obtain rfl:=oI hv
      exact zS
     ·replace rl:=bF rl
      replace hv:=aA hv rl
      refine sT R (cB rl) (dD fb aD ba R R (sT R (cB rl) (dM R R R R aD bQ (sT R (cB rl) (gp R R (sN (aQ (cB rl) (v:=(.bool _)) R ?_)))))))
      obtain rfl:=oI hv
      exact zS
    clear hv
    refine LH.cond (t:=Rl) R (fun HP=>?_) (fun HP=>?_)
    ·replace h:=aB h HP
     refine LH.aj [(0,.ptr 7 0),(2,.I p2),(7,.arr 221 l7.length),(8,.arr 112 l6.length),(9,.I n3),(10,.I r9.1),(11,.ptr 111 0)] [(7,.box [.L fg.2.L,.I fg.2.At]),(111,.box [.I (i64 ((l7.length:Int)+dy.1)),.I cM.1,.I (l7.length:Int),.I 2,.I 0,.I 0,.str (ByteArray.mk #[]),.nil,.nil,.I r9.1,.I (max 1 fe),.I fg.1]),(112,.arr 3 1 (l6.map LV.I)),(221,.arr 63 12 (l7.map ax.lv))] R (sN (dD fb aD ba R R (s_ (cG R R R aD ba R R R zS)))) (LH.mid (fun e m=>∃ (Jv:Int),Ml aJ F p2 n3 l6 l7 r9 dy cM fg Jv=some r∧Wk (fun id=>Mem.of [(7,.box [.L p0.L,.I p0.At])] id ≠ .none) e m (Env.of [(0,.ptr 7 0),(2,.I p2),(7,.arr 221 l7.length),(8,.arr 112 l6.length),(9,.I n3),(10,.I r9.1),(11,.ptr 111 0)]) (Mem.of [(7,.box [.L fg.2.L,.I fg.2.At]),(111,.box [.I (i64 ((l7.length:Int)+dy.1)),.I cM.1,.I (l7.length:Int),.I Jv,.I 0,.I 0,.str (ByteArray.mk #[]),.nil,.nil,.I r9.1,.I (max 1 fe),.I fg.1]),(112,.arr 3 1 (l6.map LV.I)),(221,.arr 63 12 (l7.map ax.lv))])) ?_ ?_)
     ·obtain ⟨QI,N9,h⟩:=ao h
      refine LH.aj [(0,.ptr 7 0),(2,.I p2),(7,.arr 221 l7.length),(8,.arr 112 l6.length),(9,.I n3),(10,.I r9.1),(11,.ptr 111 0),(60,.bool (QI == 0))] [(7,.box [.L fg.2.L,.I fg.2.At]),(111,.box [.I (i64 ((l7.length:Int)+dy.1)),.I cM.1,.I (l7.length:Int),.I 2,.I 0,.I 0,.str (ByteArray.mk #[]),.nil,.nil,.I r9.1,.I (max 1 fe),.I fg.1]),(112,.arr 3 1 (l6.map LV.I)),(221,.arr 63 12 (l7.map ax.lv))] R (j0 R (bj R (sN (gS (f:=LV.I) cE aD ba R R R N9 (sN (we (f:=LV.I) R R (dB N9).2 R R R aD bQ (sN (gp R R zS)))))))) (LH.cond (t:=(QI == 0)) R (fun Kw=>?_) (fun Kw=>?_))
      ·replace h:=aB h Kw
       exact LH.aU [(0,.ptr 7 0),(2,.I p2),(7,.arr 221 l7.length),(8,.arr 112 l6.length),(9,.I n3),(10,.I r9.1),(11,.ptr 111 0)] [(7,.box [.L fg.2.L,.I fg.2.At]),(111,.box [.I (i64 ((l7.length:Int)+dy.1)),.I cM.1,.I (l7.length:Int),.I 1,.I 0,.I 0,.str (ByteArray.mk #[]),.nil,.nil,.I r9.1,.I (max 1 fe),.I fg.1]),(112,.arr 3 1 (l6.map LV.I)),(221,.arr 63 12 (l7.map ax.lv))] R (sN (dD fb aD ba R R (s_ (cG R R R aD ba R R R zS)))) (au ⟨1,h,Wk.eq R R R R⟩)
      replace h:=aA h Kw
      exact LH.skip (au ⟨2,h,Wk.eq R R R R⟩)
     clear h
     rintro e m ⟨Jv,h,hw⟩
     refine LH.wk hw ?_
     clear hw
     unfold Ml at h
     obtain ⟨Hy,N6,h⟩:=ao h
     obtain ⟨U1,N7,h⟩:=ao h
     refine LH.aj [(0,.ptr 7 0),(2,.I p2),(7,.arr 221 l7.length),(8,.arr 112 (List.length (l6.set r9.1.toNat (min (i64 (Hy+1)) 9)))),(9,.I n3),(10,.I r9.1),(11,.ptr 111 0)] [(7,.box [.L fg.2.L,.I fg.2.At]),(111,.box [.I (i64 ((l7.length:Int)+dy.1)),.I cM.1,.I (l7.length:Int),.I Jv,.I 0,.I 0,.str (ByteArray.mk #[]),.nil,.nil,.I r9.1,.I (max 1 fe),.I fg.1]),(112,.arr 3 1 (List.map LV.I (l6.set r9.1.toNat (min (i64 (Hy+1)) 9)))),(221,.arr 63 12 (l7.map ax.lv))] R (j0 R (bj R (j0 R (bj R (sN (gS (f:=LV.I) cE aD ba R R R N6 (sN (we (f:=LV.I) R R (dB N6).2 R R R aD bQ (sN (cD R R (sX ((LP R R).ok) (sN (gS (f:=LV.I) cE aD ba R R R N7 (s_ (qd (f:=LV.I) (z':=(min (i64 (Hy+1)) 9)) R R R R aD ba R (dB N7).2 R (s0 (Wk.to (eC R (eC R (eC R (eC (congrArg (LV.arr 112) (by simp)) (eC R (eC R (eC R eN))))))) ⟨R,R,R,R,trivial⟩ R (aZ R)))))))))))))))))) ?_
     obtain ⟨QH,N8,h⟩:=ao h
     obtain ⟨rB,SI,h⟩:=ao h
     refine LH.aU [(0,.ptr 7 0),(2,.I p2),(7,.arr 221 l7.length),(8,.arr 112 (List.length (l6.set r9.1.toNat (min (i64 (Hy+1)) 9)))),(9,.I n3),(11,.ptr 111 0)] [(7,.box [.L rB.2.L,.I rB.2.At]),(111,.box [.I (i64 ((l7.length:Int)+dy.1)),.I cM.1,.I (l7.length:Int),.I Jv,.I rB.1.ID,.I rB.1.Version,.str rB.1.bI,.ak 6 (rB.1.aG.map aq.lv),.L rB.1.aE,.I 0,.I 0,.I 0]),(112,.arr 3 1 (List.map LV.I (l6.set r9.1.toNat (min (i64 (Hy+1)) 9)))),(221,.arr 63 12 (l7.map ax.lv))] R ?_ ?_
     ·exact hZ R (bj R (j0 R (bj R (sN (gS (f:=LV.I) cE aD ba R R R N8 (sN (we (f:=LV.I) R R (dB N8).2 R R R aD bQ (bj R (sN (eX (args:=[.ptr 7 0,.I r9.1,.I QH,.I p2]) (ml:=[(7,.box [.L fg.2.L,.I fg.2.At])]) (de:=[(7,.box [.L rB.2.L,.I rB.2.At])]) R Om R (aH (aH (aH (aH bn)))) (Rr SI) (mC R mN) (cn R cz) R (sN (fU (vs:=[]) uD uE R fT (sN (dD fc bT bN R R (s_ (cG R R R bT bN R R R (sN (dD eV gH gv R R (s_ (cG R R R gH gv R R R (sN (dD kY aD ba R R (s_ (cG R R R aD ba R R R zS))))))))))))))))))))))))
     exact au ⟨rB.2.L,rB.2.At,Jv,rB.1.ID,rB.1.Version,rB.1.bI,rB.1.aG,rB.1.aE,0,0,0,(l6.set r9.1.toNat (min (i64 (Hy+1)) 9)),h,Wk.eq R R R R⟩
    replace h:=aA h HP
    exact LH.skip (au ⟨fg.2.L,fg.2.At,dz.1,0,0,(ByteArray.mk #[]),([]:List aq),([]:List Int),r9.1,(max 1 fe),fg.1,l6,h,(Wk.trans (aS [(0,.ptr 7 0),(2,.I p2),(7,.arr 221 l7.length),(8,.arr 112 l6.length),(9,.I n3),(11,.ptr 111 0)] [(7,.box [.L fg.2.L,.I fg.2.At]),(111,.box [.I (i64 ((l7.length:Int)+dy.1)),.I cM.1,.I (l7.length:Int),.I dz.1,.I 0,.I 0,.str (ByteArray.mk #[]),.nil,.nil,.I r9.1,.I (max 1 fe),.I fg.1]),(112,.arr 3 1 (l6.map LV.I)),(221,.arr 63 12 (l7.map ax.lv))]) (Wk.trans (aS [(0,.ptr 7 0),(2,.I p2),(7,.arr 221 l7.length),(8,.arr 112 l6.length),(9,.I n3),(11,.ptr 111 0)] [(7,.box [.L fg.2.L,.I fg.2.At]),(111,.box [.I (i64 ((l7.length:Int)+dy.1)),.I cM.1,.I (l7.length:Int),.I dz.1,.I 0,.I 0,.str (ByteArray.mk #[]),.nil,.nil,.I r9.1,.I (max 1 fe),.I fg.1]),(112,.arr 3 1 (l6.map LV.I)),(221,.arr 63 12 (l7.map ax.lv))]) (Wk.trans (Wk.u3 10117 86 6 111 7 R R R R R (bM R)) (Wk.trans (aS [(0,.ptr 7 0),(2,.I p2),(7,.arr 221 l7.length),(8,.arr 112 l6.length),(9,.I n3),(11,.ptr 111 0)] [(7,.box [.L fg.2.L,.I fg.2.At]),(111,.box [.I (i64 ((l7.length:Int)+dy.1)),.I cM.1,.I (l7.length:Int),.I dz.1,.I 0,.I 0,.str (ByteArray.mk #[]),.arr 10117 (List.length ([]:List aq)),.nil,.I r9.1,.I (max 1 fe),.I fg.1]),(112,.arr 3 1 (l6.map LV.I)),(221,.arr 63 12 (l7.map ax.lv)),(10117,.arr 86 6 (List.map aq.lv ([]:List aq)))]) (Wk.trans (Wk.trans (Wk.fY (f:=aq.lv) 10117 86 6 ([]:List aq) 111 R R R (b6 R (b6 R (b6 R (b6 R (b6 R (b6 R (b6 R (kb (b6 R (b6 R (b6 R (b6 R ka)))))))))))) R R (bM R)) (aS [(0,.ptr 7 0),(2,.I p2),(7,.arr 221 l7.length),(8,.arr 112 l6.length),(9,.I n3),(11,.ptr 111 0)] [(7,.box [.L fg.2.L,.I fg.2.At]),(111,.box [.I (i64 ((l7.length:Int)+dy.1)),.I cM.1,.I (l7.length:Int),.I dz.1,.I 0,.I 0,.str (ByteArray.mk #[]),.ak 6 (List.map aq.lv ([]:List aq)),.nil,.I r9.1,.I (max 1 fe),.I fg.1]),(112,.arr 3 1 (l6.map LV.I)),(221,.arr 63 12 (l7.map ax.lv))])) (Wk.trans (aS [(0,.ptr 7 0),(2,.I p2),(7,.arr 221 l7.length),(8,.arr 112 l6.length),(9,.I n3),(11,.ptr 111 0)] [(7,.box [.L fg.2.L,.I fg.2.At]),(111,.box [.I (i64 ((l7.length:Int)+dy.1)),.I cM.1,.I (l7.length:Int),.I dz.1,.I 0,.I 0,.str (ByteArray.mk #[]),.ak 6 (List.map aq.lv ([]:List aq)),.nil,.I r9.1,.I (max 1 fe),.I fg.1]),(112,.arr 3 1 (l6.map LV.I)),(221,.arr 63 12 (l7.map ax.lv))]) (Wk.trans (Wk.u3 10118 3 1 111 8 R R R R R (bM R)) (Wk.trans (aS [(0,.ptr 7 0),(2,.I p2),(7,.arr 221 l7.length),(8,.arr 112 l6.length),(9,.I n3),(11,.ptr 111 0)] [(7,.box [.L fg.2.L,.I fg.2.At]),(111,.box [.I (i64 ((l7.length:Int)+dy.1)),.I cM.1,.I (l7.length:Int),.I dz.1,.I 0,.I 0,.str (ByteArray.mk #[]),.ak 6 (List.map aq.lv ([]:List aq)),.arr 10118 (List.length ([]:List Int)),.I r9.1,.I (max 1 fe),.I fg.1]),(112,.arr 3 1 (l6.map LV.I)),(221,.arr 63 12 (l7.map ax.lv)),(10118,.arr 3 1 (List.map LV.I ([]:List Int)))]) (Wk.trans (Wk.trans (Wk.fY (f:=LV.I) 10118 3 1 ([]:List Int) 111 R R R (b6 R (b6 R (b6 R (b6 R (b6 R (b6 R (b6 R (b6 R (kb (b6 R (b6 R (b6 R ka)))))))))))) R R (bM R)) (aS [(0,.ptr 7 0),(2,.I p2),(7,.arr 221 l7.length),(8,.arr 112 l6.length),(9,.I n3),(11,.ptr 111 0)] [(7,.box [.L fg.2.L,.I fg.2.At]),(111,.box [.I (i64 ((l7.length:Int)+dy.1)),.I cM.1,.I (l7.length:Int),.I dz.1,.I 0,.I 0,.str (ByteArray.mk #[]),.ak 6 (List.map aq.lv ([]:List aq)),.L ([]:List Int),.I r9.1,.I (max 1 fe),.I fg.1]),(112,.arr 3 1 (l6.map LV.I)),(221,.arr 63 12 (l7.map ax.lv))])) (Wk.eq R R R R))))))))))⟩)
   clear h
   rintro e m ⟨LB,n16,n17,n18,n19,t20,lV,lW,n23,n24,n25,gQ,h,hw⟩
   refine LH.wk hw ?_
   clear hw
   unfold Mk at h
   refine LH.mid (fun e m=>∃ (n27:Int) (n28:Int) (n29:Int) (n30:Int) (n31:Int) (n32:Int) (n33:Int) (LC:List Int) (n35:Int),Hi aJ n3 l7 n18 t20 lV lW n25 gQ n27 n28 n29 n30 n31 n32 n33 LC n35=some r∧Wk (fun id=>Mem.of [(7,.box [.L p0.L,.I p0.At])] id ≠ .none) e m (Env.of [(0,.ptr 7 0),(2,.I p2),(7,.arr 221 l7.length),(8,.arr 112 gQ.length),(9,.I n3),(11,.ag [.I n27,.I n28,.I n29,.I n30,.I n18,.I n31,.str t20,.ak 6 (lV.map aq.lv),.L lW,.I n32,.I n33,.I n25])]) (Mem.of [(7,.box [.L LC,.I n35]),(112,.arr 3 1 (gQ.map LV.I)),(221,.arr 63 12 (l7.map ax.lv))])) ?_ ?_
   ·obtain ⟨zL,hv,h⟩:=ao h
    refine LH.aj [(0,.ptr 7 0),(2,.I p2),(7,.arr 221 l7.length),(8,.arr 112 gQ.length),(9,.I n3),(11,.ptr 111 0),(89,.bool zL.1)] [(7,.box [.L zL.2.1,.I zL.2.2]),(111,.box [.I (i64 ((l7.length:Int)+dy.1)),.I cM.1,.I (l7.length:Int),.I n17,.I n18,.I n19,.str t20,.ak 6 (lV.map aq.lv),.L lW,.I n23,.I n24,.I n25]),(112,.arr 3 1 (gQ.map LV.I)),(221,.arr 63 12 (l7.map ax.lv))] R ?_ ?_
    ·refine bj R (sN (iP R R (bD R ?_)))
     by_cases rk:(decide (p2 > 0))=true
     ·replace hv:=aB hv rk
      refine sT R (cB rk) (oM (v:=(.ptr _ _)) R (sT R (cB rk) (oM (v:=(.int _ _)) R ?_)))
      obtain ⟨ME,SB,hv⟩:=ao hv
      refine sT R (cB rk) (eX (args:=[.ptr 7 0,.I p2]) (ml:=[(7,.box [.L LB,.I n16])]) (de:=[(7,.box [.L ME.2.L,.I ME.2.At])]) R s7 R (aH (aH bn)) (zO SB) (mC R mN) (cn R cz) R (sN (aX (cB rk) (v:=(.bool _)) R ?_)))
      obtain rfl:=oI hv
      exact zS
     ·replace rk:=bF rk
      replace hv:=aA hv rk
      refine sF R R rk (sF R R rk (sF R R rk (sN (aQ (cB rk) (v:=(.bool _)) R ?_))))
      obtain rfl:=oI hv
      exact zS
    clear hv
    refine LH.cond (t:=zL.1) R (fun Kr=>?_) (fun Kr=>?_)
    ·replace h:=aB h Kr
     obtain ⟨kI,SC,h⟩:=ao h
     refine LH.aj [(0,.ptr 7 0),(2,.I p2),(7,.arr 221 l7.length),(8,.arr 112 gQ.length),(9,.I n3),(11,.ptr 111 0),(91,.I kI.1)] [(7,.box [.L kI.2.L,.I kI.2.At]),(111,.box [.I (i64 ((l7.length:Int)+dy.1)),.I cM.1,.I (l7.length:Int),.I n17,.I n18,.I n19,.str t20,.ak 6 (lV.map aq.lv),.L lW,.I n23,.I n24,.I n25]),(112,.arr 3 1 (gQ.map LV.I)),(221,.arr 63 12 (l7.map ax.lv))] R (hZ R (sN (eX (args:=[.ptr 7 0,.I 5]) (ml:=[(7,.box [.L zL.2.1,.I zL.2.2])]) (de:=[(7,.box [.L kI.2.L,.I kI.2.At])]) R gG R (aH (aH bn)) (kN SC) (mC R mN) (cn R cz) R zS))) (LH.block (LH.aj [(0,.ptr 7 0),(2,.I p2),(7,.arr 221 l7.length),(8,.arr 112 gQ.length),(9,.I n3),(11,.ptr 111 0),(91,.I kI.1),(96,.bool (kI.1 == 0))] [(7,.box [.L kI.2.L,.I kI.2.At]),(111,.box [.I (i64 ((l7.length:Int)+dy.1)),.I cM.1,.I (l7.length:Int),.I n17,.I n18,.I n19,.str t20,.ak 6 (lV.map aq.lv),.L lW,.I n23,.I n24,.I n25]),(112,.arr 3 1 (gQ.map LV.I)),(221,.arr 63 12 (l7.map ax.lv))] R (sN (gp R R (b4 R zS))) (LH.cond (t:=(kI.1 == 0)) R (fun Ks=>?_) (fun Ks=>?_))))
     ·replace h:=aB h Ks
      obtain ⟨zF,SD,h⟩:=ao h
      exact LH.aU [(0,.ptr 7 0),(2,.I p2),(7,.arr 221 l7.length),(8,.arr 112 gQ.length),(9,.I n3),(11,.ag [.I (i64 ((l7.length:Int)+dy.1)),.I cM.1,.I (l7.length:Int),.I zF.1,.I n18,.I n19,.str t20,.ak 6 (lV.map aq.lv),.L lW,.I n23,.I n24,.I n25])] [(7,.box [.L zF.2.L,.I zF.2.At]),(112,.arr 3 1 (gQ.map LV.I)),(221,.arr 63 12 (l7.map ax.lv))] R (hZ R (sN (eX (args:=[.ptr 7 0,.I (-1),.I 8]) (ml:=[(7,.box [.L kI.2.L,.I kI.2.At])]) (de:=[(7,.box [.L zF.2.L,.I zF.2.At])]) R nK R (aH (aH (aH bn))) (nF SD) (mC R mN) (cn R cz) R (sN (dD fb aD ba R R (s_ (cG R R R aD ba R R R (s0 ((Wk.trans (aS [(0,.ptr 7 0),(2,.I p2),(7,.arr 221 l7.length),(8,.arr 112 gQ.length),(9,.I n3),(11,.ptr 111 0)] [(7,.box [.L zF.2.L,.I zF.2.At]),(111,.box [.I (i64 ((l7.length:Int)+dy.1)),.I cM.1,.I (l7.length:Int),.I zF.1,.I n18,.I n19,.str t20,.ak 6 (lV.map aq.lv),.L lW,.I n23,.I n24,.I n25]),(112,.arr 3 1 (gQ.map LV.I)),(221,.arr 63 12 (l7.map ax.lv))]) (Wk.trans (Wk.bg 111 [.I (i64 ((l7.length:Int)+dy.1)),.I cM.1,.I (l7.length:Int),.I zF.1,.I n18,.I n19,.str t20,.ak 6 (lV.map aq.lv),.L lW,.I n23,.I n24,.I n25] R R R (bM R)) (Wk.eq R R R R)))))))))))) (aY (au ⟨(i64 ((l7.length:Int)+dy.1)),cM.1,(l7.length:Int),zF.1,n19,n23,n24,zF.2.L,zF.2.At,h,Wk.eq R R R R⟩))
     replace h:=aA h Ks
     refine LH.aj [(0,.ptr 7 0),(2,.I p2),(7,.arr 221 l7.length),(8,.arr 112 gQ.length),(9,.I n3),(11,.ptr 111 0),(91,.I kI.1),(101,.bool (kI.1 == 1))] [(7,.box [.L kI.2.L,.I kI.2.At]),(111,.box [.I (i64 ((l7.length:Int)+dy.1)),.I cM.1,.I (l7.length:Int),.I n17,.I n18,.I n19,.str t20,.ak 6 (lV.map aq.lv),.L lW,.I n23,.I n24,.I n25]),(112,.arr 3 1 (gQ.map LV.I)),(221,.arr 63 12 (l7.map ax.lv))] R (sN (gp R R (b4 R zS))) (LH.cond (t:=(kI.1 == 1)) R (fun Kt=>?_) (fun Kt=>?_))
     ·replace h:=aB h Kt
      obtain ⟨zG,SE,h⟩:=ao h
      exact LH.aU [(0,.ptr 7 0),(2,.I p2),(7,.arr 221 l7.length),(8,.arr 112 gQ.length),(9,.I n3),(11,.ag [.I (i64 ((l7.length:Int)+dy.1)),.I cM.1,.I (l7.length:Int),.I n17,.I n18,.I n19,.str t20,.ak 6 (lV.map aq.lv),.L lW,.I n23,.I zG.1,.I n25])] [(7,.box [.L zG.2.L,.I zG.2.At]),(112,.arr 3 1 (gQ.map LV.I)),(221,.arr 63 12 (l7.map ax.lv))] R (hZ R (sN (eX (args:=[.ptr 7 0,.I (-1),.I 3]) (ml:=[(7,.box [.L kI.2.L,.I kI.2.At])]) (de:=[(7,.box [.L zG.2.L,.I zG.2.At])]) R nK R (aH (aH (aH bn))) (nF SE) (mC R mN) (cn R cz) R (sN (dD eV gH gv R R (sN (dD dm aD ba R R (s_ (cG R R R aD ba R R R (s0 ((Wk.trans (aS [(0,.ptr 7 0),(2,.I p2),(7,.arr 221 l7.length),(8,.arr 112 gQ.length),(9,.I n3),(11,.ptr 111 0)] [(7,.box [.L zG.2.L,.I zG.2.At]),(111,.box [.I (i64 ((l7.length:Int)+dy.1)),.I cM.1,.I (l7.length:Int),.I n17,.I n18,.I n19,.str t20,.ak 6 (lV.map aq.lv),.L lW,.I n23,.I zG.1,.I n25]),(112,.arr 3 1 (gQ.map LV.I)),(221,.arr 63 12 (l7.map ax.lv))]) (Wk.trans (Wk.bg 111 [.I (i64 ((l7.length:Int)+dy.1)),.I cM.1,.I (l7.length:Int),.I n17,.I n18,.I n19,.str t20,.ak 6 (lV.map aq.lv),.L lW,.I n23,.I zG.1,.I n25] R R R (bM R)) (Wk.eq R R R R)))))))))))))) (aY (au ⟨(i64 ((l7.length:Int)+dy.1)),cM.1,(l7.length:Int),n17,n19,n23,zG.1,zG.2.L,zG.2.At,h,Wk.eq R R R R⟩))
     replace h:=aA h Kt
     refine LH.aj [(0,.ptr 7 0),(2,.I p2),(7,.arr 221 l7.length),(8,.arr 112 gQ.length),(9,.I n3),(11,.ptr 111 0),(91,.I kI.1),(107,.bool (kI.1 == 2))] [(7,.box [.L kI.2.L,.I kI.2.At]),(111,.box [.I (i64 ((l7.length:Int)+dy.1)),.I cM.1,.I (l7.length:Int),.I n17,.I n18,.I n19,.str t20,.ak 6 (lV.map aq.lv),.L lW,.I n23,.I n24,.I n25]),(112,.arr 3 1 (gQ.map LV.I)),(221,.arr 63 12 (l7.map ax.lv))] R (sN (gp R R (b4 R zS))) (LH.cond (t:=(kI.1 == 2)) R (fun Ku=>?_) (fun Ku=>?_))
     ·replace h:=aB h Ku
      obtain ⟨zH,SF,h⟩:=ao h
      exact LH.aU [(0,.ptr 7 0),(2,.I p2),(7,.arr 221 l7.length),(8,.arr 112 gQ.length),(9,.I n3),(11,.ag [.I (i64 ((l7.length:Int)+dy.1)),.I cM.1,.I (l7.length:Int),.I n17,.I n18,.I n19,.str t20,.ak 6 (lV.map aq.lv),.L lW,.I zH.1,.I n24,.I n25])] [(7,.box [.L zH.2.L,.I zH.2.At]),(112,.arr 3 1 (gQ.map LV.I)),(221,.arr 63 12 (l7.map ax.lv))] R (hZ R (sN (eX (args:=[.ptr 7 0,.I 7]) (ml:=[(7,.box [.L kI.2.L,.I kI.2.At])]) (de:=[(7,.box [.L zH.2.L,.I zH.2.At])]) R gG R (aH (aH bn)) (kN SF) (mC R mN) (cn R cz) R (sN (dD eV gH gv R R (sN (dD fJ aD ba R R (s_ (cG R R R aD ba R R R (s0 ((Wk.trans (aS [(0,.ptr 7 0),(2,.I p2),(7,.arr 221 l7.length),(8,.arr 112 gQ.length),(9,.I n3),(11,.ptr 111 0)] [(7,.box [.L zH.2.L,.I zH.2.At]),(111,.box [.I (i64 ((l7.length:Int)+dy.1)),.I cM.1,.I (l7.length:Int),.I n17,.I n18,.I n19,.str t20,.ak 6 (lV.map aq.lv),.L lW,.I zH.1,.I n24,.I n25]),(112,.arr 3 1 (gQ.map LV.I)),(221,.arr 63 12 (l7.map ax.lv))]) (Wk.trans (Wk.bg 111 [.I (i64 ((l7.length:Int)+dy.1)),.I cM.1,.I (l7.length:Int),.I n17,.I n18,.I n19,.str t20,.ak 6 (lV.map aq.lv),.L lW,.I zH.1,.I n24,.I n25] R R R (bM R)) (Wk.eq R R R R)))))))))))))) (aY (au ⟨(i64 ((l7.length:Int)+dy.1)),cM.1,(l7.length:Int),n17,n19,zH.1,n24,zH.2.L,zH.2.At,h,Wk.eq R R R R⟩))
     replace h:=aA h Ku
     refine LH.aj [(0,.ptr 7 0),(2,.I p2),(7,.arr 221 l7.length),(8,.arr 112 gQ.length),(9,.I n3),(11,.ptr 111 0),(113,.bool (kI.1 == 3))] [(7,.box [.L kI.2.L,.I kI.2.At]),(111,.box [.I (i64 ((l7.length:Int)+dy.1)),.I cM.1,.I (l7.length:Int),.I n17,.I n18,.I n19,.str t20,.ak 6 (lV.map aq.lv),.L lW,.I n23,.I n24,.I n25]),(112,.arr 3 1 (gQ.map LV.I)),(221,.arr 63 12 (l7.map ax.lv))] R (sN (gp R R (b4 R zS))) (LH.cond (t:=(kI.1 == 3)) R (fun Kv=>?_) (fun Kv=>?_))
     ·replace h:=aB h Kv
      obtain ⟨qO,SG,h⟩:=ao h
      exact LH.aU [(0,.ptr 7 0),(2,.I p2),(7,.arr 221 l7.length),(8,.arr 112 gQ.length),(9,.I n3),(11,.ag [.I qO.1.Time,.I qO.1.Source,.I qO.1.Seq,.I n17,.I n18,.I n19,.str t20,.ak 6 (lV.map aq.lv),.L lW,.I n23,.I n24,.I n25])] [(7,.box [.L qO.2.L,.I qO.2.At]),(112,.arr 3 1 (gQ.map LV.I)),(221,.arr 63 12 (l7.map ax.lv))] R (hZ R (sN (eX (args:=[.ptr 7 0,.I 3]) (ml:=[(7,.box [.L kI.2.L,.I kI.2.At])]) (de:=[(7,.box [.L qO.2.L,.I qO.2.At])]) R On R (aH (aH bn)) (Rt SG) (mC R mN) (cn R cz) R (sN (dD dh cg b7 R R (s_ (cG R R R cg b7 R R R (s0 ((Wk.trans (aS [(0,.ptr 7 0),(2,.I p2),(7,.arr 221 l7.length),(8,.arr 112 gQ.length),(9,.I n3),(11,.ptr 111 0)] [(7,.box [.L qO.2.L,.I qO.2.At]),(111,.box [.I qO.1.Time,.I qO.1.Source,.I qO.1.Seq,.I n17,.I n18,.I n19,.str t20,.ak 6 (lV.map aq.lv),.L lW,.I n23,.I n24,.I n25]),(112,.arr 3 1 (gQ.map LV.I)),(221,.arr 63 12 (l7.map ax.lv))]) (Wk.trans (Wk.bg 111 [.I qO.1.Time,.I qO.1.Source,.I qO.1.Seq,.I n17,.I n18,.I n19,.str t20,.ak 6 (lV.map aq.lv),.L lW,.I n23,.I n24,.I n25] R R R (bM R)) (Wk.eq R R R R)))))))))))) (aY (au ⟨qO.1.Time,qO.1.Source,qO.1.Seq,n17,n19,n23,n24,qO.2.L,qO.2.At,h,Wk.eq R R R R⟩))
     replace h:=aA h Kv
     obtain ⟨zI,SH,h⟩:=ao h
     exact LH.aU [(0,.ptr 7 0),(2,.I p2),(7,.arr 221 l7.length),(8,.arr 112 gQ.length),(9,.I n3),(11,.ag [.I (i64 ((l7.length:Int)+dy.1)),.I cM.1,.I (l7.length:Int),.I n17,.I n18,.I zI.1,.str t20,.ak 6 (lV.map aq.lv),.L lW,.I n23,.I n24,.I n25])] [(7,.box [.L zI.2.L,.I zI.2.At]),(112,.arr 3 1 (gQ.map LV.I)),(221,.arr 63 12 (l7.map ax.lv))] R (hZ R (sN (eX (args:=[.ptr 7 0,.I 0,.I 3]) (ml:=[(7,.box [.L kI.2.L,.I kI.2.At])]) (de:=[(7,.box [.L zI.2.L,.I zI.2.At])]) R nK R (aH (aH (aH bn))) (nF SH) (mC R mN) (cn R cz) R (sN (dD fc bT bN R R (sN (dD fL aD ba R R (s_ (cG R R R aD ba R R R (s0 ((Wk.trans (aS [(0,.ptr 7 0),(2,.I p2),(7,.arr 221 l7.length),(8,.arr 112 gQ.length),(9,.I n3),(11,.ptr 111 0)] [(7,.box [.L zI.2.L,.I zI.2.At]),(111,.box [.I (i64 ((l7.length:Int)+dy.1)),.I cM.1,.I (l7.length:Int),.I n17,.I n18,.I zI.1,.str t20,.ak 6 (lV.map aq.lv),.L lW,.I n23,.I n24,.I n25]),(112,.arr 3 1 (gQ.map LV.I)),(221,.arr 63 12 (l7.map ax.lv))]) (Wk.trans (Wk.bg 111 [.I (i64 ((l7.length:Int)+dy.1)),.I cM.1,.I (l7.length:Int),.I n17,.I n18,.I zI.1,.str t20,.ak 6 (lV.map aq.lv),.L lW,.I n23,.I n24,.I n25] R R R (bM R)) (Wk.eq R R R R)))))))))))))) (aY (au ⟨(i64 ((l7.length:Int)+dy.1)),cM.1,(l7.length:Int),n17,zI.1,n23,n24,zI.2.L,zI.2.At,h,Wk.eq R R R R⟩))
    replace h:=aA h Kr
    exact LH.skip (au ⟨(i64 ((l7.length:Int)+dy.1)),cM.1,(l7.length:Int),n17,n19,n23,n24,zL.2.1,zL.2.2,h,(Wk.trans (aS [(0,.ptr 7 0),(2,.I p2),(7,.arr 221 l7.length),(8,.arr 112 gQ.length),(9,.I n3),(11,.ptr 111 0)] [(7,.box [.L zL.2.1,.I zL.2.2]),(111,.box [.I (i64 ((l7.length:Int)+dy.1)),.I cM.1,.I (l7.length:Int),.I n17,.I n18,.I n19,.str t20,.ak 6 (lV.map aq.lv),.L lW,.I n23,.I n24,.I n25]),(112,.arr 3 1 (gQ.map LV.I)),(221,.arr 63 12 (l7.map ax.lv))]) (Wk.trans (Wk.bg 111 [.I (i64 ((l7.length:Int)+dy.1)),.I cM.1,.I (l7.length:Int),.I n17,.I n18,.I n19,.str t20,.ak 6 (lV.map aq.lv),.L lW,.I n23,.I n24,.I n25] R R R (bM R)) (Wk.eq R R R R)))⟩)
   clear h
   rintro e m ⟨n27,n28,n29,n30,n31,n32,n33,LC,n35,h,hw⟩
   refine LH.wk hw ?_
   clear hw
   unfold Hi at h
   obtain ⟨DS,S3,h⟩:=ao h
   refine LH.aj [(0,.ptr 7 0),(2,.I p2),(7,.arr 221 DS.length),(8,.arr 112 gQ.length),(9,.I n3)] [(7,.box [.L LC,.I n35]),(112,.arr 3 1 (gQ.map LV.I)),(221,.arr 63 12 (DS.map ax.lv))] R (j0 R (sN (bd R fB mq eA R R (sN (jZ (f:=ax.lv) (ys:=[(ax.mk (aL.mk n27 n28 n29) n30 (ai.mk n18 n31 t20 lV lW) (bG.mk n32 n33) n25)]) gA zi eA R R R ax.ok (sN (nw (f:=ax.lv) gA zi eA R R (bM R) R S3 (nM R zS)))))))) ?_
   obtain ⟨lJ,K2,h⟩:=ao h
   refine LH.aj [(0,.ptr 7 0),(2,.I p2),(7,.arr 221 DS.length),(8,.arr 112 gQ.length),(9,.I n3),(123,.bool lJ.1)] [(7,.box [.L lJ.2.L,.I lJ.2.At]),(112,.arr 3 1 (gQ.map LV.I)),(221,.arr 63 12 (DS.map ax.lv))] R (hZ R (sN (eX (args:=[.ptr 7 0,.I 8]) (ml:=[(7,.box [.L LC,.I n35])]) (de:=[(7,.box [.L lJ.2.L,.I lJ.2.At])]) R s7 R (aH (aH bn)) (zO K2) (mC R mN) (cn R cz) R zS))) (LH.cond (t:=lJ.1) R (fun Ah=>?_) (fun Ah=>?_))
   ·replace h:=aB h Ah
    obtain ⟨Ea,Sy,h⟩:=ao h
    obtain ⟨TU,NY,h⟩:=ao h
    obtain ⟨v41,Ld,h⟩:=ao h
    refine LH.aU [(0,.ptr 7 0),(2,.I p2),(7,.arr 221 v41.length),(8,.arr 112 gQ.length),(9,.I n3)] [(7,.box [.L Ea.2.L,.I Ea.2.At]),(112,.arr 3 1 (gQ.map LV.I)),(221,.arr 63 12 (v41.map ax.lv))] R (j0 R (j0 R (hZ R (j0 R (sN (FW (f:=ax.lv) gA R R (sN (eX (args:=[.ptr 7 0,.I (DS.length:Int)]) (ml:=[(7,.box [.L lJ.2.L,.I lJ.2.At])]) (de:=[(7,.box [.L Ea.2.L,.I Ea.2.At])]) R gG R (aH (aH bn)) (kN Sy) (mC R mN) (cn R cz) R (sN (gS (f:=ax.lv) gA fB eA R R R NY (sN (pK (f:=ax.lv) R R (dB NY).2 R R fB mq eA R R (sN (jZ (f:=ax.lv) (ys:=[TU]) gA zi eA R R R ax.ok (sN (nw (f:=ax.lv) gA zi eA R R (bM R) R Ld (nM R zS))))))))))))))))) (aY (au (LH.aU [(0,.ptr 7 0),(2,.I p2),(7,.arr 221 v41.length),(8,.arr 112 gQ.length),(9,.I (i64 (n3 - 1)))] [(7,.box [.L Ea.2.L,.I Ea.2.At]),(112,.arr 3 1 (gQ.map LV.I)),(221,.arr 63 12 (v41.map ax.lv))] R (bj R (sN (iA R R (bo R zS)))) ?_)))
    exact bh ⟨(i64 (n3 - 1)),Ea.2.L,Ea.2.At,gQ,v41,a7 ▸ h,R,R⟩ (Wk.eq R R R R)
   replace h:=aA h Ah
   refine LH.skip (aY (au (LH.aU [(0,.ptr 7 0),(2,.I p2),(7,.arr 221 DS.length),(8,.arr 112 gQ.length),(9,.I (i64 (n3 - 1)))] [(7,.box [.L lJ.2.L,.I lJ.2.At]),(112,.arr 3 1 (gQ.map LV.I)),(221,.arr 63 12 (DS.map ax.lv))] R (bj R (sN (iA R R (bo R zS)))) ?_)))
   exact bh ⟨(i64 (n3 - 1)),lJ.2.L,lJ.2.At,gQ,DS,a7 ▸ h,R,R⟩ (Wk.eq R R R R)
  replace h:=aA h kS
  refine LH.exit (cw (bY (bO (au (LH.wk ((Wk.trans (aS [(7,.arr 221 l7.length)] [(7,.box [.L l4,.I n5]),(221,.arr 63 12 (l7.map ax.lv))]) (Wk.trans (Wk.lk (f:=ax.lv) (fy:=[(7,.ak 12 (l7.map ax.lv))]) 221 63 12 l7 R R (bM R) (fZ fN)) (aS [(7,.ak 12 (l7.map ax.lv))] [(7,.box [.L l4,.I n5])])))) (LH.aj [(6,.ak 12 (l7.map ax.lv))] [(7,.box [.L l4,.I n5])] R (fp R (qR R zS)) (LH.ret ?_)))))))
  obtain rfl:=oI h
  exact aO (aT Tryz.results8) (bU R (bS ⟨aN (mC R mN),R,aZ R,Sub.rfl⟩))
theorem Pw {F:Nat} {p0:List ax} {p1:(ax→Option aL)} {p2:(ax→ax→Option Bool)} {r:List aL × List Int} {dV:Nat} {da:List LV} (AQ:ef Tryz.prog dV) (oQ:LV.bk da=true) (AR:∀ (x0:ax) (q:aL),p1 x0=some q→aM Tryz.prog dV ([.agg [.I x0.ar.Time,.I x0.ar.Source,.I x0.ar.Seq,.I x0.Kind,.I x0.Item.ID,.I x0.Item.Version,.str x0.Item.bI,.ak 6 (x0.Item.aG.map aq.lv),.L x0.Item.aE,.I x0.Ref.ID,.I x0.Ref.Version,.I x0.Form]]++da) (Mem.of []) (.agg [.I q.Time,.I q.Source,.I q.Seq]) (Mem.of [])) {ez:Nat} {dv:List LV} (Dc:ef Tryz.prog ez) (uw:LV.bk dv=true) (Dd:∀ (x0:ax) (x1:ax) (q:Bool),p2 x0 x1=some q→aM Tryz.prog ez ([.agg [.I x0.ar.Time,.I x0.ar.Source,.I x0.ar.Seq,.I x0.Kind,.I x0.Item.ID,.I x0.Item.Version,.str x0.Item.bI,.ak 6 (x0.Item.aG.map aq.lv),.L x0.Item.aE,.I x0.Ref.ID,.I x0.Ref.Version,.I x0.Form],.agg [.I x1.ar.Time,.I x1.ar.Source,.I x1.ar.Seq,.I x1.Kind,.I x1.Item.ID,.I x1.Item.Version,.str x1.Item.bI,.ak 6 (x1.Item.aG.map aq.lv),.L x1.Item.aE,.I x1.Ref.ID,.I x1.Ref.Version,.I x1.Form]]++dv) (Mem.of []) (.bool q) (Mem.of [])) (h:Gk F p0 p1 p2=some r):aM Tryz.prog 72 [.ak 12 (p0.map ax.lv),.fn dV da,.fn ez dv] (Mem.of []) (.cX [.ak 3 (r.1.map aL.lv),.L r.2]) (Mem.of []):=by
  have F9:∀ {l:List LV},LV.bk l=true→LV.bk (l++dv)=true:=LX uw
  have eK:LV.bK dv=[]:=gh uw
  have F8:∀ {l:List LV},LV.bk l=true→LV.bk (l++da)=true:=LX oQ
  have eE:LV.bK da=[]:=gh oQ
  unfold Gk at h
  refine br Tryz.func72 R (nT Tryz.ntmps72 R) (LH.wk (Wk.to (el:=[(0,.ak 12 (p0.map ax.lv)),(1,.fn dV da),(2,.fn ez dv)]) (ml:=[]) (eQ ⟨R,R,R,trivial⟩) mN (by simp [aV,LV.refs,LV.bK,LV.cells,c9,Env.args,Env.of,Env.put,Env.drop,eE,eK]) (aZ R)) (LH.aj [(0,.ak 12 (p0.map ax.lv)),(1,.fn dV da),(2,.fn ez dv)] [] R (kX R (kX R (s0 (Wk.to (eQ ⟨R,R,R,trivial⟩) mN (by simp [aV,LV.refs,LV.bK,LV.cells,c9,Env.args,Env.of,Env.put,Env.drop,eE,eK]) (aZ R))))) ?_))
  obtain ⟨v1,kr,h⟩:=ao h
  refine LH.aj [(0,.ak 12 (p0.map ax.lv)),(1,.fn dV da),(2,.fn ez dv),(8,.arr 117 v1.length)] [(117,.arr 61 3 (v1.map aL.lv))] R (fp R (sN (bW (f:=ax.lv) gA R (sN (Rc (f:=aL.lv) (z:=(aL.mk 0 0 0)) (id:=117) R eW uF Ma b7 R R R kr R (nM R (s0 (Wk.to (eQ ⟨R,R,R,R,trivial⟩) ⟨R,trivial⟩ (by simp [aV,LV.refs,LV.bK,LV.cells,c9,Env.args,Env.of,Env.put,Env.drop,eE,eK]) (aZ R))))))))) ?_
  obtain ⟨v2,wY,h⟩:=ao h
  refine LH.aj [(0,.ak 12 (p0.map ax.lv)),(1,.fn dV da),(2,.fn ez dv),(8,.arr 117 v1.length),(9,.arr 120 v2.length)] [(117,.arr 61 3 (v1.map aL.lv)),(120,.arr 3 1 (v2.map LV.I))] R (fp R (sN (bW (f:=ax.lv) gA R (sN (Rc (f:=LV.I) (z:=0) (id:=120) R cE TQ qV ba R R R wY R (nM R (s0 (Wk.to (eQ ⟨R,R,R,R,R,trivial⟩) ⟨R,R,trivial⟩ (by simp [aV,LV.refs,LV.bK,LV.cells,c9,Env.args,Env.of,Env.put,Env.drop,eE,eK]) (aZ R))))))))) (LH.aj [(0,.ak 12 (p0.map ax.lv)),(1,.fn dV da),(2,.fn ez dv),(8,.arr 117 v1.length),(9,.arr 120 v2.length),(10,.mp 121)] [(117,.arr 61 3 (v1.map aL.lv)),(120,.arr 3 1 (v2.map LV.I)),(121,.map 61 3 (ec aL.lv LV.I ([]:List (aL × Int))))] R (sX ((tm (kt:=61) (vt:=3) (id:=121) R).ok) (sN (oA (v:=(.mp _)) R (s0 (Wk.to (eQ ⟨R,R,R,R,R,R,trivial⟩) ⟨R,R,R,trivial⟩ (by simp [aV,LV.refs,LV.bK,LV.cells,c9,Env.args,Env.of,Env.put,Env.drop,eE,eK]) (aZ R)))))) (LH.seq (LH.aj [(0,.ak 12 (p0.map ax.lv)),(1,.fn dV da),(2,.fn ez dv),(8,.arr 117 v1.length),(9,.arr 120 v2.length),(10,.mp 121),(22,.ak 12 (p0.map ax.lv)),(23,.I (p0.length:Int)),(24,.I 0)] [(117,.arr 61 3 (v1.map aL.lv)),(120,.arr 3 1 (v2.map LV.I)),(121,.map 61 3 (ec aL.lv LV.I ([]:List (aL × Int))))] R (fp R (sN (bW (f:=ax.lv) gA R (bj R (s0 (Wk.to (eQ ⟨R,R,R,R,R,R,R,R,R,trivial⟩) ⟨R,R,R,trivial⟩ (by simp [aV,LV.refs,LV.bK,LV.cells,c9,Env.args,Env.of,Env.put,Env.drop,eE,eK]) (aZ R))))))) (LH.block (LH.loop (fun n e m=>∃ (n3:Int) (l4:List aL) (l5:List Int) (m6:List (aL × Int)),AU p0 p1 p2 n n3 l4 l5 m6=some r∧e=Env.of [(0,.ak 12 (p0.map ax.lv)),(1,.fn dV da),(2,.fn ez dv),(8,.arr 117 l4.length),(9,.arr 120 l5.length),(10,.mp 121),(22,.ak 12 (p0.map ax.lv)),(23,.I (p0.length:Int)),(24,.I n3)]∧m=Mem.of [(117,.arr 61 3 (l4.map aL.lv)),(120,.arr 3 1 (l5.map LV.I)),(121,.map 61 3 (ec aL.lv LV.I m6))]) F ⟨0,v1,v2,([]:List (aL × Int)),h,R,R⟩ ?_)))))
  clear h
  rintro n e m ⟨n3,l4,l5,m6,h,rfl,rfl⟩
  rcases n with _ | n
  · cases (show Option.none=some _ from h)
  obtain ⟨aJ,a7⟩:∃ f,f=AU p0 p1 p2 n:=⟨_,rfl⟩
  replace h:Gf p0 p1 p2 aJ n3 l4 l5 m6=some r:=a7 ▸ h
  unfold Gf at h
  refine LH.aj [(0,.ak 12 (p0.map ax.lv)),(1,.fn dV da),(2,.fn ez dv),(8,.arr 117 l4.length),(9,.arr 120 l5.length),(10,.mp 121),(22,.ak 12 (p0.map ax.lv)),(23,.I (p0.length:Int)),(24,.I n3),(25,.bool (decide (n3<(p0.length:Int))))] [(117,.arr 61 3 (l4.map aL.lv)),(120,.arr 3 1 (l5.map LV.I)),(121,.map 61 3 (ec aL.lv LV.I m6))] R (sN (fi R R (s0 (Wk.to (eQ ⟨R,R,R,R,R,R,R,R,R,R,trivial⟩) ⟨R,R,R,trivial⟩ (by simp [aV,LV.refs,LV.bK,LV.cells,c9,Env.args,Env.of,Env.put,Env.drop,eE,eK]) (aZ R))))) (LH.seq (LH.cond (t:=(decide (n3<(p0.length:Int)))) R (fun jG=>?_) (fun jG=>?_)))
  ·replace h:=aB h jG
   refine LH.skip (au (LH.wk (Wk.to (el:=[(0,.ak 12 (p0.map ax.lv)),(1,.fn dV da),(2,.fn ez dv),(8,.arr 117 l4.length),(9,.arr 120 l5.length),(10,.mp 121),(22,.ak 12 (p0.map ax.lv)),(23,.I (p0.length:Int)),(24,.I n3)]) (ml:=[(117,.arr 61 3 (l4.map aL.lv)),(120,.arr 3 1 (l5.map LV.I)),(121,.map 61 3 (ec aL.lv LV.I m6))]) (eQ ⟨R,R,R,R,R,R,R,R,R,trivial⟩) ⟨R,R,R,trivial⟩ (by simp [aV,LV.refs,LV.bK,LV.cells,c9,Env.args,Env.of,Env.put,Env.drop,eE,eK]) (aZ R)) (LH.seq (LH.block ?_))))
   obtain ⟨x8,s6,h⟩:=ao h
   refine LH.aj [(0,.ak 12 (p0.map ax.lv)),(1,.fn dV da),(2,.fn ez dv),(8,.arr 117 l4.length),(9,.arr 120 l5.length),(10,.mp 121),(11,.I n3),(12,.ptr 112 0),(22,.ak 12 (p0.map ax.lv)),(23,.I (p0.length:Int)),(24,.I n3)] [(112,.box [.I x8.ar.Time,.I x8.ar.Source,.I x8.ar.Seq,.I x8.Kind,.I x8.Item.ID,.I x8.Item.Version,.str x8.Item.bI,.ak 6 (x8.Item.aG.map aq.lv),.L x8.Item.aE,.I x8.Ref.ID,.I x8.Ref.Version,.I x8.Form]),(117,.arr 61 3 (l4.map aL.lv)),(120,.arr 3 1 (l5.map LV.I)),(121,.map 61 3 (ec aL.lv LV.I m6))] R (bj R (sN (eG (f:=ax.lv) gA fB eA R R ax.ok s6 R (sN (bd R fB mq eA R R (sN (iE (id:=112) R zn R R (bo R (s_ (cG R R R fB eA R R R (s0 (Wk.to (eQ ⟨R,R,R,R,R,R,R,R,R,R,R,trivial⟩) ⟨R,R,R,R,trivial⟩ (by simp [aV,LV.refs,LV.bK,LV.cells,c9,Env.args,Env.of,Env.put,Env.drop,eE,eK]) (aZ R))))))))))))) ?_
   obtain ⟨r9,AA,h⟩:=ao h
   obtain ⟨o9,ru,h⟩:=ao h
   refine LH.aj [(0,.ak 12 (p0.map ax.lv)),(1,.fn dV da),(2,.fn ez dv),(8,.arr 117 (List.length (l4.set n3.toNat r9))),(9,.arr 120 l5.length),(10,.mp 121),(11,.I n3),(12,.ptr 112 0),(22,.ak 12 (p0.map ax.lv)),(23,.I (p0.length:Int)),(24,.I n3)] [(112,.box [.I x8.ar.Time,.I x8.ar.Source,.I x8.ar.Seq,.I x8.Kind,.I x8.Item.ID,.I x8.Item.Version,.str x8.Item.bI,.ak 6 (x8.Item.aG.map aq.lv),.L x8.Item.aE,.I x8.Ref.ID,.I x8.Ref.Version,.I x8.Form]),(117,.arr 61 3 (List.map aL.lv (l4.set n3.toNat r9))),(120,.arr 3 1 (l5.map LV.I)),(121,.map 61 3 (ec aL.lv LV.I m6))] R ?_ ?_
   ·refine j0 R (bj R (sN (oM (v:=(.fn _ _)) R (sN (tg R R R fB mq eA R R (sN (dQ (args:=[.agg [.I x8.ar.Time,.I x8.ar.Source,.I x8.ar.Seq,.I x8.Kind,.I x8.Item.ID,.I x8.Item.Version,.str x8.Item.bI,.ak 6 (x8.Item.aG.map aq.lv),.L x8.Item.aE,.I x8.Ref.ID,.I x8.Ref.Version,.I x8.Form]]++da) (gw:=[.agg [.I x8.ar.Time,.I x8.ar.Source,.I x8.ar.Seq,.I x8.Kind,.I x8.Item.ID,.I x8.Item.Version,.str x8.Item.bI,.ak 6 (x8.Item.aG.map aq.lv),.L x8.Item.aE,.I x8.Ref.ID,.I x8.Ref.Version,.I x8.Form]]++da) R AQ R fv.rfl (AR _ _ AA) (F8 R) ?_)))))))
    exact sN (gS (f:=aL.lv) eW cg b7 R R R ru (s_ (qd (f:=aL.lv) (z':=r9) R R R R cg b7 R (dB ru).2 R (s0 (Wk.to (eC R (eC R (eC R (eC (congrArg (LV.arr 117) (by simp)) (eC R (eC R (eC R (eC R (eC R (eC R (eC R eN))))))))))) ⟨R,R,R,R,trivial⟩ (by simp [aV,LV.refs,LV.bK,LV.cells,c9,Env.args,Env.of,Env.put,Env.drop,eE,eK]) (aZ R))))))
   obtain ⟨bc,xI,h⟩:=ao h
   refine LH.aj [(0,.ak 12 (p0.map ax.lv)),(1,.fn dV da),(2,.fn ez dv),(8,.arr 117 (List.length (l4.set n3.toNat r9))),(9,.arr 120 l5.length),(10,.mp 121),(11,.I n3),(12,.ptr 112 0),(13,.I ((gR m6 bc).getD 0)),(14,.bool ((gR m6 bc).isSome)),(22,.ak 12 (p0.map ax.lv)),(23,.I (p0.length:Int)),(24,.I n3)] [(112,.box [.I x8.ar.Time,.I x8.ar.Source,.I x8.ar.Seq,.I x8.Kind,.I x8.Item.ID,.I x8.Item.Version,.str x8.Item.bI,.ak 6 (x8.Item.aG.map aq.lv),.L x8.Item.aE,.I x8.Ref.ID,.I x8.Ref.Version,.I x8.Form]),(117,.arr 61 3 (List.map aL.lv (l4.set n3.toNat r9))),(120,.arr 3 1 (l5.map LV.I)),(121,.map 61 3 (ec aL.lv LV.I m6))] R (sN (oM (v:=(.mp _)) R (j0 R (bj R (sN (gS (f:=aL.lv) eW cg b7 R R R xI (sN (pK (f:=aL.lv) R R (dB xI).2 R R cg gj b7 R R (sX ((tl (f:=aL.lv) (g:=LV.I) (xs:=m6) (key:=bc) (z:=0) JX Jt Pe R R R TQ).ok) (rR R (sN (gy R R (sN (gy R R (bo R (b4 R (s0 (Wk.to (eQ ⟨R,R,R,R,R,R,R,R,R,R,R,R,R,trivial⟩) ⟨R,R,R,R,trivial⟩ (by simp [aV,LV.refs,LV.bK,LV.cells,c9,Env.args,Env.of,Env.put,Env.drop,eE,eK]) (aZ R))))))))))))))))))) (LH.aj [(0,.ak 12 (p0.map ax.lv)),(1,.fn dV da),(2,.fn ez dv),(8,.arr 117 (List.length (l4.set n3.toNat r9))),(9,.arr 120 l5.length),(10,.mp 121),(11,.I n3),(12,.ptr 112 0),(13,.I ((gR m6 bc).getD 0)),(22,.ak 12 (p0.map ax.lv)),(23,.I (p0.length:Int)),(24,.I n3),(45,.bool (!((gR m6 bc).isSome)))] [(112,.box [.I x8.ar.Time,.I x8.ar.Source,.I x8.ar.Seq,.I x8.Kind,.I x8.Item.ID,.I x8.Item.Version,.str x8.Item.bI,.ak 6 (x8.Item.aG.map aq.lv),.L x8.Item.aE,.I x8.Ref.ID,.I x8.Ref.Version,.I x8.Form]),(117,.arr 61 3 (List.map aL.lv (l4.set n3.toNat r9))),(120,.arr 3 1 (l5.map LV.I)),(121,.map 61 3 (ec aL.lv LV.I m6))] R (bD R (sN (kB R (s0 (Wk.to (eQ ⟨R,R,R,R,R,R,R,R,R,R,R,R,R,trivial⟩) ⟨R,R,R,R,trivial⟩ (by simp [aV,LV.refs,LV.bK,LV.cells,c9,Env.args,Env.of,Env.put,Env.drop,eE,eK]) (aZ R)))))) (LH.cond (t:=(!((gR m6 bc).isSome))) R (fun gP=>?_) (fun gP=>?_)))
   ·replace h:=aB h gP
    obtain ⟨fe,nI,h⟩:=ao h
    refine LH.aU [(0,.ak 12 (p0.map ax.lv)),(1,.fn dV da),(2,.fn ez dv),(8,.arr 117 (List.length (l4.set n3.toNat r9))),(9,.arr 120 l5.length),(10,.mp 121),(22,.ak 12 (p0.map ax.lv)),(23,.I (p0.length:Int)),(24,.I n3)] [(117,.arr 61 3 (List.map aL.lv (l4.set n3.toNat r9))),(120,.arr 3 1 (l5.map LV.I)),(121,.map 61 3 (ec aL.lv LV.I (ed m6 fe n3)))] R (sN (oM (v:=(.mp _)) R (j0 R (bj R (sN (gS (f:=aL.lv) eW cg b7 R R R nI (sN (pK (f:=aL.lv) R R (dB nI).2 R R cg gj b7 R R (bj R (Iw ((iR (f:=aL.lv) (g:=LV.I) (xs:=m6) (key:=fe) (val:=n3) (.inl R) JX Jt Pe (fun _=>R) R R R R).ok) (s0 (Wk.to (eQ ⟨R,R,R,R,R,R,R,R,R,trivial⟩) ⟨R,R,R,trivial⟩ (by simp [aV,LV.refs,LV.bK,LV.cells,c9,Env.args,Env.of,Env.put,Env.drop,eE,eK]) (aZ R))))))))))))) (aY (au (LH.aU [(0,.ak 12 (p0.map ax.lv)),(1,.fn dV da),(2,.fn ez dv),(8,.arr 117 (List.length (l4.set n3.toNat r9))),(9,.arr 120 l5.length),(10,.mp 121),(22,.ak 12 (p0.map ax.lv)),(23,.I (p0.length:Int)),(24,.I (i64 (n3+1)))] [(117,.arr 61 3 (List.map aL.lv (l4.set n3.toNat r9))),(120,.arr 3 1 (l5.map LV.I)),(121,.map 61 3 (ec aL.lv LV.I (ed m6 fe n3)))] R (sN (cD R R (bj R (s0 (Wk.to (eQ ⟨R,R,R,R,R,R,R,R,R,trivial⟩) ⟨R,R,R,trivial⟩ (by simp [aV,LV.refs,LV.bK,LV.cells,c9,Env.args,Env.of,Env.put,Env.drop,eE,eK]) (aZ R)))))) ?_)))
    exact bh ⟨(i64 (n3+1)),(l4.set n3.toNat r9),l5,(ed m6 fe n3),a7 ▸ h,R,R⟩ (Wk.to (eQ ⟨R,R,R,R,R,R,R,R,R,trivial⟩) ⟨R,R,R,trivial⟩ (by simp [aV,LV.refs,LV.bK,LV.cells,c9,Env.args,Env.of,Env.put,Env.drop,eE,eK]) (aZ R))
   replace h:=aA h gP
   obtain ⟨nP,FA,h⟩:=ao h
   obtain ⟨gq,vY,h⟩:=ao h
   refine LH.di mixed [] [0,0,0,0,0,1112,0,0] [(0,.ak 12 (p0.map ax.lv)),(1,.fn dV da),(2,.fn ez dv),(8,.arr 117 (List.length (l4.set n3.toNat r9))),(9,.arr 120 l5.length),(10,.mp 121),(11,.I n3),(22,.ak 12 (p0.map ax.lv)),(23,.I (p0.length:Int)),(24,.I n3),(59,.bool (!gq))] [(117,.arr 61 3 (List.map aL.lv (l4.set n3.toNat r9))),(120,.arr 3 1 (l5.map LV.I)),(121,.map 61 3 (ec aL.lv LV.I m6))] R R (by kernel_rfl) ?_ ?_
   ·refine Wt R (rM R (fF R (aF (eG (f:=ax.lv) gA fB eA R R ax.ok FA R ⟨R,aF (bd R fB mq eA R R ⟨R,mD R R R (fun _ b _ d=>tg R b R fB mq eA R R d) (aF (dQ (args:=[.agg [.I nP.ar.Time,.I nP.ar.Source,.I nP.ar.Seq,.I nP.Kind,.I nP.Item.ID,.I nP.Item.Version,.str nP.Item.bI,.ak 6 (nP.Item.aG.map aq.lv),.L nP.Item.aE,.I nP.Ref.ID,.I nP.Ref.Version,.I nP.Form],.agg [.I x8.ar.Time,.I x8.ar.Source,.I x8.ar.Seq,.I x8.Kind,.I x8.Item.ID,.I x8.Item.Version,.str x8.Item.bI,.ak 6 (x8.Item.aG.map aq.lv),.L x8.Item.aE,.I x8.Ref.ID,.I x8.Ref.Version,.I x8.Form]]++dv) (gw:=[.agg [.I nP.ar.Time,.I nP.ar.Source,.I nP.ar.Seq,.I nP.Kind,.I nP.Item.ID,.I nP.Item.Version,.str nP.Item.bI,.ak 6 (nP.Item.aG.map aq.lv),.L nP.Item.aE,.I nP.Ref.ID,.I nP.Ref.Version,.I nP.Form],.agg [.I x8.ar.Time,.I x8.ar.Source,.I x8.ar.Seq,.I x8.Kind,.I x8.Item.ID,.I x8.Item.Version,.str x8.Item.bI,.ak 6 (x8.Item.aG.map aq.lv),.L x8.Item.aE,.I x8.Ref.ID,.I x8.Ref.Version,.I x8.Form]]++dv) R Dc R fv.rfl (Dd _ _ _ vY) (F9 R) ⟨R,?_⟩))⟩)⟩))))
    exact aF (kB R ⟨R,m0 (Wk.to (eQ ⟨R,R,R,R,R,R,R,R,R,R,R,trivial⟩) ⟨R,R,R,trivial⟩ (by simp [aV,LV.refs,LV.bK,LV.cells,c9,Env.args,Env.of,Env.put,Env.drop,eE,eK]) (aZ R))⟩)
   refine LH.cond (t:=(!gq)) R (fun iJ=>?_) (fun iJ=>?_)
   ·replace h:=aB h iJ
    obtain ⟨pY,xJ,h⟩:=ao h
    refine LH.aU [(0,.ak 12 (p0.map ax.lv)),(1,.fn dV da),(2,.fn ez dv),(8,.arr 117 (List.length (l4.set n3.toNat r9))),(9,.arr 120 (List.length (l5.set n3.toNat 1))),(10,.mp 121),(22,.ak 12 (p0.map ax.lv)),(23,.I (p0.length:Int)),(24,.I n3)] [(117,.arr 61 3 (List.map aL.lv (l4.set n3.toNat r9))),(120,.arr 3 1 (List.map LV.I (l5.set n3.toNat 1))),(121,.map 61 3 (ec aL.lv LV.I m6))] R (j0 R (bj R (sN (gS (f:=LV.I) cE aD ba R R R xJ (s_ (qd (f:=LV.I) (z':=1) R R R R aD ba R (dB xJ).2 R (s0 (Wk.to (eC R (eC R (eC R (eC R (eC (congrArg (LV.arr 120) (by simp)) (eC R (eC R (eC R (eC R eN))))))))) ⟨R,R,R,trivial⟩ (by simp [aV,LV.refs,LV.bK,LV.cells,c9,Env.args,Env.of,Env.put,Env.drop,eE,eK]) (aZ R))))))))) (aY (au (LH.aU [(0,.ak 12 (p0.map ax.lv)),(1,.fn dV da),(2,.fn ez dv),(8,.arr 117 (List.length (l4.set n3.toNat r9))),(9,.arr 120 (List.length (l5.set n3.toNat 1))),(10,.mp 121),(22,.ak 12 (p0.map ax.lv)),(23,.I (p0.length:Int)),(24,.I (i64 (n3+1)))] [(117,.arr 61 3 (List.map aL.lv (l4.set n3.toNat r9))),(120,.arr 3 1 (List.map LV.I (l5.set n3.toNat 1))),(121,.map 61 3 (ec aL.lv LV.I m6))] R (sN (cD R R (bj R (s0 (Wk.to (eQ ⟨R,R,R,R,R,R,R,R,R,trivial⟩) ⟨R,R,R,trivial⟩ (by simp [aV,LV.refs,LV.bK,LV.cells,c9,Env.args,Env.of,Env.put,Env.drop,eE,eK]) (aZ R)))))) ?_)))
    exact bh ⟨(i64 (n3+1)),(l4.set n3.toNat r9),(l5.set n3.toNat 1),m6,a7 ▸ h,R,R⟩ (Wk.to (eQ ⟨R,R,R,R,R,R,R,R,R,trivial⟩) ⟨R,R,R,trivial⟩ (by simp [aV,LV.refs,LV.bK,LV.cells,c9,Env.args,Env.of,Env.put,Env.drop,eE,eK]) (aZ R))
   replace h:=aA h iJ
   refine LH.skip (aY (au (LH.aU [(0,.ak 12 (p0.map ax.lv)),(1,.fn dV da),(2,.fn ez dv),(8,.arr 117 (List.length (l4.set n3.toNat r9))),(9,.arr 120 l5.length),(10,.mp 121),(22,.ak 12 (p0.map ax.lv)),(23,.I (p0.length:Int)),(24,.I (i64 (n3+1)))] [(117,.arr 61 3 (List.map aL.lv (l4.set n3.toNat r9))),(120,.arr 3 1 (l5.map LV.I)),(121,.map 61 3 (ec aL.lv LV.I m6))] R (sN (cD R R (bj R (s0 (Wk.to (eQ ⟨R,R,R,R,R,R,R,R,R,trivial⟩) ⟨R,R,R,trivial⟩ (by simp [aV,LV.refs,LV.bK,LV.cells,c9,Env.args,Env.of,Env.put,Env.drop,eE,eK]) (aZ R)))))) ?_)))
   exact bh ⟨(i64 (n3+1)),(l4.set n3.toNat r9),l5,m6,a7 ▸ h,R,R⟩ (Wk.to (eQ ⟨R,R,R,R,R,R,R,R,R,trivial⟩) ⟨R,R,R,trivial⟩ (by simp [aV,LV.refs,LV.bK,LV.cells,c9,Env.args,Env.of,Env.put,Env.drop,eE,eK]) (aZ R))
  replace h:=aA h jG
  refine LH.exit (cw (bY (bO (au (LH.wk ((Wk.trans (Wk.to (el:=[(8,.arr 117 l4.length),(9,.arr 120 l5.length)]) (ml:=[(117,.arr 61 3 (l4.map aL.lv)),(120,.arr 3 1 (l5.map LV.I))]) (eQ ⟨R,R,trivial⟩) ⟨R,R,trivial⟩ (by simp [aV,LV.refs,LV.bK,LV.cells,c9,Env.args,Env.of,Env.put,Env.drop,eE,eK]) (aZ R)) (Wk.trans (Wk.lk (f:=aL.lv) (fy:=[(8,.ak 3 (l4.map aL.lv)),(9,.arr 120 l5.length)]) 117 61 3 l4 R R (bM R) (fZ (fK R fN))) (Wk.trans (Wk.lk (f:=LV.I) (fy:=[(8,.ak 3 (l4.map aL.lv)),(9,.L l5)]) 120 3 1 l5 R R (bM R) (fK R (fZ fN))) (Wk.to (el:=[(8,.ak 3 (l4.map aL.lv)),(9,.L l5)]) (ml:=[]) (eQ ⟨R,R,trivial⟩) mN (by simp [aV,LV.refs,LV.bK,LV.cells,c9,Env.args,Env.of,Env.put,Env.drop,eE,eK]) (aZ R)))))) (LH.aj [(6,.ak 3 (l4.map aL.lv)),(7,.L l5)] [] R (fp R (fp R (qR R (qR R (s0 (Wk.to (eQ ⟨R,R,trivial⟩) mN (by simp [aV,LV.refs,LV.bK,LV.cells,c9,Env.args,Env.of,Env.put,Env.drop,eE,eK]) (aZ R))))))) (LH.ret ?_)))))))
  obtain rfl:=oI h
  exact aO (aT Tryz.results72) (bU R (bU R (bS ⟨aN mN,R,aZ R,(Sub.cX (aH (aH bn)))⟩)))
theorem P6 {p0:aL} {r:Bool} (h:Cf p0=some r):aM Tryz.prog 103 [.agg [.I p0.Time,.I p0.Source,.I p0.Seq]] (Mem.of []) (.bool r) (Mem.of []):=by
  unfold Cf at h
  refine br Tryz.func103 R (nT Tryz.ntmps103 R) (LH.wk (aS [(0,.agg [.I p0.Time,.I p0.Source,.I p0.Seq])] []) (LH.aj [(1,.ag [.I p0.Time,.I p0.Source,.I p0.Seq])] [] R (sB (c7 R R R R (b4 R zS))) (LH.aj [(2,.bool ((decide (p0.Time ≥ 0)) && ((decide (p0.Time≤1000000)) && ((decide (p0.Source ≥ 0)) && ((decide (p0.Source≤99)) && ((decide (p0.Seq ≥ 0)) && (decide (p0.Seq≤9999))))))))] [] R ?_ ?_)))
  ·refine sN (aw fa aD ba R R R (sN (bb R aD bQ (sN (pJ R R (bD R ?_))))))
   by_cases cA:(decide (p0.Time ≥ 0))=true
   ·refine sT R (cB cA) (aw fa aD ba R R R (sT R (cB cA) (bb R aD bQ (sT R (cB cA) (Ib R R (sN (aX (cB cA) (v:=(.bool _)) R (bD R ?_))))))))
    by_cases bP:(decide (p0.Time≤1000000))=true
    ·refine sT R (cB bP) (aw eu aD ba R R R (sT R (cB bP) (bb R aD bQ (sT R (cB bP) (pJ R R (sN (aX (cB bP) (v:=(.bool _)) R (bD R ?_))))))))
     by_cases bu:(decide (p0.Source ≥ 0))=true
     ·refine sT R (cB bu) (aw eu aD ba R R R (sT R (cB bu) (bb R aD bQ (sT R (cB bu) (Ib R R (sN (aX (cB bu) (v:=(.bool _)) R (bD R ?_))))))))
      by_cases bH:(decide (p0.Source≤99))=true
      ·refine sT R (cB bH) (aw dI aD ba R R R (sT R (cB bH) (bb R aD bQ (sT R (cB bH) (pJ R R (sN (aX (cB bH) (v:=(.bool _)) R (bD R ?_))))))))
       by_cases b3:(decide (p0.Seq ≥ 0))=true
       ·exact sT R (cB b3) (aw dI aD ba R R R (sT R (cB b3) (bb R aD bQ (sT R (cB b3) (Ib R R (sN (aX (cB b3) (v:=(.bool _)) R (b4 R (s0 (Wk.to (eC (cB (Eq.trans (Eq.trans (Eq.trans (Eq.trans (dK b3) (dK bH)) (dK bu)) (dK bP)) (dK cA))) eN) mN R (aZ R)))))))))))
       ·replace b3:=bF b3
        exact sF R R b3 (sF R R b3 (sF R R b3 (sN (aQ (cB b3) (v:=(.bool _)) R (b4 R (s0 (Wk.to (eC (cB (Eq.trans (Eq.trans (Eq.trans (Eq.trans (ks b3) (dK bH)) (dK bu)) (dK bP)) (dK cA))) eN) mN R (aZ R))))))))
      ·replace bH:=bF bH
       exact sF R R bH (sF R R bH (sF R R bH (sN (aQ (cB bH) (v:=(.bool _)) R (bD R (sF R R R (sF R R R (sF R R R (sN (aQ R (v:=(.bool _)) R (b4 R (s0 (Wk.to (eC (cB (Eq.trans (Eq.trans (Eq.trans (ks bH) (dK bu)) (dK bP)) (dK cA))) eN) mN R (aZ R))))))))))))))
     ·replace bu:=bF bu
      exact sF R R bu (sF R R bu (sF R R bu (sN (aQ (cB bu) (v:=(.bool _)) R (bD R (sF R R R (sF R R R (sF R R R (sN (aQ R (v:=(.bool _)) R (bD R (sF R R R (sF R R R (sF R R R (sN (aQ R (v:=(.bool _)) R (b4 R (s0 (Wk.to (eC (cB (Eq.trans (Eq.trans (ks bu) (dK bP)) (dK cA))) eN) mN R (aZ R))))))))))))))))))))
    ·replace bP:=bF bP
     exact sF R R bP (sF R R bP (sF R R bP (sN (aQ (cB bP) (v:=(.bool _)) R (bD R (sF R R R (sF R R R (sF R R R (sN (aQ R (v:=(.bool _)) R (bD R (sF R R R (sF R R R (sF R R R (sN (aQ R (v:=(.bool _)) R (bD R (sF R R R (sF R R R (sF R R R (sN (aQ R (v:=(.bool _)) R (b4 R (s0 (Wk.to (eC (cB (Eq.trans (ks bP) (dK cA))) eN) mN R (aZ R))))))))))))))))))))))))))
   ·replace cA:=bF cA
    exact sF R R cA (sF R R cA (sF R R cA (sN (aQ (cB cA) (v:=(.bool _)) R (bD R (sF R R R (sF R R R (sF R R R (sN (aQ R (v:=(.bool _)) R (bD R (sF R R R (sF R R R (sF R R R (sN (aQ R (v:=(.bool _)) R (bD R (sF R R R (sF R R R (sF R R R (sN (aQ R (v:=(.bool _)) R (bD R (sF R R R (sF R R R (sF R R R (sN (aQ R (v:=(.bool _)) R (b4 R (s0 (Wk.to (eC (cB (ks cA)) eN) mN R (aZ R))))))))))))))))))))))))))))))))
  refine LH.ret ?_
  obtain rfl:=oI h
  exact aO (aT Tryz.results103) (bU R (bS ⟨aN mN,R,aZ R,Sub.rfl⟩))
theorem lg {p0:Int} {r:Bool} (h:cmp_isNaN_int p0=some r):aM Tryz.prog 109 [.I p0] (Mem.of []) (.bool r) (Mem.of []):=by
  unfold cmp_isNaN_int at h
  refine br Tryz.func109 R (nT Tryz.ntmps109 R) (LH.wk (aS [(0,.I p0)] []) (LH.aj [(0,.I p0)] [] R (b4 R zS) (LH.aj [(2,.bool (p0 != p0))] [] R (bj R (bj R (sN (jR R R (b4 R zS))))) (LH.ret ?_))))
  obtain rfl:=oI h
  exact aO (aT Tryz.results109) (bU R (bS ⟨aN mN,R,aZ R,Sub.rfl⟩))
theorem df {p0:Int} {p1:Int} {r:Int} (h:cJ p0 p1=some r):aM Tryz.prog 97 [.I p0,.I p1] (Mem.of []) (.I r) (Mem.of []):=by
  unfold cJ at h
  refine br Tryz.func97 R (nT Tryz.ntmps97 R) (LH.wk (aS [(0,.I p0),(1,.I p1)] []) (LH.aj [(0,.I p0),(1,.I p1)] [] R (bo R zS) ?_))
  obtain ⟨r1,ee,h⟩:=ao h
  refine LH.aj [(0,.I p0),(1,.I p1),(5,.bool r1)] [] R (bj R (sN (dQ (args:=[.I p0]) R FD R (aH bn) (lg ee) R (b4 R zS)))) ?_
  obtain ⟨r2,fD,h⟩:=ao h
  refine LH.aj [(0,.I p0),(1,.I p1),(5,.bool r1),(6,.bool r2)] [] R (bj R (sN (dQ (args:=[.I p1]) R FD R (aH bn) (lg fD) R (b4 R zS)))) (LH.seq (LH.aj [(0,.I p0),(1,.I p1),(6,.bool r2),(11,.bool r1)] [] R (bD R zS) (LH.cond (t:=r1) R (fun iK=>?_) (fun iK=>?_))))
  ·replace h:=aB h iK
   refine LH.seq (LH.aj [(12,.bool r2)] [] R (bD R zS) (LH.cond (t:=r2) R (fun im=>?_) (fun im=>?_)))
   ·replace h:=aB h im
    refine LH.aj [(4,.I 0)] [] R (bo R zS) (LH.ret (aW (aW ?_)))
    obtain rfl:=oI h
    exact aO (aT Tryz.results97) (bU R (bS ⟨aN mN,R,aZ R,Sub.rfl⟩))
   replace h:=aA h im
   refine LH.skip (au (LH.aj [(4,.I (-1))] [] R (bo R zS) (LH.ret (aW ?_))))
   obtain rfl:=oI h
   exact aO (aT Tryz.results97) (bU R (bS ⟨aN mN,R,aZ R,Sub.rfl⟩))
  replace h:=aA h iK
  refine LH.skip (au (LH.wk (aS [(0,.I p0),(1,.I p1),(6,.bool r2)] []) (LH.seq (LH.aj [(0,.I p0),(1,.I p1),(13,.bool r2)] [] R (bD R zS) (LH.cond (t:=r2) R (fun jY=>?_) (fun jY=>?_))))))
  ·replace h:=aB h jY
   refine LH.aj [(4,.I 1)] [] R (bo R zS) (LH.ret (aW ?_))
   obtain rfl:=oI h
   exact aO (aT Tryz.results97) (bU R (bS ⟨aN mN,R,aZ R,Sub.rfl⟩))
  replace h:=aA h jY
  refine LH.skip (au (LH.wk (aS [(0,.I p0),(1,.I p1)] []) (LH.seq (LH.aj [(0,.I p0),(1,.I p1),(16,.bool (decide (p0<p1)))] [] R (bj R (bj R (sN (fi R R zS)))) (LH.cond (t:=(decide (p0<p1))) R (fun fP=>?_) (fun fP=>?_))))))
  ·replace h:=aB h fP
   refine LH.aj [(4,.I (-1))] [] R (bo R zS) (LH.ret (aW ?_))
   obtain rfl:=oI h
   exact aO (aT Tryz.results97) (bU R (bS ⟨aN mN,R,aZ R,Sub.rfl⟩))
  replace h:=aA h fP
  refine LH.skip (au (LH.wk (aS [(0,.I p0),(1,.I p1)] []) (LH.seq (LH.aj [(19,.bool (decide (p0 > p1)))] [] R (bj R (bj R (sN (iP R R zS)))) (LH.cond (t:=(decide (p0 > p1))) R (fun jG=>?_) (fun jG=>?_))))))
  ·replace h:=aB h jG
   refine LH.aj [(4,.I 1)] [] R (bo R zS) (LH.ret (aW ?_))
   obtain rfl:=oI h
   exact aO (aT Tryz.results97) (bU R (bS ⟨aN mN,R,aZ R,Sub.rfl⟩))
  replace h:=aA h jG
  refine LH.skip (au (LH.aj [(4,.I 0)] [] R (bo R zS) (LH.ret ?_)))
  obtain rfl:=oI h
  exact aO (aT Tryz.results97) (bU R (bS ⟨aN mN,R,aZ R,Sub.rfl⟩))
theorem kQ {F:Nat} {p0:List Int} {r:Int} (h:gO F p0=some r):aM Tryz.prog 105 [.L p0] (Mem.of []) (.I r) (Mem.of []):=by
  unfold gO at h
  refine br Tryz.func105 R (nT Tryz.ntmps105 R) (LH.wk (aS [(0,.L p0)] []) (LH.aj [(0,.L p0)] [] R (bo R zS) (LH.aj [(0,.L p0),(3,.I 0)] [] R (bo R zS) (LH.seq (LH.aj [(3,.I 0),(6,.L p0),(7,.I (p0.length:Int)),(8,.I 0)] [] R (fp R (sN (bW (f:=LV.I) cE R (bj R zS)))) (LH.block (LH.loop (fun n e m=>∃ (n1:Int),eO p0 n n1=some r∧e=Env.of [(3,.I 0),(6,.L p0),(7,.I (p0.length:Int)),(8,.I n1)]∧m=Mem.of []) F ⟨0,h,R,R⟩ ?_)))))))
  clear h
  rintro n e m ⟨n1,h,rfl,rfl⟩
  rcases n with _ | n
  · cases (show Option.none=some _ from h)
  obtain ⟨aJ,a7⟩:∃ f,f=eO p0 n:=⟨_,rfl⟩
  replace h:fx p0 aJ n1=some r:=a7 ▸ h
  unfold fx at h
  refine LH.aj [(3,.I 0),(6,.L p0),(7,.I (p0.length:Int)),(8,.I n1),(9,.bool (decide (n1<(p0.length:Int))))] [] R (sN (fi R R zS)) (LH.seq (LH.cond (t:=(decide (n1<(p0.length:Int)))) R (fun eZ=>?_) (fun eZ=>?_)))
  ·replace h:=aB h eZ
   refine LH.skip (au (LH.wk (aS [(3,.I 0),(6,.L p0),(7,.I (p0.length:Int)),(8,.I n1)] []) (LH.seq (LH.block ?_))))
   obtain ⟨x3,fz,h⟩:=ao h
   refine LH.aj [(3,.I 0),(5,.I x3),(6,.L p0),(7,.I (p0.length:Int)),(8,.I n1)] [] R (sN (eG (f:=LV.I) cE aD ba R R lY fz R (sN (bb R aD bQ (bo R zS))))) (LH.aj [(3,.I 0),(5,.I x3),(6,.L p0),(7,.I (p0.length:Int)),(8,.I n1),(14,.bool (x3 != 0))] [] R (bj R (bj R (sN (jR R R zS)))) (LH.cond (t:=(x3 != 0)) R (fun im=>?_) (fun im=>?_)))
   ·replace h:=aB h im
    refine LH.aj [(2,.I x3)] [] R (bj R (bo R zS)) (LH.ret (bB (aW (dF (bB (aW ?_))))))
    obtain rfl:=oI h
    exact aO (aT Tryz.results105) (bU R (bS ⟨aN mN,R,aZ R,Sub.rfl⟩))
   replace h:=aA h im
   refine LH.skip (aY (au (LH.aU [(3,.I 0),(6,.L p0),(7,.I (p0.length:Int)),(8,.I (i64 (n1+1)))] [] R (sN (cD R R (bj R zS))) ?_)))
   exact bh ⟨(i64 (n1+1)),a7 ▸ h,R,R⟩ (Wk.eq R R R R)
  replace h:=aA h eZ
  refine LH.exit (cw (bY (bO (au (LH.aj [(2,.I 0)] [] R (bj R (bo R zS)) (LH.ret ?_))))))
  obtain rfl:=oI h
  exact aO (aT Tryz.results105) (bU R (bS ⟨aN mN,R,aZ R,Sub.rfl⟩))
theorem JC {F:Nat} {p0:aL} {p1:aL} {r:Int} (h:Dk F p0 p1=some r):aM Tryz.prog 106 [.agg [.I p0.Time,.I p0.Source,.I p0.Seq],.agg [.I p1.Time,.I p1.Source,.I p1.Seq]] (Mem.of []) (.I r) (Mem.of []):=by
  unfold Dk at h
  refine br Tryz.func106 R (nT Tryz.ntmps106 R) (LH.wk (aS [(0,.agg [.I p0.Time,.I p0.Source,.I p0.Seq]),(1,.agg [.I p1.Time,.I p1.Source,.I p1.Seq])] []) (LH.aj [(2,.ag [.I p0.Time,.I p0.Source,.I p0.Seq]),(3,.ag [.I p1.Time,.I p1.Source,.I p1.Seq])] [] R (sB (c7 R R R R (sB (c7 R R R R (bo R zS))))) ?_))
  obtain ⟨r1,ee,h⟩:=ao h
  obtain ⟨r2,fD,h⟩:=ao h
  obtain ⟨r3,nW,h⟩:=ao h
  refine LH.di mixed [] [0,0,0,0,0,0,0,0,0,0,0,0,0] [(4,.I r3)] [] R R (by kernel_rfl) (aF (aw eu aD ba R R R ⟨R,aF (bb R aD bQ ⟨R,aF (aw eu aD ba R R R ⟨R,aF (bb R aD bQ ⟨R,aF (dQ (args:=[.I p0.Source,.I p1.Source]) R s8 R (aH (aH bn)) (df ee) R ⟨R,aF (aw dI aD ba R R R ⟨R,aF (bb R aD bQ ⟨R,aF (aw dI aD ba R R R ⟨R,aF (bb R aD bQ ⟨R,aF (dQ (args:=[.I p0.Seq,.I p1.Seq]) R s8 R (aH (aH bn)) (df fD) R ⟨R,aF (jZ (f:=LV.I) (ys:=[r1,r2]) cE qV ba R R R lY ⟨R,aF (dQ (args:=[.L [r1,r2]]) R AH R (aH bn) (kQ nW) R ⟨R,MB R zM⟩)⟩)⟩)⟩)⟩)⟩)⟩)⟩)⟩)⟩)⟩)⟩)) (LH.ret ?_)
  obtain rfl:=oI h
  exact aO (aT Tryz.results106) (bU R (bS ⟨aN mN,R,aZ R,Sub.rfl⟩))
theorem PQ {F:Nat} {p0:Int} {p1:Int} {c0:List aL} {r:Int} (h:DE F p0 p1 c0=some r):aM Tryz.prog 104 [.I p0,.I p1,.ag [.ak 3 (c0.map aL.lv)]] (Mem.of []) (.I r) (Mem.of []):=by
  unfold DE at h
  refine br Tryz.func104 R (nT Tryz.ntmps104 R) (LH.wk (aS [(0,.I p0),(1,.I p1),(2,.ag [.ak 3 (c0.map aL.lv)])] []) (LH.aj [(0,.I p0),(1,.I p1),(2,.ag [.ak 3 (c0.map aL.lv)])] [] R (bo R zS) ?_))
  obtain ⟨x1,My,h⟩:=ao h
  obtain ⟨x2,Ll,h⟩:=ao h
  obtain ⟨r3,nW,h⟩:=ao h
  obtain ⟨r4,C0,h⟩:=ao h
  obtain ⟨r5,Ay,h⟩:=ao h
  refine LH.di mixed [] [0,0,0,0,0,0,0,0,0,0,0,0,0,0,0] [(5,.I r5)] [] R R (by kernel_rfl) ?_ ?_
  ·exact aF (bb R na mL ⟨R,fF R (aF (eG (f:=aL.lv) eW cg b7 R R aL.ok My R ⟨R,aF (bd R cg gj b7 R R ⟨R,aF (bb R na mL ⟨R,fF R (aF (eG (f:=aL.lv) eW cg b7 R R aL.ok Ll R ⟨R,aF (bd R cg gj b7 R R ⟨R,aF (dQ (args:=[.agg [.I x1.Time,.I x1.Source,.I x1.Seq],.agg [.I x2.Time,.I x2.Source,.I x2.Seq]]) R FC R (aH (aH bn)) (JC nW) R ⟨R,fF R (fF R (aF (dQ (args:=[.I p0,.I p1]) R s8 R (aH (aH bn)) (df C0) R ⟨R,aF (jZ (f:=LV.I) (ys:=[r3,r4]) cE qV ba R R R lY ⟨R,aF (dQ (args:=[.L [r3,r4]]) R AH R (aH bn) (kQ Ay) R ⟨R,MB R zM⟩)⟩)⟩)))⟩)⟩)⟩))⟩)⟩)⟩))⟩)
  refine LH.ret ?_
  obtain rfl:=oI h
  exact aO (aT Tryz.results104) (bU R (bS ⟨aN mN,R,aZ R,Sub.rfl⟩))
theorem P1 {F:Nat} {p0:List aL} {p1:List Int} {r:List ej} (h:Ce F p0 p1=some r):aM Tryz.prog 85 [.ak 3 (p0.map aL.lv),.L p1] (Mem.of []) (.ak 2 (r.map ej.lv)) (Mem.of []):=by
  unfold Ce at h
  refine br Tryz.func85 R (nT Tryz.ntmps85 R) (LH.wk (aS [(0,.ak 3 (p0.map aL.lv)),(1,.L p1)] []) (LH.aj [(1,.L p1),(2,.ag [.ak 3 (p0.map aL.lv)])] [] R (sB (c7 R R R R (kX R zS))) (LH.aj [(1,.L p1),(2,.ag [.ak 3 (p0.map aL.lv)]),(5,.nil)] [] R (kX R zS) (LH.seq (LH.aj [(1,.L p1),(2,.ag [.ak 3 (p0.map aL.lv)]),(5,.nil),(13,.ak 3 (p0.map aL.lv)),(14,.I (p0.length:Int)),(15,.I 0)] [] R (sN (bb R na mL (sN (bW (f:=aL.lv) eW R (bj R zS))))) (LH.block (LH.wk ((Wk.trans (aS [(1,.L p1),(2,.ag [.ak 3 (p0.map aL.lv)]),(5,.nil),(13,.ak 3 (p0.map aL.lv)),(14,.I (p0.length:Int)),(15,.I 0)] []) (Wk.trans (aS [(1,.L p1),(2,.ag [.ak 3 (p0.map aL.lv)]),(5,.nil),(13,.ak 3 (p0.map aL.lv)),(14,.I (p0.length:Int)),(15,.I 0)] []) (Wk.trans (Wk.tt (fy:=[(1,.L p1),(2,.ag [.ak 3 (p0.map aL.lv)]),(5,.arr 125 (List.length ([]:List Int))),(13,.ak 3 (p0.map aL.lv)),(14,.I (p0.length:Int)),(15,.I 0)]) 125 3 1 R R (wK (wK (wO (wK (wK (wK wN))))))) (aS [(1,.L p1),(2,.ag [.ak 3 (p0.map aL.lv)]),(5,.arr 125 (List.length ([]:List Int))),(13,.ak 3 (p0.map aL.lv)),(14,.I (p0.length:Int)),(15,.I 0)] [(125,.arr 3 1 (List.map LV.I ([]:List Int)))]))))) (LH.loop (fun n e m=>∃ (n1:Int) (l2:List Int),Dz F p0 p1 n n1 l2=some r∧e=Env.of [(1,.L p1),(2,.ag [.ak 3 (p0.map aL.lv)]),(5,.arr 125 l2.length),(13,.ak 3 (p0.map aL.lv)),(14,.I (p0.length:Int)),(15,.I n1)]∧m=Mem.of [(125,.arr 3 1 (l2.map LV.I))]) F ⟨0,([]:List Int),h,R,R⟩ ?_))))))))
  clear h
  rintro n e m ⟨n1,l2,h,rfl,rfl⟩
  rcases n with _ | n
  · cases (show Option.none=some _ from h)
  obtain ⟨aJ,a7⟩:∃ f,f=Dz F p0 p1 n:=⟨_,rfl⟩
  replace h:GJ F p0 p1 aJ n1 l2=some r:=a7 ▸ h
  unfold GJ at h
  refine LH.aj [(1,.L p1),(2,.ag [.ak 3 (p0.map aL.lv)]),(5,.arr 125 l2.length),(13,.ak 3 (p0.map aL.lv)),(14,.I (p0.length:Int)),(15,.I n1),(16,.bool (decide (n1<(p0.length:Int))))] [(125,.arr 3 1 (l2.map LV.I))] R (sN (fi R R zS)) (LH.seq (LH.cond (t:=(decide (n1<(p0.length:Int)))) R (fun iK=>?_) (fun iK=>?_)))
  ·replace h:=aB h iK
   refine LH.skip (au (LH.wk (aS [(1,.L p1),(2,.ag [.ak 3 (p0.map aL.lv)]),(5,.arr 125 l2.length),(13,.ak 3 (p0.map aL.lv)),(14,.I (p0.length:Int)),(15,.I n1)] [(125,.arr 3 1 (l2.map LV.I))]) (LH.seq (LH.block ?_))))
   obtain ⟨x4,C2,h⟩:=ao h
   refine LH.aj [(1,.L p1),(2,.ag [.ak 3 (p0.map aL.lv)]),(5,.arr 125 l2.length),(6,.I n1),(7,.ag [.I x4.Time,.I x4.Source,.I x4.Seq]),(13,.ak 3 (p0.map aL.lv)),(14,.I (p0.length:Int)),(15,.I n1)] [(125,.arr 3 1 (l2.map LV.I))] R (bj R (sN (eG (f:=aL.lv) eW cg b7 R R aL.ok C2 R (sN (bd R cg gj b7 R R (sN (iE (id:=107) R uF R R (bo R (s_ (cG R R R cg b7 R R R (s0 ((Wk.trans (aS [(1,.L p1),(2,.ag [.ak 3 (p0.map aL.lv)]),(5,.arr 125 l2.length),(6,.I n1),(7,.ptr 107 0),(13,.ak 3 (p0.map aL.lv)),(14,.I (p0.length:Int)),(15,.I n1)] [(107,.box [.I x4.Time,.I x4.Source,.I x4.Seq]),(125,.arr 3 1 (l2.map LV.I))]) (Wk.trans (Wk.bg 107 [.I x4.Time,.I x4.Source,.I x4.Seq] R R R (bM R)) (Wk.eq R R R R))))))))))))))) ?_
   obtain ⟨r5,Ay,h⟩:=ao h
   refine LH.aj [(1,.L p1),(2,.ag [.ak 3 (p0.map aL.lv)]),(5,.arr 125 l2.length),(6,.I n1),(13,.ak 3 (p0.map aL.lv)),(14,.I (p0.length:Int)),(15,.I n1),(21,.bool r5)] [(125,.arr 3 1 (l2.map LV.I))] R (sN (bd R cg gj b7 R R (sN (dQ (args:=[.agg [.I x4.Time,.I x4.Source,.I x4.Seq]]) R Lz R (aH bn) (P6 Ay) R zS)))) (LH.cond (t:=r5) R (fun fP=>?_) (fun fP=>?_))
   ·replace h:=aB h fP
    obtain ⟨v7,Wa,h⟩:=ao h
    refine LH.aU [(1,.L p1),(2,.ag [.ak 3 (p0.map aL.lv)]),(5,.arr 125 v7.length),(13,.ak 3 (p0.map aL.lv)),(14,.I (p0.length:Int)),(15,.I n1)] [(125,.arr 3 1 (v7.map LV.I))] R (j0 R (bj R (sN (jZ (f:=LV.I) (ys:=[n1]) cE qV ba R R R lY (sN (nw (f:=LV.I) cE qV ba R R (bM R) R Wa (nM R zS))))))) (aY (au (LH.aU [(1,.L p1),(2,.ag [.ak 3 (p0.map aL.lv)]),(5,.arr 125 v7.length),(13,.ak 3 (p0.map aL.lv)),(14,.I (p0.length:Int)),(15,.I (i64 (n1+1)))] [(125,.arr 3 1 (v7.map LV.I))] R (sN (cD R R (bj R zS))) ?_)))
    exact bh ⟨(i64 (n1+1)),v7,a7 ▸ h,R,R⟩ (Wk.eq R R R R)
   replace h:=aA h fP
   refine LH.skip (aY (au (LH.aU [(1,.L p1),(2,.ag [.ak 3 (p0.map aL.lv)]),(5,.arr 125 l2.length),(13,.ak 3 (p0.map aL.lv)),(14,.I (p0.length:Int)),(15,.I (i64 (n1+1)))] [(125,.arr 3 1 (l2.map LV.I))] R (sN (cD R R (bj R zS))) ?_)))
   exact bh ⟨(i64 (n1+1)),l2,a7 ▸ h,R,R⟩ (Wk.eq R R R R)
  replace h:=aA h iK
  refine LH.exit (cw (bY (bO (au ?_))))
  obtain ⟨l8,Ut,h⟩:=ao h
  refine LH.aj [(1,.L p1),(2,.ag [.ak 3 (p0.map aL.lv)]),(5,.L l8)] [] R (j0 R (sN (Pq (vs:=[.ag [.ak 3 (p0.map aL.lv)]]) R (sN (eX (args:=[.arr 125 l2.length,.fn 104 [.ag [.ak 3 (p0.map aL.lv)]]]) (ml:=[(125,.arr 3 1 (l2.map LV.I))]) (de:=[(125,.arr 3 1 (l8.map LV.I))]) R Jr R (aH (aH bn)) (y5 Tryz.JT R LA R (fun _ _ _ h=>PQ h) 125 3 Ut) (mC R mN) (cn R cz) R (s0 ((Wk.trans (Wk.to (el:=[(1,.L p1),(2,.ag [.ak 3 (p0.map aL.lv)]),(5,.arr 125 l8.length)]) (ml:=[(125,.arr 3 1 (l8.map LV.I))]) (eC R (eC R (eC (congrArg (LV.arr 125) (vv Ut)) eN))) ⟨R,trivial⟩ R (aZ R)) (Wk.trans (Wk.lk (f:=LV.I) (fy:=[(1,.L p1),(2,.ag [.ak 3 (p0.map aL.lv)]),(5,.L l8)]) 125 3 1 l8 R R (bM R) (fK R (fK R (fZ fN)))) (Wk.eq R R R R)))))))))) (LH.aj [(1,.L p1),(2,.ag [.ak 3 (p0.map aL.lv)]),(5,.L l8),(8,.nil)] [] R (kX R zS) (LH.seq (LH.aj [(1,.L p1),(2,.ag [.ak 3 (p0.map aL.lv)]),(8,.nil),(30,.L l8),(31,.I (l8.length:Int)),(32,.I 0)] [] R (fp R (sN (bW (f:=LV.I) cE R (bj R zS)))) (LH.block (LH.wk ((Wk.trans (aS [(1,.L p1),(2,.ag [.ak 3 (p0.map aL.lv)]),(8,.nil),(30,.L l8),(31,.I (l8.length:Int)),(32,.I 0)] []) (Wk.trans (aS [(1,.L p1),(2,.ag [.ak 3 (p0.map aL.lv)]),(8,.nil),(30,.L l8),(31,.I (l8.length:Int)),(32,.I 0)] []) (Wk.trans (Wk.tt (fy:=[(1,.L p1),(2,.ag [.ak 3 (p0.map aL.lv)]),(8,.arr 161 (List.length ([]:List ej))),(30,.L l8),(31,.I (l8.length:Int)),(32,.I 0)]) 161 137 2 R R (wK (wK (wO (wK (wK (wK wN))))))) (aS [(1,.L p1),(2,.ag [.ak 3 (p0.map aL.lv)]),(8,.arr 161 (List.length ([]:List ej))),(30,.L l8),(31,.I (l8.length:Int)),(32,.I 0)] [(161,.arr 137 2 (List.map ej.lv ([]:List ej)))]))))) (LH.loop (fun n e m=>∃ (n9:Int) (gB:List ej),DA F p0 p1 l8 n n9 gB=some r∧e=Env.of [(1,.L p1),(2,.ag [.ak 3 (p0.map aL.lv)]),(8,.arr 161 gB.length),(30,.L l8),(31,.I (l8.length:Int)),(32,.I n9)]∧m=Mem.of [(161,.arr 137 2 (gB.map ej.lv))]) F ⟨0,([]:List ej),h,R,R⟩ ?_))))))
  clear h
  rintro n e m ⟨n9,gB,h,rfl,rfl⟩
  rcases n with _ | n
  · cases (show Option.none=some _ from h)
  obtain ⟨fo,eB⟩:∃ f,f=DA F p0 p1 l8 n:=⟨_,rfl⟩
  replace h:GK F p0 p1 l8 fo n9 gB=some r:=eB ▸ h
  unfold GK at h
  refine LH.aj [(1,.L p1),(2,.ag [.ak 3 (p0.map aL.lv)]),(8,.arr 161 gB.length),(30,.L l8),(31,.I (l8.length:Int)),(32,.I n9),(33,.bool (decide (n9<(l8.length:Int))))] [(161,.arr 137 2 (gB.map ej.lv))] R (sN (fi R R zS)) (LH.seq (LH.cond (t:=(decide (n9<(l8.length:Int)))) R (fun iI=>?_) (fun iI=>?_)))
  ·replace h:=aB h iI
   refine LH.skip (au (LH.wk (aS [(1,.L p1),(2,.ag [.ak 3 (p0.map aL.lv)]),(8,.arr 161 gB.length),(30,.L l8),(31,.I (l8.length:Int)),(32,.I n9)] [(161,.arr 137 2 (gB.map ej.lv))]) (LH.seq (LH.block ?_))))
   obtain ⟨gC,pF,h⟩:=ao h
   refine LH.aj [(1,.L p1),(2,.ag [.ak 3 (p0.map aL.lv)]),(8,.arr 161 gB.length),(10,.I gC),(30,.L l8),(31,.I (l8.length:Int)),(32,.I n9)] [(161,.arr 137 2 (gB.map ej.lv))] R (sN (eG (f:=LV.I) cE aD ba R R lY pF R (sN (bb R aD bQ (bo R zS))))) (LH.aj [(1,.L p1),(2,.ag [.ak 3 (p0.map aL.lv)]),(8,.arr 161 gB.length),(10,.I gC),(11,.I (i64 ((gB.length:Int) - 1))),(30,.L l8),(31,.I (l8.length:Int)),(32,.I n9)] [(161,.arr 137 2 (gB.map ej.lv))] R (j0 R (sN (FW (f:=ej.lv) qU R R (sN (iA R R (bo R zS)))))) (LH.seq ?_))
   obtain ⟨IK,hv,h⟩:=ao h
   refine LH.di mixed [] [0,0,0,0,0,0,1,1,1,0,0,0,0,0,0,0,0,0] [(1,.L p1),(2,.ag [.ak 3 (p0.map aL.lv)]),(8,.arr 161 gB.length),(10,.I gC),(11,.I (i64 ((gB.length:Int) - 1))),(30,.L l8),(31,.I (l8.length:Int)),(32,.I n9),(56,.bool IK)] [(161,.arr 137 2 (gB.map ej.lv))] R R (by kernel_rfl) ?_ ?_
   ·refine fF R (aF (fi R R ⟨R,iO R ?_⟩))
    by_cases bR:(decide ((i64 ((gB.length:Int) - 1))<0))=true
    ·replace hv:=aB hv bR
     refine mF R R bR (mF R R bR (mF R R bR (mF R R bR (mF R R bR (mF R R bR (mF R R bR (mF R R bR (mF R R bR (mF R R bR (mF R R bR (mF R R bR (mF R R bR (mF R R bR (aF (aX (cB bR) (v:=(.bool _)) R ⟨R,?_⟩)))))))))))))))
     obtain rfl:=oI hv
     exact zM
    ·replace bR:=bF bR
     replace hv:=aA hv bR
     refine mT R (cB bR) (aF (bb R na mL ⟨R,mT R (cB bR) (Pk R (mT R (cB bR) (fF R ?_)))⟩))
     obtain ⟨Cn,wb,hv⟩:=ao hv
     refine mT R (cB bR) (Pl (gS (f:=ej.lv) qU vy qW R R R wb ⟨R,mT R (cB bR) (Pl (Ia (f:=ej.lv) rS aD ba R R R ⟨R,mT R (cB bR) (Pl (we (f:=ej.lv) R R (dB wb).2 R R R aD bQ ⟨R,?_⟩))⟩))⟩))
     obtain ⟨pY,xJ,hv⟩:=ao hv
     refine mT R (cB bR) (aF (eG (f:=aL.lv) eW cg b7 R R aL.ok xJ R ⟨R,mT R (cB bR) (aF (bd R cg gj b7 R R ⟨R,mT R (cB bR) (aF (bb R na mL ⟨R,mT R (cB bR) (fF R ?_)⟩))⟩))⟩))
     obtain ⟨IL,Lj,hv⟩:=ao hv
     refine mT R (cB bR) (aF (eG (f:=aL.lv) eW cg b7 R R aL.ok Lj R ⟨R,mT R (cB bR) (aF (bd R cg gj b7 R R ⟨R,?_⟩))⟩))
     obtain ⟨qN,Fi,hv⟩:=ao hv
     refine mT R (cB bR) (aF (dQ (args:=[.agg [.I pY.Time,.I pY.Source,.I pY.Seq],.agg [.I IL.Time,.I IL.Source,.I IL.Seq]]) R FC R (aH (aH bn)) (JC Fi) R ⟨R,mT R (cB bR) (aF (jR R R ⟨R,aF (aQ (cB bR) (v:=(.bool _)) R ⟨R,?_⟩)⟩))⟩))
     obtain rfl:=oI hv
     exact zM
   clear hv
   refine LH.cond (t:=IK) R (fun ky=>?_) (fun ky=>?_)
   ·replace h:=aB h ky
    obtain ⟨v21,SS,h⟩:=ao h
    refine LH.aj [(1,.L p1),(2,.ag [.ak 3 (p0.map aL.lv)]),(8,.arr 161 v21.length),(30,.L l8),(31,.I (l8.length:Int)),(32,.I n9)] [(161,.arr 137 2 (v21.map ej.lv))] R (j0 R (bj R (sN (fU (vs:=[(0,.I gC),(1,.bool false)]) QA JZ R (lf rS ba aD R R R (lf wM lC jC R R R fT)) (sN (jZ (f:=ej.lv) (ys:=[(ej.mk gC false)]) qU JY qW R R R ej.ok (sN (nw (f:=ej.lv) qU JY qW R R (bM R) R SS (nM R zS))))))))) (LH.exit (cw (bO (au (LH.aU [(1,.L p1),(2,.ag [.ak 3 (p0.map aL.lv)]),(8,.arr 161 v21.length),(30,.L l8),(31,.I (l8.length:Int)),(32,.I (i64 (n9+1)))] [(161,.arr 137 2 (v21.map ej.lv))] R (sN (cD R R (bj R zS))) ?_)))))
    exact bh ⟨(i64 (n9+1)),v21,eB ▸ h,R,R⟩ (Wk.eq R R R R)
   replace h:=aA h ky
   refine LH.skip (au ?_)
   obtain ⟨J1,HZ,h⟩:=ao h
   refine LH.aj [(1,.L p1),(2,.ag [.ak 3 (p0.map aL.lv)]),(8,.arr 161 gB.length),(10,.I gC),(11,.I (i64 ((gB.length:Int) - 1))),(12,.I J1.first),(30,.L l8),(31,.I (l8.length:Int)),(32,.I n9)] [(161,.arr 137 2 (gB.map ej.lv))] R (j0 R (bj R (sN (gS (f:=ej.lv) qU vy qW R R R HZ (sN (Ia (f:=ej.lv) rS aD ba R R R (sN (we (f:=ej.lv) R R (dB HZ).2 R R R aD bQ (bo R zS))))))))) ?_
   obtain ⟨Ri,hv,h⟩:=ao h
   refine LH.di mixed [] [0,0,0,0,0,0,0,0,0,0,0,0,0,0,0,0,0,0,0,0] [(1,.L p1),(2,.ag [.ak 3 (p0.map aL.lv)]),(8,.arr 161 gB.length),(11,.I (i64 ((gB.length:Int) - 1))),(30,.L l8),(31,.I (l8.length:Int)),(32,.I n9),(86,.bool Ri)] [(161,.arr 137 2 (gB.map ej.lv))] R R (by kernel_rfl) ?_ ?_
   ·refine aF (bb R na mL ⟨R,fF R ?_⟩)
    obtain ⟨MF,H0,hv⟩:=ao hv
    refine aF (eG (f:=aL.lv) eW cg b7 R R aL.ok H0 R ⟨R,aF (bd R cg gj b7 R R ⟨R,aF (bb R na mL ⟨R,fF R ?_⟩)⟩)⟩)
    obtain ⟨Mh,Lm,hv⟩:=ao hv
    refine aF (eG (f:=aL.lv) eW cg b7 R R aL.ok Lm R ⟨R,aF (bd R cg gj b7 R R ⟨R,aF (Ic R R (Et MF Mh) ⟨R,iO R ?_⟩)⟩)⟩)
    by_cases jP:(!(decide (MF=Mh)))=true
    ·replace hv:=aB hv jP
     refine mF R R jP (mF R R jP (mF R R jP (mF R R jP (mF R R jP (mF R R jP (mF R R jP (mF R R jP (mF R R jP (aF (aX (cB jP) (v:=(.bool _)) R ⟨R,?_⟩))))))))))
     obtain rfl:=oI hv
     exact zM
    ·replace jP:=bF jP
     replace hv:=aA hv jP
     refine mT R (cB jP) (rM R (mT R (cB jP) (fF R ?_)))
     obtain ⟨Rm,H2,hv⟩:=ao hv
     refine mT R (cB jP) (aF (eG (f:=LV.I) cE aD ba R R lY H2 R ⟨R,mT R (cB jP) (aF (bb R aD bQ ⟨R,mT R (cB jP) (rM R (mT R (cB jP) (fF R ?_)))⟩))⟩))
     obtain ⟨MG,Ln,hv⟩:=ao hv
     refine mT R (cB jP) (aF (eG (f:=LV.I) cE aD ba R R lY Ln R ⟨R,mT R (cB jP) (aF (bb R aD bQ ⟨R,mT R (cB jP) (aF (jR R R ⟨R,aF (aQ (cB jP) (v:=(.bool _)) R ⟨R,?_⟩)⟩))⟩))⟩))
     obtain rfl:=oI hv
     exact zM
   clear hv
   refine LH.cond (t:=Ri) R (fun pt=>?_) (fun pt=>?_)
   ·replace h:=aB h pt
    obtain ⟨Ee,H3,h⟩:=ao h
    refine LH.aU [(1,.L p1),(2,.ag [.ak 3 (p0.map aL.lv)]),(8,.arr 161 (List.length (gB.set ((i64 ((gB.length:Int) - 1)).toNat) (ej.mk Ee.first true)))),(30,.L l8),(31,.I (l8.length:Int)),(32,.I n9)] [(161,.arr 137 2 (List.map ej.lv (gB.set ((i64 ((gB.length:Int) - 1)).toNat) (ej.mk Ee.first true))))] R (j0 R (bj R (sN (gS (f:=ej.lv) qU vy qW R R R H3 (sN (Ia (f:=ej.lv) wM jC lC R R R (s_ (qd (f:=ej.lv) (z':=(ej.mk Ee.first true)) R R R R jC lC R (dB H3).2 R (s0 (Wk.to (eC R (eC R (eC (congrArg (LV.arr 161) (by simp)) (eC R (eC R (eC R eN)))))) ⟨R,trivial⟩ R (aZ R))))))))))) (aY (au (LH.aU [(1,.L p1),(2,.ag [.ak 3 (p0.map aL.lv)]),(8,.arr 161 (List.length (gB.set ((i64 ((gB.length:Int) - 1)).toNat) (ej.mk Ee.first true)))),(30,.L l8),(31,.I (l8.length:Int)),(32,.I (i64 (n9+1)))] [(161,.arr 137 2 (List.map ej.lv (gB.set ((i64 ((gB.length:Int) - 1)).toNat) (ej.mk Ee.first true))))] R (sN (cD R R (bj R zS))) ?_)))
    exact bh ⟨(i64 (n9+1)),(gB.set ((i64 ((gB.length:Int) - 1)).toNat) (ej.mk Ee.first true)),eB ▸ h,R,R⟩ (Wk.eq R R R R)
   replace h:=aA h pt
   refine LH.skip (aY (au (LH.aU [(1,.L p1),(2,.ag [.ak 3 (p0.map aL.lv)]),(8,.arr 161 gB.length),(30,.L l8),(31,.I (l8.length:Int)),(32,.I (i64 (n9+1)))] [(161,.arr 137 2 (gB.map ej.lv))] R (sN (cD R R (bj R zS))) ?_)))
   exact bh ⟨(i64 (n9+1)),gB,eB ▸ h,R,R⟩ (Wk.eq R R R R)
  replace h:=aA h iI
  refine LH.exit (cw (bY (bO (au (LH.wk ((Wk.trans (aS [(8,.arr 161 gB.length)] [(161,.arr 137 2 (gB.map ej.lv))]) (Wk.trans (Wk.lk (f:=ej.lv) (fy:=[(8,.ak 2 (gB.map ej.lv))]) 161 137 2 gB R R (bM R) (fZ fN)) (aS [(8,.ak 2 (gB.map ej.lv))] [])))) (LH.aj [(4,.ak 2 (gB.map ej.lv))] [] R (fp R (qR R zS)) (LH.ret ?_)))))))
  obtain rfl:=oI h
  exact aO (aT Tryz.results85) (bU R (bS ⟨aN mN,R,aZ R,Sub.rfl⟩))
theorem PV {F:Nat} {p0:aL} {p1:aL} {r:Int} (h:yA F p0 p1=some r):aM Tryz.prog 88 [.agg [.I p0.Time,.I p0.Source,.I p0.Seq],.agg [.I p1.Time,.I p1.Source,.I p1.Seq]] (Mem.of []) (.I r) (Mem.of []):=by
  unfold yA at h
  refine br Tryz.func88 R (nT Tryz.ntmps88 R) (LH.wk (aS [(0,.agg [.I p0.Time,.I p0.Source,.I p0.Seq]),(1,.agg [.I p1.Time,.I p1.Source,.I p1.Seq])] []) (LH.aj [(2,.ag [.I p0.Time,.I p0.Source,.I p0.Seq]),(3,.ag [.I p1.Time,.I p1.Source,.I p1.Seq])] [] R (sB (c7 R R R R (sB (c7 R R R R (bo R zS))))) ?_))
  obtain ⟨r1,ee,h⟩:=ao h
  obtain ⟨r2,fD,h⟩:=ao h
  obtain ⟨r3,nW,h⟩:=ao h
  obtain ⟨r4,C0,h⟩:=ao h
  refine LH.di mixed [] [0,0,0,0,0,0,0,0,0,0,0,0,0,0,0,0,0,0] [(4,.I r4)] [] R R (by kernel_rfl) ?_ ?_
  ·exact aF (aw fa aD ba R R R ⟨R,aF (bb R aD bQ ⟨R,aF (aw fa aD ba R R R ⟨R,aF (bb R aD bQ ⟨R,aF (dQ (args:=[.I p0.Time,.I p1.Time]) R s8 R (aH (aH bn)) (df ee) R ⟨R,aF (aw eu aD ba R R R ⟨R,aF (bb R aD bQ ⟨R,aF (aw eu aD ba R R R ⟨R,aF (bb R aD bQ ⟨R,aF (dQ (args:=[.I p0.Source,.I p1.Source]) R s8 R (aH (aH bn)) (df fD) R ⟨R,aF (aw dI aD ba R R R ⟨R,aF (bb R aD bQ ⟨R,aF (aw dI aD ba R R R ⟨R,aF (bb R aD bQ ⟨R,aF (dQ (args:=[.I p0.Seq,.I p1.Seq]) R s8 R (aH (aH bn)) (df nW) R ⟨R,aF (jZ (f:=LV.I) (ys:=[r1,r2,r3]) cE qV ba R R R lY ⟨R,aF (dQ (args:=[.L [r1,r2,r3]]) R AH R (aH bn) (kQ C0) R ⟨R,MB R zM⟩)⟩)⟩)⟩)⟩)⟩)⟩)⟩)⟩)⟩)⟩)⟩)⟩)⟩)⟩)⟩)⟩)
  refine LH.ret ?_
  obtain rfl:=oI h
  exact aO (aT Tryz.results88) (bU R (bS ⟨aN mN,R,aZ R,Sub.rfl⟩))
theorem PA {F:Nat} {p0:Int} {p1:Int} {c0:List aL} {r:Int} (h:Dt F p0 p1 c0=some r):aM Tryz.prog 87 [.I p0,.I p1,.ag [.ak 3 (c0.map aL.lv)]] (Mem.of []) (.I r) (Mem.of []):=by
  unfold Dt at h
  refine br Tryz.func87 R (nT Tryz.ntmps87 R) (LH.wk (aS [(0,.I p0),(1,.I p1),(2,.ag [.ak 3 (c0.map aL.lv)])] []) (LH.aj [(0,.I p0),(1,.I p1),(2,.ag [.ak 3 (c0.map aL.lv)])] [] R (bo R zS) ?_))
  obtain ⟨x1,My,h⟩:=ao h
  obtain ⟨x2,Ll,h⟩:=ao h
  obtain ⟨r3,nW,h⟩:=ao h
  refine LH.di mixed [] [0,0,0,0,0,0,0,0,0,0] [(5,.I r3)] [] R R (by kernel_rfl) (aF (bb R na mL ⟨R,fF R (aF (eG (f:=aL.lv) eW cg b7 R R aL.ok My R ⟨R,aF (bd R cg gj b7 R R ⟨R,aF (bb R na mL ⟨R,fF R (aF (eG (f:=aL.lv) eW cg b7 R R aL.ok Ll R ⟨R,aF (bd R cg gj b7 R R ⟨R,aF (dQ (args:=[.agg [.I x1.Time,.I x1.Source,.I x1.Seq],.agg [.I x2.Time,.I x2.Source,.I x2.Seq]]) R O5 R (aH (aH bn)) (PV nW) R ⟨R,MB R zM⟩)⟩)⟩))⟩)⟩)⟩))⟩)) (LH.ret ?_)
  obtain rfl:=oI h
  exact aO (aT Tryz.results87) (bU R (bS ⟨aN mN,R,aZ R,Sub.rfl⟩))
theorem PI {F:Nat} {p0:List aL} {p1:List Int} {r:List Int × Int} (h:Dy F p0 p1=some r):aM Tryz.prog 73 [.ak 3 (p0.map aL.lv),.L p1] (Mem.of []) (.cX [.L r.1,.I r.2]) (Mem.of []):=by
  unfold Dy at h
  refine br Tryz.func73 R (nT Tryz.ntmps73 R) (LH.wk (aS [(0,.ak 3 (p0.map aL.lv)),(1,.L p1)] []) (LH.aj [(1,.L p1),(2,.ag [.ak 3 (p0.map aL.lv)])] [] R (sB (c7 R R R R (kX R (bo R zS)))) (LH.seq (LH.aj [(1,.L p1),(2,.ag [.ak 3 (p0.map aL.lv)]),(13,.bool ((p0.length:Int) != (p1.length:Int)))] [] R (sN (bb R na mL (sN (bW (f:=aL.lv) eW R (fp R (sN (bW (f:=LV.I) cE R (sN (jR R R zS))))))))) (LH.cond (t:=((p0.length:Int) != (p1.length:Int))) R (fun jF=>?_) (fun jF=>?_))))))
  ·replace h:=aB h jF
   refine LH.aj [(4,.nil),(5,.I 1)] [] R (kX R (bo R zS)) (LH.ret (aW ?_))
   obtain rfl:=oI h
   exact aO (aT Tryz.results73) (bU R (bU R (bS ⟨aN mN,R,aZ R,(Sub.cX (oV (aH bn)))⟩)))
  replace h:=aA h jF
  refine LH.skip (au (LH.aj [(1,.L p1),(2,.ag [.ak 3 (p0.map aL.lv)]),(6,.nil)] [] R (kX R zS) (LH.seq ?_)))
  obtain ⟨r2,fD,h⟩:=ao h
  refine LH.aj [(2,.ag [.ak 3 (p0.map aL.lv)]),(6,.nil),(16,.ak 2 (r2.map ej.lv)),(17,.I (r2.length:Int)),(18,.I 0)] [] R (sN (bb R na mL (fp R (sN (dQ (args:=[.ak 3 (p0.map aL.lv),.L p1]) R O3 R (aH (aH bn)) (P1 fD) R (sN (bW (f:=ej.lv) qU R (bj R zS)))))))) (LH.block (LH.wk ((Wk.trans (aS [(2,.ag [.ak 3 (p0.map aL.lv)]),(6,.nil),(16,.ak 2 (r2.map ej.lv)),(17,.I (r2.length:Int)),(18,.I 0)] []) (Wk.trans (aS [(2,.ag [.ak 3 (p0.map aL.lv)]),(6,.nil),(16,.ak 2 (r2.map ej.lv)),(17,.I (r2.length:Int)),(18,.I 0)] []) (Wk.trans (Wk.tt (fy:=[(2,.ag [.ak 3 (p0.map aL.lv)]),(6,.arr 129 (List.length ([]:List Int))),(16,.ak 2 (r2.map ej.lv)),(17,.I (r2.length:Int)),(18,.I 0)]) 129 3 1 R R (wK (wO (wK (wK (wK wN)))))) (aS [(2,.ag [.ak 3 (p0.map aL.lv)]),(6,.arr 129 (List.length ([]:List Int))),(16,.ak 2 (r2.map ej.lv)),(17,.I (r2.length:Int)),(18,.I 0)] [(129,.arr 3 1 (List.map LV.I ([]:List Int)))]))))) (LH.loop (fun n e m=>∃ (n3:Int) (l4:List Int),Dr F p0 r2 n n3 l4=some r∧e=Env.of [(2,.ag [.ak 3 (p0.map aL.lv)]),(6,.arr 129 l4.length),(16,.ak 2 (r2.map ej.lv)),(17,.I (r2.length:Int)),(18,.I n3)]∧m=Mem.of [(129,.arr 3 1 (l4.map LV.I))]) F ⟨0,([]:List Int),h,R,R⟩ ?_)))
  clear h
  rintro n e m ⟨n3,l4,h,rfl,rfl⟩
  rcases n with _ | n
  · cases (show Option.none=some _ from h)
  obtain ⟨aJ,a7⟩:∃ f,f=Dr F p0 r2 n:=⟨_,rfl⟩
  replace h:Gz F p0 r2 aJ n3 l4=some r:=a7 ▸ h
  unfold Gz at h
  refine LH.aj [(2,.ag [.ak 3 (p0.map aL.lv)]),(6,.arr 129 l4.length),(16,.ak 2 (r2.map ej.lv)),(17,.I (r2.length:Int)),(18,.I n3),(19,.bool (decide (n3<(r2.length:Int))))] [(129,.arr 3 1 (l4.map LV.I))] R (sN (fi R R zS)) (LH.seq (LH.cond (t:=(decide (n3<(r2.length:Int)))) R (fun jY=>?_) (fun jY=>?_)))
  ·replace h:=aB h jY
   refine LH.skip (au (LH.wk (aS [(2,.ag [.ak 3 (p0.map aL.lv)]),(6,.arr 129 l4.length),(16,.ak 2 (r2.map ej.lv)),(17,.I (r2.length:Int)),(18,.I n3)] [(129,.arr 3 1 (l4.map LV.I))]) (LH.seq (LH.block ?_))))
   obtain ⟨x6,Lo,h⟩:=ao h
   refine LH.aj [(2,.ag [.ak 3 (p0.map aL.lv)]),(6,.arr 129 l4.length),(8,.ag [.I x6.first,.bool x6.dS]),(16,.ak 2 (r2.map ej.lv)),(17,.I (r2.length:Int)),(18,.I n3)] [(129,.arr 3 1 (l4.map LV.I))] R (sN (eG (f:=ej.lv) qU vy qW R R ej.ok Lo R (sN (bd R vy Qw qW R R (sN (iE (id:=108) R JZ R R (s_ (cG R R R vy qW R R R (s0 ((Wk.trans (aS [(2,.ag [.ak 3 (p0.map aL.lv)]),(6,.arr 129 l4.length),(8,.ptr 108 0),(16,.ak 2 (r2.map ej.lv)),(17,.I (r2.length:Int)),(18,.I n3)] [(108,.box [.I x6.first,.bool x6.dS]),(129,.arr 3 1 (l4.map LV.I))]) (Wk.trans (Wk.bg 108 [.I x6.first,.bool x6.dS] R R R (bM R)) (Wk.eq R R R R))))))))))))) (LH.aj [(2,.ag [.ak 3 (p0.map aL.lv)]),(6,.arr 129 l4.length),(8,.ag [.I x6.first,.bool x6.dS]),(16,.ak 2 (r2.map ej.lv)),(17,.I (r2.length:Int)),(18,.I n3),(24,.bool (!x6.dS))] [(129,.arr 3 1 (l4.map LV.I))] R (sN (aw wM jC lC R R R (sN (bb R jC uC (sN (kB R zS)))))) (LH.cond (t:=(!x6.dS)) R (fun jG=>?_) (fun jG=>?_)))
   ·replace h:=aB h jG
    obtain ⟨v8,NU,h⟩:=ao h
    refine LH.aU [(2,.ag [.ak 3 (p0.map aL.lv)]),(6,.arr 129 v8.length),(16,.ak 2 (r2.map ej.lv)),(17,.I (r2.length:Int)),(18,.I n3)] [(129,.arr 3 1 (v8.map LV.I))] R (j0 R (sN (aw rS aD ba R R R (sN (bb R aD bQ (sN (jZ (f:=LV.I) (ys:=[x6.first]) cE qV ba R R R lY (sN (nw (f:=LV.I) cE qV ba R R (bM R) R NU (nM R zS)))))))))) (aY (au (LH.aU [(2,.ag [.ak 3 (p0.map aL.lv)]),(6,.arr 129 v8.length),(16,.ak 2 (r2.map ej.lv)),(17,.I (r2.length:Int)),(18,.I (i64 (n3+1)))] [(129,.arr 3 1 (v8.map LV.I))] R (sN (cD R R (bj R zS))) ?_)))
    exact bh ⟨(i64 (n3+1)),v8,a7 ▸ h,R,R⟩ (Wk.eq R R R R)
   replace h:=aA h jG
   refine LH.skip (aY (au (LH.aU [(2,.ag [.ak 3 (p0.map aL.lv)]),(6,.arr 129 l4.length),(16,.ak 2 (r2.map ej.lv)),(17,.I (r2.length:Int)),(18,.I (i64 (n3+1)))] [(129,.arr 3 1 (l4.map LV.I))] R (sN (cD R R (bj R zS))) ?_)))
   exact bh ⟨(i64 (n3+1)),l4,a7 ▸ h,R,R⟩ (Wk.eq R R R R)
  replace h:=aA h jY
  refine LH.exit (cw (bY (bO (au (LH.wk (aS [(2,.ag [.ak 3 (p0.map aL.lv)]),(6,.arr 129 l4.length)] [(129,.arr 3 1 (l4.map LV.I))]) (LH.seq (LH.aj [(2,.ag [.ak 3 (p0.map aL.lv)]),(6,.arr 129 l4.length),(33,.bool (decide ((l4.length:Int) > 300)))] [(129,.arr 3 1 (l4.map LV.I))] R (j0 R (sN (FW (f:=LV.I) cE R R (sN (iP R R zS))))) (LH.cond (t:=(decide ((l4.length:Int) > 300))) R (fun vT=>?_) (fun vT=>?_)))))))))
  ·replace h:=aB h vT
   refine LH.aj [(4,.nil),(5,.I 3)] [] R (kX R (bo R zS)) (LH.ret (aW ?_))
   obtain rfl:=oI h
   exact aO (aT Tryz.results73) (bU R (bU R (bS ⟨aN mN,R,aZ R,(Sub.cX (oV (aH bn)))⟩)))
  replace h:=aA h vT
  refine LH.skip (au ?_)
  obtain ⟨gB,Nq,h⟩:=ao h
  refine LH.aj [(6,.L gB)] [] R (j0 R (sN (Pq (vs:=[.ag [.ak 3 (p0.map aL.lv)]]) R (sN (eX (args:=[.arr 129 l4.length,.fn 87 [.ag [.ak 3 (p0.map aL.lv)]]]) (ml:=[(129,.arr 3 1 (l4.map LV.I))]) (de:=[(129,.arr 3 1 (gB.map LV.I))]) R Jr R (aH (aH bn)) (y5 Tryz.JT R O4 R (fun _ _ _ h=>PA h) 129 3 Nq) (mC R mN) (cn R cz) R (s0 ((Wk.trans (Wk.to (el:=[(6,.arr 129 gB.length)]) (ml:=[(129,.arr 3 1 (gB.map LV.I))]) (eC (congrArg (LV.arr 129) (vv Nq)) eN) ⟨R,trivial⟩ R (aZ R)) (Wk.trans (Wk.lk (f:=LV.I) (fy:=[(6,.L gB)]) 129 3 1 gB R R (bM R) (fZ fN)) (Wk.eq R R R R)))))))))) (LH.aj [(4,.L gB),(5,.I 0)] [] R (fp R (qR R (bo R zS))) (LH.ret ?_))
  obtain rfl:=oI h
  exact aO (aT Tryz.results73) (bU R (bU R (bS ⟨aN mN,R,aZ R,(Sub.cX (aH (aH bn)))⟩)))
theorem Pu {F:Nat} {p0:List ax} {p1:(ax→Option aL)} {p2:(ax→ax→Option Bool)} {r:List Int × Int} {dV:Nat} {da:List LV} (AQ:ef Tryz.prog dV) (oQ:LV.bk da=true) (AR:∀ (x0:ax) (q:aL),p1 x0=some q→aM Tryz.prog dV ([.agg [.I x0.ar.Time,.I x0.ar.Source,.I x0.ar.Seq,.I x0.Kind,.I x0.Item.ID,.I x0.Item.Version,.str x0.Item.bI,.ak 6 (x0.Item.aG.map aq.lv),.L x0.Item.aE,.I x0.Ref.ID,.I x0.Ref.Version,.I x0.Form]]++da) (Mem.of []) (.agg [.I q.Time,.I q.Source,.I q.Seq]) (Mem.of [])) {ez:Nat} {dv:List LV} (Dc:ef Tryz.prog ez) (uw:LV.bk dv=true) (Dd:∀ (x0:ax) (x1:ax) (q:Bool),p2 x0 x1=some q→aM Tryz.prog ez ([.agg [.I x0.ar.Time,.I x0.ar.Source,.I x0.ar.Seq,.I x0.Kind,.I x0.Item.ID,.I x0.Item.Version,.str x0.Item.bI,.ak 6 (x0.Item.aG.map aq.lv),.L x0.Item.aE,.I x0.Ref.ID,.I x0.Ref.Version,.I x0.Form],.agg [.I x1.ar.Time,.I x1.ar.Source,.I x1.ar.Seq,.I x1.Kind,.I x1.Item.ID,.I x1.Item.Version,.str x1.Item.bI,.ak 6 (x1.Item.aG.map aq.lv),.L x1.Item.aE,.I x1.Ref.ID,.I x1.Ref.Version,.I x1.Form]]++dv) (Mem.of []) (.bool q) (Mem.of [])) (h:Gj F p0 p1 p2=some r):aM Tryz.prog 54 [.ak 12 (p0.map ax.lv),.fn dV da,.fn ez dv] (Mem.of []) (.cX [.L r.1,.I r.2]) (Mem.of []):=by
  have F9:∀ {l:List LV},LV.bk l=true→LV.bk (l++dv)=true:=LX uw
  have eK:LV.bK dv=[]:=gh uw
  have F8:∀ {l:List LV},LV.bk l=true→LV.bk (l++da)=true:=LX oQ
  have eE:LV.bK da=[]:=gh oQ
  unfold Gj at h
  refine br Tryz.func54 R (nT Tryz.ntmps54 R) (LH.wk (Wk.to (el:=[(0,.ak 12 (p0.map ax.lv)),(1,.fn dV da),(2,.fn ez dv)]) (ml:=[]) (eQ ⟨R,R,R,trivial⟩) mN (by simp [aV,LV.refs,LV.bK,LV.cells,c9,Env.args,Env.of,Env.put,Env.drop,eE,eK]) (aZ R)) (LH.aj [(0,.ak 12 (p0.map ax.lv)),(1,.fn dV da),(2,.fn ez dv)] [] R (kX R (bo R (s0 (Wk.to (eQ ⟨R,R,R,trivial⟩) mN (by simp [aV,LV.refs,LV.bK,LV.cells,c9,Env.args,Env.of,Env.put,Env.drop,eE,eK]) (aZ R))))) ?_))
  obtain ⟨r1,ee,h⟩:=ao h
  refine LH.aj [(8,.ak 3 (r1.1.map aL.lv)),(9,.L r1.2)] [] R (fp R (sN (oM (v:=(.fn _ _)) R (sN (oM (v:=(.fn _ _)) R (sN (dQ (args:=[.ak 12 (p0.map ax.lv),.fn dV da,.fn ez dv]) R OV R (aH (aH (aH bn))) (Pw AQ oQ AR Dc uw Dd ee) (by simp [LV.pure,LV.bk,oQ,uw]) (rR R (sN (gy R R (sN (gy R R (qR R (qR R (s0 (Wk.to (eQ ⟨R,R,trivial⟩) mN (by simp [aV,LV.refs,LV.bK,LV.cells,c9,Env.args,Env.of,Env.put,Env.drop,eE,eK]) (aZ R))))))))))))))))) ?_
  obtain ⟨r2,fD,h⟩:=ao h
  refine LH.aj [(6,.L r2.1),(7,.I r2.2)] [] R (fp R (fp R (sN (dQ (args:=[.ak 3 (r1.1.map aL.lv),.L r1.2]) R OW R (aH (aH bn)) (PI fD) R (sN (gy R R (sN (gy R R (qR R (bo R (s0 (Wk.to (eQ ⟨R,R,trivial⟩) mN (by simp [aV,LV.refs,LV.bK,LV.cells,c9,Env.args,Env.of,Env.put,Env.drop,eE,eK]) (aZ R))))))))))))) (LH.ret ?_)
  obtain rfl:=oI h
  exact aO (aT Tryz.results54) (bU R (bU R (bS ⟨aN mN,R,aZ R,(Sub.cX (aH (aH bn)))⟩)))
theorem PB {p0:ax} {r:aL} (h:B6 p0=some r):aM Tryz.prog 55 [ax.lv p0] (Mem.of []) (.agg [.I r.Time,.I r.Source,.I r.Seq]) (Mem.of []):=by
  unfold B6 at h
  refine br Tryz.func55 R (nT Tryz.ntmps55 R) (LH.wk (aS [(0,ax.lv p0)] []) (LH.aj [(1,.ag (ax.lv p0).cells),(2,.ptr 102 0)] [(102,.box [.I 0,.I 0,.I 0])] R (sB (c7 R R R R (sN (iE (id:=102) R uF R R zS)))) (LH.aj [(2,.ag [.I p0.ar.Time,.I p0.ar.Source,.I p0.ar.Seq])] [] R (sN (aw dh cg b7 R R R (sN (bd R cg gj b7 R R (s_ (cG R R R cg b7 R R R (s0 ((Wk.trans (aS [(2,.ptr 102 0)] [(102,.box [.I p0.ar.Time,.I p0.ar.Source,.I p0.ar.Seq])]) (Wk.trans (Wk.bg 102 [.I p0.ar.Time,.I p0.ar.Source,.I p0.ar.Seq] R R R (bM R)) (Wk.eq R R R R))))))))))) (LH.ret ?_))))
  obtain rfl:=oI h
  exact aO (aT Tryz.results55) (cT R cg gj b7 R R (bS ⟨aN mN,R,aZ R,Sub.rfl⟩))
theorem Px {F:Nat} {p0:List aq} {p1:List aq} {r:Bool} (h:Gm F p0 p1=some r):aM Tryz.prog 89 [.ak 6 (p0.map aq.lv),.ak 6 (p1.map aq.lv)] (Mem.of []) (.bool r) (Mem.of []):=by
  unfold Gm at h
  refine br Tryz.func89 R (nT Tryz.ntmps89 R) (LH.wk (aS [(0,.ak 6 (p0.map aq.lv)),(1,.ak 6 (p1.map aq.lv))] []) (LH.aj [(0,.ak 6 (p0.map aq.lv)),(1,.ak 6 (p1.map aq.lv))] [] R (b4 R zS) (LH.seq (LH.aj [(0,.ak 6 (p0.map aq.lv)),(1,.ak 6 (p1.map aq.lv)),(10,.bool ((p0.length:Int) != (p1.length:Int)))] [] R (fp R (sN (bW (f:=aq.lv) gu R (fp R (sN (bW (f:=aq.lv) gu R (sN (jR R R zS)))))))) (LH.cond (t:=((p0.length:Int) != (p1.length:Int))) R (fun jF=>?_) (fun jF=>?_))))))
  ·replace h:=aB h jF
   refine LH.aj [(4,.bool false)] [] R (b4 R zS) (LH.ret (aW ?_))
   obtain rfl:=oI h
   exact aO (aT Tryz.results89) (bU R (bS ⟨aN mN,R,aZ R,Sub.rfl⟩))
  replace h:=aA h jF
  refine LH.skip (au (LH.wk (aS [(0,.ak 6 (p0.map aq.lv)),(1,.ak 6 (p1.map aq.lv))] []) (LH.seq (LH.aj [(0,.ak 6 (p0.map aq.lv)),(1,.ak 6 (p1.map aq.lv)),(12,.I (p0.length:Int)),(13,.I 0)] [] R (fp R (sN (bW (f:=aq.lv) gu R (bj R zS)))) (LH.block (LH.loop (fun n e m=>∃ (n2:Int),Di p0 p1 n n2=some r∧e=Env.of [(0,.ak 6 (p0.map aq.lv)),(1,.ak 6 (p1.map aq.lv)),(12,.I (p0.length:Int)),(13,.I n2)]∧m=Mem.of []) F ⟨0,h,R,R⟩ ?_))))))
  clear h
  rintro n e m ⟨n2,h,rfl,rfl⟩
  rcases n with _ | n
  · cases (show Option.none=some _ from h)
  obtain ⟨aJ,a7⟩:∃ f,f=Di p0 p1 n:=⟨_,rfl⟩
  replace h:Gi p0 p1 aJ n2=some r:=a7 ▸ h
  unfold Gi at h
  refine LH.aj [(0,.ak 6 (p0.map aq.lv)),(1,.ak 6 (p1.map aq.lv)),(12,.I (p0.length:Int)),(13,.I n2),(14,.bool (decide (n2<(p0.length:Int))))] [] R (sN (fi R R zS)) (LH.seq (LH.cond (t:=(decide (n2<(p0.length:Int)))) R (fun iK=>?_) (fun iK=>?_)))
  ·replace h:=aB h iK
   refine LH.skip (au (LH.wk (aS [(0,.ak 6 (p0.map aq.lv)),(1,.ak 6 (p1.map aq.lv)),(12,.I (p0.length:Int)),(13,.I n2)] []) (LH.seq (LH.block (LH.aj [(0,.ak 6 (p0.map aq.lv)),(1,.ak 6 (p1.map aq.lv)),(5,.I n2),(12,.I (p0.length:Int)),(13,.I n2)] [] R (bj R (bo R zS)) ?_)))))
   obtain ⟨x4,C2,h⟩:=ao h
   obtain ⟨x5,nJ,h⟩:=ao h
   refine LH.di mixed [] [0,0,0,0,0,0,0,0,0] [(0,.ak 6 (p0.map aq.lv)),(1,.ak 6 (p1.map aq.lv)),(12,.I (p0.length:Int)),(13,.I n2),(24,.bool (!(decide (x4=x5))))] [] R R (by kernel_rfl) (rM R (fF R (aF (eG (f:=aq.lv) gu ek dJ R R aq.ok C2 R ⟨R,aF (bd R ek iU dJ R R ⟨R,rM R (fF R (aF (eG (f:=aq.lv) gu ek dJ R R aq.ok nJ R ⟨R,aF (bd R ek iU dJ R R ⟨R,aF (Ic R R (MK x4 x5) ⟨R,zM⟩)⟩)⟩)))⟩)⟩)))) (LH.cond (t:=(!(decide (x4=x5)))) R (fun fP=>?_) (fun fP=>?_))
   ·replace h:=aB h fP
    refine LH.aj [(4,.bool false)] [] R (b4 R zS) (LH.ret (bB (aW (dF (bB (aW ?_))))))
    obtain rfl:=oI h
    exact aO (aT Tryz.results89) (bU R (bS ⟨aN mN,R,aZ R,Sub.rfl⟩))
   replace h:=aA h fP
   refine LH.skip (aY (au (LH.aU [(0,.ak 6 (p0.map aq.lv)),(1,.ak 6 (p1.map aq.lv)),(12,.I (p0.length:Int)),(13,.I (i64 (n2+1)))] [] R (sN (cD R R (bj R zS))) ?_)))
   exact bh ⟨(i64 (n2+1)),a7 ▸ h,R,R⟩ (Wk.eq R R R R)
  replace h:=aA h iK
  refine LH.exit (cw (bY (bO (au (LH.aj [(4,.bool true)] [] R (b4 R zS) (LH.ret ?_))))))
  obtain rfl:=oI h
  exact aO (aT Tryz.results89) (bU R (bS ⟨aN mN,R,aZ R,Sub.rfl⟩))
end Go.Proofs.YtmollikhdbaikaaGreat
