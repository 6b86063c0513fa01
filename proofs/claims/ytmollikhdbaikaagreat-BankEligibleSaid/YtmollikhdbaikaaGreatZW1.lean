import Derived.Test.YtmollikhdbaikaaGreatZLb
import Derived.Test.YtmollikhdbaikaaGreatZLc
import Derived.Test.YtmollikhdbaikaaGreatZRow
import Derived.Test.YtmollikhdbaikaaGreatZFacts
import Derived.Test.YtmollikhdbaikaaGreatZEqs
import Derived.Test.YtmollikhdbaikaaGreatZSort
import Derived.Test.YtmollikhdbaikaaGreatZSh
set_option linter.unusedVariables false
set_option linter.unusedSimpArgs false
set_option maxRecDepth 100000
set_option maxHeartbeats 1000000
namespace Go.Proofs.YtmollikhdbaikaaGreat
open Go.L Go.Sh
theorem PR {p0:List Int} {r:aN} (h:k9 p0=some r):aP Tryz.prog 7 [.L p0] (Mem.of []) (.ptr 110 0) (Mem.of [(110,.box [.L r.L,.I r.At])]):=by
  unfold k9 at h
  refine bu Tryz.func7 R (nT Tryz.ntmps7 R) (LH.wk (aX [(0,.L p0)] []) (LH.aj [(0,.L p0)] [] R (sN (oA (v:=.fe) R zS)) (LH.seq (LH.aj [(0,.L p0),(5,.bool (decide ((p0.length:Int) > 600)))] [] R (eZ R (sN (bX (f:=LV.I) cz R (sN (iw R R zS))))) (LH.cond (t:=(decide ((p0.length:Int) > 600))) R (fun jw=>?_) (fun jw=>?_))))))
  ·replace h:=aB h jw
   obtain ⟨v2,wE,h⟩:=al h
   refine LH.aQ [(0,.L v2)] [] R (eZ R (sN (Tg (f:=LV.I) cz aE bb R R R wE (qb R zS)))) (av (LH.aj [(2,.ptr 110 0)] [(110,.box [.L v2,.I 0])] R (eZ R (sN (gB (vs:=[(0,.L v2)]) Qd Qf R (lf wq jh eI R R R gA) (sN (Td (id:=110) R R R R R R (Ut R zS)))))) (LH.ret ?_)))
   obtain rfl:=oI h
   exact aS (aT Tryz.results7) (bR R (bP ⟨aR (mC R mN),R,a8 R,Sub.rfl⟩))
  replace h:=aA h jw
  refine LH.skip (av (LH.aj [(2,.ptr 110 0)] [(110,.box [.L p0,.I 0])] R (eZ R (sN (gB (vs:=[(0,.L p0)]) Qd Qf R (lf wq jh eI R R R gA) (sN (Td (id:=110) R R R R R R (Ut R zS)))))) (LH.ret ?_)))
  obtain rfl:=oI h
  exact aS (aT Tryz.results7) (bR R (bP ⟨aR (mC R mN),R,a8 R,Sub.rfl⟩))
theorem PT {p0:List Int} {r:aN} (h:k9 p0=some r):aP Tryz.prog 7 [.L p0] (Mem.of []) (.ptr 7 0) (Mem.of [(7,.box [.L r.L,.I r.At])]):=aP.Dr 7 rfl (PR h)
theorem Q1 {p0:aN} {r:Int × aN} (h:Ec p0=some r):aP Tryz.prog 50 [.ptr 7 0] (Mem.of [(7,.box [.L p0.L,.I p0.At])]) (.I r.1) (Mem.of [(7,.box [.L r.2.L,.I r.2.At])]):=by
  unfold Ec at h
  refine bu Tryz.func50 R (nT Tryz.ntmps50 R) (LH.wk (aX [(0,.ptr 7 0)] [(7,.box [.L p0.L,.I p0.At])]) (LH.aj [(0,.ptr 7 0)] [(7,.box [.L p0.L,.I p0.At])] R (bo R zS) (LH.seq (LH.c7 mixed [] [0,0,0,1007,0,0,0,1007,0,0] [(0,.ptr 7 0),(12,.bool (decide (p0.At ≥ (p0.L.length:Int))))] [(7,.box [.L p0.L,.I p0.At])] R R (by kernel_rfl) (BG R (aF (FL R ⟨R,aF (dK wu aE bb R R ⟨R,mD R R R (fun _ b _ d=>dW R b R R aE bN d) (BG R (aF (FL R ⟨R,aF (dK wq eI jh R R ⟨R,mD R R R (fun _ b _ d=>dW R b R R eI l9 d) (aF (bX (f:=LV.I) cz R ⟨R,aF (pD R R ⟨R,zM⟩)⟩))⟩)⟩)))⟩)⟩))) (LH.cond (t:=(decide (p0.At ≥ (p0.L.length:Int)))) R (fun jw=>?_) (fun jw=>?_))))))
  ·replace h:=aB h jw
   refine LH.aj [(2,.I 0)] [(7,.box [.L p0.L,.I p0.At])] R (bo R zS) (LH.ret (aZ ?_))
   obtain rfl:=oI h
   exact aS (aT Tryz.results50) (bR R (bP ⟨aR (mC R mN),R,a8 R,Sub.rfl⟩))
  replace h:=aA h jw
  refine LH.skip (av (LH.aj [(0,.ptr 7 0)] [(7,.box [.L p0.L,.I (i64 (p0.At+1))])] R (ib R (sN (FL R (sN (dK wu aE bb R R (sN (dW R R R R aE bN (sN (cr R R (sN (FL R (sN (dK wu aE bb R R (s_ (cV R R R aE bb R R R zS))))))))))))))) ?_))
  obtain ⟨x2,K0,h⟩:=al h
  refine LH.c7 mixed [] [0,0,0,1007,0,0,0,1007,0,0,0,0] [(2,.I x2)] [(7,.box [.L p0.L,.I (i64 (p0.At+1))])] R R (by kernel_rfl) (BG R (aF (FL R ⟨R,aF (dK wq eI jh R R ⟨R,mD R R R (fun _ b _ d=>dW R b R R eI l9 d) (BG R (aF (FL R ⟨R,aF (dK wu aE bb R R ⟨R,mD R R R (fun _ b _ d=>dW R b R R aE bN d) (aF (iG R R ⟨R,aF (eW (f:=LV.I) cz aE bb R R lO K0 R ⟨R,aF (bf R aE bN ⟨R,Mk R zM⟩)⟩)⟩))⟩)⟩)))⟩)⟩))) (LH.ret ?_)
  obtain rfl:=oI h
  exact aS (aT Tryz.results50) (bR R (bP ⟨aR (mC R mN),R,a8 R,Sub.rfl⟩))
theorem tm {p0:Int} {p1:Int} {r:Int} (h:fS p0 p1=some r):aP Tryz.prog 18 [.I p0,.I p1] (Mem.of []) (.I r) (Mem.of []):=by
  unfold fS at h
  refine bu Tryz.func18 R (nT Tryz.ntmps18 R) (LH.wk (aX [(0,.I p0),(1,.I p1)] []) (LH.aj [(0,.I p0),(1,.I p1)] [] R (bo R zS) (LH.seq (LH.aj [(0,.I p0),(1,.I p1),(6,.bool (decide (p1<1)))] [] R (bl R (sN (fi R R zS))) (LH.cond (t:=(decide (p1<1))) R (fun jw=>?_) (fun jw=>?_))))))
  ·replace h:=aB h jw
   refine LH.aj [(4,.I 0)] [] R (bo R zS) (LH.ret (aZ ?_))
   obtain rfl:=oI h
   exact aS (aT Tryz.results18) (bR R (bP ⟨aR mN,R,a8 R,Sub.rfl⟩))
  replace h:=aA h jw
  refine LH.skip (av ?_)
  obtain ⟨v2,wE,h⟩:=al h
  refine LH.aj [(0,.I v2),(1,.I p1)] [] R (bl R (bl R (sN (Tf R R wE (bo R zS))))) (LH.seq (LH.aj [(0,.I v2),(1,.I p1),(11,.bool (decide (v2<0)))] [] R (bl R (sN (fi R R zS))) (LH.cond (t:=(decide (v2<0))) R (fun iC=>?_) (fun iC=>?_))))
  ·replace h:=aB h iC
   refine LH.aQ [(0,.I (i64 (v2+p1)))] [] R (bl R (bl R (sN (cr R R (bo R zS))))) (av (LH.aj [(4,.I (i64 (v2+p1)))] [] R (bl R (bo R zS)) (LH.ret ?_)))
   obtain rfl:=oI h
   exact aS (aT Tryz.results18) (bR R (bP ⟨aR mN,R,a8 R,Sub.rfl⟩))
  replace h:=aA h iC
  refine LH.skip (av (LH.aj [(4,.I v2)] [] R (bl R (bo R zS)) (LH.ret ?_)))
  obtain rfl:=oI h
  exact aS (aT Tryz.results18) (bR R (bP ⟨aR mN,R,a8 R,Sub.rfl⟩))
theorem kG {p0:aN} {p1:Int} {r:Int × aN} (h:iS p0 p1=some r):aP Tryz.prog 27 [.ptr 7 0,.I p1] (Mem.of [(7,.box [.L p0.L,.I p0.At])]) (.I r.1) (Mem.of [(7,.box [.L r.2.L,.I r.2.At])]):=by
  unfold iS at h
  refine bu Tryz.func27 R (nT Tryz.ntmps27 R) (LH.wk (aX [(0,.ptr 7 0),(1,.I p1)] [(7,.box [.L p0.L,.I p0.At])]) (LH.aj [(0,.ptr 7 0),(1,.I p1)] [(7,.box [.L p0.L,.I p0.At])] R (bo R zS) ?_))
  obtain ⟨r1,ec,h⟩:=al h
  obtain ⟨r2,fz,h⟩:=al h
  refine LH.aj [(4,.I r2)] [(7,.box [.L r1.2.L,.I r1.2.At])] R (ib R (sN (fa (args:=[.ptr 7 0]) (ml:=[(7,.box [.L p0.L,.I p0.At])]) (dg:=[(7,.box [.L r1.2.L,.I r1.2.At])]) R Of R (aK bt) (Q1 ec) (mC R mN) (b8 R cw) R (bl R (sN (dU (args:=[.I r1.1,.I p1]) R sM R (aK (aK bt)) (tm fz) R (bo R zS))))))) (LH.ret ?_)
  obtain rfl:=oI h
  exact aS (aT Tryz.results27) (bR R (bP ⟨aR (mC R mN),R,a8 R,Sub.rfl⟩))
theorem nA {p0:aN} {p1:Int} {p2:Int} {r:Int × aN} (h:kH p0 p1 p2=some r):aP Tryz.prog 9 [.ptr 7 0,.I p1,.I p2] (Mem.of [(7,.box [.L p0.L,.I p0.At])]) (.I r.1) (Mem.of [(7,.box [.L r.2.L,.I r.2.At])]):=by
  unfold kH at h
  refine bu Tryz.func9 R (nT Tryz.ntmps9 R) (LH.wk (aX [(0,.ptr 7 0),(1,.I p1),(2,.I p2)] [(7,.box [.L p0.L,.I p0.At])]) (LH.aj [(0,.ptr 7 0),(1,.I p1),(2,.I p2)] [(7,.box [.L p0.L,.I p0.At])] R (bo R zS) ?_))
  obtain ⟨r1,ec,h⟩:=al h
  refine LH.aj [(6,.I (i64 (p1+r1.1)))] [(7,.box [.L r1.2.L,.I r1.2.At])] R (bl R (ib R (bl R (bl R (sN (iG R R (sN (cr R R (sN (fa (args:=[.ptr 7 0,.I (i64 ((i64 (p2 - p1))+1))]) (ml:=[(7,.box [.L p0.L,.I p0.At])]) (dg:=[(7,.box [.L r1.2.L,.I r1.2.At])]) R gw R (aK (aK bt)) (kG ec) (mC R mN) (b8 R cw) R (sN (cr R R (bo R zS))))))))))))) (LH.ret ?_)
  obtain rfl:=oI h
  exact aS (aT Tryz.results9) (bR R (bP ⟨aR (mC R mN),R,a8 R,Sub.rfl⟩))
theorem Eb {p0:aN} {p1:List Int} {r:Int × aN} (h:tX p0 p1=some r):aP Tryz.prog 28 [.ptr 7 0,.L p1] (Mem.of [(7,.box [.L p0.L,.I p0.At])]) (.I r.1) (Mem.of [(7,.box [.L r.2.L,.I r.2.At])]):=by
  unfold tX at h
  refine bu Tryz.func28 R (nT Tryz.ntmps28 R) (LH.wk (aX [(0,.ptr 7 0),(1,.L p1)] [(7,.box [.L p0.L,.I p0.At])]) (LH.aj [(0,.ptr 7 0),(1,.L p1)] [(7,.box [.L p0.L,.I p0.At])] R (bo R zS) ?_))
  obtain ⟨r1,ec,h⟩:=al h
  obtain ⟨x2,K0,h⟩:=al h
  refine LH.aj [(4,.I x2)] [(7,.box [.L r1.2.L,.I r1.2.At])] R (eZ R (ib R (eZ R (sN (bX (f:=LV.I) cz R (sN (fa (args:=[.ptr 7 0,.I (p1.length:Int)]) (ml:=[(7,.box [.L p0.L,.I p0.At])]) (dg:=[(7,.box [.L r1.2.L,.I r1.2.At])]) R gw R (aK (aK bt)) (kG ec) (mC R mN) (b8 R cw) R (sN (eW (f:=LV.I) cz aE bb R R lO K0 R (sN (bf R aE bN (bo R zS)))))))))))) (LH.ret ?_)
  obtain rfl:=oI h
  exact aS (aT Tryz.results28) (bR R (bP ⟨aR (mC R mN),R,a8 R,Sub.rfl⟩))
theorem Q3 {F:Nat} {p0:aN} {p1:Int} {r:ByteArray × aN} (h:Ed F p0 p1=some r):aP Tryz.prog 51 [.ptr 7 0,.I p1] (Mem.of [(7,.box [.L p0.L,.I p0.At])]) (.str r.1) (Mem.of [(7,.box [.L r.2.L,.I r.2.At])]):=by
  unfold Ed at h
  refine bu Tryz.func51 R (nT Tryz.ntmps51 R) (LH.wk (aX [(0,.ptr 7 0),(1,.I p1)] [(7,.box [.L p0.L,.I p0.At])]) (LH.aj [(0,.ptr 7 0),(1,.I p1)] [(7,.box [.L p0.L,.I p0.At])] R (sN (oA (v:=(.str _)) R zS)) (LH.aj [(0,.ptr 7 0),(1,.I p1),(5,.str (ByteArray.mk #[]))] [(7,.box [.L p0.L,.I p0.At])] R (sN (oA (v:=(.str _)) R zS)) (LH.seq ?_))))
  obtain ⟨r1,ec,h⟩:=al h
  refine LH.aj [(0,.ptr 7 0),(5,.str (ByteArray.mk #[])),(6,.I r1.1)] [(7,.box [.L r1.2.L,.I r1.2.At])] R (ib R (bl R (sN (fa (args:=[.ptr 7 0,.I 1,.I p1]) (ml:=[(7,.box [.L p0.L,.I p0.At])]) (dg:=[(7,.box [.L r1.2.L,.I r1.2.At])]) R nD R (aK (aK (aK bt))) (nA ec) (mC R mN) (b8 R cw) R (bo R zS))))) (LH.block (LH.loop (fun n e m=>∃ (t2:ByteArray) (n3:Int) (l4:List Int) (n5:Int),Ee n t2 n3 l4 n5=some r∧e=Env.of [(0,.ptr 7 0),(5,.str t2),(6,.I n3)]∧m=Mem.of [(7,.box [.L l4,.I n5])]) F ⟨(ByteArray.mk #[]),r1.1,r1.2.L,r1.2.At,h,R,R⟩ ?_))
  clear h
  rintro n e m ⟨t2,n3,l4,n5,h,rfl,rfl⟩
  rcases n with _ | n
  · cases (show Option.none=some _ from h)
  obtain ⟨aH,ba⟩:∃ f,f=Ee n:=⟨_,rfl⟩
  replace h:Ef aH t2 n3 l4 n5=some r:=ba ▸ h
  unfold Ef at h
  refine LH.seq (LH.aj [(0,.ptr 7 0),(5,.str t2),(6,.I n3),(11,.bool (decide (n3 > 0)))] [(7,.box [.L l4,.I n5])] R (bl R (sN (iw R R zS))) (LH.cond (t:=(decide (n3 > 0))) R (fun gb=>?_) (fun gb=>?_)))
  ·replace h:=aB h gb
   refine LH.skip (av (LH.wk (aX [(0,.ptr 7 0),(5,.str t2),(6,.I n3)] [(7,.box [.L l4,.I n5])]) (LH.seq (LH.block ?_))))
   obtain ⟨r7,Al,h⟩:=al h
   obtain ⟨t8,VI,h⟩:=al h
   refine LH.aQ [(0,.ptr 7 0),(5,.str t8),(6,.I n3)] [(7,.box [.L r7.2.L,.I r7.2.At])] R (sN (oM (v:=(.str _)) R (ib R (sN (fa (args:=[.ptr 7 0,.I 3]) (ml:=[(7,.box [.L l4,.I n5])]) (dg:=[(7,.box [.L r7.2.L,.I r7.2.At])]) R gw R (aK (aK bt)) (kG Al) (mC R mN) (b8 R cw) R (sN (cr R R (sN (Te aE Ux R (sN (jI (f:=(LV.int .u8)) (ys:=[(IntKind.u8.wrap (i64 (97+r7.1)))]) JD Wd Wf R R R lO (sX ((Ll (ns:=[(IntKind.u8.wrap (i64 (97+r7.1)))]) JD Ux Ig R).ok) (sX ((BM R R VI).ok) (sN (oA (v:=(.str _)) R zS))))))))))))))) (aY (av (LH.aQ [(0,.ptr 7 0),(5,.str t8),(6,.I (i64 (n3 - 1)))] [(7,.box [.L r7.2.L,.I r7.2.At])] R (bl R (sN (iG R R (bo R zS)))) ?_)))
   exact bg ⟨t8,(i64 (n3 - 1)),r7.2.L,r7.2.At,ba ▸ h,R,R⟩ (Wk.eq R R R R)
  replace h:=aA h gb
  refine LH.exit (cv (bY (bM (av (LH.aj [(4,.str t2)] [(7,.box [.L l4,.I n5])] R (sN (oM (v:=(.str _)) R (sN (oA (v:=(.str _)) R zS)))) (LH.ret ?_))))))
  obtain rfl:=oI h
  exact aS (aT Tryz.results51) (bR R (bP ⟨aR (mC R mN),R,a8 R,Sub.rfl⟩))
theorem zB {p0:aN} {p1:Int} {r:Bool × aN} (h:nW p0 p1=some r):aP Tryz.prog 30 [.ptr 7 0,.I p1] (Mem.of [(7,.box [.L p0.L,.I p0.At])]) (.bool r.1) (Mem.of [(7,.box [.L r.2.L,.I r.2.At])]):=by
  unfold nW at h
  refine bu Tryz.func30 R (nT Tryz.ntmps30 R) (LH.wk (aX [(0,.ptr 7 0),(1,.I p1)] [(7,.box [.L p0.L,.I p0.At])]) (LH.aj [(0,.ptr 7 0),(1,.I p1)] [(7,.box [.L p0.L,.I p0.At])] R (cm R zS) ?_))
  obtain ⟨r1,ec,h⟩:=al h
  refine LH.aj [(4,.bool (r1.1 == (i64 (p1 - 1))))] [(7,.box [.L r1.2.L,.I r1.2.At])] R (ib R (bl R (sN (fa (args:=[.ptr 7 0,.I p1]) (ml:=[(7,.box [.L p0.L,.I p0.At])]) (dg:=[(7,.box [.L r1.2.L,.I r1.2.At])]) R gw R (aK (aK bt)) (kG ec) (mC R mN) (b8 R cw) R (bl R (sN (iG R R (sN (gm R R (cm R zS)))))))))) (LH.ret ?_)
  obtain rfl:=oI h
  exact aS (aT Tryz.results30) (bR R (bP ⟨aR (mC R mN),R,a8 R,Sub.rfl⟩))
theorem Ca {p0:aN} {r:Int × aN} (h:rP p0=some r):aP Tryz.prog 53 [.ptr 7 0] (Mem.of [(7,.box [.L p0.L,.I p0.At])]) (.I r.1) (Mem.of [(7,.box [.L r.2.L,.I r.2.At])]):=by
  unfold rP at h
  refine bu Tryz.func53 R (nT Tryz.ntmps53 R) (LH.wk (aX [(0,.ptr 7 0)] [(7,.box [.L p0.L,.I p0.At])]) (LH.aj [(0,.ptr 7 0)] [(7,.box [.L p0.L,.I p0.At])] R (bo R zS) ?_))
  obtain ⟨r1,ec,h⟩:=al h
  refine LH.aj [(2,.I r1.1)] [(7,.box [.L r1.2.L,.I r1.2.At])] R (ib R (sN (jI (f:=LV.I) (ys:=[(-1),0,1,2,31,32,99,100,200,201,9999,10000,1000000,1000001,1152921504606846976,1152921504606846977,(-1152921504606846976),9223372036854775807,(-9223372036854775808)]) cz qN bb R R R lO (sN (fa (args:=[.ptr 7 0,.L [(-1),0,1,2,31,32,99,100,200,201,9999,10000,1000000,1000001,1152921504606846976,1152921504606846977,(-1152921504606846976),9223372036854775807,(-9223372036854775808)]]) (ml:=[(7,.box [.L p0.L,.I p0.At])]) (dg:=[(7,.box [.L r1.2.L,.I r1.2.At])]) R xr R (aK (aK bt)) (Eb ec) (mC R mN) (b8 R cw) R (bo R zS)))))) (LH.ret ?_)
  obtain rfl:=oI h
  exact aS (aT Tryz.results53) (bR R (bP ⟨aR (mC R mN),R,a8 R,Sub.rfl⟩))
theorem Mq {p0:aN} {p1:Int} {r:ao × aN} (h:B7 p0 p1=some r):aP Tryz.prog 52 [.ptr 7 0,.I p1] (Mem.of [(7,.box [.L p0.L,.I p0.At])]) (ao.lv r.1) (Mem.of [(7,.box [.L r.2.L,.I r.2.At])]):=by
  unfold B7 at h
  refine bu Tryz.func52 R (nT Tryz.ntmps52 R) (LH.wk (aX [(0,.ptr 7 0),(1,.I p1)] [(7,.box [.L p0.L,.I p0.At])]) (LH.aj [(0,.ptr 7 0),(1,.I p1),(4,.ptr 104 0)] [(7,.box [.L p0.L,.I p0.At]),(104,.box [.I 0,.I 0,.I 0,.I 0,.I 0,.I 0])] R (sN (kS (id:=104) R GV R R zS)) ?_))
  obtain ⟨r1,ec,h⟩:=al h
  obtain ⟨r2,fz,h⟩:=al h
  obtain ⟨r3,nf,h⟩:=al h
  refine LH.aj [(0,.ptr 7 0),(1,.I p1),(4,.ptr 104 0),(5,.ptr 105 0)] [(7,.box [.L r3.2.L,.I r3.2.At]),(104,.box [.I 0,.I 0,.I 0,.I 0,.I 0,.I 0]),(105,.box [.I 1,.I r1.1,.I r2.1,.I r3.1,.I 0,.I 0])] R (ib R (sN (fa (args:=[.ptr 7 0,.I 1,.I 12]) (ml:=[(7,.box [.L p0.L,.I p0.At])]) (dg:=[(7,.box [.L r1.2.L,.I r1.2.At])]) R nD R (aK (aK (aK bt))) (nA ec) (mC R mN) (b8 R cw) R (ib R (sN (fa (args:=[.ptr 7 0,.I 4]) (ml:=[(7,.box [.L r1.2.L,.I r1.2.At])]) (dg:=[(7,.box [.L r2.2.L,.I r2.2.At])]) R gw R (aK (aK bt)) (kG fz) (mC R mN) (b8 R cw) R (ib R (sN (fa (args:=[.ptr 7 0,.I 3]) (ml:=[(7,.box [.L r2.2.L,.I r2.2.At])]) (dg:=[(7,.box [.L r3.2.L,.I r3.2.At])]) R gw R (aK (aK bt)) (kG nf) (mC R mN) (b8 R cw) R (sN (gB (vs:=[(0,.I 1),(1,.I r1.1),(2,.I r2.1),(3,.I r3.1)]) Qe GV R (lf oS bb aE R R R (lf mP bb aE R R R (lf qg bb aE R R R (lf qh bb aE R R R gA)))) (sN (kS (id:=105) R GV R R (s_ (cV R R R ee dB R R R zS))))))))))))))) (LH.mid (fun e m=>∃ (l4:List Int) (n5:Int) (n6:Int) (n7:Int) (n8:Int) (n9:Int),B8 p1 r2 r3 l4 n5 n6 n7 n8 n9=some r∧Wk (fun id=>Mem.of [(7,.box [.L p0.L,.I p0.At])] id ≠ .none) e m (Env.of [(0,.ptr 7 0),(1,.I p1),(4,.ptr 104 0),(5,.ptr 105 0)]) (Mem.of [(7,.box [.L l4,.I n5]),(104,.box [.I 0,.I 0,.I 0,.I 0,.I 0,.I 0]),(105,.box [.I n6,.I n7,.I r2.1,.I r3.1,.I n8,.I n9])])) ?_ ?_)
  ·obtain ⟨tT,KH,h⟩:=al h
   refine LH.aj [(0,.ptr 7 0),(1,.I p1),(4,.ptr 104 0),(5,.ptr 105 0),(15,.bool (tT.1 == 0))] [(7,.box [.L tT.2.L,.I tT.2.At]),(104,.box [.I 0,.I 0,.I 0,.I 0,.I 0,.I 0]),(105,.box [.I 1,.I r1.1,.I r2.1,.I r3.1,.I 0,.I 0])] R (ib R (sN (fa (args:=[.ptr 7 0,.I 3]) (ml:=[(7,.box [.L r3.2.L,.I r3.2.At])]) (dg:=[(7,.box [.L tT.2.L,.I tT.2.At])]) R gw R (aK (aK bt)) (kG KH) (mC R mN) (b8 R cw) R (sN (gm R R zS))))) (LH.cond (t:=(tT.1 == 0)) R (fun pf=>?_) (fun pf=>?_))
   ·replace h:=aB h pf
    obtain ⟨da,E5,h⟩:=al h
    refine LH.aj [(0,.ptr 7 0),(1,.I p1),(4,.ptr 104 0),(5,.ptr 105 0)] [(7,.box [.L da.2.L,.I da.2.At]),(104,.box [.I 0,.I 0,.I 0,.I 0,.I 0,.I 0]),(105,.box [.I 2,.I r1.1,.I r2.1,.I r3.1,.I da.1,.I 0])] R (ib R (sN (fa (args:=[.ptr 7 0,.I 2,.I 5]) (ml:=[(7,.box [.L tT.2.L,.I tT.2.At])]) (dg:=[(7,.box [.L da.2.L,.I da.2.At])]) R nD R (aK (aK (aK bt))) (nA E5) (mC R mN) (b8 R cw) R (sN (dK oS aE bb R R (s_ (cV R R R aE bb R R R (sN (dK j9 aE bb R R (s_ (cV R R R aE bb R R R zS))))))))))) ?_
    obtain ⟨H6,R4,h⟩:=al h
    obtain ⟨kB,KI,h⟩:=al h
    exact LH.aQ [(0,.ptr 7 0),(1,.I p1),(4,.ptr 104 0),(5,.ptr 105 0)] [(7,.box [.L kB.2.L,.I kB.2.At]),(104,.box [.I 0,.I 0,.I 0,.I 0,.I 0,.I 0]),(105,.box [.I 2,.I kB.1,.I r2.1,.I r3.1,.I da.1,.I H6.1])] R (ib R (sN (dK j9 aE bb R R (sN (dW R R R R aE bN (sN (fa (args:=[.ptr 7 0,.I da.1]) (ml:=[(7,.box [.L da.2.L,.I da.2.At])]) (dg:=[(7,.box [.L H6.2.L,.I H6.2.At])]) R gw R (aK (aK bt)) (kG R4) (mC R mN) (b8 R cw) R (ib R (sN (fa (args:=[.ptr 7 0,.I 1,.I 3]) (ml:=[(7,.box [.L H6.2.L,.I H6.2.At])]) (dg:=[(7,.box [.L kB.2.L,.I kB.2.At])]) R nD R (aK (aK (aK bt))) (nA KI) (mC R mN) (b8 R cw) R (sN (dK mQ aE bb R R (s_ (cV R R R aE bb R R R (sN (dK mP aE bb R R (s_ (cV R R R aE bb R R R zS)))))))))))))))))) (av ⟨kB.2.L,kB.2.At,2,kB.1,da.1,H6.1,h,Wk.eq R R R R⟩)
   replace h:=aA h pf
   exact LH.skip (av ⟨tT.2.L,tT.2.At,1,r1.1,0,0,h,Wk.eq R R R R⟩)
  clear h
  rintro e m ⟨l4,n5,n6,n7,n8,n9,h,hw⟩
  refine LH.wk hw ?_
  clear hw
  unfold B8 at h
  refine LH.seq ?_
  obtain ⟨ve,hv,h⟩:=al h
  refine LH.aj [(0,.ptr 7 0),(4,.ptr 104 0),(5,.ptr 105 0),(34,.bool ve.1)] [(7,.box [.L ve.2.1,.I ve.2.2]),(104,.box [.I 0,.I 0,.I 0,.I 0,.I 0,.I 0]),(105,.box [.I n6,.I n7,.I r2.1,.I r3.1,.I n8,.I n9])] R ?_ ?_
  ·refine bl R (sN (iw R R (bI R ?_)))
   by_cases cC:(decide (p1 > 0))=true
   ·replace hv:=aB hv cC
    refine sT R (cB cC) (oM (v:=(.ptr _ _)) R (sT R (cB cC) (oM (v:=(.int _ _)) R ?_)))
    obtain ⟨gi,vH,hv⟩:=al hv
    refine sT R (cB cC) (fa (args:=[.ptr 7 0,.I p1]) (ml:=[(7,.box [.L l4,.I n5])]) (dg:=[(7,.box [.L gi.2.L,.I gi.2.At])]) R sO R (aK (aK bt)) (zB vH) (mC R mN) (b8 R cw) R (sN (aW (cB cC) (v:=(.bool _)) R ?_)))
    obtain rfl:=oI hv
    exact zS
   ·replace cC:=bF cC
    replace hv:=aA hv cC
    refine sF R R cC (sF R R cC (sF R R cC (sN (aV (cB cC) (v:=(.bool _)) R ?_))))
    obtain rfl:=oI hv
    exact zS
  clear hv
  refine LH.cond (t:=ve.1) R (fun gE=>?_) (fun gE=>?_)
  ·replace h:=aB h gE
   obtain ⟨ij,KC,h⟩:=al h
   refine LH.aj [(0,.ptr 7 0),(4,.ptr 104 0),(5,.ptr 105 0),(36,.I ij.1)] [(7,.box [.L ij.2.L,.I ij.2.At]),(104,.box [.I 0,.I 0,.I 0,.I 0,.I 0,.I 0]),(105,.box [.I n6,.I n7,.I r2.1,.I r3.1,.I n8,.I n9])] R (ib R (sN (fa (args:=[.ptr 7 0,.I 6]) (ml:=[(7,.box [.L ve.2.1,.I ve.2.2])]) (dg:=[(7,.box [.L ij.2.L,.I ij.2.At])]) R gw R (aK (aK bt)) (kG KC) (mC R mN) (b8 R cw) R zS))) (LH.block (LH.aj [(0,.ptr 7 0),(4,.ptr 104 0),(5,.ptr 105 0),(36,.I ij.1),(40,.bool (ij.1 == 0))] [(7,.box [.L ij.2.L,.I ij.2.At]),(104,.box [.I 0,.I 0,.I 0,.I 0,.I 0,.I 0]),(105,.box [.I n6,.I n7,.I r2.1,.I r3.1,.I n8,.I n9])] R (sN (gm R R (cm R zS))) (LH.cond (t:=(ij.1 == 0)) R (fun iB=>?_) (fun iB=>?_))))
   ·replace h:=aB h iB
    obtain ⟨tS,KD,h⟩:=al h
    refine LH.aQ [(4,.ptr 104 0),(5,.ag [.I tS.1,.I n7,.I r2.1,.I r3.1,.I n8,.I n9])] [(7,.box [.L tS.2.L,.I tS.2.At]),(104,.box [.I 0,.I 0,.I 0,.I 0,.I 0,.I 0])] R (ib R (sN (fa (args:=[.ptr 7 0,.I (-1),.I 3]) (ml:=[(7,.box [.L ij.2.L,.I ij.2.At])]) (dg:=[(7,.box [.L tS.2.L,.I tS.2.At])]) R nD R (aK (aK (aK bt))) (nA KD) (mC R mN) (b8 R cw) R (sN (dK oS aE bb R R (s_ (cV R R R aE bb R R R (s0 ((Wk.trans (aX [(4,.ptr 104 0),(5,.ptr 105 0)] [(7,.box [.L tS.2.L,.I tS.2.At]),(104,.box [.I 0,.I 0,.I 0,.I 0,.I 0,.I 0]),(105,.box [.I tS.1,.I n7,.I r2.1,.I r3.1,.I n8,.I n9])]) (Wk.trans (Wk.bk 105 [.I tS.1,.I n7,.I r2.1,.I r3.1,.I n8,.I n9] R R R (bO R)) (Wk.eq R R R R)))))))))))) (aY (av (LH.aj [(4,.ag [.I tS.1,.I n7,.I r2.1,.I r3.1,.I n8,.I n9])] [(7,.box [.L tS.2.L,.I tS.2.At])] R (sN (bh R ee iM dB R R (s_ (cV R R R ee dB R R R (s0 ((Wk.trans (aX [(4,.ptr 104 0)] [(7,.box [.L tS.2.L,.I tS.2.At]),(104,.box [.I tS.1,.I n7,.I r2.1,.I r3.1,.I n8,.I n9])]) (Wk.trans (Wk.bk 104 [.I tS.1,.I n7,.I r2.1,.I r3.1,.I n8,.I n9] R R R (bO R)) (Wk.eq R R R R))))))))) (LH.ret ?_))))
    obtain rfl:=oI h
    exact aS (aT Tryz.results52) (df R ee iM dB R R (bP ⟨aR (mC R mN),R,a8 R,Sub.rfl⟩))
   replace h:=aA h iB
   refine LH.aj [(0,.ptr 7 0),(4,.ptr 104 0),(5,.ptr 105 0),(36,.I ij.1),(45,.bool (ij.1 == 1))] [(7,.box [.L ij.2.L,.I ij.2.At]),(104,.box [.I 0,.I 0,.I 0,.I 0,.I 0,.I 0]),(105,.box [.I n6,.I n7,.I r2.1,.I r3.1,.I n8,.I n9])] R (sN (gm R R (cm R zS))) (LH.cond (t:=(ij.1 == 1)) R (fun jb=>?_) (fun jb=>?_))
   ·replace h:=aB h jb
    obtain ⟨gS,Ak,h⟩:=al h
    refine LH.aQ [(4,.ptr 104 0),(5,.ag [.I n6,.I gS.1,.I r2.1,.I r3.1,.I n8,.I n9])] [(7,.box [.L gS.2.L,.I gS.2.At]),(104,.box [.I 0,.I 0,.I 0,.I 0,.I 0,.I 0])] R (ib R (sN (jI (f:=LV.I) (ys:=[0,40,41,(-1)]) cz qN bb R R R lO (sN (fa (args:=[.ptr 7 0,.L [0,40,41,(-1)]]) (ml:=[(7,.box [.L ij.2.L,.I ij.2.At])]) (dg:=[(7,.box [.L gS.2.L,.I gS.2.At])]) R xr R (aK (aK bt)) (Eb Ak) (mC R mN) (b8 R cw) R (sN (dK mP aE bb R R (s_ (cV R R R aE bb R R R (s0 ((Wk.trans (aX [(4,.ptr 104 0),(5,.ptr 105 0)] [(7,.box [.L gS.2.L,.I gS.2.At]),(104,.box [.I 0,.I 0,.I 0,.I 0,.I 0,.I 0]),(105,.box [.I n6,.I gS.1,.I r2.1,.I r3.1,.I n8,.I n9])]) (Wk.trans (Wk.bk 105 [.I n6,.I gS.1,.I r2.1,.I r3.1,.I n8,.I n9] R R R (bO R)) (Wk.eq R R R R)))))))))))))) (aY (av (LH.aj [(4,.ag [.I n6,.I gS.1,.I r2.1,.I r3.1,.I n8,.I n9])] [(7,.box [.L gS.2.L,.I gS.2.At])] R (sN (bh R ee iM dB R R (s_ (cV R R R ee dB R R R (s0 ((Wk.trans (aX [(4,.ptr 104 0)] [(7,.box [.L gS.2.L,.I gS.2.At]),(104,.box [.I n6,.I gS.1,.I r2.1,.I r3.1,.I n8,.I n9])]) (Wk.trans (Wk.bk 104 [.I n6,.I gS.1,.I r2.1,.I r3.1,.I n8,.I n9] R R R (bO R)) (Wk.eq R R R R))))))))) (LH.ret ?_))))
    obtain rfl:=oI h
    exact aS (aT Tryz.results52) (df R ee iM dB R R (bP ⟨aR (mC R mN),R,a8 R,Sub.rfl⟩))
   replace h:=aA h jb
   refine LH.aj [(0,.ptr 7 0),(4,.ptr 104 0),(5,.ptr 105 0),(36,.I ij.1),(51,.bool (ij.1 == 2))] [(7,.box [.L ij.2.L,.I ij.2.At]),(104,.box [.I 0,.I 0,.I 0,.I 0,.I 0,.I 0]),(105,.box [.I n6,.I n7,.I r2.1,.I r3.1,.I n8,.I n9])] R (sN (gm R R (cm R zS))) (LH.cond (t:=(ij.1 == 2)) R (fun lu=>?_) (fun lu=>?_))
   ·replace h:=aB h lu
    obtain ⟨rG,KF,h⟩:=al h
    refine LH.aQ [(4,.ptr 104 0),(5,.ag [.I n6,.I n7,.I rG.1,.I r3.1,.I n8,.I n9])] [(7,.box [.L rG.2.L,.I rG.2.At]),(104,.box [.I 0,.I 0,.I 0,.I 0,.I 0,.I 0])] R (ib R (sN (fa (args:=[.ptr 7 0]) (ml:=[(7,.box [.L ij.2.L,.I ij.2.At])]) (dg:=[(7,.box [.L rG.2.L,.I rG.2.At])]) R uI R (aK bt) (Ca KF) (mC R mN) (b8 R cw) R (sN (dK qg aE bb R R (s_ (cV R R R aE bb R R R (s0 ((Wk.trans (aX [(4,.ptr 104 0),(5,.ptr 105 0)] [(7,.box [.L rG.2.L,.I rG.2.At]),(104,.box [.I 0,.I 0,.I 0,.I 0,.I 0,.I 0]),(105,.box [.I n6,.I n7,.I rG.1,.I r3.1,.I n8,.I n9])]) (Wk.trans (Wk.bk 105 [.I n6,.I n7,.I rG.1,.I r3.1,.I n8,.I n9] R R R (bO R)) (Wk.eq R R R R)))))))))))) (aY (av (LH.aj [(4,.ag [.I n6,.I n7,.I rG.1,.I r3.1,.I n8,.I n9])] [(7,.box [.L rG.2.L,.I rG.2.At])] R (sN (bh R ee iM dB R R (s_ (cV R R R ee dB R R R (s0 ((Wk.trans (aX [(4,.ptr 104 0)] [(7,.box [.L rG.2.L,.I rG.2.At]),(104,.box [.I n6,.I n7,.I rG.1,.I r3.1,.I n8,.I n9])]) (Wk.trans (Wk.bk 104 [.I n6,.I n7,.I rG.1,.I r3.1,.I n8,.I n9] R R R (bO R)) (Wk.eq R R R R))))))))) (LH.ret ?_))))
    obtain rfl:=oI h
    exact aS (aT Tryz.results52) (df R ee iM dB R R (bP ⟨aR (mC R mN),R,a8 R,Sub.rfl⟩))
   replace h:=aA h lu
   refine LH.aj [(0,.ptr 7 0),(4,.ptr 104 0),(5,.ptr 105 0),(36,.I ij.1),(56,.bool (ij.1 == 3))] [(7,.box [.L ij.2.L,.I ij.2.At]),(104,.box [.I 0,.I 0,.I 0,.I 0,.I 0,.I 0]),(105,.box [.I n6,.I n7,.I r2.1,.I r3.1,.I n8,.I n9])] R (sN (gm R R (cm R zS))) (LH.cond (t:=(ij.1 == 3)) R (fun sx=>?_) (fun sx=>?_))
   ·replace h:=aB h sx
    obtain ⟨vX,R1,h⟩:=al h
    refine LH.aQ [(4,.ptr 104 0),(5,.ag [.I n6,.I n7,.I r2.1,.I vX.1,.I n8,.I n9])] [(7,.box [.L vX.2.L,.I vX.2.At]),(104,.box [.I 0,.I 0,.I 0,.I 0,.I 0,.I 0])] R (ib R (sN (fa (args:=[.ptr 7 0]) (ml:=[(7,.box [.L ij.2.L,.I ij.2.At])]) (dg:=[(7,.box [.L vX.2.L,.I vX.2.At])]) R uI R (aK bt) (Ca R1) (mC R mN) (b8 R cw) R (sN (dK qh aE bb R R (s_ (cV R R R aE bb R R R (s0 ((Wk.trans (aX [(4,.ptr 104 0),(5,.ptr 105 0)] [(7,.box [.L vX.2.L,.I vX.2.At]),(104,.box [.I 0,.I 0,.I 0,.I 0,.I 0,.I 0]),(105,.box [.I n6,.I n7,.I r2.1,.I vX.1,.I n8,.I n9])]) (Wk.trans (Wk.bk 105 [.I n6,.I n7,.I r2.1,.I vX.1,.I n8,.I n9] R R R (bO R)) (Wk.eq R R R R)))))))))))) (aY (av (LH.aj [(4,.ag [.I n6,.I n7,.I r2.1,.I vX.1,.I n8,.I n9])] [(7,.box [.L vX.2.L,.I vX.2.At])] R (sN (bh R ee iM dB R R (s_ (cV R R R ee dB R R R (s0 ((Wk.trans (aX [(4,.ptr 104 0)] [(7,.box [.L vX.2.L,.I vX.2.At]),(104,.box [.I n6,.I n7,.I r2.1,.I vX.1,.I n8,.I n9])]) (Wk.trans (Wk.bk 104 [.I n6,.I n7,.I r2.1,.I vX.1,.I n8,.I n9] R R R (bO R)) (Wk.eq R R R R))))))))) (LH.ret ?_))))
    obtain rfl:=oI h
    exact aS (aT Tryz.results52) (df R ee iM dB R R (bP ⟨aR (mC R mN),R,a8 R,Sub.rfl⟩))
   replace h:=aA h sx
   refine LH.aj [(0,.ptr 7 0),(4,.ptr 104 0),(5,.ptr 105 0),(61,.bool (ij.1 == 4))] [(7,.box [.L ij.2.L,.I ij.2.At]),(104,.box [.I 0,.I 0,.I 0,.I 0,.I 0,.I 0]),(105,.box [.I n6,.I n7,.I r2.1,.I r3.1,.I n8,.I n9])] R (sN (gm R R (cm R zS))) (LH.cond (t:=(ij.1 == 4)) R (fun zV=>?_) (fun zV=>?_))
   ·replace h:=aB h zV
    obtain ⟨vY,R2,h⟩:=al h
    refine LH.aQ [(4,.ptr 104 0),(5,.ag [.I n6,.I n7,.I r2.1,.I r3.1,.I vY.1,.I n9])] [(7,.box [.L vY.2.L,.I vY.2.At]),(104,.box [.I 0,.I 0,.I 0,.I 0,.I 0,.I 0])] R (ib R (sN (fa (args:=[.ptr 7 0,.I (-1),.I 6]) (ml:=[(7,.box [.L ij.2.L,.I ij.2.At])]) (dg:=[(7,.box [.L vY.2.L,.I vY.2.At])]) R nD R (aK (aK (aK bt))) (nA R2) (mC R mN) (b8 R cw) R (sN (dK j9 aE bb R R (s_ (cV R R R aE bb R R R (s0 ((Wk.trans (aX [(4,.ptr 104 0),(5,.ptr 105 0)] [(7,.box [.L vY.2.L,.I vY.2.At]),(104,.box [.I 0,.I 0,.I 0,.I 0,.I 0,.I 0]),(105,.box [.I n6,.I n7,.I r2.1,.I r3.1,.I vY.1,.I n9])]) (Wk.trans (Wk.bk 105 [.I n6,.I n7,.I r2.1,.I r3.1,.I vY.1,.I n9] R R R (bO R)) (Wk.eq R R R R)))))))))))) (aY (av (LH.aj [(4,.ag [.I n6,.I n7,.I r2.1,.I r3.1,.I vY.1,.I n9])] [(7,.box [.L vY.2.L,.I vY.2.At])] R (sN (bh R ee iM dB R R (s_ (cV R R R ee dB R R R (s0 ((Wk.trans (aX [(4,.ptr 104 0)] [(7,.box [.L vY.2.L,.I vY.2.At]),(104,.box [.I n6,.I n7,.I r2.1,.I r3.1,.I vY.1,.I n9])]) (Wk.trans (Wk.bk 104 [.I n6,.I n7,.I r2.1,.I r3.1,.I vY.1,.I n9] R R R (bO R)) (Wk.eq R R R R))))))))) (LH.ret ?_))))
    obtain rfl:=oI h
    exact aS (aT Tryz.results52) (df R ee iM dB R R (bP ⟨aR (mC R mN),R,a8 R,Sub.rfl⟩))
   replace h:=aA h zV
   obtain ⟨vZ,R3,h⟩:=al h
   refine LH.aQ [(4,.ptr 104 0),(5,.ag [.I n6,.I n7,.I r2.1,.I r3.1,.I n8,.I vZ.1])] [(7,.box [.L vZ.2.L,.I vZ.2.At]),(104,.box [.I 0,.I 0,.I 0,.I 0,.I 0,.I 0])] R (ib R (sN (fa (args:=[.ptr 7 0,.I (-1),.I 5]) (ml:=[(7,.box [.L ij.2.L,.I ij.2.At])]) (dg:=[(7,.box [.L vZ.2.L,.I vZ.2.At])]) R nD R (aK (aK (aK bt))) (nA R3) (mC R mN) (b8 R cw) R (sN (dK mQ aE bb R R (s_ (cV R R R aE bb R R R (s0 ((Wk.trans (aX [(4,.ptr 104 0),(5,.ptr 105 0)] [(7,.box [.L vZ.2.L,.I vZ.2.At]),(104,.box [.I 0,.I 0,.I 0,.I 0,.I 0,.I 0]),(105,.box [.I n6,.I n7,.I r2.1,.I r3.1,.I n8,.I vZ.1])]) (Wk.trans (Wk.bk 105 [.I n6,.I n7,.I r2.1,.I r3.1,.I n8,.I vZ.1] R R R (bO R)) (Wk.eq R R R R)))))))))))) (aY (av (LH.aj [(4,.ag [.I n6,.I n7,.I r2.1,.I r3.1,.I n8,.I vZ.1])] [(7,.box [.L vZ.2.L,.I vZ.2.At])] R (sN (bh R ee iM dB R R (s_ (cV R R R ee dB R R R (s0 ((Wk.trans (aX [(4,.ptr 104 0)] [(7,.box [.L vZ.2.L,.I vZ.2.At]),(104,.box [.I n6,.I n7,.I r2.1,.I r3.1,.I n8,.I vZ.1])]) (Wk.trans (Wk.bk 104 [.I n6,.I n7,.I r2.1,.I r3.1,.I n8,.I vZ.1] R R R (bO R)) (Wk.eq R R R R))))))))) (LH.ret ?_))))
   obtain rfl:=oI h
   exact aS (aT Tryz.results52) (df R ee iM dB R R (bP ⟨aR (mC R mN),R,a8 R,Sub.rfl⟩))
  replace h:=aA h gE
  refine LH.skip (av (LH.wk ((Wk.trans (aX [(4,.ptr 104 0),(5,.ptr 105 0)] [(7,.box [.L ve.2.1,.I ve.2.2]),(104,.box [.I 0,.I 0,.I 0,.I 0,.I 0,.I 0]),(105,.box [.I n6,.I n7,.I r2.1,.I r3.1,.I n8,.I n9])]) (Wk.trans (Wk.bk 105 [.I n6,.I n7,.I r2.1,.I r3.1,.I n8,.I n9] R R R (bO R)) (aX [(4,.ptr 104 0),(5,.ag [.I n6,.I n7,.I r2.1,.I r3.1,.I n8,.I n9])] [(7,.box [.L ve.2.1,.I ve.2.2]),(104,.box [.I 0,.I 0,.I 0,.I 0,.I 0,.I 0])])))) (LH.aj [(4,.ag [.I n6,.I n7,.I r2.1,.I r3.1,.I n8,.I n9])] [(7,.box [.L ve.2.1,.I ve.2.2])] R (sN (bh R ee iM dB R R (s_ (cV R R R ee dB R R R (s0 ((Wk.trans (aX [(4,.ptr 104 0)] [(7,.box [.L ve.2.1,.I ve.2.2]),(104,.box [.I n6,.I n7,.I r2.1,.I r3.1,.I n8,.I n9])]) (Wk.trans (Wk.bk 104 [.I n6,.I n7,.I r2.1,.I r3.1,.I n8,.I n9] R R R (bO R)) (Wk.eq R R R R))))))))) (LH.ret ?_))))
  obtain rfl:=oI h
  exact aS (aT Tryz.results52) (df R ee iM dB R R (bP ⟨aR (mC R mN),R,a8 R,Sub.rfl⟩))
set_option maxHeartbeats 4000000 in
theorem Q0 {F:Nat} {p0:aN} {p1:Int} {p2:Int} {p3:Int} {r:ai × aN} (h:D7 F p0 p1 p2 p3=some r):aP Tryz.prog 29 [.ptr 7 0,.I p1,.I p2,.I p3] (Mem.of [(7,.box [.L p0.L,.I p0.At])]) (ai.lv r.1) (Mem.of [(7,.box [.L r.2.L,.I r.2.At])]):=by
  unfold D7 at h
  refine bu Tryz.func29 R (nT Tryz.ntmps29 R) (LH.wk (aX [(0,.ptr 7 0),(1,.I p1),(2,.I p2),(3,.I p3)] [(7,.box [.L p0.L,.I p0.At])]) (LH.aj [(0,.ptr 7 0),(1,.I p1),(2,.I p2),(3,.I p3),(8,.ptr 108 0)] [(7,.box [.L p0.L,.I p0.At]),(108,.box fc)] R (sN (kS (id:=108) R A7 R R zS)) ?_))
  obtain ⟨r1,ec,h⟩:=al h
  obtain ⟨t2,VH,h⟩:=al h
  refine LH.aj [(0,.ptr 7 0),(1,.I p1),(3,.I p3),(8,.ptr 108 0),(9,.ptr 109 0)] [(7,.box [.L r1.2.L,.I r1.2.At]),(108,.box fc),(109,.box [.I p1,.I p2,.str t2,.nil,.nil])] R (bl R (bl R (ib R (sN (fa (args:=[.ptr 7 0,.I 3]) (ml:=[(7,.box [.L p0.L,.I p0.At])]) (dg:=[(7,.box [.L r1.2.L,.I r1.2.At])]) R Og R (aK (aK bt)) (Q3 ec) (mC R mN) (b8 R cw) R (sX ((BM R R VH).ok) (sN (gB (vs:=[(0,.I p1),(1,.I p2),(2,.str t2)]) Qc A7 R (lf e6 bb aE R R R (lf fE bb aE R R R (lf gJ wH oY R R R gA))) (sN (kS (id:=109) R A7 R R (s_ (cV R R R cG ct R R R zS)))))))))))) (LH.seq ?_)
  obtain ⟨r3,nf,h⟩:=al h
  refine LH.aj [(0,.ptr 7 0),(1,.I p1),(3,.I p3),(8,.ptr 108 0),(9,.ptr 109 0),(10,.I r3.1)] [(7,.box [.L r3.2.L,.I r3.2.At]),(108,.box fc),(109,.box [.I p1,.I p2,.str t2,.nil,.nil])] R (ib R (sN (fa (args:=[.ptr 7 0,.I 1,.I 3]) (ml:=[(7,.box [.L r1.2.L,.I r1.2.At])]) (dg:=[(7,.box [.L r3.2.L,.I r3.2.At])]) R nD R (aK (aK (aK bt))) (nA nf) (mC R mN) (b8 R cw) R (bo R zS)))) (LH.block (LH.wk ((Wk.trans (aX [(0,.ptr 7 0),(1,.I p1),(3,.I p3),(8,.ptr 108 0),(9,.ptr 109 0),(10,.I r3.1)] [(7,.box [.L r3.2.L,.I r3.2.At]),(108,.box fc),(109,.box [.I p1,.I p2,.str t2,.nil,.nil])]) (Wk.trans (aX [(0,.ptr 7 0),(1,.I p1),(3,.I p3),(8,.ptr 108 0),(9,.ptr 109 0),(10,.I r3.1)] [(7,.box [.L r3.2.L,.I r3.2.At]),(108,.box fc),(109,.box [.I p1,.I p2,.str t2,.nil,.nil])]) (Wk.trans (Wk.uQ 129 86 6 109 3 R R R R R (bO R)) (aX [(0,.ptr 7 0),(1,.I p1),(3,.I p3),(8,.ptr 108 0),(9,.ptr 109 0),(10,.I r3.1)] [(7,.box [.L r3.2.L,.I r3.2.At]),(108,.box fc),(109,.box [.I p1,.I p2,.str t2,.arr 129 (List.length ([]:List ao)),.nil]),(129,.arr 86 6 (List.map ao.lv ([]:List ao)))]))))) (LH.loop (fun n e m=>∃ (n4:Int) (l5:List Int) (n6:Int) (l7:List ao),D8 F p1 p2 p3 t2 n n4 l5 n6 l7=some r∧e=Env.of [(0,.ptr 7 0),(1,.I p1),(3,.I p3),(8,.ptr 108 0),(9,.ptr 109 0),(10,.I n4)]∧m=Mem.of [(7,.box [.L l5,.I n6]),(108,.box fc),(109,.box [.I p1,.I p2,.str t2,.arr 129 l7.length,.nil]),(129,.arr 86 6 (l7.map ao.lv))]) F ⟨r3.1,r3.2.L,r3.2.At,([]:List ao),h,R,R⟩ ?_)))
  clear h
  rintro n e m ⟨n4,l5,n6,l7,h,rfl,rfl⟩
  rcases n with _ | n
  · cases (show Option.none=some _ from h)
  obtain ⟨aH,ba⟩:∃ f,f=D8 F p1 p2 p3 t2 n:=⟨_,rfl⟩
  replace h:D9 F p1 p2 p3 t2 aH n4 l5 n6 l7=some r:=ba ▸ h
  unfold D9 at h
  refine LH.seq (LH.aj [(0,.ptr 7 0),(1,.I p1),(3,.I p3),(8,.ptr 108 0),(9,.ptr 109 0),(10,.I n4),(21,.bool (decide (n4 > 0)))] [(7,.box [.L l5,.I n6]),(108,.box fc),(109,.box [.I p1,.I p2,.str t2,.arr 129 l7.length,.nil]),(129,.arr 86 6 (l7.map ao.lv))] R (bl R (sN (iw R R zS))) (LH.cond (t:=(decide (n4 > 0))) R (fun ly=>?_) (fun ly=>?_)))
  ·replace h:=aB h ly
   refine LH.skip (av (LH.wk (aX [(0,.ptr 7 0),(1,.I p1),(3,.I p3),(8,.ptr 108 0),(9,.ptr 109 0),(10,.I n4)] [(7,.box [.L l5,.I n6]),(108,.box fc),(109,.box [.I p1,.I p2,.str t2,.arr 129 l7.length,.nil]),(129,.arr 86 6 (l7.map ao.lv))]) (LH.seq (LH.block ?_))))
   obtain ⟨r9,CK,h⟩:=al h
   obtain ⟨v10,Fc,h⟩:=al h
   refine LH.sQ mixed [] [0,1109,0,100007,0,2,0,100109] [(0,.ptr 7 0),(1,.I p1),(3,.I p3),(8,.ptr 108 0),(9,.ptr 109 0),(10,.I n4)] [(7,.box [.L r9.2.L,.I r9.2.At]),(108,.box fc),(109,.box [.I p1,.I p2,.str t2,.arr 129 v10.length,.nil]),(129,.arr 86 6 (v10.map ao.lv))] R R (by kernel_rfl) (aF (dK cX cY fy R R ⟨R,mD R R R (fun _ b _ d=>dW R b R R cY iL d) (BG R (mW R R R (fun _ b _ d=>fa (args:=[.ptr 7 0,.I 0]) (ml:=[(7,.box [.L l5,.I n6])]) (dg:=[(7,.box [.L r9.2.L,.I r9.2.At])]) R I4 R (aK (aK bt)) (Mq CK) (mC b mN) (b8 R cw) R d) (aF (jI (f:=ao.lv) (ys:=[r9.1]) gj A3 dB R R R ao.ok ⟨R,Hg (my (f:=ao.lv) gj A3 dB R R (bO R) R Fc (aF (dK cX cY fy R R ⟨R,mS R R R (fun _ b _ d=>cV R R R cY fy b R R d) zM⟩)))⟩))))⟩)) (aY (av (LH.aQ [(0,.ptr 7 0),(1,.I p1),(3,.I p3),(8,.ptr 108 0),(9,.ptr 109 0),(10,.I (i64 (n4 - 1)))] [(7,.box [.L r9.2.L,.I r9.2.At]),(108,.box fc),(109,.box [.I p1,.I p2,.str t2,.arr 129 v10.length,.nil]),(129,.arr 86 6 (v10.map ao.lv))] R (bl R (sN (iG R R (bo R zS)))) ?_)))
   exact bg ⟨(i64 (n4 - 1)),r9.2.L,r9.2.At,v10,ba ▸ h,R,R⟩ (Wk.eq R R R R)
  replace h:=aA h ly
  refine LH.exit (cv (bY (bM (av (LH.wk (aX [(0,.ptr 7 0),(1,.I p1),(3,.I p3),(8,.ptr 108 0),(9,.ptr 109 0)] [(7,.box [.L l5,.I n6]),(108,.box fc),(109,.box [.I p1,.I p2,.str t2,.arr 129 l7.length,.nil]),(129,.arr 86 6 (l7.map ao.lv))]) (LH.seq (LH.aj [(0,.ptr 7 0),(1,.I p1),(3,.I p3),(8,.ptr 108 0),(9,.ptr 109 0),(11,.I 0)] [(7,.box [.L l5,.I n6]),(108,.box fc),(109,.box [.I p1,.I p2,.str t2,.arr 129 l7.length,.nil]),(129,.arr 86 6 (l7.map ao.lv))] R (bo R zS) (LH.block (LH.wk ((Wk.trans (aX [(0,.ptr 7 0),(1,.I p1),(3,.I p3),(8,.ptr 108 0),(9,.ptr 109 0),(11,.I 0)] [(7,.box [.L l5,.I n6]),(108,.box fc),(109,.box [.I p1,.I p2,.str t2,.arr 129 l7.length,.nil]),(129,.arr 86 6 (l7.map ao.lv))]) (Wk.trans (aX [(0,.ptr 7 0),(1,.I p1),(3,.I p3),(8,.ptr 108 0),(9,.ptr 109 0),(11,.I 0)] [(7,.box [.L l5,.I n6]),(108,.box fc),(109,.box [.I p1,.I p2,.str t2,.arr 129 l7.length,.nil]),(129,.arr 86 6 (l7.map ao.lv))]) (Wk.trans (Wk.uQ 146 3 1 109 4 R R R R R (bO R)) (aX [(0,.ptr 7 0),(1,.I p1),(3,.I p3),(8,.ptr 108 0),(9,.ptr 109 0),(11,.I 0)] [(7,.box [.L l5,.I n6]),(108,.box fc),(109,.box [.I p1,.I p2,.str t2,.arr 129 l7.length,.arr 146 (List.length ([]:List Int))]),(129,.arr 86 6 (l7.map ao.lv)),(146,.arr 3 1 (List.map LV.I ([]:List Int)))]))))) (LH.loop (fun n e m=>∃ (n11:Int) (BD:List Int) (n13:Int) (cO:List Int),B6 p1 p2 p3 t2 l7 n n11 BD n13 cO=some r∧e=Env.of [(0,.ptr 7 0),(1,.I p1),(3,.I p3),(8,.ptr 108 0),(9,.ptr 109 0),(11,.I n11)]∧m=Mem.of [(7,.box [.L BD,.I n13]),(108,.box fc),(109,.box [.I p1,.I p2,.str t2,.arr 129 l7.length,.arr 146 cO.length]),(129,.arr 86 6 (l7.map ao.lv)),(146,.arr 3 1 (cO.map LV.I))]) F ⟨0,l5,n6,([]:List Int),h,R,R⟩ ?_))))))))))
  clear h
  rintro n e m ⟨n11,BD,n13,cO,h,rfl,rfl⟩
  rcases n with _ | n
  · cases (show Option.none=some _ from h)
  obtain ⟨eH,dO⟩:∃ f,f=B6 p1 p2 p3 t2 l7 n:=⟨_,rfl⟩
  replace h:Ea p1 p2 p3 t2 l7 eH n11 BD n13 cO=some r:=dO ▸ h
  unfold Ea at h
  refine LH.seq (LH.aj [(0,.ptr 7 0),(1,.I p1),(3,.I p3),(8,.ptr 108 0),(9,.ptr 109 0),(11,.I n11),(32,.bool (decide (n11<6)))] [(7,.box [.L BD,.I n13]),(108,.box fc),(109,.box [.I p1,.I p2,.str t2,.arr 129 l7.length,.arr 146 cO.length]),(129,.arr 86 6 (l7.map ao.lv)),(146,.arr 3 1 (cO.map LV.I))] R (bl R (sN (fi R R zS))) (LH.cond (t:=(decide (n11<6))) R (fun ja=>?_) (fun ja=>?_)))
  ·replace h:=aB h ja
   refine LH.skip (av (LH.wk (aX [(0,.ptr 7 0),(1,.I p1),(3,.I p3),(8,.ptr 108 0),(9,.ptr 109 0),(11,.I n11)] [(7,.box [.L BD,.I n13]),(108,.box fc),(109,.box [.I p1,.I p2,.str t2,.arr 129 l7.length,.arr 146 cO.length]),(129,.arr 86 6 (l7.map ao.lv)),(146,.arr 3 1 (cO.map LV.I))]) (LH.seq (LH.block ?_))))
   obtain ⟨vf,hv,h⟩:=al h
   refine LH.aj [(0,.ptr 7 0),(1,.I p1),(3,.I p3),(8,.ptr 108 0),(9,.ptr 109 0),(11,.I n11),(41,.bool vf.1)] [(7,.box [.L vf.2.1,.I vf.2.2]),(108,.box fc),(109,.box [.I p1,.I p2,.str t2,.arr 129 l7.length,.arr 146 cO.length]),(129,.arr 86 6 (l7.map ao.lv)),(146,.arr 3 1 (cO.map LV.I))] R ?_ ?_
   ·refine bl R (bl R (sN (kg R R (bI R ?_))))
    by_cases kj:(n11 != p1)=true
    ·replace hv:=aB hv kj
     refine sT R (cB kj) (oM (v:=(.ptr _ _)) R ?_)
     obtain ⟨gS,Ak,hv⟩:=al hv
     refine sT R (cB kj) (fa (args:=[.ptr 7 0,.I 8]) (ml:=[(7,.box [.L BD,.I n13])]) (dg:=[(7,.box [.L gS.2.L,.I gS.2.At])]) R sO R (aK (aK bt)) (zB Ak) (mC R mN) (b8 R cw) R (sN (aW (cB kj) (v:=(.bool _)) R ?_)))
     obtain rfl:=oI hv
     exact zS
    ·replace kj:=bF kj
     replace hv:=aA hv kj
     refine sF R R kj (sF R R kj (sN (aV (cB kj) (v:=(.bool _)) R ?_)))
     obtain rfl:=oI hv
     exact zS
   clear hv
   refine LH.cond (t:=vf.1) R (fun lu=>?_) (fun lu=>?_)
   ·replace h:=aB h lu
    obtain ⟨v23,An,h⟩:=al h
    refine LH.aQ [(0,.ptr 7 0),(1,.I p1),(3,.I p3),(8,.ptr 108 0),(9,.ptr 109 0),(11,.I n11)] [(7,.box [.L vf.2.1,.I vf.2.2]),(108,.box fc),(109,.box [.I p1,.I p2,.str t2,.arr 129 l7.length,.arr 146 v23.length]),(129,.arr 86 6 (l7.map ao.lv)),(146,.arr 3 1 (v23.map LV.I))] R (sN (dK fp eI jh R R (sN (dW R R R R eI l9 (bl R (sN (jI (f:=LV.I) (ys:=[n11]) cz qN bb R R R lO (sN (my (f:=LV.I) cz qN bb R R (bO R) R An (sN (dK fp eI jh R R (s_ (cV R R R eI jh R R R zS))))))))))))) (aY (av (LH.aQ [(0,.ptr 7 0),(1,.I p1),(3,.I p3),(8,.ptr 108 0),(9,.ptr 109 0),(11,.I (i64 (n11+1)))] [(7,.box [.L vf.2.1,.I vf.2.2]),(108,.box fc),(109,.box [.I p1,.I p2,.str t2,.arr 129 l7.length,.arr 146 v23.length]),(129,.arr 86 6 (l7.map ao.lv)),(146,.arr 3 1 (v23.map LV.I))] R (bl R (sN (cr R R (bo R zS)))) ?_)))
    exact bg ⟨(i64 (n11+1)),vf.2.1,vf.2.2,v23,dO ▸ h,R,R⟩ (Wk.eq R R R R)
   replace h:=aA h lu
   refine LH.skip (aY (av (LH.aQ [(0,.ptr 7 0),(1,.I p1),(3,.I p3),(8,.ptr 108 0),(9,.ptr 109 0),(11,.I (i64 (n11+1)))] [(7,.box [.L vf.2.1,.I vf.2.2]),(108,.box fc),(109,.box [.I p1,.I p2,.str t2,.arr 129 l7.length,.arr 146 cO.length]),(129,.arr 86 6 (l7.map ao.lv)),(146,.arr 3 1 (cO.map LV.I))] R (bl R (sN (cr R R (bo R zS)))) ?_)))
   exact bg ⟨(i64 (n11+1)),vf.2.1,vf.2.2,cO,dO ▸ h,R,R⟩ (Wk.eq R R R R)
  replace h:=aA h ja
  refine LH.exit (cv (bY (bM (av (LH.wk (aX [(0,.ptr 7 0),(1,.I p1),(3,.I p3),(8,.ptr 108 0),(9,.ptr 109 0)] [(7,.box [.L BD,.I n13]),(108,.box fc),(109,.box [.I p1,.I p2,.str t2,.arr 129 l7.length,.arr 146 cO.length]),(129,.arr 86 6 (l7.map ao.lv)),(146,.arr 3 1 (cO.map LV.I))]) (LH.seq ?_))))))
  obtain ⟨pR,hv,h⟩:=al h
  refine LH.aj [(0,.ptr 7 0),(1,.I p1),(8,.ptr 108 0),(9,.ptr 109 0),(54,.bool pR.1)] [(7,.box [.L pR.2.1,.I pR.2.2]),(108,.box fc),(109,.box [.I p1,.I p2,.str t2,.arr 129 l7.length,.arr 146 cO.length]),(129,.arr 86 6 (l7.map ao.lv)),(146,.arr 3 1 (cO.map LV.I))] R ?_ ?_
  ·refine bl R (sN (iw R R (bI R ?_)))
   by_cases qX:(decide (p3 > 0))=true
   ·replace hv:=aB hv qX
    refine sT R (cB qX) (oM (v:=(.ptr _ _)) R (sT R (cB qX) (oM (v:=(.int _ _)) R ?_)))
    obtain ⟨tT,KH,hv⟩:=al hv
    refine sT R (cB qX) (fa (args:=[.ptr 7 0,.I p3]) (ml:=[(7,.box [.L BD,.I n13])]) (dg:=[(7,.box [.L tT.2.L,.I tT.2.At])]) R sO R (aK (aK bt)) (zB KH) (mC R mN) (b8 R cw) R (sN (aW (cB qX) (v:=(.bool _)) R ?_)))
    obtain rfl:=oI hv
    exact zS
   ·replace qX:=bF qX
    replace hv:=aA hv qX
    refine sF R R qX (sF R R qX (sF R R qX (sN (aV (cB qX) (v:=(.bool _)) R ?_))))
    obtain rfl:=oI hv
    exact zS
  clear hv
  refine LH.cond (t:=pR.1) R (fun pf=>?_) (fun pf=>?_)
  ·replace h:=aB h pf
   obtain ⟨da,E5,h⟩:=al h
   refine LH.aj [(0,.ptr 7 0),(1,.I p1),(8,.ptr 108 0),(9,.ptr 109 0),(56,.I da.1)] [(7,.box [.L da.2.L,.I da.2.At]),(108,.box fc),(109,.box [.I p1,.I p2,.str t2,.arr 129 l7.length,.arr 146 cO.length]),(129,.arr 86 6 (l7.map ao.lv)),(146,.arr 3 1 (cO.map LV.I))] R (ib R (sN (fa (args:=[.ptr 7 0,.I 7]) (ml:=[(7,.box [.L pR.2.1,.I pR.2.2])]) (dg:=[(7,.box [.L da.2.L,.I da.2.At])]) R gw R (aK (aK bt)) (kG E5) (mC R mN) (b8 R cw) R zS))) (LH.block (LH.aj [(0,.ptr 7 0),(1,.I p1),(8,.ptr 108 0),(9,.ptr 109 0),(56,.I da.1),(86,.bool (da.1 == 0))] [(7,.box [.L da.2.L,.I da.2.At]),(108,.box fc),(109,.box [.I p1,.I p2,.str t2,.arr 129 l7.length,.arr 146 cO.length]),(129,.arr 86 6 (l7.map ao.lv)),(146,.arr 3 1 (cO.map LV.I))] R (sN (gm R R (cm R zS))) (LH.cond (t:=(da.1 == 0)) R (fun zY=>?_) (fun zY=>?_))))
   ·replace h:=aB h zY
    obtain ⟨kB,KI,h⟩:=al h
    refine LH.aQ [(8,.ptr 108 0),(9,.ag [.I kB.1,.I p2,.str t2,.ak 6 (l7.map ao.lv),.L cO])] [(7,.box [.L kB.2.L,.I kB.2.At]),(108,.box fc)] R (ib R (sN (fa (args:=[.ptr 7 0]) (ml:=[(7,.box [.L da.2.L,.I da.2.At])]) (dg:=[(7,.box [.L kB.2.L,.I kB.2.At])]) R uI R (aK bt) (Ca KI) (mC R mN) (b8 R cw) R (sN (dK e6 aE bb R R (s_ (cV R R R aE bb R R R (s0 ((Wk.trans (aX [(8,.ptr 108 0),(9,.ptr 109 0)] [(7,.box [.L kB.2.L,.I kB.2.At]),(108,.box fc),(109,.box [.I kB.1,.I p2,.str t2,.arr 129 l7.length,.arr 146 cO.length]),(129,.arr 86 6 (l7.map ao.lv)),(146,.arr 3 1 (cO.map LV.I))]) (Wk.trans (aX [(8,.ptr 108 0),(9,.ptr 109 0)] [(7,.box [.L kB.2.L,.I kB.2.At]),(108,.box fc),(109,.box [.I kB.1,.I p2,.str t2,.arr 129 l7.length,.arr 146 cO.length]),(129,.arr 86 6 (l7.map ao.lv)),(146,.arr 3 1 (cO.map LV.I))]) (Wk.trans (Wk.trans (Wk.gO (f:=ao.lv) 129 86 6 l7 109 R R R (cn R (cn R (cn R (k5 (cn R kZ))))) R R (bO R)) (aX [(8,.ptr 108 0),(9,.ptr 109 0)] [(7,.box [.L kB.2.L,.I kB.2.At]),(108,.box fc),(109,.box [.I kB.1,.I p2,.str t2,.ak 6 (l7.map ao.lv),.arr 146 cO.length]),(146,.arr 3 1 (cO.map LV.I))])) (Wk.trans (aX [(8,.ptr 108 0),(9,.ptr 109 0)] [(7,.box [.L kB.2.L,.I kB.2.At]),(108,.box fc),(109,.box [.I kB.1,.I p2,.str t2,.ak 6 (l7.map ao.lv),.arr 146 cO.length]),(146,.arr 3 1 (cO.map LV.I))]) (Wk.trans (Wk.trans (Wk.gO (f:=LV.I) 146 3 1 cO 109 R R R (cn R (cn R (cn R (cn R (k5 kZ))))) R R (bO R)) (aX [(8,.ptr 108 0),(9,.ptr 109 0)] [(7,.box [.L kB.2.L,.I kB.2.At]),(108,.box fc),(109,.box [.I kB.1,.I p2,.str t2,.ak 6 (l7.map ao.lv),.L cO])])) (Wk.trans (Wk.bk 109 [.I kB.1,.I p2,.str t2,.ak 6 (l7.map ao.lv),.L cO] R R R (bO R)) (Wk.eq R R R R)))))))))))))))) (aY (av (LH.aj [(8,.ag [.I kB.1,.I p2,.str t2,.ak 6 (l7.map ao.lv),.L cO])] [(7,.box [.L kB.2.L,.I kB.2.At])] R (sN (bh R cG fo ct R R (s_ (cV R R R cG ct R R R (s0 ((Wk.trans (aX [(8,.ptr 108 0)] [(7,.box [.L kB.2.L,.I kB.2.At]),(108,.box [.I kB.1,.I p2,.str t2,.ak 6 (l7.map ao.lv),.L cO])]) (Wk.trans (Wk.bk 108 [.I kB.1,.I p2,.str t2,.ak 6 (l7.map ao.lv),.L cO] R R R (bO R)) (Wk.eq R R R R))))))))) (LH.ret ?_))))
    obtain rfl:=oI h
    exact aS (aT Tryz.results29) (df R cG fo ct R R (bP ⟨aR (mC R mN),R,a8 R,Sub.rfl⟩))
   replace h:=aA h zY
   refine LH.aj [(0,.ptr 7 0),(1,.I p1),(8,.ptr 108 0),(9,.ptr 109 0),(56,.I da.1),(91,.bool (da.1 == 1))] [(7,.box [.L da.2.L,.I da.2.At]),(108,.box fc),(109,.box [.I p1,.I p2,.str t2,.arr 129 l7.length,.arr 146 cO.length]),(129,.arr 86 6 (l7.map ao.lv)),(146,.arr 3 1 (cO.map LV.I))] R (sN (gm R R (cm R zS))) (LH.cond (t:=(da.1 == 1)) R (fun J1=>?_) (fun J1=>?_))
   ·replace h:=aB h J1
    obtain ⟨oL,R5,h⟩:=al h
    refine LH.aQ [(8,.ptr 108 0),(9,.ag [.I p1,.I oL.1,.str t2,.ak 6 (l7.map ao.lv),.L cO])] [(7,.box [.L oL.2.L,.I oL.2.At]),(108,.box fc)] R (ib R (sN (jI (f:=LV.I) (ys:=[0,8,9,(-1)]) cz qN bb R R R lO (sN (fa (args:=[.ptr 7 0,.L [0,8,9,(-1)]]) (ml:=[(7,.box [.L da.2.L,.I da.2.At])]) (dg:=[(7,.box [.L oL.2.L,.I oL.2.At])]) R xr R (aK (aK bt)) (Eb R5) (mC R mN) (b8 R cw) R (sN (dK fE aE bb R R (s_ (cV R R R aE bb R R R (s0 ((Wk.trans (aX [(8,.ptr 108 0),(9,.ptr 109 0)] [(7,.box [.L oL.2.L,.I oL.2.At]),(108,.box fc),(109,.box [.I p1,.I oL.1,.str t2,.arr 129 l7.length,.arr 146 cO.length]),(129,.arr 86 6 (l7.map ao.lv)),(146,.arr 3 1 (cO.map LV.I))]) (Wk.trans (aX [(8,.ptr 108 0),(9,.ptr 109 0)] [(7,.box [.L oL.2.L,.I oL.2.At]),(108,.box fc),(109,.box [.I p1,.I oL.1,.str t2,.arr 129 l7.length,.arr 146 cO.length]),(129,.arr 86 6 (l7.map ao.lv)),(146,.arr 3 1 (cO.map LV.I))]) (Wk.trans (Wk.trans (Wk.gO (f:=ao.lv) 129 86 6 l7 109 R R R (cn R (cn R (cn R (k5 (cn R kZ))))) R R (bO R)) (aX [(8,.ptr 108 0),(9,.ptr 109 0)] [(7,.box [.L oL.2.L,.I oL.2.At]),(108,.box fc),(109,.box [.I p1,.I oL.1,.str t2,.ak 6 (l7.map ao.lv),.arr 146 cO.length]),(146,.arr 3 1 (cO.map LV.I))])) (Wk.trans (aX [(8,.ptr 108 0),(9,.ptr 109 0)] [(7,.box [.L oL.2.L,.I oL.2.At]),(108,.box fc),(109,.box [.I p1,.I oL.1,.str t2,.ak 6 (l7.map ao.lv),.arr 146 cO.length]),(146,.arr 3 1 (cO.map LV.I))]) (Wk.trans (Wk.trans (Wk.gO (f:=LV.I) 146 3 1 cO 109 R R R (cn R (cn R (cn R (cn R (k5 kZ))))) R R (bO R)) (aX [(8,.ptr 108 0),(9,.ptr 109 0)] [(7,.box [.L oL.2.L,.I oL.2.At]),(108,.box fc),(109,.box [.I p1,.I oL.1,.str t2,.ak 6 (l7.map ao.lv),.L cO])])) (Wk.trans (Wk.bk 109 [.I p1,.I oL.1,.str t2,.ak 6 (l7.map ao.lv),.L cO] R R R (bO R)) (Wk.eq R R R R)))))))))))))))))) (aY (av (LH.aj [(8,.ag [.I p1,.I oL.1,.str t2,.ak 6 (l7.map ao.lv),.L cO])] [(7,.box [.L oL.2.L,.I oL.2.At])] R (sN (bh R cG fo ct R R (s_ (cV R R R cG ct R R R (s0 ((Wk.trans (aX [(8,.ptr 108 0)] [(7,.box [.L oL.2.L,.I oL.2.At]),(108,.box [.I p1,.I oL.1,.str t2,.ak 6 (l7.map ao.lv),.L cO])]) (Wk.trans (Wk.bk 108 [.I p1,.I oL.1,.str t2,.ak 6 (l7.map ao.lv),.L cO] R R R (bO R)) (Wk.eq R R R R))))))))) (LH.ret ?_))))
    obtain rfl:=oI h
    exact aS (aT Tryz.results29) (df R cG fo ct R R (bP ⟨aR (mC R mN),R,a8 R,Sub.rfl⟩))
   replace h:=aA h J1
   refine LH.aj [(0,.ptr 7 0),(1,.I p1),(8,.ptr 108 0),(9,.ptr 109 0),(56,.I da.1),(97,.bool (da.1 == 2))] [(7,.box [.L da.2.L,.I da.2.At]),(108,.box fc),(109,.box [.I p1,.I p2,.str t2,.arr 129 l7.length,.arr 146 cO.length]),(129,.arr 86 6 (l7.map ao.lv)),(146,.arr 3 1 (cO.map LV.I))] R (sN (gm R R (cm R zS))) (LH.cond (t:=(da.1 == 2)) R (fun J2=>?_) (fun J2=>?_))
   ·replace h:=aB h J2
    obtain ⟨lA,KJ,h⟩:=al h
    obtain ⟨D3,SP,h⟩:=al h
    refine LH.aQ [(8,.ptr 108 0),(9,.ag [.I p1,.I p2,.str D3,.ak 6 (l7.map ao.lv),.L cO])] [(7,.box [.L lA.2.L,.I lA.2.At]),(108,.box fc)] R (sN (jI (f:=LV.str) (ys:=[(ByteArray.mk #[]),(ByteArray.mk #[116,97,98,9]),(ByteArray.mk #[48,49,50,51,52,53,54,55,56,57,48,49,50,51,52,53,54,55,56,57,48,49,50,51,52,53,54,55,56,57,48,49,50,51,52,53,54,55,56,57,120])]) JC We wH R R R Up (ib R (sN (fa (args:=[.ptr 7 0,.I 3]) (ml:=[(7,.box [.L da.2.L,.I da.2.At])]) (dg:=[(7,.box [.L lA.2.L,.I lA.2.At])]) R gw R (aK (aK bt)) (kG KJ) (mC R mN) (b8 R cw) R (sN (eW (f:=LV.str) JC oY wH R R Up SP R (sN (bf R oY DA (sN (dK gJ oY wH R R (s_ (cV R R R oY wH R R R (s0 ((Wk.trans (aX [(8,.ptr 108 0),(9,.ptr 109 0)] [(7,.box [.L lA.2.L,.I lA.2.At]),(108,.box fc),(109,.box [.I p1,.I p2,.str D3,.arr 129 l7.length,.arr 146 cO.length]),(129,.arr 86 6 (l7.map ao.lv)),(146,.arr 3 1 (cO.map LV.I))]) (Wk.trans (aX [(8,.ptr 108 0),(9,.ptr 109 0)] [(7,.box [.L lA.2.L,.I lA.2.At]),(108,.box fc),(109,.box [.I p1,.I p2,.str D3,.arr 129 l7.length,.arr 146 cO.length]),(129,.arr 86 6 (l7.map ao.lv)),(146,.arr 3 1 (cO.map LV.I))]) (Wk.trans (Wk.trans (Wk.gO (f:=ao.lv) 129 86 6 l7 109 R R R (cn R (cn R (cn R (k5 (cn R kZ))))) R R (bO R)) (aX [(8,.ptr 108 0),(9,.ptr 109 0)] [(7,.box [.L lA.2.L,.I lA.2.At]),(108,.box fc),(109,.box [.I p1,.I p2,.str D3,.ak 6 (l7.map ao.lv),.arr 146 cO.length]),(146,.arr 3 1 (cO.map LV.I))])) (Wk.trans (aX [(8,.ptr 108 0),(9,.ptr 109 0)] [(7,.box [.L lA.2.L,.I lA.2.At]),(108,.box fc),(109,.box [.I p1,.I p2,.str D3,.ak 6 (l7.map ao.lv),.arr 146 cO.length]),(146,.arr 3 1 (cO.map LV.I))]) (Wk.trans (Wk.trans (Wk.gO (f:=LV.I) 146 3 1 cO 109 R R R (cn R (cn R (cn R (cn R (k5 kZ))))) R R (bO R)) (aX [(8,.ptr 108 0),(9,.ptr 109 0)] [(7,.box [.L lA.2.L,.I lA.2.At]),(108,.box fc),(109,.box [.I p1,.I p2,.str D3,.ak 6 (l7.map ao.lv),.L cO])])) (Wk.trans (Wk.bk 109 [.I p1,.I p2,.str D3,.ak 6 (l7.map ao.lv),.L cO] R R R (bO R)) (Wk.eq R R R R)))))))))))))))))))))) (aY (av (LH.aj [(8,.ag [.I p1,.I p2,.str D3,.ak 6 (l7.map ao.lv),.L cO])] [(7,.box [.L lA.2.L,.I lA.2.At])] R (sN (bh R cG fo ct R R (s_ (cV R R R cG ct R R R (s0 ((Wk.trans (aX [(8,.ptr 108 0)] [(7,.box [.L lA.2.L,.I lA.2.At]),(108,.box [.I p1,.I p2,.str D3,.ak 6 (l7.map ao.lv),.L cO])]) (Wk.trans (Wk.bk 108 [.I p1,.I p2,.str D3,.ak 6 (l7.map ao.lv),.L cO] R R R (bO R)) (Wk.eq R R R R))))))))) (LH.ret ?_))))
    obtain rfl:=oI h
    exact aS (aT Tryz.results29) (df R cG fo ct R R (bP ⟨aR (mC R mN),R,a8 R,Sub.rfl⟩))
   replace h:=aA h J2
   refine LH.aj [(0,.ptr 7 0),(1,.I p1),(8,.ptr 108 0),(9,.ptr 109 0),(56,.I da.1),(105,.bool (da.1 == 3))] [(7,.box [.L da.2.L,.I da.2.At]),(108,.box fc),(109,.box [.I p1,.I p2,.str t2,.arr 129 l7.length,.arr 146 cO.length]),(129,.arr 86 6 (l7.map ao.lv)),(146,.arr 3 1 (cO.map LV.I))] R (sN (gm R R (cm R zS))) (LH.cond (t:=(da.1 == 3)) R (fun Cu=>?_) (fun Cu=>?_))
   ·replace h:=aB h Cu
    refine LH.aQ [(8,.ptr 108 0),(9,.ag [.I p1,.I p2,.str t2,.nil,.L cO])] [(7,.box [.L da.2.L,.I da.2.At]),(108,.box fc)] R (sN (dK cX cY fy R R (s_ (cV R R R cY fy R R R (s0 ((Wk.trans (aX [(8,.ptr 108 0),(9,.ptr 109 0)] [(7,.box [.L da.2.L,.I da.2.At]),(108,.box fc),(109,.box [.I p1,.I p2,.str t2,.nil,.arr 146 cO.length]),(146,.arr 3 1 (cO.map LV.I))]) (Wk.trans (aX [(8,.ptr 108 0),(9,.ptr 109 0)] [(7,.box [.L da.2.L,.I da.2.At]),(108,.box fc),(109,.box [.I p1,.I p2,.str t2,.nil,.arr 146 cO.length]),(146,.arr 3 1 (cO.map LV.I))]) (Wk.trans (Wk.trans (Wk.gO (f:=LV.I) 146 3 1 cO 109 R R R (cn R (cn R (cn R (cn R (k5 kZ))))) R R (bO R)) (aX [(8,.ptr 108 0),(9,.ptr 109 0)] [(7,.box [.L da.2.L,.I da.2.At]),(108,.box fc),(109,.box [.I p1,.I p2,.str t2,.nil,.L cO])])) (Wk.trans (Wk.bk 109 [.I p1,.I p2,.str t2,.nil,.L cO] R R R (bO R)) (Wk.eq R R R R))))))))))) (aY (av (LH.aj [(8,.ag [.I p1,.I p2,.str t2,.nil,.L cO])] [(7,.box [.L da.2.L,.I da.2.At])] R (sN (bh R cG fo ct R R (s_ (cV R R R cG ct R R R (s0 ((Wk.trans (aX [(8,.ptr 108 0)] [(7,.box [.L da.2.L,.I da.2.At]),(108,.box [.I p1,.I p2,.str t2,.nil,.L cO])]) (Wk.trans (Wk.bk 108 [.I p1,.I p2,.str t2,.nil,.L cO] R R R (bO R)) (Wk.eq R R R R))))))))) (LH.ret ?_))))
    obtain rfl:=oI h
    exact aS (aT Tryz.results29) (df R cG fo ct R R (bP ⟨aR (mC R mN),R,a8 R,(fu.head (rq (Sub.agg (aK (aK (aK (yI (aK bt)))))) bt))⟩))
   replace h:=aA h Cu
   refine LH.aj [(0,.ptr 7 0),(1,.I p1),(8,.ptr 108 0),(9,.ptr 109 0),(56,.I da.1),(108,.bool (da.1 == 4))] [(7,.box [.L da.2.L,.I da.2.At]),(108,.box fc),(109,.box [.I p1,.I p2,.str t2,.arr 129 l7.length,.arr 146 cO.length]),(129,.arr 86 6 (l7.map ao.lv)),(146,.arr 3 1 (cO.map LV.I))] R (sN (gm R R (cm R zS))) (LH.cond (t:=(da.1 == 4)) R (fun z1=>?_) (fun z1=>?_))
   ·replace h:=aB h z1
    obtain ⟨tU,R8,h⟩:=al h
    obtain ⟨Ba,SD,h⟩:=al h
    refine LH.sQ mixed [] [0,1109,0,100007,0,2,0,100109] [(8,.ptr 108 0),(9,.ag [.I p1,.I p2,.str t2,.ak 6 (Ba.map ao.lv),.L cO])] [(7,.box [.L tU.2.L,.I tU.2.At]),(108,.box fc)] R R (by kernel_rfl) (aF (dK cX cY fy R R ⟨R,mD R R R (fun _ b _ d=>dW R b R R cY iL d) (BG R (mW R R R (fun _ b _ d=>fa (args:=[.ptr 7 0,.I 1]) (ml:=[(7,.box [.L da.2.L,.I da.2.At])]) (dg:=[(7,.box [.L tU.2.L,.I tU.2.At])]) R I4 R (aK (aK bt)) (Mq R8) (mC b mN) (b8 R cw) R d) (aF (jI (f:=ao.lv) (ys:=[tU.1]) gj A3 dB R R R ao.ok ⟨R,Hg (my (f:=ao.lv) gj A3 dB R R (bO R) R SD (aF (dK cX cY fy R R ⟨R,mS R R R (fun _ b _ d=>cV R R R cY fy b R R d) (m0 ((Wk.trans (aX [(8,.ptr 108 0),(9,.ptr 109 0)] [(7,.box [.L tU.2.L,.I tU.2.At]),(108,.box fc),(109,.box [.I p1,.I p2,.str t2,.arr 129 Ba.length,.arr 146 cO.length]),(129,.arr 86 6 (Ba.map ao.lv)),(146,.arr 3 1 (cO.map LV.I))]) (Wk.trans (aX [(8,.ptr 108 0),(9,.ptr 109 0)] [(7,.box [.L tU.2.L,.I tU.2.At]),(108,.box fc),(109,.box [.I p1,.I p2,.str t2,.arr 129 Ba.length,.arr 146 cO.length]),(129,.arr 86 6 (Ba.map ao.lv)),(146,.arr 3 1 (cO.map LV.I))]) (Wk.trans (Wk.trans (Wk.gO (f:=ao.lv) 129 86 6 Ba 109 R R R (cn R (cn R (cn R (k5 (cn R kZ))))) R R (bO R)) (aX [(8,.ptr 108 0),(9,.ptr 109 0)] [(7,.box [.L tU.2.L,.I tU.2.At]),(108,.box fc),(109,.box [.I p1,.I p2,.str t2,.ak 6 (Ba.map ao.lv),.arr 146 cO.length]),(146,.arr 3 1 (cO.map LV.I))])) (Wk.trans (aX [(8,.ptr 108 0),(9,.ptr 109 0)] [(7,.box [.L tU.2.L,.I tU.2.At]),(108,.box fc),(109,.box [.I p1,.I p2,.str t2,.ak 6 (Ba.map ao.lv),.arr 146 cO.length]),(146,.arr 3 1 (cO.map LV.I))]) (Wk.trans (Wk.trans (Wk.gO (f:=LV.I) 146 3 1 cO 109 R R R (cn R (cn R (cn R (cn R (k5 kZ))))) R R (bO R)) (aX [(8,.ptr 108 0),(9,.ptr 109 0)] [(7,.box [.L tU.2.L,.I tU.2.At]),(108,.box fc),(109,.box [.I p1,.I p2,.str t2,.ak 6 (Ba.map ao.lv),.L cO])])) (Wk.trans (Wk.bk 109 [.I p1,.I p2,.str t2,.ak 6 (Ba.map ao.lv),.L cO] R R R (bO R)) (Wk.eq R R R R)))))))))⟩)))⟩))))⟩)) (aY (av (LH.aj [(8,.ag [.I p1,.I p2,.str t2,.ak 6 (Ba.map ao.lv),.L cO])] [(7,.box [.L tU.2.L,.I tU.2.At])] R (sN (bh R cG fo ct R R (s_ (cV R R R cG ct R R R (s0 ((Wk.trans (aX [(8,.ptr 108 0)] [(7,.box [.L tU.2.L,.I tU.2.At]),(108,.box [.I p1,.I p2,.str t2,.ak 6 (Ba.map ao.lv),.L cO])]) (Wk.trans (Wk.bk 108 [.I p1,.I p2,.str t2,.ak 6 (Ba.map ao.lv),.L cO] R R R (bO R)) (Wk.eq R R R R))))))))) (LH.ret ?_))))
    obtain rfl:=oI h
    exact aS (aT Tryz.results29) (df R cG fo ct R R (bP ⟨aR (mC R mN),R,a8 R,Sub.rfl⟩))
   replace h:=aA h z1
   refine LH.aj [(0,.ptr 7 0),(1,.I p1),(8,.ptr 108 0),(9,.ptr 109 0),(117,.bool (da.1 == 5))] [(7,.box [.L da.2.L,.I da.2.At]),(108,.box fc),(109,.box [.I p1,.I p2,.str t2,.arr 129 l7.length,.arr 146 cO.length]),(129,.arr 86 6 (l7.map ao.lv)),(146,.arr 3 1 (cO.map LV.I))] R (sN (gm R R (cm R zS))) (LH.cond (t:=(da.1 == 5)) R (fun J4=>?_) (fun J4=>?_))
   ·replace h:=aB h J4
    obtain ⟨tV,R9,h⟩:=al h
    obtain ⟨v45,SE,h⟩:=al h
    refine LH.sQ mixed [] [0,1109,0,0,0,100007,0,2,0,100109] [(8,.ptr 108 0),(9,.ag [.I p1,.I p2,.str t2,.ak 6 (l7.map ao.lv),.L v45])] [(7,.box [.L tV.2.L,.I tV.2.At]),(108,.box fc)] R R (by kernel_rfl) (aF (dK fp eI jh R R ⟨R,mD R R R (fun _ b _ d=>dW R b R R eI l9 d) (BG R (eV R (aF (jI (f:=LV.I) (ys:=[0,p1,(-1),10000,3]) cz qN bb R R R lO ⟨R,mW R R R (fun _ b _ d=>fa (args:=[.ptr 7 0,.L [0,p1,(-1),10000,3]]) (ml:=[(7,.box [.L da.2.L,.I da.2.At])]) (dg:=[(7,.box [.L tV.2.L,.I tV.2.At])]) R xr R (aK (aK bt)) (Eb R9) (mC b mN) (b8 R cw) R d) (aF (jI (f:=LV.I) (ys:=[tV.1]) cz qN bb R R R lO ⟨R,Hg (my (f:=LV.I) cz qN bb R R (bO R) R SE (aF (dK fp eI jh R R ⟨R,mS R R R (fun _ b _ d=>cV R R R eI jh b R R d) (m0 ((Wk.trans (aX [(8,.ptr 108 0),(9,.ptr 109 0)] [(7,.box [.L tV.2.L,.I tV.2.At]),(108,.box fc),(109,.box [.I p1,.I p2,.str t2,.arr 129 l7.length,.arr 146 v45.length]),(129,.arr 86 6 (l7.map ao.lv)),(146,.arr 3 1 (v45.map LV.I))]) (Wk.trans (aX [(8,.ptr 108 0),(9,.ptr 109 0)] [(7,.box [.L tV.2.L,.I tV.2.At]),(108,.box fc),(109,.box [.I p1,.I p2,.str t2,.arr 129 l7.length,.arr 146 v45.length]),(129,.arr 86 6 (l7.map ao.lv)),(146,.arr 3 1 (v45.map LV.I))]) (Wk.trans (Wk.trans (Wk.gO (f:=ao.lv) 129 86 6 l7 109 R R R (cn R (cn R (cn R (k5 (cn R kZ))))) R R (bO R)) (aX [(8,.ptr 108 0),(9,.ptr 109 0)] [(7,.box [.L tV.2.L,.I tV.2.At]),(108,.box fc),(109,.box [.I p1,.I p2,.str t2,.ak 6 (l7.map ao.lv),.arr 146 v45.length]),(146,.arr 3 1 (v45.map LV.I))])) (Wk.trans (aX [(8,.ptr 108 0),(9,.ptr 109 0)] [(7,.box [.L tV.2.L,.I tV.2.At]),(108,.box fc),(109,.box [.I p1,.I p2,.str t2,.ak 6 (l7.map ao.lv),.arr 146 v45.length]),(146,.arr 3 1 (v45.map LV.I))]) (Wk.trans (Wk.trans (Wk.gO (f:=LV.I) 146 3 1 v45 109 R R R (cn R (cn R (cn R (cn R (k5 kZ))))) R R (bO R)) (aX [(8,.ptr 108 0),(9,.ptr 109 0)] [(7,.box [.L tV.2.L,.I tV.2.At]),(108,.box fc),(109,.box [.I p1,.I p2,.str t2,.ak 6 (l7.map ao.lv),.L v45])])) (Wk.trans (Wk.bk 109 [.I p1,.I p2,.str t2,.ak 6 (l7.map ao.lv),.L v45] R R R (bO R)) (Wk.eq R R R R)))))))))⟩)))⟩))⟩))))⟩)) (aY (av (LH.aj [(8,.ag [.I p1,.I p2,.str t2,.ak 6 (l7.map ao.lv),.L v45])] [(7,.box [.L tV.2.L,.I tV.2.At])] R (sN (bh R cG fo ct R R (s_ (cV R R R cG ct R R R (s0 ((Wk.trans (aX [(8,.ptr 108 0)] [(7,.box [.L tV.2.L,.I tV.2.At]),(108,.box [.I p1,.I p2,.str t2,.ak 6 (l7.map ao.lv),.L v45])]) (Wk.trans (Wk.bk 108 [.I p1,.I p2,.str t2,.ak 6 (l7.map ao.lv),.L v45] R R R (bO R)) (Wk.eq R R R R))))))))) (LH.ret ?_))))
    obtain rfl:=oI h
    exact aS (aT Tryz.results29) (df R cG fo ct R R (bP ⟨aR (mC R mN),R,a8 R,Sub.rfl⟩))
   replace h:=aA h J4
   obtain ⟨Tw,NG,h⟩:=al h
   obtain ⟨Tx,NH,h⟩:=al h
   obtain ⟨Ty,NI,h⟩:=al h
   obtain ⟨Tz,NJ,h⟩:=al h
   obtain ⟨TA,NK,h⟩:=al h
   obtain ⟨TB,NL,h⟩:=al h
   obtain ⟨Bb,SF,h⟩:=al h
   refine LH.sQ mixed [] [0,1109,0,1109,1129,1129,0,1109,1129,1129,0,1109,1129,1129,0,1109,1129,1129,0,1109,1129,1129,0,1109,1129,1129,0,2,0,100109] [(8,.ptr 108 0),(9,.ag [.I p1,.I p2,.str t2,.ak 6 (Bb.map ao.lv),.L cO])] [(7,.box [.L da.2.L,.I da.2.At]),(108,.box fc)] R R (by kernel_rfl) ?_ ?_
   ·exact aF (dK cX cY fy R R ⟨R,mD R R R (fun _ b _ d=>dW R b R R cY iL d) (aF (dK cX cY fy R R ⟨R,mD R R R (fun _ b _ d=>dW R b R R cY iL d) (mD R R R (fun _ b _ d=>gX (f:=ao.lv) gj ee dB R b R NG d) (mD R R R (fun _ b _ d=>pE (f:=ao.lv) R b (dC NG).2 R R ee iM dB R R d) (aF (dK cX cY fy R R ⟨R,mD R R R (fun _ b _ d=>dW R b R R cY iL d) (mD R R R (fun _ b _ d=>gX (f:=ao.lv) gj ee dB R b R NH d) (mD R R R (fun _ b _ d=>pE (f:=ao.lv) R b (dC NH).2 R R ee iM dB R R d) (aF (dK cX cY fy R R ⟨R,mD R R R (fun _ b _ d=>dW R b R R cY iL d) (mD R R R (fun _ b _ d=>gX (f:=ao.lv) gj ee dB R b R NI d) (mD R R R (fun _ b _ d=>pE (f:=ao.lv) R b (dC NI).2 R R ee iM dB R R d) (aF (dK cX cY fy R R ⟨R,mD R R R (fun _ b _ d=>dW R b R R cY iL d) (mD R R R (fun _ b _ d=>gX (f:=ao.lv) gj ee dB R b R NJ d) (mD R R R (fun _ b _ d=>pE (f:=ao.lv) R b (dC NJ).2 R R ee iM dB R R d) (aF (dK cX cY fy R R ⟨R,mD R R R (fun _ b _ d=>dW R b R R cY iL d) (mD R R R (fun _ b _ d=>gX (f:=ao.lv) gj ee dB R b R NK d) (mD R R R (fun _ b _ d=>pE (f:=ao.lv) R b (dC NK).2 R R ee iM dB R R d) (aF (dK cX cY fy R R ⟨R,mD R R R (fun _ b _ d=>dW R b R R cY iL d) (mD R R R (fun _ b _ d=>gX (f:=ao.lv) gj ee dB R b R NL d) (mD R R R (fun _ b _ d=>pE (f:=ao.lv) R b (dC NL).2 R R ee iM dB R R d) (aF (jI (f:=ao.lv) (ys:=[Tw,Tx,Ty,Tz,TA,TB]) gj A3 dB R R R ao.ok ⟨R,Hg (my (f:=ao.lv) gj A3 dB R R (bO R) R SF (aF (dK cX cY fy R R ⟨R,mS R R R (fun _ b _ d=>cV R R R cY fy b R R d) (m0 ((Wk.trans (aX [(8,.ptr 108 0),(9,.ptr 109 0)] [(7,.box [.L da.2.L,.I da.2.At]),(108,.box fc),(109,.box [.I p1,.I p2,.str t2,.arr 129 Bb.length,.arr 146 cO.length]),(129,.arr 86 6 (Bb.map ao.lv)),(146,.arr 3 1 (cO.map LV.I))]) (Wk.trans (aX [(8,.ptr 108 0),(9,.ptr 109 0)] [(7,.box [.L da.2.L,.I da.2.At]),(108,.box fc),(109,.box [.I p1,.I p2,.str t2,.arr 129 Bb.length,.arr 146 cO.length]),(129,.arr 86 6 (Bb.map ao.lv)),(146,.arr 3 1 (cO.map LV.I))]) (Wk.trans (Wk.trans (Wk.gO (f:=ao.lv) 129 86 6 Bb 109 R R R (cn R (cn R (cn R (k5 (cn R kZ))))) R R (bO R)) (aX [(8,.ptr 108 0),(9,.ptr 109 0)] [(7,.box [.L da.2.L,.I da.2.At]),(108,.box fc),(109,.box [.I p1,.I p2,.str t2,.ak 6 (Bb.map ao.lv),.arr 146 cO.length]),(146,.arr 3 1 (cO.map LV.I))])) (Wk.trans (aX [(8,.ptr 108 0),(9,.ptr 109 0)] [(7,.box [.L da.2.L,.I da.2.At]),(108,.box fc),(109,.box [.I p1,.I p2,.str t2,.ak 6 (Bb.map ao.lv),.arr 146 cO.length]),(146,.arr 3 1 (cO.map LV.I))]) (Wk.trans (Wk.trans (Wk.gO (f:=LV.I) 146 3 1 cO 109 R R R (cn R (cn R (cn R (cn R (k5 kZ))))) R R (bO R)) (aX [(8,.ptr 108 0),(9,.ptr 109 0)] [(7,.box [.L da.2.L,.I da.2.At]),(108,.box fc),(109,.box [.I p1,.I p2,.str t2,.ak 6 (Bb.map ao.lv),.L cO])])) (Wk.trans (Wk.bk 109 [.I p1,.I p2,.str t2,.ak 6 (Bb.map ao.lv),.L cO] R R R (bO R)) (Wk.eq R R R R)))))))))⟩)))⟩))))⟩))))⟩))))⟩))))⟩))))⟩))))⟩))⟩)
   refine aY (av (LH.aj [(8,.ag [.I p1,.I p2,.str t2,.ak 6 (Bb.map ao.lv),.L cO])] [(7,.box [.L da.2.L,.I da.2.At])] R (sN (bh R cG fo ct R R (s_ (cV R R R cG ct R R R (s0 ((Wk.trans (aX [(8,.ptr 108 0)] [(7,.box [.L da.2.L,.I da.2.At]),(108,.box [.I p1,.I p2,.str t2,.ak 6 (Bb.map ao.lv),.L cO])]) (Wk.trans (Wk.bk 108 [.I p1,.I p2,.str t2,.ak 6 (Bb.map ao.lv),.L cO] R R R (bO R)) (Wk.eq R R R R))))))))) (LH.ret ?_)))
   obtain rfl:=oI h
   exact aS (aT Tryz.results29) (df R cG fo ct R R (bP ⟨aR (mC R mN),R,a8 R,Sub.rfl⟩))
  replace h:=aA h pf
  refine LH.skip (av (LH.wk ((Wk.trans (aX [(8,.ptr 108 0),(9,.ptr 109 0)] [(7,.box [.L pR.2.1,.I pR.2.2]),(108,.box fc),(109,.box [.I p1,.I p2,.str t2,.arr 129 l7.length,.arr 146 cO.length]),(129,.arr 86 6 (l7.map ao.lv)),(146,.arr 3 1 (cO.map LV.I))]) (Wk.trans (aX [(8,.ptr 108 0),(9,.ptr 109 0)] [(7,.box [.L pR.2.1,.I pR.2.2]),(108,.box fc),(109,.box [.I p1,.I p2,.str t2,.arr 129 l7.length,.arr 146 cO.length]),(129,.arr 86 6 (l7.map ao.lv)),(146,.arr 3 1 (cO.map LV.I))]) (Wk.trans (Wk.trans (Wk.gO (f:=ao.lv) 129 86 6 l7 109 R R R (cn R (cn R (cn R (k5 (cn R kZ))))) R R (bO R)) (aX [(8,.ptr 108 0),(9,.ptr 109 0)] [(7,.box [.L pR.2.1,.I pR.2.2]),(108,.box fc),(109,.box [.I p1,.I p2,.str t2,.ak 6 (l7.map ao.lv),.arr 146 cO.length]),(146,.arr 3 1 (cO.map LV.I))])) (Wk.trans (aX [(8,.ptr 108 0),(9,.ptr 109 0)] [(7,.box [.L pR.2.1,.I pR.2.2]),(108,.box fc),(109,.box [.I p1,.I p2,.str t2,.ak 6 (l7.map ao.lv),.arr 146 cO.length]),(146,.arr 3 1 (cO.map LV.I))]) (Wk.trans (Wk.trans (Wk.gO (f:=LV.I) 146 3 1 cO 109 R R R (cn R (cn R (cn R (cn R (k5 kZ))))) R R (bO R)) (aX [(8,.ptr 108 0),(9,.ptr 109 0)] [(7,.box [.L pR.2.1,.I pR.2.2]),(108,.box fc),(109,.box [.I p1,.I p2,.str t2,.ak 6 (l7.map ao.lv),.L cO])])) (Wk.trans (Wk.bk 109 [.I p1,.I p2,.str t2,.ak 6 (l7.map ao.lv),.L cO] R R R (bO R)) (aX [(8,.ptr 108 0),(9,.ag [.I p1,.I p2,.str t2,.ak 6 (l7.map ao.lv),.L cO])] [(7,.box [.L pR.2.1,.I pR.2.2]),(108,.box fc)])))))))) (LH.aj [(8,.ag [.I p1,.I p2,.str t2,.ak 6 (l7.map ao.lv),.L cO])] [(7,.box [.L pR.2.1,.I pR.2.2])] R (sN (bh R cG fo ct R R (s_ (cV R R R cG ct R R R (s0 ((Wk.trans (aX [(8,.ptr 108 0)] [(7,.box [.L pR.2.1,.I pR.2.2]),(108,.box [.I p1,.I p2,.str t2,.ak 6 (l7.map ao.lv),.L cO])]) (Wk.trans (Wk.bk 108 [.I p1,.I p2,.str t2,.ak 6 (l7.map ao.lv),.L cO] R R R (bO R)) (Wk.eq R R R R))))))))) (LH.ret ?_))))
  obtain rfl:=oI h
  exact aS (aT Tryz.results29) (df R cG fo ct R R (bP ⟨aR (mC R mN),R,a8 R,Sub.rfl⟩))
theorem Q2 {p0:aN} {p1:Int} {r:aL × aN} (h:B9 p0 p1=some r):aP Tryz.prog 31 [.ptr 7 0,.I p1] (Mem.of [(7,.box [.L p0.L,.I p0.At])]) (.agg [.I r.1.Time,.I r.1.Source,.I r.1.Seq]) (Mem.of [(7,.box [.L r.2.L,.I r.2.At])]):=by
  unfold B9 at h
  refine bu Tryz.func31 R (nT Tryz.ntmps31 R) (LH.wk (aX [(0,.ptr 7 0),(1,.I p1)] [(7,.box [.L p0.L,.I p0.At])]) (LH.aj [(0,.ptr 7 0),(1,.I p1),(4,.ptr 104 0)] [(7,.box [.L p0.L,.I p0.At]),(104,.box [.I 0,.I 0,.I 0])] R (sN (kS (id:=104) R uo R R zS)) ?_))
  obtain ⟨r1,ec,h⟩:=al h
  obtain ⟨r2,fz,h⟩:=al h
  obtain ⟨r3,nf,h⟩:=al h
  refine LH.aj [(0,.ptr 7 0),(1,.I p1),(4,.ptr 104 0),(5,.ptr 105 0)] [(7,.box [.L r3.2.L,.I r3.2.At]),(104,.box [.I 0,.I 0,.I 0]),(105,.box [.I r1.1,.I r2.1,.I r3.1])] R (ib R (sN (fa (args:=[.ptr 7 0,.I 0,.I 24]) (ml:=[(7,.box [.L p0.L,.I p0.At])]) (dg:=[(7,.box [.L r1.2.L,.I r1.2.At])]) R nD R (aK (aK (aK bt))) (nA ec) (mC R mN) (b8 R cw) R (ib R (sN (fa (args:=[.ptr 7 0,.I 0,.I 3]) (ml:=[(7,.box [.L r1.2.L,.I r1.2.At])]) (dg:=[(7,.box [.L r2.2.L,.I r2.2.At])]) R nD R (aK (aK (aK bt))) (nA fz) (mC R mN) (b8 R cw) R (ib R (sN (fa (args:=[.ptr 7 0,.I 0,.I 9]) (ml:=[(7,.box [.L r2.2.L,.I r2.2.At])]) (dg:=[(7,.box [.L r3.2.L,.I r3.2.At])]) R nD R (aK (aK (aK bt))) (nA nf) (mC R mN) (b8 R cw) R (sN (gB (vs:=[(0,.I r1.1),(1,.I r2.1),(2,.I r3.1)]) GU uo R (lf e7 bb aE R R R (lf ek bb aE R R R (lf dz bb aE R R R gA))) (sN (kS (id:=105) R uo R R (s_ (cV R R R b6 bW R R R zS))))))))))))))) (LH.seq ?_)
  obtain ⟨w7,hv,h⟩:=al h
  refine LH.aj [(0,.ptr 7 0),(4,.ptr 104 0),(5,.ptr 105 0),(19,.bool w7.1)] [(7,.box [.L w7.2.1,.I w7.2.2]),(104,.box [.I 0,.I 0,.I 0]),(105,.box [.I r1.1,.I r2.1,.I r3.1])] R ?_ ?_
  ·refine bl R (sN (iw R R (bI R ?_)))
   by_cases c6:(decide (p1 > 0))=true
   ·replace hv:=aB hv c6
    refine sT R (cB c6) (oM (v:=(.ptr _ _)) R (sT R (cB c6) (oM (v:=(.int _ _)) R ?_)))
    obtain ⟨r9,CK,hv⟩:=al hv
    refine sT R (cB c6) (fa (args:=[.ptr 7 0,.I p1]) (ml:=[(7,.box [.L r3.2.L,.I r3.2.At])]) (dg:=[(7,.box [.L r9.2.L,.I r9.2.At])]) R sO R (aK (aK bt)) (zB CK) (mC R mN) (b8 R cw) R (sN (aW (cB c6) (v:=(.bool _)) R ?_)))
    obtain rfl:=oI hv
    exact zS
   ·replace c6:=bF c6
    replace hv:=aA hv c6
    refine sF R R c6 (sF R R c6 (sF R R c6 (sN (aV (cB c6) (v:=(.bool _)) R ?_))))
    obtain rfl:=oI hv
    exact zS
  clear hv
  refine LH.cond (t:=w7.1) R (fun gU=>?_) (fun gU=>?_)
  ·replace h:=aB h gU
   obtain ⟨cJ,lz,h⟩:=al h
   refine LH.aj [(0,.ptr 7 0),(4,.ptr 104 0),(5,.ptr 105 0),(21,.I cJ.1)] [(7,.box [.L cJ.2.L,.I cJ.2.At]),(104,.box [.I 0,.I 0,.I 0]),(105,.box [.I r1.1,.I r2.1,.I r3.1])] R (ib R (sN (fa (args:=[.ptr 7 0,.I 3]) (ml:=[(7,.box [.L w7.2.1,.I w7.2.2])]) (dg:=[(7,.box [.L cJ.2.L,.I cJ.2.At])]) R gw R (aK (aK bt)) (kG lz) (mC R mN) (b8 R cw) R zS))) (LH.block (LH.aj [(0,.ptr 7 0),(4,.ptr 104 0),(5,.ptr 105 0),(21,.I cJ.1),(25,.bool (cJ.1 == 0))] [(7,.box [.L cJ.2.L,.I cJ.2.At]),(104,.box [.I 0,.I 0,.I 0]),(105,.box [.I r1.1,.I r2.1,.I r3.1])] R (sN (gm R R (cm R zS))) (LH.cond (t:=(cJ.1 == 0)) R (fun gD=>?_) (fun gD=>?_))))
   ·replace h:=aB h gD
    obtain ⟨rm,KA,h⟩:=al h
    refine LH.aQ [(4,.ptr 104 0),(5,.ag [.I rm.1,.I r2.1,.I r3.1])] [(7,.box [.L rm.2.L,.I rm.2.At]),(104,.box [.I 0,.I 0,.I 0])] R (ib R (sN (fa (args:=[.ptr 7 0]) (ml:=[(7,.box [.L cJ.2.L,.I cJ.2.At])]) (dg:=[(7,.box [.L rm.2.L,.I rm.2.At])]) R uI R (aK bt) (Ca KA) (mC R mN) (b8 R cw) R (sN (dK e7 aE bb R R (s_ (cV R R R aE bb R R R (s0 ((Wk.trans (aX [(4,.ptr 104 0),(5,.ptr 105 0)] [(7,.box [.L rm.2.L,.I rm.2.At]),(104,.box [.I 0,.I 0,.I 0]),(105,.box [.I rm.1,.I r2.1,.I r3.1])]) (Wk.trans (Wk.bk 105 [.I rm.1,.I r2.1,.I r3.1] R R R (bO R)) (Wk.eq R R R R)))))))))))) (aY (av (LH.aj [(4,.ag [.I rm.1,.I r2.1,.I r3.1])] [(7,.box [.L rm.2.L,.I rm.2.At])] R (sN (bh R b6 fX bW R R (s_ (cV R R R b6 bW R R R (s0 ((Wk.trans (aX [(4,.ptr 104 0)] [(7,.box [.L rm.2.L,.I rm.2.At]),(104,.box [.I rm.1,.I r2.1,.I r3.1])]) (Wk.trans (Wk.bk 104 [.I rm.1,.I r2.1,.I r3.1] R R R (bO R)) (Wk.eq R R R R))))))))) (LH.ret ?_))))
    obtain rfl:=oI h
    exact aS (aT Tryz.results31) (df R b6 fX bW R R (bP ⟨aR (mC R mN),R,a8 R,Sub.rfl⟩))
   replace h:=aA h gD
   refine LH.aj [(0,.ptr 7 0),(4,.ptr 104 0),(5,.ptr 105 0),(30,.bool (cJ.1 == 1))] [(7,.box [.L cJ.2.L,.I cJ.2.At]),(104,.box [.I 0,.I 0,.I 0]),(105,.box [.I r1.1,.I r2.1,.I r3.1])] R (sN (gm R R (cm R zS))) (LH.cond (t:=(cJ.1 == 1)) R (fun zT=>?_) (fun zT=>?_))
   ·replace h:=aB h zT
    obtain ⟨gi,vH,h⟩:=al h
    refine LH.aQ [(4,.ptr 104 0),(5,.ag [.I r1.1,.I gi.1,.I r3.1])] [(7,.box [.L gi.2.L,.I gi.2.At]),(104,.box [.I 0,.I 0,.I 0])] R (ib R (sN (fa (args:=[.ptr 7 0]) (ml:=[(7,.box [.L cJ.2.L,.I cJ.2.At])]) (dg:=[(7,.box [.L gi.2.L,.I gi.2.At])]) R uI R (aK bt) (Ca vH) (mC R mN) (b8 R cw) R (sN (dK ek aE bb R R (s_ (cV R R R aE bb R R R (s0 ((Wk.trans (aX [(4,.ptr 104 0),(5,.ptr 105 0)] [(7,.box [.L gi.2.L,.I gi.2.At]),(104,.box [.I 0,.I 0,.I 0]),(105,.box [.I r1.1,.I gi.1,.I r3.1])]) (Wk.trans (Wk.bk 105 [.I r1.1,.I gi.1,.I r3.1] R R R (bO R)) (Wk.eq R R R R)))))))))))) (aY (av (LH.aj [(4,.ag [.I r1.1,.I gi.1,.I r3.1])] [(7,.box [.L gi.2.L,.I gi.2.At])] R (sN (bh R b6 fX bW R R (s_ (cV R R R b6 bW R R R (s0 ((Wk.trans (aX [(4,.ptr 104 0)] [(7,.box [.L gi.2.L,.I gi.2.At]),(104,.box [.I r1.1,.I gi.1,.I r3.1])]) (Wk.trans (Wk.bk 104 [.I r1.1,.I gi.1,.I r3.1] R R R (bO R)) (Wk.eq R R R R))))))))) (LH.ret ?_))))
    obtain rfl:=oI h
    exact aS (aT Tryz.results31) (df R b6 fX bW R R (bP ⟨aR (mC R mN),R,a8 R,Sub.rfl⟩))
   replace h:=aA h zT
   obtain ⟨kq,KB,h⟩:=al h
   refine LH.aQ [(4,.ptr 104 0),(5,.ag [.I r1.1,.I r2.1,.I kq.1])] [(7,.box [.L kq.2.L,.I kq.2.At]),(104,.box [.I 0,.I 0,.I 0])] R (ib R (sN (fa (args:=[.ptr 7 0]) (ml:=[(7,.box [.L cJ.2.L,.I cJ.2.At])]) (dg:=[(7,.box [.L kq.2.L,.I kq.2.At])]) R uI R (aK bt) (Ca KB) (mC R mN) (b8 R cw) R (sN (dK dz aE bb R R (s_ (cV R R R aE bb R R R (s0 ((Wk.trans (aX [(4,.ptr 104 0),(5,.ptr 105 0)] [(7,.box [.L kq.2.L,.I kq.2.At]),(104,.box [.I 0,.I 0,.I 0]),(105,.box [.I r1.1,.I r2.1,.I kq.1])]) (Wk.trans (Wk.bk 105 [.I r1.1,.I r2.1,.I kq.1] R R R (bO R)) (Wk.eq R R R R)))))))))))) (aY (av (LH.aj [(4,.ag [.I r1.1,.I r2.1,.I kq.1])] [(7,.box [.L kq.2.L,.I kq.2.At])] R (sN (bh R b6 fX bW R R (s_ (cV R R R b6 bW R R R (s0 ((Wk.trans (aX [(4,.ptr 104 0)] [(7,.box [.L kq.2.L,.I kq.2.At]),(104,.box [.I r1.1,.I r2.1,.I kq.1])]) (Wk.trans (Wk.bk 104 [.I r1.1,.I r2.1,.I kq.1] R R R (bO R)) (Wk.eq R R R R))))))))) (LH.ret ?_))))
   obtain rfl:=oI h
   exact aS (aT Tryz.results31) (df R b6 fX bW R R (bP ⟨aR (mC R mN),R,a8 R,Sub.rfl⟩))
  replace h:=aA h gU
  refine LH.skip (av (LH.wk ((Wk.trans (aX [(4,.ptr 104 0),(5,.ptr 105 0)] [(7,.box [.L w7.2.1,.I w7.2.2]),(104,.box [.I 0,.I 0,.I 0]),(105,.box [.I r1.1,.I r2.1,.I r3.1])]) (Wk.trans (Wk.bk 105 [.I r1.1,.I r2.1,.I r3.1] R R R (bO R)) (aX [(4,.ptr 104 0),(5,.ag [.I r1.1,.I r2.1,.I r3.1])] [(7,.box [.L w7.2.1,.I w7.2.2]),(104,.box [.I 0,.I 0,.I 0])])))) (LH.aj [(4,.ag [.I r1.1,.I r2.1,.I r3.1])] [(7,.box [.L w7.2.1,.I w7.2.2])] R (sN (bh R b6 fX bW R R (s_ (cV R R R b6 bW R R R (s0 ((Wk.trans (aX [(4,.ptr 104 0)] [(7,.box [.L w7.2.1,.I w7.2.2]),(104,.box [.I r1.1,.I r2.1,.I r3.1])]) (Wk.trans (Wk.bk 104 [.I r1.1,.I r2.1,.I r3.1] R R R (bO R)) (Wk.eq R R R R))))))))) (LH.ret ?_))))
  obtain rfl:=oI h
  exact aS (aT Tryz.results31) (df R b6 fX bW R R (bP ⟨aR (mC R mN),R,a8 R,Sub.rfl⟩))
set_option maxHeartbeats 4000000 in
theorem QX {F:Nat} {p0:aN} {p1:Int} {p2:Int} {r:List ax × aN} (h:LZ F p0 p1 p2=some r):aP Tryz.prog 8 [.ptr 7 0,.I p1,.I p2] (Mem.of [(7,.box [.L p0.L,.I p0.At])]) (.ak 12 (r.1.map ax.lv)) (Mem.of [(7,.box [.L r.2.L,.I r.2.At])]):=by
  unfold LZ at h
  refine bu Tryz.func8 R (nT Tryz.ntmps8 R) (LH.wk (aX [(0,.ptr 7 0),(1,.I p1),(2,.I p2)] [(7,.box [.L p0.L,.I p0.At])]) (LH.aj [(0,.ptr 7 0),(1,.I p1),(2,.I p2)] [(7,.box [.L p0.L,.I p0.At])] R (kh R zS) (LH.aj [(0,.ptr 7 0),(1,.I p1),(2,.I p2),(7,.nil)] [(7,.box [.L p0.L,.I p0.At])] R (kh R zS) ?_)))
  obtain ⟨v1,kz,h⟩:=al h
  refine LH.aj [(0,.ptr 7 0),(1,.I p1),(2,.I p2),(7,.nil),(8,.arr 112 v1.length)] [(7,.box [.L p0.L,.I p0.At]),(112,.arr 3 1 (v1.map LV.I))] R (sN (QM (f:=LV.I) (z:=0) (id:=112) R cz Tr qN bb R R R kz R (nE R zS))) (LH.seq ?_)
  obtain ⟨r2,fz,h⟩:=al h
  refine LH.aj [(0,.ptr 7 0),(2,.I p2),(7,.nil),(8,.arr 112 v1.length),(9,.I r2.1)] [(7,.box [.L r2.2.L,.I r2.2.At]),(112,.arr 3 1 (v1.map LV.I))] R (ib R (bl R (sN (fa (args:=[.ptr 7 0,.I 0,.I p1]) (ml:=[(7,.box [.L p0.L,.I p0.At])]) (dg:=[(7,.box [.L r2.2.L,.I r2.2.At])]) R nD R (aK (aK (aK bt))) (nA fz) (mC R mN) (b8 R cw) R (bo R zS))))) (LH.block (LH.wk ((Wk.trans (aX [(0,.ptr 7 0),(2,.I p2),(7,.nil),(8,.arr 112 v1.length),(9,.I r2.1)] [(7,.box [.L r2.2.L,.I r2.2.At]),(112,.arr 3 1 (v1.map LV.I))]) (Wk.trans (aX [(0,.ptr 7 0),(2,.I p2),(7,.nil),(8,.arr 112 v1.length),(9,.I r2.1)] [(7,.box [.L r2.2.L,.I r2.2.At]),(112,.arr 3 1 (v1.map LV.I))]) (Wk.trans (Wk.rl (fk:=[(0,.ptr 7 0),(2,.I p2),(7,.arr 221 (List.length ([]:List ax))),(8,.arr 112 v1.length),(9,.I r2.1)]) 221 63 12 R R (wK (wK (wO (wK (wK wN)))))) (aX [(0,.ptr 7 0),(2,.I p2),(7,.arr 221 (List.length ([]:List ax))),(8,.arr 112 v1.length),(9,.I r2.1)] [(7,.box [.L r2.2.L,.I r2.2.At]),(112,.arr 3 1 (v1.map LV.I)),(221,.arr 63 12 (List.map ax.lv ([]:List ax)))]))))) (LH.loop (fun n e m=>∃ (n3:Int) (l4:List Int) (n5:Int) (l6:List Int) (l7:List ax),D5 F p2 n n3 l4 n5 l6 l7=some r∧e=Env.of [(0,.ptr 7 0),(2,.I p2),(7,.arr 221 l7.length),(8,.arr 112 l6.length),(9,.I n3)]∧m=Mem.of [(7,.box [.L l4,.I n5]),(112,.arr 3 1 (l6.map LV.I)),(221,.arr 63 12 (l7.map ax.lv))]) F ⟨r2.1,r2.2.L,r2.2.At,v1,([]:List ax),h,R,R⟩ ?_)))
  clear h
  rintro n e m ⟨n3,l4,n5,l6,l7,h,rfl,rfl⟩
  rcases n with _ | n
  · cases (show Option.none=some _ from h)
  obtain ⟨aH,ba⟩:∃ f,f=D5 F p2 n:=⟨_,rfl⟩
  replace h:D6 F p2 aH n3 l4 n5 l6 l7=some r:=ba ▸ h
  unfold D6 at h
  refine LH.seq (LH.aj [(0,.ptr 7 0),(2,.I p2),(7,.arr 221 l7.length),(8,.arr 112 l6.length),(9,.I n3),(17,.bool (decide (n3 > 0)))] [(7,.box [.L l4,.I n5]),(112,.arr 3 1 (l6.map LV.I)),(221,.arr 63 12 (l7.map ax.lv))] R (bl R (sN (iw R R zS))) (LH.cond (t:=(decide (n3 > 0))) R (fun ly=>?_) (fun ly=>?_)))
  ·replace h:=aB h ly
   refine LH.skip (av (LH.wk (aX [(0,.ptr 7 0),(2,.I p2),(7,.arr 221 l7.length),(8,.arr 112 l6.length),(9,.I n3)] [(7,.box [.L l4,.I n5]),(112,.arr 3 1 (l6.map LV.I)),(221,.arr 63 12 (l7.map ax.lv))]) (LH.seq (LH.block ?_))))
   obtain ⟨r9,CK,h⟩:=al h
   refine LH.aj [(0,.ptr 7 0),(2,.I p2),(7,.arr 221 l7.length),(8,.arr 112 l6.length),(9,.I n3),(10,.I r9.1)] [(7,.box [.L r9.2.L,.I r9.2.At]),(112,.arr 3 1 (l6.map LV.I)),(221,.arr 63 12 (l7.map ax.lv))] R (ib R (sN (fa (args:=[.ptr 7 0,.I 5]) (ml:=[(7,.box [.L l4,.I n5])]) (dg:=[(7,.box [.L r9.2.L,.I r9.2.At])]) R gw R (aK (aK bt)) (kG CK) (mC R mN) (b8 R cw) R (bo R zS)))) ?_
   obtain ⟨dG,p5,h⟩:=al h
   obtain ⟨cJ,lz,h⟩:=al h
   obtain ⟨cI,Aj,h⟩:=al h
   obtain ⟨cT,lY,h⟩:=al h
   obtain ⟨fb,vG,h⟩:=al h
   refine LH.c7 mixed [] [0,1221,0,100007,0,0,100007,0,1221,0,0,0,100007,0,0,0,1112,1112,4,0,0,100007,0,2,100111] [(0,.ptr 7 0),(2,.I p2),(7,.arr 221 l7.length),(8,.arr 112 l6.length),(9,.I n3),(10,.I r9.1),(11,.ptr 111 0)] [(7,.box [.L fb.2.L,.I fb.2.At]),(111,.box [.I (i64 ((l7.length:Int)+dG.1)),.I cJ.1,.I (l7.length:Int),.I cI.1,.I 0,.I 0,.str (ByteArray.mk #[]),.nil,.nil,.I r9.1,.I (max 1 cT),.I fb.1]),(112,.arr 3 1 (l6.map LV.I)),(221,.arr 63 12 (l7.map ax.lv))] R R (by kernel_rfl) ?_ ?_
   ·exact OW R (mD R R R (fun _ b _ d=>FK (f:=ax.lv) gn R b d) (BG R (mW R R R (fun _ b _ d=>fa (args:=[.ptr 7 0,.I 2]) (ml:=[(7,.box [.L r9.2.L,.I r9.2.At])]) (dg:=[(7,.box [.L dG.2.L,.I dG.2.At])]) R gw R (aK (aK bt)) (kG p5) (mC b mN) (b8 R cw) R d) (aF (cr R R ⟨R,BG R (mW R R R (fun _ b _ d=>fa (args:=[.ptr 7 0,.I 2]) (ml:=[(7,.box [.L dG.2.L,.I dG.2.At])]) (dg:=[(7,.box [.L cJ.2.L,.I cJ.2.At])]) R gw R (aK (aK bt)) (kG lz) (mC b mN) (b8 R cw) R d) (OW R (mD R R R (fun _ b _ d=>FK (f:=ax.lv) gn R b d) (aF (gB (vs:=[(0,.I (i64 ((l7.length:Int)+dG.1))),(1,.I cJ.1),(2,.I (l7.length:Int))]) GU uo R (lf e7 bb aE R R R (lf ek bb aE R R R (lf dz bb aE R R R gA))) ⟨R,BG R (aF (jI (f:=LV.I) (ys:=[3,4,4,2,5,6]) cz qN bb R R R lO ⟨R,mW R R R (fun _ b _ d=>fa (args:=[.ptr 7 0,.L [3,4,4,2,5,6]]) (ml:=[(7,.box [.L cJ.2.L,.I cJ.2.At])]) (dg:=[(7,.box [.L cI.2.L,.I cI.2.At])]) R xr R (aK (aK bt)) (Eb Aj) (mC b mN) (b8 R cw) R d) (eV R (OW R (eV R (mD R R R (fun _ b _ d=>gX (f:=LV.I) cz aE bb R b R lY d) (mD R R R (fun _ b _ d=>vM (f:=LV.I) R b (dC lY).2 R R R aE bN d) (mM (fun _=>FQ R R) (aF (gB (vs:=[(0,.I r9.1),(1,.I (max 1 cT))]) A5 A6 R (lf iN bb aE R R R (lf eS bb aE R R R gA)) ⟨R,BG R (mW R R R (fun _ b _ d=>fa (args:=[.ptr 7 0,.I 4]) (ml:=[(7,.box [.L cI.2.L,.I cI.2.At])]) (dg:=[(7,.box [.L fb.2.L,.I fb.2.At])]) R gw R (aK (aK bt)) (kG vG) (mC b mN) (b8 R cw) R d) (aF (gB (vs:=[(0,.agg [.I (i64 ((l7.length:Int)+dG.1)),.I cJ.1,.I (l7.length:Int)]),(1,.I cI.1),(3,.agg [.I r9.1,.I (max 1 cT)]),(4,.I fb.1)]) Ij y7 R (lf db bW b6 R R R (lf e8 bb aE R R R (lf eT eJ fg R R R (lf kR bb aE R R R gA)))) ⟨R,Hg (kS (id:=111) R y7 R R (mS R R R (fun _ b _ d=>cV R R R fx ew b R R d) zM))⟩)))⟩))))))))⟩))⟩)))))⟩)))))
   refine LH.mid (fun e m=>∃ (Lg:List Int) (n16:Int) (n17:Int) (n18:Int) (n19:Int) (t20:ByteArray) (lL:List ao) (lM:List Int) (n23:Int) (n24:Int) (n25:Int) (gF:List Int),L0 aH p2 n3 l7 dG cJ Lg n16 n17 n18 n19 t20 lL lM n23 n24 n25 gF=some r∧Wk (fun id=>Mem.of [(7,.box [.L p0.L,.I p0.At])] id ≠ .none) e m (Env.of [(0,.ptr 7 0),(2,.I p2),(7,.arr 221 l7.length),(8,.arr 112 gF.length),(9,.I n3),(11,.ptr 111 0)]) (Mem.of [(7,.box [.L Lg,.I n16]),(111,.box [.I (i64 ((l7.length:Int)+dG.1)),.I cJ.1,.I (l7.length:Int),.I n17,.I n18,.I n19,.str t20,.ak 6 (lL.map ao.lv),.L lM,.I n23,.I n24,.I n25]),(112,.arr 3 1 (gF.map LV.I)),(221,.arr 63 12 (l7.map ax.lv))])) ?_ ?_
   ·obtain ⟨QU,hv,h⟩:=al h
    refine LH.aj [(0,.ptr 7 0),(2,.I p2),(7,.arr 221 l7.length),(8,.arr 112 l6.length),(9,.I n3),(10,.I r9.1),(11,.ptr 111 0),(54,.bool QU)] [(7,.box [.L fb.2.L,.I fb.2.At]),(111,.box [.I (i64 ((l7.length:Int)+dG.1)),.I cJ.1,.I (l7.length:Int),.I cI.1,.I 0,.I 0,.str (ByteArray.mk #[]),.nil,.nil,.I r9.1,.I (max 1 cT),.I fb.1]),(112,.arr 3 1 (l6.map LV.I)),(221,.arr 63 12 (l7.map ax.lv))] R ?_ ?_
    ·refine j5 R (bl R ?_)
     obtain ⟨Qk,NN,hv⟩:=al hv
     refine sN (gX (f:=LV.I) cz aE bb R R R NN (sN (vM (f:=LV.I) R R (dC NN).2 R R R aE bN (sN (gm R R (bI R ?_))))))
     by_cases qZ:(Qk == 0)=true
     ·replace hv:=aB hv qZ
      refine sF R R qZ (sF R R qZ (sF R R qZ (sN (aW (cB qZ) (v:=(.bool _)) R ?_))))
      obtain rfl:=oI hv
      exact zS
     ·replace qZ:=bF qZ
      replace hv:=aA hv qZ
      refine sT R (cB qZ) (dK e8 aE bb R R (sT R (cB qZ) (dW R R R R aE bN (sT R (cB qZ) (gm R R (sN (aV (cB qZ) (v:=(.bool _)) R ?_)))))))
      obtain rfl:=oI hv
      exact zS
    clear hv
    refine LH.cond (t:=QU) R (fun HA=>?_) (fun HA=>?_)
    ·replace h:=aB h HA
     refine LH.aj [(0,.ptr 7 0),(2,.I p2),(7,.arr 221 l7.length),(8,.arr 112 l6.length),(9,.I n3),(10,.I r9.1),(11,.ptr 111 0)] [(7,.box [.L fb.2.L,.I fb.2.At]),(111,.box [.I (i64 ((l7.length:Int)+dG.1)),.I cJ.1,.I (l7.length:Int),.I 2,.I 0,.I 0,.str (ByteArray.mk #[]),.nil,.nil,.I r9.1,.I (max 1 cT),.I fb.1]),(112,.arr 3 1 (l6.map LV.I)),(221,.arr 63 12 (l7.map ax.lv))] R (sN (dK e8 aE bb R R (s_ (cV R R R aE bb R R R zS)))) (LH.mid (fun e m=>∃ (Je:Int),L3 aH F p2 n3 l6 l7 r9 dG cJ fb Je=some r∧Wk (fun id=>Mem.of [(7,.box [.L p0.L,.I p0.At])] id ≠ .none) e m (Env.of [(0,.ptr 7 0),(2,.I p2),(7,.arr 221 l7.length),(8,.arr 112 l6.length),(9,.I n3),(10,.I r9.1),(11,.ptr 111 0)]) (Mem.of [(7,.box [.L fb.2.L,.I fb.2.At]),(111,.box [.I (i64 ((l7.length:Int)+dG.1)),.I cJ.1,.I (l7.length:Int),.I Je,.I 0,.I 0,.str (ByteArray.mk #[]),.nil,.nil,.I r9.1,.I (max 1 cT),.I fb.1]),(112,.arr 3 1 (l6.map LV.I)),(221,.arr 63 12 (l7.map ax.lv))])) ?_ ?_)
     ·obtain ⟨Qm,NR,h⟩:=al h
      refine LH.aj [(0,.ptr 7 0),(2,.I p2),(7,.arr 221 l7.length),(8,.arr 112 l6.length),(9,.I n3),(10,.I r9.1),(11,.ptr 111 0),(60,.bool (Qm == 0))] [(7,.box [.L fb.2.L,.I fb.2.At]),(111,.box [.I (i64 ((l7.length:Int)+dG.1)),.I cJ.1,.I (l7.length:Int),.I 2,.I 0,.I 0,.str (ByteArray.mk #[]),.nil,.nil,.I r9.1,.I (max 1 cT),.I fb.1]),(112,.arr 3 1 (l6.map LV.I)),(221,.arr 63 12 (l7.map ax.lv))] R (j5 R (bl R (sN (gX (f:=LV.I) cz aE bb R R R NR (sN (vM (f:=LV.I) R R (dC NR).2 R R R aE bN (sN (gm R R zS)))))))) (LH.cond (t:=(Qm == 0)) R (fun Ka=>?_) (fun Ka=>?_))
      ·replace h:=aB h Ka
       exact LH.aQ [(0,.ptr 7 0),(2,.I p2),(7,.arr 221 l7.length),(8,.arr 112 l6.length),(9,.I n3),(10,.I r9.1),(11,.ptr 111 0)] [(7,.box [.L fb.2.L,.I fb.2.At]),(111,.box [.I (i64 ((l7.length:Int)+dG.1)),.I cJ.1,.I (l7.length:Int),.I 1,.I 0,.I 0,.str (ByteArray.mk #[]),.nil,.nil,.I r9.1,.I (max 1 cT),.I fb.1]),(112,.arr 3 1 (l6.map LV.I)),(221,.arr 63 12 (l7.map ax.lv))] R (sN (dK e8 aE bb R R (s_ (cV R R R aE bb R R R zS)))) (av ⟨1,h,Wk.eq R R R R⟩)
      replace h:=aA h Ka
      exact LH.skip (av ⟨2,h,Wk.eq R R R R⟩)
     clear h
     rintro e m ⟨Je,h,hw⟩
     refine LH.wk hw ?_
     clear hw
     unfold L3 at h
     obtain ⟨Hj,NO,h⟩:=al h
     obtain ⟨UC,NP,h⟩:=al h
     refine LH.aj [(0,.ptr 7 0),(2,.I p2),(7,.arr 221 l7.length),(8,.arr 112 (List.length (l6.set r9.1.toNat (min (i64 (Hj+1)) 9)))),(9,.I n3),(10,.I r9.1),(11,.ptr 111 0)] [(7,.box [.L fb.2.L,.I fb.2.At]),(111,.box [.I (i64 ((l7.length:Int)+dG.1)),.I cJ.1,.I (l7.length:Int),.I Je,.I 0,.I 0,.str (ByteArray.mk #[]),.nil,.nil,.I r9.1,.I (max 1 cT),.I fb.1]),(112,.arr 3 1 (List.map LV.I (l6.set r9.1.toNat (min (i64 (Hj+1)) 9)))),(221,.arr 63 12 (l7.map ax.lv))] R (j5 R (bl R (j5 R (bl R (sN (gX (f:=LV.I) cz aE bb R R R NO (sN (vM (f:=LV.I) R R (dC NO).2 R R R aE bN (sN (cr R R (sX ((Ls R R).ok) (sN (gX (f:=LV.I) cz aE bb R R R NP (s_ (ri (f:=LV.I) (z':=(min (i64 (Hj+1)) 9)) R R R R aE bb R (dC NP).2 R (s0 (Wk.to (eC R (eC R (eC R (eC (congrArg (LV.arr 112) (by simp)) (eC R (eC R (eC R eN))))))) ⟨R,R,R,R,trivial⟩ R (a8 R)))))))))))))))))) ?_
     obtain ⟨Ql,NQ,h⟩:=al h
     obtain ⟨rp,Si,h⟩:=al h
     refine LH.aQ [(0,.ptr 7 0),(2,.I p2),(7,.arr 221 l7.length),(8,.arr 112 (List.length (l6.set r9.1.toNat (min (i64 (Hj+1)) 9)))),(9,.I n3),(11,.ptr 111 0)] [(7,.box [.L rp.2.L,.I rp.2.At]),(111,.box [.I (i64 ((l7.length:Int)+dG.1)),.I cJ.1,.I (l7.length:Int),.I Je,.I rp.1.ID,.I rp.1.Version,.str rp.1.bD,.ak 6 (rp.1.aI.map ao.lv),.L rp.1.aD,.I 0,.I 0,.I 0]),(112,.arr 3 1 (List.map LV.I (l6.set r9.1.toNat (min (i64 (Hj+1)) 9)))),(221,.arr 63 12 (l7.map ax.lv))] R ?_ ?_
     ·exact ib R (bl R (j5 R (bl R (sN (gX (f:=LV.I) cz aE bb R R R NQ (sN (vM (f:=LV.I) R R (dC NQ).2 R R R aE bN (bl R (sN (fa (args:=[.ptr 7 0,.I r9.1,.I Ql,.I p2]) (ml:=[(7,.box [.L fb.2.L,.I fb.2.At])]) (dg:=[(7,.box [.L rp.2.L,.I rp.2.At])]) R N2 R (aK (aK (aK (aK bt)))) (Q0 Si) (mC R mN) (b8 R cw) R (sN (gB (vs:=[]) A5 A6 R gA (sN (dK e9 cG ct R R (s_ (cV R R R cG ct R R R (sN (dK eT fg eJ R R (s_ (cV R R R fg eJ R R R (sN (dK kR aE bb R R (s_ (cV R R R aE bb R R R zS))))))))))))))))))))))))
     exact av ⟨rp.2.L,rp.2.At,Je,rp.1.ID,rp.1.Version,rp.1.bD,rp.1.aI,rp.1.aD,0,0,0,(l6.set r9.1.toNat (min (i64 (Hj+1)) 9)),h,Wk.eq R R R R⟩
    replace h:=aA h HA
    exact LH.skip (av ⟨fb.2.L,fb.2.At,cI.1,0,0,(ByteArray.mk #[]),([]:List ao),([]:List Int),r9.1,(max 1 cT),fb.1,l6,h,(Wk.trans (aX [(0,.ptr 7 0),(2,.I p2),(7,.arr 221 l7.length),(8,.arr 112 l6.length),(9,.I n3),(11,.ptr 111 0)] [(7,.box [.L fb.2.L,.I fb.2.At]),(111,.box [.I (i64 ((l7.length:Int)+dG.1)),.I cJ.1,.I (l7.length:Int),.I cI.1,.I 0,.I 0,.str (ByteArray.mk #[]),.nil,.nil,.I r9.1,.I (max 1 cT),.I fb.1]),(112,.arr 3 1 (l6.map LV.I)),(221,.arr 63 12 (l7.map ax.lv))]) (Wk.trans (aX [(0,.ptr 7 0),(2,.I p2),(7,.arr 221 l7.length),(8,.arr 112 l6.length),(9,.I n3),(11,.ptr 111 0)] [(7,.box [.L fb.2.L,.I fb.2.At]),(111,.box [.I (i64 ((l7.length:Int)+dG.1)),.I cJ.1,.I (l7.length:Int),.I cI.1,.I 0,.I 0,.str (ByteArray.mk #[]),.nil,.nil,.I r9.1,.I (max 1 cT),.I fb.1]),(112,.arr 3 1 (l6.map LV.I)),(221,.arr 63 12 (l7.map ax.lv))]) (Wk.trans (Wk.uQ 10117 86 6 111 7 R R R R R (bO R)) (Wk.trans (aX [(0,.ptr 7 0),(2,.I p2),(7,.arr 221 l7.length),(8,.arr 112 l6.length),(9,.I n3),(11,.ptr 111 0)] [(7,.box [.L fb.2.L,.I fb.2.At]),(111,.box [.I (i64 ((l7.length:Int)+dG.1)),.I cJ.1,.I (l7.length:Int),.I cI.1,.I 0,.I 0,.str (ByteArray.mk #[]),.arr 10117 (List.length ([]:List ao)),.nil,.I r9.1,.I (max 1 cT),.I fb.1]),(112,.arr 3 1 (l6.map LV.I)),(221,.arr 63 12 (l7.map ax.lv)),(10117,.arr 86 6 (List.map ao.lv ([]:List ao)))]) (Wk.trans (Wk.trans (Wk.gO (f:=ao.lv) 10117 86 6 ([]:List ao) 111 R R R (cn R (cn R (cn R (cn R (cn R (cn R (cn R (k5 (cn R (cn R (cn R (cn R kZ)))))))))))) R R (bO R)) (aX [(0,.ptr 7 0),(2,.I p2),(7,.arr 221 l7.length),(8,.arr 112 l6.length),(9,.I n3),(11,.ptr 111 0)] [(7,.box [.L fb.2.L,.I fb.2.At]),(111,.box [.I (i64 ((l7.length:Int)+dG.1)),.I cJ.1,.I (l7.length:Int),.I cI.1,.I 0,.I 0,.str (ByteArray.mk #[]),.ak 6 (List.map ao.lv ([]:List ao)),.nil,.I r9.1,.I (max 1 cT),.I fb.1]),(112,.arr 3 1 (l6.map LV.I)),(221,.arr 63 12 (l7.map ax.lv))])) (Wk.trans (aX [(0,.ptr 7 0),(2,.I p2),(7,.arr 221 l7.length),(8,.arr 112 l6.length),(9,.I n3),(11,.ptr 111 0)] [(7,.box [.L fb.2.L,.I fb.2.At]),(111,.box [.I (i64 ((l7.length:Int)+dG.1)),.I cJ.1,.I (l7.length:Int),.I cI.1,.I 0,.I 0,.str (ByteArray.mk #[]),.ak 6 (List.map ao.lv ([]:List ao)),.nil,.I r9.1,.I (max 1 cT),.I fb.1]),(112,.arr 3 1 (l6.map LV.I)),(221,.arr 63 12 (l7.map ax.lv))]) (Wk.trans (Wk.uQ 10118 3 1 111 8 R R R R R (bO R)) (Wk.trans (aX [(0,.ptr 7 0),(2,.I p2),(7,.arr 221 l7.length),(8,.arr 112 l6.length),(9,.I n3),(11,.ptr 111 0)] [(7,.box [.L fb.2.L,.I fb.2.At]),(111,.box [.I (i64 ((l7.length:Int)+dG.1)),.I cJ.1,.I (l7.length:Int),.I cI.1,.I 0,.I 0,.str (ByteArray.mk #[]),.ak 6 (List.map ao.lv ([]:List ao)),.arr 10118 (List.length ([]:List Int)),.I r9.1,.I (max 1 cT),.I fb.1]),(112,.arr 3 1 (l6.map LV.I)),(221,.arr 63 12 (l7.map ax.lv)),(10118,.arr 3 1 (List.map LV.I ([]:List Int)))]) (Wk.trans (Wk.trans (Wk.gO (f:=LV.I) 10118 3 1 ([]:List Int) 111 R R R (cn R (cn R (cn R (cn R (cn R (cn R (cn R (cn R (k5 (cn R (cn R (cn R kZ)))))))))))) R R (bO R)) (aX [(0,.ptr 7 0),(2,.I p2),(7,.arr 221 l7.length),(8,.arr 112 l6.length),(9,.I n3),(11,.ptr 111 0)] [(7,.box [.L fb.2.L,.I fb.2.At]),(111,.box [.I (i64 ((l7.length:Int)+dG.1)),.I cJ.1,.I (l7.length:Int),.I cI.1,.I 0,.I 0,.str (ByteArray.mk #[]),.ak 6 (List.map ao.lv ([]:List ao)),.L ([]:List Int),.I r9.1,.I (max 1 cT),.I fb.1]),(112,.arr 3 1 (l6.map LV.I)),(221,.arr 63 12 (l7.map ax.lv))])) (Wk.eq R R R R))))))))))⟩)
   clear h
   rintro e m ⟨Lg,n16,n17,n18,n19,t20,lL,lM,n23,n24,n25,gF,h,hw⟩
   refine LH.wk hw ?_
   clear hw
   unfold L0 at h
   refine LH.mid (fun e m=>∃ (n27:Int) (n28:Int) (n29:Int) (n30:Int) (n31:Int) (n32:Int) (n33:Int) (Lh:List Int) (n35:Int),G5 aH n3 l7 n18 t20 lL lM n25 gF n27 n28 n29 n30 n31 n32 n33 Lh n35=some r∧Wk (fun id=>Mem.of [(7,.box [.L p0.L,.I p0.At])] id ≠ .none) e m (Env.of [(0,.ptr 7 0),(2,.I p2),(7,.arr 221 l7.length),(8,.arr 112 gF.length),(9,.I n3),(11,.ag [.I n27,.I n28,.I n29,.I n30,.I n18,.I n31,.str t20,.ak 6 (lL.map ao.lv),.L lM,.I n32,.I n33,.I n25])]) (Mem.of [(7,.box [.L Lh,.I n35]),(112,.arr 3 1 (gF.map LV.I)),(221,.arr 63 12 (l7.map ax.lv))])) ?_ ?_
   ·obtain ⟨zw,hv,h⟩:=al h
    refine LH.aj [(0,.ptr 7 0),(2,.I p2),(7,.arr 221 l7.length),(8,.arr 112 gF.length),(9,.I n3),(11,.ptr 111 0),(89,.bool zw.1)] [(7,.box [.L zw.2.1,.I zw.2.2]),(111,.box [.I (i64 ((l7.length:Int)+dG.1)),.I cJ.1,.I (l7.length:Int),.I n17,.I n18,.I n19,.str t20,.ak 6 (lL.map ao.lv),.L lM,.I n23,.I n24,.I n25]),(112,.arr 3 1 (gF.map LV.I)),(221,.arr 63 12 (l7.map ax.lv))] R ?_ ?_
    ·refine bl R (sN (iw R R (bI R ?_)))
     by_cases qY:(decide (p2 > 0))=true
     ·replace hv:=aB hv qY
      refine sT R (cB qY) (oM (v:=(.ptr _ _)) R (sT R (cB qY) (oM (v:=(.int _ _)) R ?_)))
      obtain ⟨Mn,Sa,hv⟩:=al hv
      refine sT R (cB qY) (fa (args:=[.ptr 7 0,.I p2]) (ml:=[(7,.box [.L Lg,.I n16])]) (dg:=[(7,.box [.L Mn.2.L,.I Mn.2.At])]) R sO R (aK (aK bt)) (zB Sa) (mC R mN) (b8 R cw) R (sN (aW (cB qY) (v:=(.bool _)) R ?_)))
      obtain rfl:=oI hv
      exact zS
     ·replace qY:=bF qY
      replace hv:=aA hv qY
      refine sF R R qY (sF R R qY (sF R R qY (sN (aV (cB qY) (v:=(.bool _)) R ?_))))
      obtain rfl:=oI hv
      exact zS
    clear hv
    refine LH.cond (t:=zw.1) R (fun J5=>?_) (fun J5=>?_)
    ·replace h:=aB h J5
     obtain ⟨kC,Sb,h⟩:=al h
     refine LH.aj [(0,.ptr 7 0),(2,.I p2),(7,.arr 221 l7.length),(8,.arr 112 gF.length),(9,.I n3),(11,.ptr 111 0),(91,.I kC.1)] [(7,.box [.L kC.2.L,.I kC.2.At]),(111,.box [.I (i64 ((l7.length:Int)+dG.1)),.I cJ.1,.I (l7.length:Int),.I n17,.I n18,.I n19,.str t20,.ak 6 (lL.map ao.lv),.L lM,.I n23,.I n24,.I n25]),(112,.arr 3 1 (gF.map LV.I)),(221,.arr 63 12 (l7.map ax.lv))] R (ib R (sN (fa (args:=[.ptr 7 0,.I 5]) (ml:=[(7,.box [.L zw.2.1,.I zw.2.2])]) (dg:=[(7,.box [.L kC.2.L,.I kC.2.At])]) R gw R (aK (aK bt)) (kG Sb) (mC R mN) (b8 R cw) R zS))) (LH.block (LH.aj [(0,.ptr 7 0),(2,.I p2),(7,.arr 221 l7.length),(8,.arr 112 gF.length),(9,.I n3),(11,.ptr 111 0),(91,.I kC.1),(96,.bool (kC.1 == 0))] [(7,.box [.L kC.2.L,.I kC.2.At]),(111,.box [.I (i64 ((l7.length:Int)+dG.1)),.I cJ.1,.I (l7.length:Int),.I n17,.I n18,.I n19,.str t20,.ak 6 (lL.map ao.lv),.L lM,.I n23,.I n24,.I n25]),(112,.arr 3 1 (gF.map LV.I)),(221,.arr 63 12 (l7.map ax.lv))] R (sN (gm R R (cm R zS))) (LH.cond (t:=(kC.1 == 0)) R (fun J6=>?_) (fun J6=>?_))))
     ·replace h:=aB h J6
      obtain ⟨zo,Sc,h⟩:=al h
      exact LH.aQ [(0,.ptr 7 0),(2,.I p2),(7,.arr 221 l7.length),(8,.arr 112 gF.length),(9,.I n3),(11,.ag [.I (i64 ((l7.length:Int)+dG.1)),.I cJ.1,.I (l7.length:Int),.I zo.1,.I n18,.I n19,.str t20,.ak 6 (lL.map ao.lv),.L lM,.I n23,.I n24,.I n25])] [(7,.box [.L zo.2.L,.I zo.2.At]),(112,.arr 3 1 (gF.map LV.I)),(221,.arr 63 12 (l7.map ax.lv))] R (ib R (sN (fa (args:=[.ptr 7 0,.I (-1),.I 8]) (ml:=[(7,.box [.L kC.2.L,.I kC.2.At])]) (dg:=[(7,.box [.L zo.2.L,.I zo.2.At])]) R nD R (aK (aK (aK bt))) (nA Sc) (mC R mN) (b8 R cw) R (sN (dK e8 aE bb R R (s_ (cV R R R aE bb R R R (s0 ((Wk.trans (aX [(0,.ptr 7 0),(2,.I p2),(7,.arr 221 l7.length),(8,.arr 112 gF.length),(9,.I n3),(11,.ptr 111 0)] [(7,.box [.L zo.2.L,.I zo.2.At]),(111,.box [.I (i64 ((l7.length:Int)+dG.1)),.I cJ.1,.I (l7.length:Int),.I zo.1,.I n18,.I n19,.str t20,.ak 6 (lL.map ao.lv),.L lM,.I n23,.I n24,.I n25]),(112,.arr 3 1 (gF.map LV.I)),(221,.arr 63 12 (l7.map ax.lv))]) (Wk.trans (Wk.bk 111 [.I (i64 ((l7.length:Int)+dG.1)),.I cJ.1,.I (l7.length:Int),.I zo.1,.I n18,.I n19,.str t20,.ak 6 (lL.map ao.lv),.L lM,.I n23,.I n24,.I n25] R R R (bO R)) (Wk.eq R R R R)))))))))))) (aY (av ⟨(i64 ((l7.length:Int)+dG.1)),cJ.1,(l7.length:Int),zo.1,n19,n23,n24,zo.2.L,zo.2.At,h,Wk.eq R R R R⟩))
     replace h:=aA h J6
     refine LH.aj [(0,.ptr 7 0),(2,.I p2),(7,.arr 221 l7.length),(8,.arr 112 gF.length),(9,.I n3),(11,.ptr 111 0),(91,.I kC.1),(101,.bool (kC.1 == 1))] [(7,.box [.L kC.2.L,.I kC.2.At]),(111,.box [.I (i64 ((l7.length:Int)+dG.1)),.I cJ.1,.I (l7.length:Int),.I n17,.I n18,.I n19,.str t20,.ak 6 (lL.map ao.lv),.L lM,.I n23,.I n24,.I n25]),(112,.arr 3 1 (gF.map LV.I)),(221,.arr 63 12 (l7.map ax.lv))] R (sN (gm R R (cm R zS))) (LH.cond (t:=(kC.1 == 1)) R (fun J7=>?_) (fun J7=>?_))
     ·replace h:=aB h J7
      obtain ⟨zp,Sd,h⟩:=al h
      exact LH.aQ [(0,.ptr 7 0),(2,.I p2),(7,.arr 221 l7.length),(8,.arr 112 gF.length),(9,.I n3),(11,.ag [.I (i64 ((l7.length:Int)+dG.1)),.I cJ.1,.I (l7.length:Int),.I n17,.I n18,.I n19,.str t20,.ak 6 (lL.map ao.lv),.L lM,.I n23,.I zp.1,.I n25])] [(7,.box [.L zp.2.L,.I zp.2.At]),(112,.arr 3 1 (gF.map LV.I)),(221,.arr 63 12 (l7.map ax.lv))] R (ib R (sN (fa (args:=[.ptr 7 0,.I (-1),.I 3]) (ml:=[(7,.box [.L kC.2.L,.I kC.2.At])]) (dg:=[(7,.box [.L zp.2.L,.I zp.2.At])]) R nD R (aK (aK (aK bt))) (nA Sd) (mC R mN) (b8 R cw) R (sN (dK eT fg eJ R R (sN (dK eS aE bb R R (s_ (cV R R R aE bb R R R (s0 ((Wk.trans (aX [(0,.ptr 7 0),(2,.I p2),(7,.arr 221 l7.length),(8,.arr 112 gF.length),(9,.I n3),(11,.ptr 111 0)] [(7,.box [.L zp.2.L,.I zp.2.At]),(111,.box [.I (i64 ((l7.length:Int)+dG.1)),.I cJ.1,.I (l7.length:Int),.I n17,.I n18,.I n19,.str t20,.ak 6 (lL.map ao.lv),.L lM,.I n23,.I zp.1,.I n25]),(112,.arr 3 1 (gF.map LV.I)),(221,.arr 63 12 (l7.map ax.lv))]) (Wk.trans (Wk.bk 111 [.I (i64 ((l7.length:Int)+dG.1)),.I cJ.1,.I (l7.length:Int),.I n17,.I n18,.I n19,.str t20,.ak 6 (lL.map ao.lv),.L lM,.I n23,.I zp.1,.I n25] R R R (bO R)) (Wk.eq R R R R)))))))))))))) (aY (av ⟨(i64 ((l7.length:Int)+dG.1)),cJ.1,(l7.length:Int),n17,n19,n23,zp.1,zp.2.L,zp.2.At,h,Wk.eq R R R R⟩))
     replace h:=aA h J7
     refine LH.aj [(0,.ptr 7 0),(2,.I p2),(7,.arr 221 l7.length),(8,.arr 112 gF.length),(9,.I n3),(11,.ptr 111 0),(91,.I kC.1),(107,.bool (kC.1 == 2))] [(7,.box [.L kC.2.L,.I kC.2.At]),(111,.box [.I (i64 ((l7.length:Int)+dG.1)),.I cJ.1,.I (l7.length:Int),.I n17,.I n18,.I n19,.str t20,.ak 6 (lL.map ao.lv),.L lM,.I n23,.I n24,.I n25]),(112,.arr 3 1 (gF.map LV.I)),(221,.arr 63 12 (l7.map ax.lv))] R (sN (gm R R (cm R zS))) (LH.cond (t:=(kC.1 == 2)) R (fun J8=>?_) (fun J8=>?_))
     ·replace h:=aB h J8
      obtain ⟨zq,Se,h⟩:=al h
      exact LH.aQ [(0,.ptr 7 0),(2,.I p2),(7,.arr 221 l7.length),(8,.arr 112 gF.length),(9,.I n3),(11,.ag [.I (i64 ((l7.length:Int)+dG.1)),.I cJ.1,.I (l7.length:Int),.I n17,.I n18,.I n19,.str t20,.ak 6 (lL.map ao.lv),.L lM,.I zq.1,.I n24,.I n25])] [(7,.box [.L zq.2.L,.I zq.2.At]),(112,.arr 3 1 (gF.map LV.I)),(221,.arr 63 12 (l7.map ax.lv))] R (ib R (sN (fa (args:=[.ptr 7 0,.I 7]) (ml:=[(7,.box [.L kC.2.L,.I kC.2.At])]) (dg:=[(7,.box [.L zq.2.L,.I zq.2.At])]) R gw R (aK (aK bt)) (kG Se) (mC R mN) (b8 R cw) R (sN (dK eT fg eJ R R (sN (dK iN aE bb R R (s_ (cV R R R aE bb R R R (s0 ((Wk.trans (aX [(0,.ptr 7 0),(2,.I p2),(7,.arr 221 l7.length),(8,.arr 112 gF.length),(9,.I n3),(11,.ptr 111 0)] [(7,.box [.L zq.2.L,.I zq.2.At]),(111,.box [.I (i64 ((l7.length:Int)+dG.1)),.I cJ.1,.I (l7.length:Int),.I n17,.I n18,.I n19,.str t20,.ak 6 (lL.map ao.lv),.L lM,.I zq.1,.I n24,.I n25]),(112,.arr 3 1 (gF.map LV.I)),(221,.arr 63 12 (l7.map ax.lv))]) (Wk.trans (Wk.bk 111 [.I (i64 ((l7.length:Int)+dG.1)),.I cJ.1,.I (l7.length:Int),.I n17,.I n18,.I n19,.str t20,.ak 6 (lL.map ao.lv),.L lM,.I zq.1,.I n24,.I n25] R R R (bO R)) (Wk.eq R R R R)))))))))))))) (aY (av ⟨(i64 ((l7.length:Int)+dG.1)),cJ.1,(l7.length:Int),n17,n19,zq.1,n24,zq.2.L,zq.2.At,h,Wk.eq R R R R⟩))
     replace h:=aA h J8
     refine LH.aj [(0,.ptr 7 0),(2,.I p2),(7,.arr 221 l7.length),(8,.arr 112 gF.length),(9,.I n3),(11,.ptr 111 0),(113,.bool (kC.1 == 3))] [(7,.box [.L kC.2.L,.I kC.2.At]),(111,.box [.I (i64 ((l7.length:Int)+dG.1)),.I cJ.1,.I (l7.length:Int),.I n17,.I n18,.I n19,.str t20,.ak 6 (lL.map ao.lv),.L lM,.I n23,.I n24,.I n25]),(112,.arr 3 1 (gF.map LV.I)),(221,.arr 63 12 (l7.map ax.lv))] R (sN (gm R R (cm R zS))) (LH.cond (t:=(kC.1 == 3)) R (fun J9=>?_) (fun J9=>?_))
     ·replace h:=aB h J9
      obtain ⟨qG,Sf,h⟩:=al h
      exact LH.aQ [(0,.ptr 7 0),(2,.I p2),(7,.arr 221 l7.length),(8,.arr 112 gF.length),(9,.I n3),(11,.ag [.I qG.1.Time,.I qG.1.Source,.I qG.1.Seq,.I n17,.I n18,.I n19,.str t20,.ak 6 (lL.map ao.lv),.L lM,.I n23,.I n24,.I n25])] [(7,.box [.L qG.2.L,.I qG.2.At]),(112,.arr 3 1 (gF.map LV.I)),(221,.arr 63 12 (l7.map ax.lv))] R (ib R (sN (fa (args:=[.ptr 7 0,.I 3]) (ml:=[(7,.box [.L kC.2.L,.I kC.2.At])]) (dg:=[(7,.box [.L qG.2.L,.I qG.2.At])]) R N3 R (aK (aK bt)) (Q2 Sf) (mC R mN) (b8 R cw) R (sN (dK db b6 bW R R (s_ (cV R R R b6 bW R R R (s0 ((Wk.trans (aX [(0,.ptr 7 0),(2,.I p2),(7,.arr 221 l7.length),(8,.arr 112 gF.length),(9,.I n3),(11,.ptr 111 0)] [(7,.box [.L qG.2.L,.I qG.2.At]),(111,.box [.I qG.1.Time,.I qG.1.Source,.I qG.1.Seq,.I n17,.I n18,.I n19,.str t20,.ak 6 (lL.map ao.lv),.L lM,.I n23,.I n24,.I n25]),(112,.arr 3 1 (gF.map LV.I)),(221,.arr 63 12 (l7.map ax.lv))]) (Wk.trans (Wk.bk 111 [.I qG.1.Time,.I qG.1.Source,.I qG.1.Seq,.I n17,.I n18,.I n19,.str t20,.ak 6 (lL.map ao.lv),.L lM,.I n23,.I n24,.I n25] R R R (bO R)) (Wk.eq R R R R)))))))))))) (aY (av ⟨qG.1.Time,qG.1.Source,qG.1.Seq,n17,n19,n23,n24,qG.2.L,qG.2.At,h,Wk.eq R R R R⟩))
     replace h:=aA h J9
     obtain ⟨zr,Sg,h⟩:=al h
     exact LH.aQ [(0,.ptr 7 0),(2,.I p2),(7,.arr 221 l7.length),(8,.arr 112 gF.length),(9,.I n3),(11,.ag [.I (i64 ((l7.length:Int)+dG.1)),.I cJ.1,.I (l7.length:Int),.I n17,.I n18,.I zr.1,.str t20,.ak 6 (lL.map ao.lv),.L lM,.I n23,.I n24,.I n25])] [(7,.box [.L zr.2.L,.I zr.2.At]),(112,.arr 3 1 (gF.map LV.I)),(221,.arr 63 12 (l7.map ax.lv))] R (ib R (sN (fa (args:=[.ptr 7 0,.I 0,.I 3]) (ml:=[(7,.box [.L kC.2.L,.I kC.2.At])]) (dg:=[(7,.box [.L zr.2.L,.I zr.2.At])]) R nD R (aK (aK (aK bt))) (nA Sg) (mC R mN) (b8 R cw) R (sN (dK e9 cG ct R R (sN (dK fE aE bb R R (s_ (cV R R R aE bb R R R (s0 ((Wk.trans (aX [(0,.ptr 7 0),(2,.I p2),(7,.arr 221 l7.length),(8,.arr 112 gF.length),(9,.I n3),(11,.ptr 111 0)] [(7,.box [.L zr.2.L,.I zr.2.At]),(111,.box [.I (i64 ((l7.length:Int)+dG.1)),.I cJ.1,.I (l7.length:Int),.I n17,.I n18,.I zr.1,.str t20,.ak 6 (lL.map ao.lv),.L lM,.I n23,.I n24,.I n25]),(112,.arr 3 1 (gF.map LV.I)),(221,.arr 63 12 (l7.map ax.lv))]) (Wk.trans (Wk.bk 111 [.I (i64 ((l7.length:Int)+dG.1)),.I cJ.1,.I (l7.length:Int),.I n17,.I n18,.I zr.1,.str t20,.ak 6 (lL.map ao.lv),.L lM,.I n23,.I n24,.I n25] R R R (bO R)) (Wk.eq R R R R)))))))))))))) (aY (av ⟨(i64 ((l7.length:Int)+dG.1)),cJ.1,(l7.length:Int),n17,zr.1,n23,n24,zr.2.L,zr.2.At,h,Wk.eq R R R R⟩))
    replace h:=aA h J5
    exact LH.skip (av ⟨(i64 ((l7.length:Int)+dG.1)),cJ.1,(l7.length:Int),n17,n19,n23,n24,zw.2.1,zw.2.2,h,(Wk.trans (aX [(0,.ptr 7 0),(2,.I p2),(7,.arr 221 l7.length),(8,.arr 112 gF.length),(9,.I n3),(11,.ptr 111 0)] [(7,.box [.L zw.2.1,.I zw.2.2]),(111,.box [.I (i64 ((l7.length:Int)+dG.1)),.I cJ.1,.I (l7.length:Int),.I n17,.I n18,.I n19,.str t20,.ak 6 (lL.map ao.lv),.L lM,.I n23,.I n24,.I n25]),(112,.arr 3 1 (gF.map LV.I)),(221,.arr 63 12 (l7.map ax.lv))]) (Wk.trans (Wk.bk 111 [.I (i64 ((l7.length:Int)+dG.1)),.I cJ.1,.I (l7.length:Int),.I n17,.I n18,.I n19,.str t20,.ak 6 (lL.map ao.lv),.L lM,.I n23,.I n24,.I n25] R R R (bO R)) (Wk.eq R R R R)))⟩)
   clear h
   rintro e m ⟨n27,n28,n29,n30,n31,n32,n33,Lh,n35,h,hw⟩
   refine LH.wk hw ?_
   clear hw
   unfold G5 at h
   obtain ⟨DD,SB,h⟩:=al h
   refine LH.aj [(0,.ptr 7 0),(2,.I p2),(7,.arr 221 DD.length),(8,.arr 112 gF.length),(9,.I n3)] [(7,.box [.L Lh,.I n35]),(112,.arr 3 1 (gF.map LV.I)),(221,.arr 63 12 (DD.map ax.lv))] R (j5 R (sN (bh R fx me ew R R (sN (jI (f:=ax.lv) (ys:=[(ax.mk (aL.mk n27 n28 n29) n30 (ai.mk n18 n31 t20 lL lM) (aG.mk n32 n33) n25)]) gn y2 ew R R R ax.ok (sN (my (f:=ax.lv) gn y2 ew R R (bO R) R SB (nE R zS)))))))) ?_
   obtain ⟨lA,KJ,h⟩:=al h
   refine LH.aj [(0,.ptr 7 0),(2,.I p2),(7,.arr 221 DD.length),(8,.arr 112 gF.length),(9,.I n3),(123,.bool lA.1)] [(7,.box [.L lA.2.L,.I lA.2.At]),(112,.arr 3 1 (gF.map LV.I)),(221,.arr 63 12 (DD.map ax.lv))] R (ib R (sN (fa (args:=[.ptr 7 0,.I 8]) (ml:=[(7,.box [.L Lh,.I n35])]) (dg:=[(7,.box [.L lA.2.L,.I lA.2.At])]) R sO R (aK (aK bt)) (zB KJ) (mC R mN) (b8 R cw) R zS))) (LH.cond (t:=lA.1) R (fun zZ=>?_) (fun zZ=>?_))
   ·replace h:=aB h zZ
    obtain ⟨DX,R7,h⟩:=al h
    obtain ⟨Tv,NF,h⟩:=al h
    obtain ⟨v41,KW,h⟩:=al h
    refine LH.aQ [(0,.ptr 7 0),(2,.I p2),(7,.arr 221 v41.length),(8,.arr 112 gF.length),(9,.I n3)] [(7,.box [.L DX.2.L,.I DX.2.At]),(112,.arr 3 1 (gF.map LV.I)),(221,.arr 63 12 (v41.map ax.lv))] R (j5 R (j5 R (ib R (j5 R (sN (FK (f:=ax.lv) gn R R (sN (fa (args:=[.ptr 7 0,.I (DD.length:Int)]) (ml:=[(7,.box [.L lA.2.L,.I lA.2.At])]) (dg:=[(7,.box [.L DX.2.L,.I DX.2.At])]) R gw R (aK (aK bt)) (kG R7) (mC R mN) (b8 R cw) R (sN (gX (f:=ax.lv) gn fx ew R R R NF (sN (pE (f:=ax.lv) R R (dC NF).2 R R fx me ew R R (sN (jI (f:=ax.lv) (ys:=[Tv]) gn y2 ew R R R ax.ok (sN (my (f:=ax.lv) gn y2 ew R R (bO R) R KW (nE R zS))))))))))))))))) (aY (av (LH.aQ [(0,.ptr 7 0),(2,.I p2),(7,.arr 221 v41.length),(8,.arr 112 gF.length),(9,.I (i64 (n3 - 1)))] [(7,.box [.L DX.2.L,.I DX.2.At]),(112,.arr 3 1 (gF.map LV.I)),(221,.arr 63 12 (v41.map ax.lv))] R (bl R (sN (iG R R (bo R zS)))) ?_)))
    exact bg ⟨(i64 (n3 - 1)),DX.2.L,DX.2.At,gF,v41,ba ▸ h,R,R⟩ (Wk.eq R R R R)
   replace h:=aA h zZ
   refine LH.skip (aY (av (LH.aQ [(0,.ptr 7 0),(2,.I p2),(7,.arr 221 DD.length),(8,.arr 112 gF.length),(9,.I (i64 (n3 - 1)))] [(7,.box [.L lA.2.L,.I lA.2.At]),(112,.arr 3 1 (gF.map LV.I)),(221,.arr 63 12 (DD.map ax.lv))] R (bl R (sN (iG R R (bo R zS)))) ?_)))
   exact bg ⟨(i64 (n3 - 1)),lA.2.L,lA.2.At,gF,DD,ba ▸ h,R,R⟩ (Wk.eq R R R R)
  replace h:=aA h ly
  refine LH.exit (cv (bY (bM (av (LH.wk ((Wk.trans (aX [(7,.arr 221 l7.length)] [(7,.box [.L l4,.I n5]),(221,.arr 63 12 (l7.map ax.lv))]) (Wk.trans (Wk.kL (f:=ax.lv) (fk:=[(7,.ak 12 (l7.map ax.lv))]) 221 63 12 l7 R R (bO R) (fZ fN)) (aX [(7,.ak 12 (l7.map ax.lv))] [(7,.box [.L l4,.I n5])])))) (LH.aj [(6,.ak 12 (l7.map ax.lv))] [(7,.box [.L l4,.I n5])] R (eZ R (qb R zS)) (LH.ret ?_)))))))
  obtain rfl:=oI h
  exact aS (aT Tryz.results8) (bR R (bP ⟨aR (mC R mN),R,a8 R,Sub.rfl⟩))
theorem O9 {F:Nat} {p0:List ax} {p1:(ax→Option aL)} {p2:(ax→ax→Option Bool)} {r:List aL × List Int} {dL:Nat} {c4:List LV} (Az:eo Tryz.prog dL) (oK:LV.bj c4=true) (AA:∀ (x0:ax) (q:aL),p1 x0=some q→aP Tryz.prog dL ([.agg [.I x0.ar.Time,.I x0.ar.Source,.I x0.ar.Seq,.I x0.Kind,.I x0.Item.ID,.I x0.Item.Version,.str x0.Item.bD,.ak 6 (x0.Item.aI.map ao.lv),.L x0.Item.aD,.I x0.Ref.ID,.I x0.Ref.Version,.I x0.Form]]++c4) (Mem.of []) (.agg [.I q.Time,.I q.Source,.I q.Seq]) (Mem.of [])) {et:Nat} {dq:List LV} (CW:eo Tryz.prog et) (uh:LV.bj dq=true) (CX:∀ (x0:ax) (x1:ax) (q:Bool),p2 x0 x1=some q→aP Tryz.prog et ([.agg [.I x0.ar.Time,.I x0.ar.Source,.I x0.ar.Seq,.I x0.Kind,.I x0.Item.ID,.I x0.Item.Version,.str x0.Item.bD,.ak 6 (x0.Item.aI.map ao.lv),.L x0.Item.aD,.I x0.Ref.ID,.I x0.Ref.Version,.I x0.Form],.agg [.I x1.ar.Time,.I x1.ar.Source,.I x1.ar.Seq,.I x1.Kind,.I x1.Item.ID,.I x1.Item.Version,.str x1.Item.bD,.ak 6 (x1.Item.aI.map ao.lv),.L x1.Item.aD,.I x1.Ref.ID,.I x1.Ref.Version,.I x1.Form]]++dq) (Mem.of []) (.bool q) (Mem.of [])) (h:Gb F p0 p1 p2=some r):aP Tryz.prog 72 [.ak 12 (p0.map ax.lv),.fn dL c4,.fn et dq] (Mem.of []) (.de [.ak 3 (r.1.map aL.lv),.L r.2]) (Mem.of []):=by
  have FX:∀ {l:List LV},LV.bj l=true→LV.bj (l++dq)=true:=Lz uh
  have eG:LV.bG dq=[]:=fU uh
  have FW:∀ {l:List LV},LV.bj l=true→LV.bj (l++c4)=true:=Lz oK
  have ez:LV.bG c4=[]:=fU oK
  unfold Gb at h
  refine bu Tryz.func72 R (nT Tryz.ntmps72 R) (LH.wk (Wk.to (el:=[(0,.ak 12 (p0.map ax.lv)),(1,.fn dL c4),(2,.fn et dq)]) (ml:=[]) (eQ ⟨R,R,R,trivial⟩) mN (by simp [aU,LV.refs,LV.bG,LV.cells,cZ,Env.args,Env.of,Env.put,Env.drop,ez,eG]) (a8 R)) (LH.aj [(0,.ak 12 (p0.map ax.lv)),(1,.fn dL c4),(2,.fn et dq)] [] R (kh R (kh R (s0 (Wk.to (eQ ⟨R,R,R,trivial⟩) mN (by simp [aU,LV.refs,LV.bG,LV.cells,cZ,Env.args,Env.of,Env.put,Env.drop,ez,eG]) (a8 R))))) ?_))
  obtain ⟨v1,kz,h⟩:=al h
  refine LH.aj [(0,.ak 12 (p0.map ax.lv)),(1,.fn dL c4),(2,.fn et dq),(8,.arr 117 v1.length)] [(117,.arr 61 3 (v1.map aL.lv))] R (eZ R (sN (bX (f:=ax.lv) gn R (sN (QM (f:=aL.lv) (z:=(aL.mk 0 0 0)) (id:=117) R eU uo LN bW R R R kz R (nE R (s0 (Wk.to (eQ ⟨R,R,R,R,trivial⟩) ⟨R,trivial⟩ (by simp [aU,LV.refs,LV.bG,LV.cells,cZ,Env.args,Env.of,Env.put,Env.drop,ez,eG]) (a8 R))))))))) ?_
  obtain ⟨v2,wE,h⟩:=al h
  refine LH.aj [(0,.ak 12 (p0.map ax.lv)),(1,.fn dL c4),(2,.fn et dq),(8,.arr 117 v1.length),(9,.arr 120 v2.length)] [(117,.arr 61 3 (v1.map aL.lv)),(120,.arr 3 1 (v2.map LV.I))] R (eZ R (sN (bX (f:=ax.lv) gn R (sN (QM (f:=LV.I) (z:=0) (id:=120) R cz Tr qN bb R R R wE R (nE R (s0 (Wk.to (eQ ⟨R,R,R,R,R,trivial⟩) ⟨R,R,trivial⟩ (by simp [aU,LV.refs,LV.bG,LV.cells,cZ,Env.args,Env.of,Env.put,Env.drop,ez,eG]) (a8 R))))))))) (LH.aj [(0,.ak 12 (p0.map ax.lv)),(1,.fn dL c4),(2,.fn et dq),(8,.arr 117 v1.length),(9,.arr 120 v2.length),(10,.mp 121)] [(117,.arr 61 3 (v1.map aL.lv)),(120,.arr 3 1 (v2.map LV.I)),(121,.map 61 3 (dR aL.lv LV.I ([]:List (aL × Int))))] R (sX ((ta (kt:=61) (vt:=3) (id:=121) R).ok) (sN (oA (v:=(.mp _)) R (s0 (Wk.to (eQ ⟨R,R,R,R,R,R,trivial⟩) ⟨R,R,R,trivial⟩ (by simp [aU,LV.refs,LV.bG,LV.cells,cZ,Env.args,Env.of,Env.put,Env.drop,ez,eG]) (a8 R)))))) (LH.seq (LH.aj [(0,.ak 12 (p0.map ax.lv)),(1,.fn dL c4),(2,.fn et dq),(8,.arr 117 v1.length),(9,.arr 120 v2.length),(10,.mp 121),(22,.ak 12 (p0.map ax.lv)),(23,.I (p0.length:Int)),(24,.I 0)] [(117,.arr 61 3 (v1.map aL.lv)),(120,.arr 3 1 (v2.map LV.I)),(121,.map 61 3 (dR aL.lv LV.I ([]:List (aL × Int))))] R (eZ R (sN (bX (f:=ax.lv) gn R (bl R (s0 (Wk.to (eQ ⟨R,R,R,R,R,R,R,R,R,trivial⟩) ⟨R,R,R,trivial⟩ (by simp [aU,LV.refs,LV.bG,LV.cells,cZ,Env.args,Env.of,Env.put,Env.drop,ez,eG]) (a8 R))))))) (LH.block (LH.loop (fun n e m=>∃ (n3:Int) (l4:List aL) (l5:List Int) (m6:List (aL × Int)),AD p0 p1 p2 n n3 l4 l5 m6=some r∧e=Env.of [(0,.ak 12 (p0.map ax.lv)),(1,.fn dL c4),(2,.fn et dq),(8,.arr 117 l4.length),(9,.arr 120 l5.length),(10,.mp 121),(22,.ak 12 (p0.map ax.lv)),(23,.I (p0.length:Int)),(24,.I n3)]∧m=Mem.of [(117,.arr 61 3 (l4.map aL.lv)),(120,.arr 3 1 (l5.map LV.I)),(121,.map 61 3 (dR aL.lv LV.I m6))]) F ⟨0,v1,v2,([]:List (aL × Int)),h,R,R⟩ ?_)))))
  clear h
  rintro n e m ⟨n3,l4,l5,m6,h,rfl,rfl⟩
  rcases n with _ | n
  · cases (show Option.none=some _ from h)
  obtain ⟨aH,ba⟩:∃ f,f=AD p0 p1 p2 n:=⟨_,rfl⟩
  replace h:F6 p0 p1 p2 aH n3 l4 l5 m6=some r:=ba ▸ h
  unfold F6 at h
  refine LH.aj [(0,.ak 12 (p0.map ax.lv)),(1,.fn dL c4),(2,.fn et dq),(8,.arr 117 l4.length),(9,.arr 120 l5.length),(10,.mp 121),(22,.ak 12 (p0.map ax.lv)),(23,.I (p0.length:Int)),(24,.I n3),(25,.bool (decide (n3<(p0.length:Int))))] [(117,.arr 61 3 (l4.map aL.lv)),(120,.arr 3 1 (l5.map LV.I)),(121,.map 61 3 (dR aL.lv LV.I m6))] R (sN (fi R R (s0 (Wk.to (eQ ⟨R,R,R,R,R,R,R,R,R,R,trivial⟩) ⟨R,R,R,trivial⟩ (by simp [aU,LV.refs,LV.bG,LV.cells,cZ,Env.args,Env.of,Env.put,Env.drop,ez,eG]) (a8 R))))) (LH.seq (LH.cond (t:=(decide (n3<(p0.length:Int)))) R (fun ke=>?_) (fun ke=>?_)))
  ·replace h:=aB h ke
   refine LH.skip (av (LH.wk (Wk.to (el:=[(0,.ak 12 (p0.map ax.lv)),(1,.fn dL c4),(2,.fn et dq),(8,.arr 117 l4.length),(9,.arr 120 l5.length),(10,.mp 121),(22,.ak 12 (p0.map ax.lv)),(23,.I (p0.length:Int)),(24,.I n3)]) (ml:=[(117,.arr 61 3 (l4.map aL.lv)),(120,.arr 3 1 (l5.map LV.I)),(121,.map 61 3 (dR aL.lv LV.I m6))]) (eQ ⟨R,R,R,R,R,R,R,R,R,trivial⟩) ⟨R,R,R,trivial⟩ (by simp [aU,LV.refs,LV.bG,LV.cells,cZ,Env.args,Env.of,Env.put,Env.drop,ez,eG]) (a8 R)) (LH.seq (LH.block ?_))))
   obtain ⟨x8,ud,h⟩:=al h
   refine LH.aj [(0,.ak 12 (p0.map ax.lv)),(1,.fn dL c4),(2,.fn et dq),(8,.arr 117 l4.length),(9,.arr 120 l5.length),(10,.mp 121),(11,.I n3),(12,.ptr 112 0),(22,.ak 12 (p0.map ax.lv)),(23,.I (p0.length:Int)),(24,.I n3)] [(112,.box [.I x8.ar.Time,.I x8.ar.Source,.I x8.ar.Seq,.I x8.Kind,.I x8.Item.ID,.I x8.Item.Version,.str x8.Item.bD,.ak 6 (x8.Item.aI.map ao.lv),.L x8.Item.aD,.I x8.Ref.ID,.I x8.Ref.Version,.I x8.Form]),(117,.arr 61 3 (l4.map aL.lv)),(120,.arr 3 1 (l5.map LV.I)),(121,.map 61 3 (dR aL.lv LV.I m6))] R (bl R (sN (eW (f:=ax.lv) gn fx ew R R ax.ok ud R (sN (bh R fx me ew R R (sN (kS (id:=112) R y7 R R (bo R (s_ (cV R R R fx ew R R R (s0 (Wk.to (eQ ⟨R,R,R,R,R,R,R,R,R,R,R,trivial⟩) ⟨R,R,R,R,trivial⟩ (by simp [aU,LV.refs,LV.bG,LV.cells,cZ,Env.args,Env.of,Env.put,Env.drop,ez,eG]) (a8 R))))))))))))) ?_
   obtain ⟨r9,CK,h⟩:=al h
   obtain ⟨qR,ub,h⟩:=al h
   refine LH.aj [(0,.ak 12 (p0.map ax.lv)),(1,.fn dL c4),(2,.fn et dq),(8,.arr 117 (List.length (l4.set n3.toNat r9))),(9,.arr 120 l5.length),(10,.mp 121),(11,.I n3),(12,.ptr 112 0),(22,.ak 12 (p0.map ax.lv)),(23,.I (p0.length:Int)),(24,.I n3)] [(112,.box [.I x8.ar.Time,.I x8.ar.Source,.I x8.ar.Seq,.I x8.Kind,.I x8.Item.ID,.I x8.Item.Version,.str x8.Item.bD,.ak 6 (x8.Item.aI.map ao.lv),.L x8.Item.aD,.I x8.Ref.ID,.I x8.Ref.Version,.I x8.Form]),(117,.arr 61 3 (List.map aL.lv (l4.set n3.toNat r9))),(120,.arr 3 1 (l5.map LV.I)),(121,.map 61 3 (dR aL.lv LV.I m6))] R ?_ ?_
   ·refine j5 R (bl R (sN (oM (v:=(.fn _ _)) R (sN (uO R R R fx me ew R R (sN (dU (args:=[.agg [.I x8.ar.Time,.I x8.ar.Source,.I x8.ar.Seq,.I x8.Kind,.I x8.Item.ID,.I x8.Item.Version,.str x8.Item.bD,.ak 6 (x8.Item.aI.map ao.lv),.L x8.Item.aD,.I x8.Ref.ID,.I x8.Ref.Version,.I x8.Form]]++c4) (gk:=[.agg [.I x8.ar.Time,.I x8.ar.Source,.I x8.ar.Seq,.I x8.Kind,.I x8.Item.ID,.I x8.Item.Version,.str x8.Item.bD,.ak 6 (x8.Item.aI.map ao.lv),.L x8.Item.aD,.I x8.Ref.ID,.I x8.Ref.Version,.I x8.Form]]++c4) R Az R fu.rfl (AA _ _ CK) (FW R) ?_)))))))
    exact sN (gX (f:=aL.lv) eU b6 bW R R R ub (s_ (ri (f:=aL.lv) (z':=r9) R R R R b6 bW R (dC ub).2 R (s0 (Wk.to (eC R (eC R (eC R (eC (congrArg (LV.arr 117) (by simp)) (eC R (eC R (eC R (eC R (eC R (eC R (eC R eN))))))))))) ⟨R,R,R,R,trivial⟩ (by simp [aU,LV.refs,LV.bG,LV.cells,cZ,Env.args,Env.of,Env.put,Env.drop,ez,eG]) (a8 R))))))
   obtain ⟨bc,xq,h⟩:=al h
   refine LH.aj [(0,.ak 12 (p0.map ax.lv)),(1,.fn dL c4),(2,.fn et dq),(8,.arr 117 (List.length (l4.set n3.toNat r9))),(9,.arr 120 l5.length),(10,.mp 121),(11,.I n3),(12,.ptr 112 0),(13,.I ((gG m6 bc).getD 0)),(14,.bool ((gG m6 bc).isSome)),(22,.ak 12 (p0.map ax.lv)),(23,.I (p0.length:Int)),(24,.I n3)] [(112,.box [.I x8.ar.Time,.I x8.ar.Source,.I x8.ar.Seq,.I x8.Kind,.I x8.Item.ID,.I x8.Item.Version,.str x8.Item.bD,.ak 6 (x8.Item.aI.map ao.lv),.L x8.Item.aD,.I x8.Ref.ID,.I x8.Ref.Version,.I x8.Form]),(117,.arr 61 3 (List.map aL.lv (l4.set n3.toNat r9))),(120,.arr 3 1 (l5.map LV.I)),(121,.map 61 3 (dR aL.lv LV.I m6))] R (sN (oM (v:=(.mp _)) R (j5 R (bl R (sN (gX (f:=aL.lv) eU b6 bW R R R xq (sN (pE (f:=aL.lv) R R (dC xq).2 R R b6 fX bW R R (sX ((s9 (f:=aL.lv) (g:=LV.I) (xs:=m6) (key:=bc) (z:=0) JE Jc OR R R R Tr).ok) (yH R (sN (iO R R (sN (iO R R (bo R (cm R (s0 (Wk.to (eQ ⟨R,R,R,R,R,R,R,R,R,R,R,R,R,trivial⟩) ⟨R,R,R,R,trivial⟩ (by simp [aU,LV.refs,LV.bG,LV.cells,cZ,Env.args,Env.of,Env.put,Env.drop,ez,eG]) (a8 R))))))))))))))))))) (LH.aj [(0,.ak 12 (p0.map ax.lv)),(1,.fn dL c4),(2,.fn et dq),(8,.arr 117 (List.length (l4.set n3.toNat r9))),(9,.arr 120 l5.length),(10,.mp 121),(11,.I n3),(12,.ptr 112 0),(13,.I ((gG m6 bc).getD 0)),(22,.ak 12 (p0.map ax.lv)),(23,.I (p0.length:Int)),(24,.I n3),(45,.bool (!((gG m6 bc).isSome)))] [(112,.box [.I x8.ar.Time,.I x8.ar.Source,.I x8.ar.Seq,.I x8.Kind,.I x8.Item.ID,.I x8.Item.Version,.str x8.Item.bD,.ak 6 (x8.Item.aI.map ao.lv),.L x8.Item.aD,.I x8.Ref.ID,.I x8.Ref.Version,.I x8.Form]),(117,.arr 61 3 (List.map aL.lv (l4.set n3.toNat r9))),(120,.arr 3 1 (l5.map LV.I)),(121,.map 61 3 (dR aL.lv LV.I m6))] R (bI R (sN (kp R (s0 (Wk.to (eQ ⟨R,R,R,R,R,R,R,R,R,R,R,R,R,trivial⟩) ⟨R,R,R,R,trivial⟩ (by simp [aU,LV.refs,LV.bG,LV.cells,cZ,Env.args,Env.of,Env.put,Env.drop,ez,eG]) (a8 R)))))) (LH.cond (t:=(!((gG m6 bc).isSome))) R (fun gD=>?_) (fun gD=>?_)))
   ·replace h:=aB h gD
    obtain ⟨cT,lY,h⟩:=al h
    refine LH.aQ [(0,.ak 12 (p0.map ax.lv)),(1,.fn dL c4),(2,.fn et dq),(8,.arr 117 (List.length (l4.set n3.toNat r9))),(9,.arr 120 l5.length),(10,.mp 121),(22,.ak 12 (p0.map ax.lv)),(23,.I (p0.length:Int)),(24,.I n3)] [(117,.arr 61 3 (List.map aL.lv (l4.set n3.toNat r9))),(120,.arr 3 1 (l5.map LV.I)),(121,.map 61 3 (dR aL.lv LV.I (dS m6 cT n3)))] R (sN (oM (v:=(.mp _)) R (j5 R (bl R (sN (gX (f:=aL.lv) eU b6 bW R R R lY (sN (pE (f:=aL.lv) R R (dC lY).2 R R b6 fX bW R R (bl R (Ic ((iI (f:=aL.lv) (g:=LV.I) (xs:=m6) (key:=cT) (val:=n3) (.inl R) JE Jc OR (fun _=>R) R R R R).ok) (s0 (Wk.to (eQ ⟨R,R,R,R,R,R,R,R,R,trivial⟩) ⟨R,R,R,trivial⟩ (by simp [aU,LV.refs,LV.bG,LV.cells,cZ,Env.args,Env.of,Env.put,Env.drop,ez,eG]) (a8 R))))))))))))) (aY (av (LH.aQ [(0,.ak 12 (p0.map ax.lv)),(1,.fn dL c4),(2,.fn et dq),(8,.arr 117 (List.length (l4.set n3.toNat r9))),(9,.arr 120 l5.length),(10,.mp 121),(22,.ak 12 (p0.map ax.lv)),(23,.I (p0.length:Int)),(24,.I (i64 (n3+1)))] [(117,.arr 61 3 (List.map aL.lv (l4.set n3.toNat r9))),(120,.arr 3 1 (l5.map LV.I)),(121,.map 61 3 (dR aL.lv LV.I (dS m6 cT n3)))] R (sN (cr R R (bl R (s0 (Wk.to (eQ ⟨R,R,R,R,R,R,R,R,R,trivial⟩) ⟨R,R,R,trivial⟩ (by simp [aU,LV.refs,LV.bG,LV.cells,cZ,Env.args,Env.of,Env.put,Env.drop,ez,eG]) (a8 R)))))) ?_)))
    exact bg ⟨(i64 (n3+1)),(l4.set n3.toNat r9),l5,(dS m6 cT n3),ba ▸ h,R,R⟩ (Wk.to (eQ ⟨R,R,R,R,R,R,R,R,R,trivial⟩) ⟨R,R,R,trivial⟩ (by simp [aU,LV.refs,LV.bG,LV.cells,cZ,Env.args,Env.of,Env.put,Env.drop,ez,eG]) (a8 R))
   replace h:=aA h gD
   obtain ⟨nJ,Fk,h⟩:=al h
   obtain ⟨gi,vH,h⟩:=al h
   refine LH.c7 mixed [] [0,0,0,0,0,1112,0,0] [(0,.ak 12 (p0.map ax.lv)),(1,.fn dL c4),(2,.fn et dq),(8,.arr 117 (List.length (l4.set n3.toNat r9))),(9,.arr 120 l5.length),(10,.mp 121),(11,.I n3),(22,.ak 12 (p0.map ax.lv)),(23,.I (p0.length:Int)),(24,.I n3),(59,.bool (!gi))] [(117,.arr 61 3 (List.map aL.lv (l4.set n3.toNat r9))),(120,.arr 3 1 (l5.map LV.I)),(121,.map 61 3 (dR aL.lv LV.I m6))] R R (by kernel_rfl) ?_ ?_
   ·refine V5 R (pO R (eV R (aF (eW (f:=ax.lv) gn fx ew R R ax.ok Fk R ⟨R,aF (bh R fx me ew R R ⟨R,mD R R R (fun _ b _ d=>uO R b R fx me ew R R d) (aF (dU (args:=[.agg [.I nJ.ar.Time,.I nJ.ar.Source,.I nJ.ar.Seq,.I nJ.Kind,.I nJ.Item.ID,.I nJ.Item.Version,.str nJ.Item.bD,.ak 6 (nJ.Item.aI.map ao.lv),.L nJ.Item.aD,.I nJ.Ref.ID,.I nJ.Ref.Version,.I nJ.Form],.agg [.I x8.ar.Time,.I x8.ar.Source,.I x8.ar.Seq,.I x8.Kind,.I x8.Item.ID,.I x8.Item.Version,.str x8.Item.bD,.ak 6 (x8.Item.aI.map ao.lv),.L x8.Item.aD,.I x8.Ref.ID,.I x8.Ref.Version,.I x8.Form]]++dq) (gk:=[.agg [.I nJ.ar.Time,.I nJ.ar.Source,.I nJ.ar.Seq,.I nJ.Kind,.I nJ.Item.ID,.I nJ.Item.Version,.str nJ.Item.bD,.ak 6 (nJ.Item.aI.map ao.lv),.L nJ.Item.aD,.I nJ.Ref.ID,.I nJ.Ref.Version,.I nJ.Form],.agg [.I x8.ar.Time,.I x8.ar.Source,.I x8.ar.Seq,.I x8.Kind,.I x8.Item.ID,.I x8.Item.Version,.str x8.Item.bD,.ak 6 (x8.Item.aI.map ao.lv),.L x8.Item.aD,.I x8.Ref.ID,.I x8.Ref.Version,.I x8.Form]]++dq) R CW R fu.rfl (CX _ _ _ vH) (FX R) ⟨R,?_⟩))⟩)⟩))))
    exact aF (kp R ⟨R,m0 (Wk.to (eQ ⟨R,R,R,R,R,R,R,R,R,R,R,trivial⟩) ⟨R,R,R,trivial⟩ (by simp [aU,LV.refs,LV.bG,LV.cells,cZ,Env.args,Env.of,Env.put,Env.drop,ez,eG]) (a8 R))⟩)
   refine LH.cond (t:=(!gi)) R (fun gE=>?_) (fun gE=>?_)
   ·replace h:=aB h gE
    obtain ⟨nK,uc,h⟩:=al h
    refine LH.aQ [(0,.ak 12 (p0.map ax.lv)),(1,.fn dL c4),(2,.fn et dq),(8,.arr 117 (List.length (l4.set n3.toNat r9))),(9,.arr 120 (List.length (l5.set n3.toNat 1))),(10,.mp 121),(22,.ak 12 (p0.map ax.lv)),(23,.I (p0.length:Int)),(24,.I n3)] [(117,.arr 61 3 (List.map aL.lv (l4.set n3.toNat r9))),(120,.arr 3 1 (List.map LV.I (l5.set n3.toNat 1))),(121,.map 61 3 (dR aL.lv LV.I m6))] R (j5 R (bl R (sN (gX (f:=LV.I) cz aE bb R R R uc (s_ (ri (f:=LV.I) (z':=1) R R R R aE bb R (dC uc).2 R (s0 (Wk.to (eC R (eC R (eC R (eC R (eC (congrArg (LV.arr 120) (by simp)) (eC R (eC R (eC R (eC R eN))))))))) ⟨R,R,R,trivial⟩ (by simp [aU,LV.refs,LV.bG,LV.cells,cZ,Env.args,Env.of,Env.put,Env.drop,ez,eG]) (a8 R))))))))) (aY (av (LH.aQ [(0,.ak 12 (p0.map ax.lv)),(1,.fn dL c4),(2,.fn et dq),(8,.arr 117 (List.length (l4.set n3.toNat r9))),(9,.arr 120 (List.length (l5.set n3.toNat 1))),(10,.mp 121),(22,.ak 12 (p0.map ax.lv)),(23,.I (p0.length:Int)),(24,.I (i64 (n3+1)))] [(117,.arr 61 3 (List.map aL.lv (l4.set n3.toNat r9))),(120,.arr 3 1 (List.map LV.I (l5.set n3.toNat 1))),(121,.map 61 3 (dR aL.lv LV.I m6))] R (sN (cr R R (bl R (s0 (Wk.to (eQ ⟨R,R,R,R,R,R,R,R,R,trivial⟩) ⟨R,R,R,trivial⟩ (by simp [aU,LV.refs,LV.bG,LV.cells,cZ,Env.args,Env.of,Env.put,Env.drop,ez,eG]) (a8 R)))))) ?_)))
    exact bg ⟨(i64 (n3+1)),(l4.set n3.toNat r9),(l5.set n3.toNat 1),m6,ba ▸ h,R,R⟩ (Wk.to (eQ ⟨R,R,R,R,R,R,R,R,R,trivial⟩) ⟨R,R,R,trivial⟩ (by simp [aU,LV.refs,LV.bG,LV.cells,cZ,Env.args,Env.of,Env.put,Env.drop,ez,eG]) (a8 R))
   replace h:=aA h gE
   refine LH.skip (aY (av (LH.aQ [(0,.ak 12 (p0.map ax.lv)),(1,.fn dL c4),(2,.fn et dq),(8,.arr 117 (List.length (l4.set n3.toNat r9))),(9,.arr 120 l5.length),(10,.mp 121),(22,.ak 12 (p0.map ax.lv)),(23,.I (p0.length:Int)),(24,.I (i64 (n3+1)))] [(117,.arr 61 3 (List.map aL.lv (l4.set n3.toNat r9))),(120,.arr 3 1 (l5.map LV.I)),(121,.map 61 3 (dR aL.lv LV.I m6))] R (sN (cr R R (bl R (s0 (Wk.to (eQ ⟨R,R,R,R,R,R,R,R,R,trivial⟩) ⟨R,R,R,trivial⟩ (by simp [aU,LV.refs,LV.bG,LV.cells,cZ,Env.args,Env.of,Env.put,Env.drop,ez,eG]) (a8 R)))))) ?_)))
   exact bg ⟨(i64 (n3+1)),(l4.set n3.toNat r9),l5,m6,ba ▸ h,R,R⟩ (Wk.to (eQ ⟨R,R,R,R,R,R,R,R,R,trivial⟩) ⟨R,R,R,trivial⟩ (by simp [aU,LV.refs,LV.bG,LV.cells,cZ,Env.args,Env.of,Env.put,Env.drop,ez,eG]) (a8 R))
  replace h:=aA h ke
  refine LH.exit (cv (bY (bM (av (LH.wk ((Wk.trans (Wk.to (el:=[(8,.arr 117 l4.length),(9,.arr 120 l5.length)]) (ml:=[(117,.arr 61 3 (l4.map aL.lv)),(120,.arr 3 1 (l5.map LV.I))]) (eQ ⟨R,R,trivial⟩) ⟨R,R,trivial⟩ (by simp [aU,LV.refs,LV.bG,LV.cells,cZ,Env.args,Env.of,Env.put,Env.drop,ez,eG]) (a8 R)) (Wk.trans (Wk.kL (f:=aL.lv) (fk:=[(8,.ak 3 (l4.map aL.lv)),(9,.arr 120 l5.length)]) 117 61 3 l4 R R (bO R) (fZ (fK R fN))) (Wk.trans (Wk.kL (f:=LV.I) (fk:=[(8,.ak 3 (l4.map aL.lv)),(9,.L l5)]) 120 3 1 l5 R R (bO R) (fK R (fZ fN))) (Wk.to (el:=[(8,.ak 3 (l4.map aL.lv)),(9,.L l5)]) (ml:=[]) (eQ ⟨R,R,trivial⟩) mN (by simp [aU,LV.refs,LV.bG,LV.cells,cZ,Env.args,Env.of,Env.put,Env.drop,ez,eG]) (a8 R)))))) (LH.aj [(6,.ak 3 (l4.map aL.lv)),(7,.L l5)] [] R (eZ R (eZ R (qb R (qb R (s0 (Wk.to (eQ ⟨R,R,trivial⟩) mN (by simp [aU,LV.refs,LV.bG,LV.cells,cZ,Env.args,Env.of,Env.put,Env.drop,ez,eG]) (a8 R))))))) (LH.ret ?_)))))))
  obtain rfl:=oI h
  exact aS (aT Tryz.results72) (bR R (bR R (bP ⟨aR mN,R,a8 R,(Sub.de (aK (aK bt)))⟩)))
theorem PG {p0:aL} {r:Bool} (h:BZ p0=some r):aP Tryz.prog 103 [.agg [.I p0.Time,.I p0.Source,.I p0.Seq]] (Mem.of []) (.bool r) (Mem.of []):=by
  unfold BZ at h
  refine bu Tryz.func103 R (nT Tryz.ntmps103 R) (LH.wk (aX [(0,.agg [.I p0.Time,.I p0.Source,.I p0.Seq])] []) (LH.aj [(1,.ag [.I p0.Time,.I p0.Source,.I p0.Seq])] [] R (sB (dp R R R R (cm R zS))) (LH.aj [(2,.bool ((decide (p0.Time ≥ 0)) && ((decide (p0.Time≤1000000)) && ((decide (p0.Source ≥ 0)) && ((decide (p0.Source≤99)) && ((decide (p0.Seq ≥ 0)) && (decide (p0.Seq≤9999))))))))] [] R ?_ ?_)))
  ·refine sN (aw e7 aE bb R R R (sN (bf R aE bN (sN (pD R R (bI R ?_))))))
   by_cases cL:(decide (p0.Time ≥ 0))=true
   ·refine sT R (cB cL) (aw e7 aE bb R R R (sT R (cB cL) (bf R aE bN (sT R (cB cL) (FJ R R (sN (aW (cB cL) (v:=(.bool _)) R (bI R ?_))))))))
    by_cases bZ:(decide (p0.Time≤1000000))=true
    ·refine sT R (cB bZ) (aw ek aE bb R R R (sT R (cB bZ) (bf R aE bN (sT R (cB bZ) (pD R R (sN (aW (cB bZ) (v:=(.bool _)) R (bI R ?_))))))))
     by_cases bJ:(decide (p0.Source ≥ 0))=true
     ·refine sT R (cB bJ) (aw ek aE bb R R R (sT R (cB bJ) (bf R aE bN (sT R (cB bJ) (FJ R R (sN (aW (cB bJ) (v:=(.bool _)) R (bI R ?_))))))))
      by_cases bK:(decide (p0.Source≤99))=true
      ·refine sT R (cB bK) (aw dz aE bb R R R (sT R (cB bK) (bf R aE bN (sT R (cB bK) (pD R R (sN (aW (cB bK) (v:=(.bool _)) R (bI R ?_))))))))
       by_cases b3:(decide (p0.Seq ≥ 0))=true
       ·exact sT R (cB b3) (aw dz aE bb R R R (sT R (cB b3) (bf R aE bN (sT R (cB b3) (FJ R R (sN (aW (cB b3) (v:=(.bool _)) R (cm R (s0 (Wk.to (eC (cB (Eq.trans (Eq.trans (Eq.trans (Eq.trans (dv b3) (dv bK)) (dv bJ)) (dv bZ)) (dv cL))) eN) mN R (a8 R)))))))))))
       ·replace b3:=bF b3
        exact sF R R b3 (sF R R b3 (sF R R b3 (sN (aV (cB b3) (v:=(.bool _)) R (cm R (s0 (Wk.to (eC (cB (Eq.trans (Eq.trans (Eq.trans (Eq.trans (jA b3) (dv bK)) (dv bJ)) (dv bZ)) (dv cL))) eN) mN R (a8 R))))))))
      ·replace bK:=bF bK
       exact sF R R bK (sF R R bK (sF R R bK (sN (aV (cB bK) (v:=(.bool _)) R (bI R (sF R R R (sF R R R (sF R R R (sN (aV R (v:=(.bool _)) R (cm R (s0 (Wk.to (eC (cB (Eq.trans (Eq.trans (Eq.trans (jA bK) (dv bJ)) (dv bZ)) (dv cL))) eN) mN R (a8 R))))))))))))))
     ·replace bJ:=bF bJ
      exact sF R R bJ (sF R R bJ (sF R R bJ (sN (aV (cB bJ) (v:=(.bool _)) R (bI R (sF R R R (sF R R R (sF R R R (sN (aV R (v:=(.bool _)) R (bI R (sF R R R (sF R R R (sF R R R (sN (aV R (v:=(.bool _)) R (cm R (s0 (Wk.to (eC (cB (Eq.trans (Eq.trans (jA bJ) (dv bZ)) (dv cL))) eN) mN R (a8 R))))))))))))))))))))
    ·replace bZ:=bF bZ
     exact sF R R bZ (sF R R bZ (sF R R bZ (sN (aV (cB bZ) (v:=(.bool _)) R (bI R (sF R R R (sF R R R (sF R R R (sN (aV R (v:=(.bool _)) R (bI R (sF R R R (sF R R R (sF R R R (sN (aV R (v:=(.bool _)) R (bI R (sF R R R (sF R R R (sF R R R (sN (aV R (v:=(.bool _)) R (cm R (s0 (Wk.to (eC (cB (Eq.trans (jA bZ) (dv cL))) eN) mN R (a8 R))))))))))))))))))))))))))
   ·replace cL:=bF cL
    exact sF R R cL (sF R R cL (sF R R cL (sN (aV (cB cL) (v:=(.bool _)) R (bI R (sF R R R (sF R R R (sF R R R (sN (aV R (v:=(.bool _)) R (bI R (sF R R R (sF R R R (sF R R R (sN (aV R (v:=(.bool _)) R (bI R (sF R R R (sF R R R (sF R R R (sN (aV R (v:=(.bool _)) R (bI R (sF R R R (sF R R R (sF R R R (sN (aV R (v:=(.bool _)) R (cm R (s0 (Wk.to (eC (cB (jA cL)) eN) mN R (a8 R))))))))))))))))))))))))))))))))
  refine LH.ret ?_
  obtain rfl:=oI h
  exact aS (aT Tryz.results103) (bR R (bP ⟨aR mN,R,a8 R,Sub.rfl⟩))
theorem kX {p0:Int} {r:Bool} (h:cmp_isNaN_int p0=some r):aP Tryz.prog 109 [.I p0] (Mem.of []) (.bool r) (Mem.of []):=by
  unfold cmp_isNaN_int at h
  refine bu Tryz.func109 R (nT Tryz.ntmps109 R) (LH.wk (aX [(0,.I p0)] []) (LH.aj [(0,.I p0)] [] R (cm R zS) (LH.aj [(2,.bool (p0 != p0))] [] R (bl R (bl R (sN (kg R R (cm R zS))))) (LH.ret ?_))))
  obtain rfl:=oI h
  exact aS (aT Tryz.results109) (bR R (bP ⟨aR mN,R,a8 R,Sub.rfl⟩))
theorem c9 {p0:Int} {p1:Int} {r:Int} (h:cE p0 p1=some r):aP Tryz.prog 97 [.I p0,.I p1] (Mem.of []) (.I r) (Mem.of []):=by
  unfold cE at h
  refine bu Tryz.func97 R (nT Tryz.ntmps97 R) (LH.wk (aX [(0,.I p0),(1,.I p1)] []) (LH.aj [(0,.I p0),(1,.I p1)] [] R (bo R zS) ?_))
  obtain ⟨r1,ec,h⟩:=al h
  refine LH.aj [(0,.I p0),(1,.I p1),(5,.bool r1)] [] R (bl R (sN (dU (args:=[.I p0]) R Fs R (aK bt) (kX ec) R (cm R zS)))) ?_
  obtain ⟨r2,fz,h⟩:=al h
  refine LH.aj [(0,.I p0),(1,.I p1),(5,.bool r1),(6,.bool r2)] [] R (bl R (sN (dU (args:=[.I p1]) R Fs R (aK bt) (kX fz) R (cm R zS)))) (LH.seq (LH.aj [(0,.I p0),(1,.I p1),(6,.bool r2),(11,.bool r1)] [] R (bI R zS) (LH.cond (t:=r1) R (fun iC=>?_) (fun iC=>?_))))
  ·replace h:=aB h iC
   refine LH.seq (LH.aj [(12,.bool r2)] [] R (bI R zS) (LH.cond (t:=r2) R (fun jW=>?_) (fun jW=>?_)))
   ·replace h:=aB h jW
    refine LH.aj [(4,.I 0)] [] R (bo R zS) (LH.ret (aZ (aZ ?_)))
    obtain rfl:=oI h
    exact aS (aT Tryz.results97) (bR R (bP ⟨aR mN,R,a8 R,Sub.rfl⟩))
   replace h:=aA h jW
   refine LH.skip (av (LH.aj [(4,.I (-1))] [] R (bo R zS) (LH.ret (aZ ?_))))
   obtain rfl:=oI h
   exact aS (aT Tryz.results97) (bR R (bP ⟨aR mN,R,a8 R,Sub.rfl⟩))
  replace h:=aA h iC
  refine LH.skip (av (LH.wk (aX [(0,.I p0),(1,.I p1),(6,.bool r2)] []) (LH.seq (LH.aj [(0,.I p0),(1,.I p1),(13,.bool r2)] [] R (bI R zS) (LH.cond (t:=r2) R (fun ky=>?_) (fun ky=>?_))))))
  ·replace h:=aB h ky
   refine LH.aj [(4,.I 1)] [] R (bo R zS) (LH.ret (aZ ?_))
   obtain rfl:=oI h
   exact aS (aT Tryz.results97) (bR R (bP ⟨aR mN,R,a8 R,Sub.rfl⟩))
  replace h:=aA h ky
  refine LH.skip (av (LH.wk (aX [(0,.I p0),(1,.I p1)] []) (LH.seq (LH.aj [(0,.I p0),(1,.I p1),(16,.bool (decide (p0<p1)))] [] R (bl R (bl R (sN (fi R R zS)))) (LH.cond (t:=(decide (p0<p1))) R (fun gb=>?_) (fun gb=>?_))))))
  ·replace h:=aB h gb
   refine LH.aj [(4,.I (-1))] [] R (bo R zS) (LH.ret (aZ ?_))
   obtain rfl:=oI h
   exact aS (aT Tryz.results97) (bR R (bP ⟨aR mN,R,a8 R,Sub.rfl⟩))
  replace h:=aA h gb
  refine LH.skip (av (LH.wk (aX [(0,.I p0),(1,.I p1)] []) (LH.seq (LH.aj [(19,.bool (decide (p0 > p1)))] [] R (bl R (bl R (sN (iw R R zS)))) (LH.cond (t:=(decide (p0 > p1))) R (fun ke=>?_) (fun ke=>?_))))))
  ·replace h:=aB h ke
   refine LH.aj [(4,.I 1)] [] R (bo R zS) (LH.ret (aZ ?_))
   obtain rfl:=oI h
   exact aS (aT Tryz.results97) (bR R (bP ⟨aR mN,R,a8 R,Sub.rfl⟩))
  replace h:=aA h ke
  refine LH.skip (av (LH.aj [(4,.I 0)] [] R (bo R zS) (LH.ret ?_)))
  obtain rfl:=oI h
  exact aS (aT Tryz.results97) (bR R (bP ⟨aR mN,R,a8 R,Sub.rfl⟩))
theorem kJ {F:Nat} {p0:List Int} {r:Int} (h:gC F p0=some r):aP Tryz.prog 105 [.L p0] (Mem.of []) (.I r) (Mem.of []):=by
  unfold gC at h
  refine bu Tryz.func105 R (nT Tryz.ntmps105 R) (LH.wk (aX [(0,.L p0)] []) (LH.aj [(0,.L p0)] [] R (bo R zS) (LH.aj [(0,.L p0),(3,.I 0)] [] R (bo R zS) (LH.seq (LH.aj [(3,.I 0),(6,.L p0),(7,.I (p0.length:Int)),(8,.I 0)] [] R (eZ R (sN (bX (f:=LV.I) cz R (bl R zS)))) (LH.block (LH.loop (fun n e m=>∃ (n1:Int),eK p0 n n1=some r∧e=Env.of [(3,.I 0),(6,.L p0),(7,.I (p0.length:Int)),(8,.I n1)]∧m=Mem.of []) F ⟨0,h,R,R⟩ ?_)))))))
  clear h
  rintro n e m ⟨n1,h,rfl,rfl⟩
  rcases n with _ | n
  · cases (show Option.none=some _ from h)
  obtain ⟨aH,ba⟩:∃ f,f=eK p0 n:=⟨_,rfl⟩
  replace h:fw p0 aH n1=some r:=ba ▸ h
  unfold fw at h
  refine LH.aj [(3,.I 0),(6,.L p0),(7,.I (p0.length:Int)),(8,.I n1),(9,.bool (decide (n1<(p0.length:Int))))] [] R (sN (fi R R zS)) (LH.seq (LH.cond (t:=(decide (n1<(p0.length:Int)))) R (fun fJ=>?_) (fun fJ=>?_)))
  ·replace h:=aB h fJ
   refine LH.skip (av (LH.wk (aX [(3,.I 0),(6,.L p0),(7,.I (p0.length:Int)),(8,.I n1)] []) (LH.seq (LH.block ?_))))
   obtain ⟨x3,fR,h⟩:=al h
   refine LH.aj [(3,.I 0),(5,.I x3),(6,.L p0),(7,.I (p0.length:Int)),(8,.I n1)] [] R (sN (eW (f:=LV.I) cz aE bb R R lO fR R (sN (bf R aE bN (bo R zS))))) (LH.aj [(3,.I 0),(5,.I x3),(6,.L p0),(7,.I (p0.length:Int)),(8,.I n1),(14,.bool (x3 != 0))] [] R (bl R (bl R (sN (kg R R zS)))) (LH.cond (t:=(x3 != 0)) R (fun jW=>?_) (fun jW=>?_)))
   ·replace h:=aB h jW
    refine LH.aj [(2,.I x3)] [] R (bl R (bo R zS)) (LH.ret (bL (aZ (dY (bL (aZ ?_))))))
    obtain rfl:=oI h
    exact aS (aT Tryz.results105) (bR R (bP ⟨aR mN,R,a8 R,Sub.rfl⟩))
   replace h:=aA h jW
   refine LH.skip (aY (av (LH.aQ [(3,.I 0),(6,.L p0),(7,.I (p0.length:Int)),(8,.I (i64 (n1+1)))] [] R (sN (cr R R (bl R zS))) ?_)))
   exact bg ⟨(i64 (n1+1)),ba ▸ h,R,R⟩ (Wk.eq R R R R)
  replace h:=aA h fJ
  refine LH.exit (cv (bY (bM (av (LH.aj [(2,.I 0)] [] R (bl R (bo R zS)) (LH.ret ?_))))))
  obtain rfl:=oI h
  exact aS (aT Tryz.results105) (bR R (bP ⟨aR mN,R,a8 R,Sub.rfl⟩))
theorem Jl {F:Nat} {p0:aL} {p1:aL} {r:Int} (h:C6 F p0 p1=some r):aP Tryz.prog 106 [.agg [.I p0.Time,.I p0.Source,.I p0.Seq],.agg [.I p1.Time,.I p1.Source,.I p1.Seq]] (Mem.of []) (.I r) (Mem.of []):=by
  unfold C6 at h
  refine bu Tryz.func106 R (nT Tryz.ntmps106 R) (LH.wk (aX [(0,.agg [.I p0.Time,.I p0.Source,.I p0.Seq]),(1,.agg [.I p1.Time,.I p1.Source,.I p1.Seq])] []) (LH.aj [(2,.ag [.I p0.Time,.I p0.Source,.I p0.Seq]),(3,.ag [.I p1.Time,.I p1.Source,.I p1.Seq])] [] R (sB (dp R R R R (sB (dp R R R R (bo R zS))))) ?_))
  obtain ⟨r1,ec,h⟩:=al h
  obtain ⟨r2,fz,h⟩:=al h
  obtain ⟨r3,nf,h⟩:=al h
  refine LH.c7 mixed [] [0,0,0,0,0,0,0,0,0,0,0,0,0] [(4,.I r3)] [] R R (by kernel_rfl) (aF (aw ek aE bb R R R ⟨R,aF (bf R aE bN ⟨R,aF (aw ek aE bb R R R ⟨R,aF (bf R aE bN ⟨R,aF (dU (args:=[.I p0.Source,.I p1.Source]) R sP R (aK (aK bt)) (c9 ec) R ⟨R,aF (aw dz aE bb R R R ⟨R,aF (bf R aE bN ⟨R,aF (aw dz aE bb R R R ⟨R,aF (bf R aE bN ⟨R,aF (dU (args:=[.I p0.Seq,.I p1.Seq]) R sP R (aK (aK bt)) (c9 fz) R ⟨R,aF (jI (f:=LV.I) (ys:=[r1,r2]) cz qN bb R R R lO ⟨R,aF (dU (args:=[.L [r1,r2]]) R Aq R (aK bt) (kJ nf) R ⟨R,Mk R zM⟩)⟩)⟩)⟩)⟩)⟩)⟩)⟩)⟩)⟩)⟩)⟩)) (LH.ret ?_)
  obtain rfl:=oI h
  exact aS (aT Tryz.results106) (bR R (bP ⟨aR mN,R,a8 R,Sub.rfl⟩))
theorem Pr {F:Nat} {p0:Int} {p1:Int} {c0:List aL} {r:Int} (h:Dp F p0 p1 c0=some r):aP Tryz.prog 104 [.I p0,.I p1,.ag [.ak 3 (c0.map aL.lv)]] (Mem.of []) (.I r) (Mem.of []):=by
  unfold Dp at h
  refine bu Tryz.func104 R (nT Tryz.ntmps104 R) (LH.wk (aX [(0,.I p0),(1,.I p1),(2,.ag [.ak 3 (c0.map aL.lv)])] []) (LH.aj [(0,.I p0),(1,.I p1),(2,.ag [.ak 3 (c0.map aL.lv)])] [] R (bo R zS) ?_))
  obtain ⟨x1,Mh,h⟩:=al h
  obtain ⟨x2,K0,h⟩:=al h
  obtain ⟨r3,nf,h⟩:=al h
  obtain ⟨r4,CI,h⟩:=al h
  obtain ⟨r5,CJ,h⟩:=al h
  refine LH.c7 mixed [] [0,0,0,0,0,0,0,0,0,0,0,0,0,0,0] [(5,.I r5)] [] R R (by kernel_rfl) ?_ ?_
  ·exact aF (bf R mR mG ⟨R,eV R (aF (eW (f:=aL.lv) eU b6 bW R R aL.ok Mh R ⟨R,aF (bh R b6 fX bW R R ⟨R,aF (bf R mR mG ⟨R,eV R (aF (eW (f:=aL.lv) eU b6 bW R R aL.ok K0 R ⟨R,aF (bh R b6 fX bW R R ⟨R,aF (dU (args:=[.agg [.I x1.Time,.I x1.Source,.I x1.Seq],.agg [.I x2.Time,.I x2.Source,.I x2.Seq]]) R Fq R (aK (aK bt)) (Jl nf) R ⟨R,eV R (eV R (aF (dU (args:=[.I p0,.I p1]) R sP R (aK (aK bt)) (c9 CI) R ⟨R,aF (jI (f:=LV.I) (ys:=[r3,r4]) cz qN bb R R R lO ⟨R,aF (dU (args:=[.L [r3,r4]]) R Aq R (aK bt) (kJ CJ) R ⟨R,Mk R zM⟩)⟩)⟩)))⟩)⟩)⟩))⟩)⟩)⟩))⟩)
  refine LH.ret ?_
  obtain rfl:=oI h
  exact aS (aT Tryz.results104) (bR R (bP ⟨aR mN,R,a8 R,Sub.rfl⟩))
theorem PC {F:Nat} {p0:List aL} {p1:List Int} {r:List ed} (h:BY F p0 p1=some r):aP Tryz.prog 85 [.ak 3 (p0.map aL.lv),.L p1] (Mem.of []) (.ak 2 (r.map ed.lv)) (Mem.of []):=by
  unfold BY at h
  refine bu Tryz.func85 R (nT Tryz.ntmps85 R) (LH.wk (aX [(0,.ak 3 (p0.map aL.lv)),(1,.L p1)] []) (LH.aj [(1,.L p1),(2,.ag [.ak 3 (p0.map aL.lv)])] [] R (sB (dp R R R R (kh R zS))) (LH.aj [(1,.L p1),(2,.ag [.ak 3 (p0.map aL.lv)]),(5,.nil)] [] R (kh R zS) (LH.seq (LH.aj [(1,.L p1),(2,.ag [.ak 3 (p0.map aL.lv)]),(5,.nil),(13,.ak 3 (p0.map aL.lv)),(14,.I (p0.length:Int)),(15,.I 0)] [] R (sN (bf R mR mG (sN (bX (f:=aL.lv) eU R (bl R zS))))) (LH.block (LH.wk ((Wk.trans (aX [(1,.L p1),(2,.ag [.ak 3 (p0.map aL.lv)]),(5,.nil),(13,.ak 3 (p0.map aL.lv)),(14,.I (p0.length:Int)),(15,.I 0)] []) (Wk.trans (aX [(1,.L p1),(2,.ag [.ak 3 (p0.map aL.lv)]),(5,.nil),(13,.ak 3 (p0.map aL.lv)),(14,.I (p0.length:Int)),(15,.I 0)] []) (Wk.trans (Wk.rl (fk:=[(1,.L p1),(2,.ag [.ak 3 (p0.map aL.lv)]),(5,.arr 125 (List.length ([]:List Int))),(13,.ak 3 (p0.map aL.lv)),(14,.I (p0.length:Int)),(15,.I 0)]) 125 3 1 R R (wK (wK (wO (wK (wK (wK wN))))))) (aX [(1,.L p1),(2,.ag [.ak 3 (p0.map aL.lv)]),(5,.arr 125 (List.length ([]:List Int))),(13,.ak 3 (p0.map aL.lv)),(14,.I (p0.length:Int)),(15,.I 0)] [(125,.arr 3 1 (List.map LV.I ([]:List Int)))]))))) (LH.loop (fun n e m=>∃ (n1:Int) (l2:List Int),Dj F p0 p1 n n1 l2=some r∧e=Env.of [(1,.L p1),(2,.ag [.ak 3 (p0.map aL.lv)]),(5,.arr 125 l2.length),(13,.ak 3 (p0.map aL.lv)),(14,.I (p0.length:Int)),(15,.I n1)]∧m=Mem.of [(125,.arr 3 1 (l2.map LV.I))]) F ⟨0,([]:List Int),h,R,R⟩ ?_))))))))
  clear h
  rintro n e m ⟨n1,l2,h,rfl,rfl⟩
  rcases n with _ | n
  · cases (show Option.none=some _ from h)
  obtain ⟨aH,ba⟩:∃ f,f=Dj F p0 p1 n:=⟨_,rfl⟩
  replace h:Gw F p0 p1 aH n1 l2=some r:=ba ▸ h
  unfold Gw at h
  refine LH.aj [(1,.L p1),(2,.ag [.ak 3 (p0.map aL.lv)]),(5,.arr 125 l2.length),(13,.ak 3 (p0.map aL.lv)),(14,.I (p0.length:Int)),(15,.I n1),(16,.bool (decide (n1<(p0.length:Int))))] [(125,.arr 3 1 (l2.map LV.I))] R (sN (fi R R zS)) (LH.seq (LH.cond (t:=(decide (n1<(p0.length:Int)))) R (fun iC=>?_) (fun iC=>?_)))
  ·replace h:=aB h iC
   refine LH.skip (av (LH.wk (aX [(1,.L p1),(2,.ag [.ak 3 (p0.map aL.lv)]),(5,.arr 125 l2.length),(13,.ak 3 (p0.map aL.lv)),(14,.I (p0.length:Int)),(15,.I n1)] [(125,.arr 3 1 (l2.map LV.I))]) (LH.seq (LH.block ?_))))
   obtain ⟨x4,CM,h⟩:=al h
   refine LH.aj [(1,.L p1),(2,.ag [.ak 3 (p0.map aL.lv)]),(5,.arr 125 l2.length),(6,.I n1),(7,.ag [.I x4.Time,.I x4.Source,.I x4.Seq]),(13,.ak 3 (p0.map aL.lv)),(14,.I (p0.length:Int)),(15,.I n1)] [(125,.arr 3 1 (l2.map LV.I))] R (bl R (sN (eW (f:=aL.lv) eU b6 bW R R aL.ok CM R (sN (bh R b6 fX bW R R (sN (kS (id:=107) R uo R R (bo R (s_ (cV R R R b6 bW R R R (s0 ((Wk.trans (aX [(1,.L p1),(2,.ag [.ak 3 (p0.map aL.lv)]),(5,.arr 125 l2.length),(6,.I n1),(7,.ptr 107 0),(13,.ak 3 (p0.map aL.lv)),(14,.I (p0.length:Int)),(15,.I n1)] [(107,.box [.I x4.Time,.I x4.Source,.I x4.Seq]),(125,.arr 3 1 (l2.map LV.I))]) (Wk.trans (Wk.bk 107 [.I x4.Time,.I x4.Source,.I x4.Seq] R R R (bO R)) (Wk.eq R R R R))))))))))))))) ?_
   obtain ⟨r5,CJ,h⟩:=al h
   refine LH.aj [(1,.L p1),(2,.ag [.ak 3 (p0.map aL.lv)]),(5,.arr 125 l2.length),(6,.I n1),(13,.ak 3 (p0.map aL.lv)),(14,.I (p0.length:Int)),(15,.I n1),(21,.bool r5)] [(125,.arr 3 1 (l2.map LV.I))] R (sN (bh R b6 fX bW R R (sN (dU (args:=[.agg [.I x4.Time,.I x4.Source,.I x4.Seq]]) R Ld R (aK bt) (PG CJ) R zS)))) (LH.cond (t:=r5) R (fun gb=>?_) (fun gb=>?_))
   ·replace h:=aB h gb
    obtain ⟨v7,VM,h⟩:=al h
    refine LH.aQ [(1,.L p1),(2,.ag [.ak 3 (p0.map aL.lv)]),(5,.arr 125 v7.length),(13,.ak 3 (p0.map aL.lv)),(14,.I (p0.length:Int)),(15,.I n1)] [(125,.arr 3 1 (v7.map LV.I))] R (j5 R (bl R (sN (jI (f:=LV.I) (ys:=[n1]) cz qN bb R R R lO (sN (my (f:=LV.I) cz qN bb R R (bO R) R VM (nE R zS))))))) (aY (av (LH.aQ [(1,.L p1),(2,.ag [.ak 3 (p0.map aL.lv)]),(5,.arr 125 v7.length),(13,.ak 3 (p0.map aL.lv)),(14,.I (p0.length:Int)),(15,.I (i64 (n1+1)))] [(125,.arr 3 1 (v7.map LV.I))] R (sN (cr R R (bl R zS))) ?_)))
    exact bg ⟨(i64 (n1+1)),v7,ba ▸ h,R,R⟩ (Wk.eq R R R R)
   replace h:=aA h gb
   refine LH.skip (aY (av (LH.aQ [(1,.L p1),(2,.ag [.ak 3 (p0.map aL.lv)]),(5,.arr 125 l2.length),(13,.ak 3 (p0.map aL.lv)),(14,.I (p0.length:Int)),(15,.I (i64 (n1+1)))] [(125,.arr 3 1 (l2.map LV.I))] R (sN (cr R R (bl R zS))) ?_)))
   exact bg ⟨(i64 (n1+1)),l2,ba ▸ h,R,R⟩ (Wk.eq R R R R)
  replace h:=aA h iC
  refine LH.exit (cv (bY (bM (av ?_))))
  obtain ⟨l8,T4,h⟩:=al h
  refine LH.aj [(1,.L p1),(2,.ag [.ak 3 (p0.map aL.lv)]),(5,.L l8)] [] R (j5 R (sN (O4 (vs:=[.ag [.ak 3 (p0.map aL.lv)]]) R (sN (fa (args:=[.arr 125 l2.length,.fn 104 [.ag [.ak 3 (p0.map aL.lv)]]]) (ml:=[(125,.arr 3 1 (l2.map LV.I))]) (dg:=[(125,.arr 3 1 (l8.map LV.I))]) R Ja R (aK (aK bt)) (yP Tryz.JA R Lf R (fun _ _ _ h=>Pr h) 125 3 T4) (mC R mN) (b8 R cw) R (s0 ((Wk.trans (Wk.to (el:=[(1,.L p1),(2,.ag [.ak 3 (p0.map aL.lv)]),(5,.arr 125 l8.length)]) (ml:=[(125,.arr 3 1 (l8.map LV.I))]) (eC R (eC R (eC (congrArg (LV.arr 125) (u9 T4)) eN))) ⟨R,trivial⟩ R (a8 R)) (Wk.trans (Wk.kL (f:=LV.I) (fk:=[(1,.L p1),(2,.ag [.ak 3 (p0.map aL.lv)]),(5,.L l8)]) 125 3 1 l8 R R (bO R) (fK R (fK R (fZ fN)))) (Wk.eq R R R R)))))))))) (LH.aj [(1,.L p1),(2,.ag [.ak 3 (p0.map aL.lv)]),(5,.L l8),(8,.nil)] [] R (kh R zS) (LH.seq (LH.aj [(1,.L p1),(2,.ag [.ak 3 (p0.map aL.lv)]),(8,.nil),(30,.L l8),(31,.I (l8.length:Int)),(32,.I 0)] [] R (eZ R (sN (bX (f:=LV.I) cz R (bl R zS)))) (LH.block (LH.wk ((Wk.trans (aX [(1,.L p1),(2,.ag [.ak 3 (p0.map aL.lv)]),(8,.nil),(30,.L l8),(31,.I (l8.length:Int)),(32,.I 0)] []) (Wk.trans (aX [(1,.L p1),(2,.ag [.ak 3 (p0.map aL.lv)]),(8,.nil),(30,.L l8),(31,.I (l8.length:Int)),(32,.I 0)] []) (Wk.trans (Wk.rl (fk:=[(1,.L p1),(2,.ag [.ak 3 (p0.map aL.lv)]),(8,.arr 161 (List.length ([]:List ed))),(30,.L l8),(31,.I (l8.length:Int)),(32,.I 0)]) 161 137 2 R R (wK (wK (wO (wK (wK (wK wN))))))) (aX [(1,.L p1),(2,.ag [.ak 3 (p0.map aL.lv)]),(8,.arr 161 (List.length ([]:List ed))),(30,.L l8),(31,.I (l8.length:Int)),(32,.I 0)] [(161,.arr 137 2 (List.map ed.lv ([]:List ed)))]))))) (LH.loop (fun n e m=>∃ (n9:Int) (gp:List ed),Dk F p0 p1 l8 n n9 gp=some r∧e=Env.of [(1,.L p1),(2,.ag [.ak 3 (p0.map aL.lv)]),(8,.arr 161 gp.length),(30,.L l8),(31,.I (l8.length:Int)),(32,.I n9)]∧m=Mem.of [(161,.arr 137 2 (gp.map ed.lv))]) F ⟨0,([]:List ed),h,R,R⟩ ?_))))))
  clear h
  rintro n e m ⟨n9,gp,h,rfl,rfl⟩
  rcases n with _ | n
  · cases (show Option.none=some _ from h)
  obtain ⟨eH,dO⟩:∃ f,f=Dk F p0 p1 l8 n:=⟨_,rfl⟩
  replace h:Gx F p0 p1 l8 eH n9 gp=some r:=dO ▸ h
  unfold Gx at h
  refine LH.aj [(1,.L p1),(2,.ag [.ak 3 (p0.map aL.lv)]),(8,.arr 161 gp.length),(30,.L l8),(31,.I (l8.length:Int)),(32,.I n9),(33,.bool (decide (n9<(l8.length:Int))))] [(161,.arr 137 2 (gp.map ed.lv))] R (sN (fi R R zS)) (LH.seq (LH.cond (t:=(decide (n9<(l8.length:Int)))) R (fun iA=>?_) (fun iA=>?_)))
  ·replace h:=aB h iA
   refine LH.skip (av (LH.wk (aX [(1,.L p1),(2,.ag [.ak 3 (p0.map aL.lv)]),(8,.arr 161 gp.length),(30,.L l8),(31,.I (l8.length:Int)),(32,.I n9)] [(161,.arr 137 2 (gp.map ed.lv))]) (LH.seq (LH.block ?_))))
   obtain ⟨gq,px,h⟩:=al h
   refine LH.aj [(1,.L p1),(2,.ag [.ak 3 (p0.map aL.lv)]),(8,.arr 161 gp.length),(10,.I gq),(30,.L l8),(31,.I (l8.length:Int)),(32,.I n9)] [(161,.arr 137 2 (gp.map ed.lv))] R (sN (eW (f:=LV.I) cz aE bb R R lO px R (sN (bf R aE bN (bo R zS))))) (LH.aj [(1,.L p1),(2,.ag [.ak 3 (p0.map aL.lv)]),(8,.arr 161 gp.length),(10,.I gq),(11,.I (i64 ((gp.length:Int) - 1))),(30,.L l8),(31,.I (l8.length:Int)),(32,.I n9)] [(161,.arr 137 2 (gp.map ed.lv))] R (j5 R (sN (FK (f:=ed.lv) qM R R (sN (iG R R (bo R zS)))))) (LH.seq ?_))
   obtain ⟨Is,hv,h⟩:=al h
   refine LH.c7 mixed [] [0,0,0,0,0,0,1,1,1,0,0,0,0,0,0,0,0,0] [(1,.L p1),(2,.ag [.ak 3 (p0.map aL.lv)]),(8,.arr 161 gp.length),(10,.I gq),(11,.I (i64 ((gp.length:Int) - 1))),(30,.L l8),(31,.I (l8.length:Int)),(32,.I n9),(56,.bool Is)] [(161,.arr 137 2 (gp.map ed.lv))] R R (by kernel_rfl) ?_ ?_
   ·refine eV R (aF (fi R R ⟨R,iF R ?_⟩))
    by_cases bV:(decide ((i64 ((gp.length:Int) - 1))<0))=true
    ·replace hv:=aB hv bV
     refine mF R R bV (mF R R bV (mF R R bV (mF R R bV (mF R R bV (mF R R bV (mF R R bV (mF R R bV (mF R R bV (mF R R bV (mF R R bV (mF R R bV (mF R R bV (mF R R bV (aF (aW (cB bV) (v:=(.bool _)) R ⟨R,?_⟩)))))))))))))))
     obtain rfl:=oI hv
     exact zM
    ·replace bV:=bF bV
     replace hv:=aA hv bV
     refine mT R (cB bV) (aF (bf R mR mG ⟨R,mT R (cB bV) (OW R (mT R (cB bV) (eV R ?_)))⟩))
     obtain ⟨It,Ao,hv⟩:=al hv
     refine mT R (cB bV) (OX (gX (f:=ed.lv) qM va qO R R R Ao ⟨R,mT R (cB bV) (OX (HU (f:=ed.lv) rJ aE bb R R R ⟨R,mT R (cB bV) (OX (vM (f:=ed.lv) R R (dC Ao).2 R R R aE bN ⟨R,?_⟩))⟩))⟩))
     obtain ⟨nK,uc,hv⟩:=al hv
     refine mT R (cB bV) (aF (eW (f:=aL.lv) eU b6 bW R R aL.ok uc R ⟨R,mT R (cB bV) (aF (bh R b6 fX bW R R ⟨R,mT R (cB bV) (aF (bf R mR mG ⟨R,mT R (cB bV) (eV R ?_)⟩))⟩))⟩))
     obtain ⟨Bc,Fl,hv⟩:=al hv
     refine mT R (cB bV) (aF (eW (f:=aL.lv) eU b6 bW R R aL.ok Fl R ⟨R,mT R (cB bV) (aF (bh R b6 fX bW R R ⟨R,?_⟩))⟩))
     obtain ⟨tS,KD,hv⟩:=al hv
     refine mT R (cB bV) (aF (dU (args:=[.agg [.I nK.Time,.I nK.Source,.I nK.Seq],.agg [.I Bc.Time,.I Bc.Source,.I Bc.Seq]]) R Fq R (aK (aK bt)) (Jl KD) R ⟨R,mT R (cB bV) (aF (kg R R ⟨R,aF (aV (cB bV) (v:=(.bool _)) R ⟨R,?_⟩)⟩))⟩))
     obtain rfl:=oI hv
     exact zM
   clear hv
   refine LH.cond (t:=Is) R (fun jb=>?_) (fun jb=>?_)
   ·replace h:=aB h jb
    obtain ⟨v21,St,h⟩:=al h
    refine LH.aj [(1,.L p1),(2,.ag [.ak 3 (p0.map aL.lv)]),(8,.arr 161 v21.length),(30,.L l8),(31,.I (l8.length:Int)),(32,.I n9)] [(161,.arr 137 2 (v21.map ed.lv))] R (j5 R (bl R (sN (gB (vs:=[(0,.I gq),(1,.bool false)]) Qa JG R (lf rJ bb aE R R R (lf wo lQ ka R R R gA)) (sN (jI (f:=ed.lv) (ys:=[(ed.mk gq false)]) qM JF qO R R R ed.ok (sN (my (f:=ed.lv) qM JF qO R R (bO R) R St (nE R zS))))))))) (LH.exit (cv (bM (av (LH.aQ [(1,.L p1),(2,.ag [.ak 3 (p0.map aL.lv)]),(8,.arr 161 v21.length),(30,.L l8),(31,.I (l8.length:Int)),(32,.I (i64 (n9+1)))] [(161,.arr 137 2 (v21.map ed.lv))] R (sN (cr R R (bl R zS))) ?_)))))
    exact bg ⟨(i64 (n9+1)),v21,dO ▸ h,R,R⟩ (Wk.eq R R R R)
   replace h:=aA h jb
   refine LH.skip (av ?_)
   obtain ⟨JH,HK,h⟩:=al h
   refine LH.aj [(1,.L p1),(2,.ag [.ak 3 (p0.map aL.lv)]),(8,.arr 161 gp.length),(10,.I gq),(11,.I (i64 ((gp.length:Int) - 1))),(12,.I JH.first),(30,.L l8),(31,.I (l8.length:Int)),(32,.I n9)] [(161,.arr 137 2 (gp.map ed.lv))] R (j5 R (bl R (sN (gX (f:=ed.lv) qM va qO R R R HK (sN (HU (f:=ed.lv) rJ aE bb R R R (sN (vM (f:=ed.lv) R R (dC HK).2 R R R aE bN (bo R zS))))))))) ?_
   obtain ⟨QR,hv,h⟩:=al h
   refine LH.c7 mixed [] [0,0,0,0,0,0,0,0,0,0,0,0,0,0,0,0,0,0,0,0] [(1,.L p1),(2,.ag [.ak 3 (p0.map aL.lv)]),(8,.arr 161 gp.length),(11,.I (i64 ((gp.length:Int) - 1))),(30,.L l8),(31,.I (l8.length:Int)),(32,.I n9),(86,.bool QR)] [(161,.arr 137 2 (gp.map ed.lv))] R R (by kernel_rfl) ?_ ?_
   ·refine aF (bf R mR mG ⟨R,eV R ?_⟩)
    obtain ⟨Mo,HL,hv⟩:=al hv
    refine aF (eW (f:=aL.lv) eU b6 bW R R aL.ok HL R ⟨R,aF (bh R b6 fX bW R R ⟨R,aF (bf R mR mG ⟨R,eV R ?_⟩)⟩)⟩)
    obtain ⟨LW,K2,hv⟩:=al hv
    refine aF (eW (f:=aL.lv) eU b6 bW R R aL.ok K2 R ⟨R,aF (bh R b6 fX bW R R ⟨R,aF (FM R R (Eh Mo LW) ⟨R,iF R ?_⟩)⟩)⟩)
    by_cases dQ:(!(decide (Mo=LW)))=true
    ·replace hv:=aB hv dQ
     refine mF R R dQ (mF R R dQ (mF R R dQ (mF R R dQ (mF R R dQ (mF R R dQ (mF R R dQ (mF R R dQ (mF R R dQ (aF (aW (cB dQ) (v:=(.bool _)) R ⟨R,?_⟩))))))))))
     obtain rfl:=oI hv
     exact zM
    ·replace dQ:=bF dQ
     replace hv:=aA hv dQ
     refine mT R (cB dQ) (pO R (mT R (cB dQ) (eV R ?_)))
     obtain ⟨LX,CL,hv⟩:=al hv
     refine mT R (cB dQ) (aF (eW (f:=LV.I) cz aE bb R R lO CL R ⟨R,mT R (cB dQ) (aF (bf R aE bN ⟨R,mT R (cB dQ) (pO R (mT R (cB dQ) (eV R ?_)))⟩))⟩))
     obtain ⟨Mp,K3,hv⟩:=al hv
     refine mT R (cB dQ) (aF (eW (f:=LV.I) cz aE bb R R lO K3 R ⟨R,mT R (cB dQ) (aF (bf R aE bN ⟨R,mT R (cB dQ) (aF (kg R R ⟨R,aF (aV (cB dQ) (v:=(.bool _)) R ⟨R,?_⟩)⟩))⟩))⟩))
     obtain rfl:=oI hv
     exact zM
   clear hv
   refine LH.cond (t:=QR) R (fun pf=>?_) (fun pf=>?_)
   ·replace h:=aB h pf
    obtain ⟨D2,HM,h⟩:=al h
    refine LH.aQ [(1,.L p1),(2,.ag [.ak 3 (p0.map aL.lv)]),(8,.arr 161 (List.length (gp.set ((i64 ((gp.length:Int) - 1)).toNat) (ed.mk D2.first true)))),(30,.L l8),(31,.I (l8.length:Int)),(32,.I n9)] [(161,.arr 137 2 (List.map ed.lv (gp.set ((i64 ((gp.length:Int) - 1)).toNat) (ed.mk D2.first true))))] R (j5 R (bl R (sN (gX (f:=ed.lv) qM va qO R R R HM (sN (HU (f:=ed.lv) wo ka lQ R R R (s_ (ri (f:=ed.lv) (z':=(ed.mk D2.first true)) R R R R ka lQ R (dC HM).2 R (s0 (Wk.to (eC R (eC R (eC (congrArg (LV.arr 161) (by simp)) (eC R (eC R (eC R eN)))))) ⟨R,trivial⟩ R (a8 R))))))))))) (aY (av (LH.aQ [(1,.L p1),(2,.ag [.ak 3 (p0.map aL.lv)]),(8,.arr 161 (List.length (gp.set ((i64 ((gp.length:Int) - 1)).toNat) (ed.mk D2.first true)))),(30,.L l8),(31,.I (l8.length:Int)),(32,.I (i64 (n9+1)))] [(161,.arr 137 2 (List.map ed.lv (gp.set ((i64 ((gp.length:Int) - 1)).toNat) (ed.mk D2.first true))))] R (sN (cr R R (bl R zS))) ?_)))
    exact bg ⟨(i64 (n9+1)),(gp.set ((i64 ((gp.length:Int) - 1)).toNat) (ed.mk D2.first true)),dO ▸ h,R,R⟩ (Wk.eq R R R R)
   replace h:=aA h pf
   refine LH.skip (aY (av (LH.aQ [(1,.L p1),(2,.ag [.ak 3 (p0.map aL.lv)]),(8,.arr 161 gp.length),(30,.L l8),(31,.I (l8.length:Int)),(32,.I (i64 (n9+1)))] [(161,.arr 137 2 (gp.map ed.lv))] R (sN (cr R R (bl R zS))) ?_)))
   exact bg ⟨(i64 (n9+1)),gp,dO ▸ h,R,R⟩ (Wk.eq R R R R)
  replace h:=aA h iA
  refine LH.exit (cv (bY (bM (av (LH.wk ((Wk.trans (aX [(8,.arr 161 gp.length)] [(161,.arr 137 2 (gp.map ed.lv))]) (Wk.trans (Wk.kL (f:=ed.lv) (fk:=[(8,.ak 2 (gp.map ed.lv))]) 161 137 2 gp R R (bO R) (fZ fN)) (aX [(8,.ak 2 (gp.map ed.lv))] [])))) (LH.aj [(4,.ak 2 (gp.map ed.lv))] [] R (eZ R (qb R zS)) (LH.ret ?_)))))))
  obtain rfl:=oI h
  exact aS (aT Tryz.results85) (bR R (bP ⟨aR mN,R,a8 R,Sub.rfl⟩))
theorem Pw {F:Nat} {p0:aL} {p1:aL} {r:Int} (h:yd F p0 p1=some r):aP Tryz.prog 88 [.agg [.I p0.Time,.I p0.Source,.I p0.Seq],.agg [.I p1.Time,.I p1.Source,.I p1.Seq]] (Mem.of []) (.I r) (Mem.of []):=by
  unfold yd at h
  refine bu Tryz.func88 R (nT Tryz.ntmps88 R) (LH.wk (aX [(0,.agg [.I p0.Time,.I p0.Source,.I p0.Seq]),(1,.agg [.I p1.Time,.I p1.Source,.I p1.Seq])] []) (LH.aj [(2,.ag [.I p0.Time,.I p0.Source,.I p0.Seq]),(3,.ag [.I p1.Time,.I p1.Source,.I p1.Seq])] [] R (sB (dp R R R R (sB (dp R R R R (bo R zS))))) ?_))
  obtain ⟨r1,ec,h⟩:=al h
  obtain ⟨r2,fz,h⟩:=al h
  obtain ⟨r3,nf,h⟩:=al h
  obtain ⟨r4,CI,h⟩:=al h
  refine LH.c7 mixed [] [0,0,0,0,0,0,0,0,0,0,0,0,0,0,0,0,0,0] [(4,.I r4)] [] R R (by kernel_rfl) ?_ ?_
  ·exact aF (aw e7 aE bb R R R ⟨R,aF (bf R aE bN ⟨R,aF (aw e7 aE bb R R R ⟨R,aF (bf R aE bN ⟨R,aF (dU (args:=[.I p0.Time,.I p1.Time]) R sP R (aK (aK bt)) (c9 ec) R ⟨R,aF (aw ek aE bb R R R ⟨R,aF (bf R aE bN ⟨R,aF (aw ek aE bb R R R ⟨R,aF (bf R aE bN ⟨R,aF (dU (args:=[.I p0.Source,.I p1.Source]) R sP R (aK (aK bt)) (c9 fz) R ⟨R,aF (aw dz aE bb R R R ⟨R,aF (bf R aE bN ⟨R,aF (aw dz aE bb R R R ⟨R,aF (bf R aE bN ⟨R,aF (dU (args:=[.I p0.Seq,.I p1.Seq]) R sP R (aK (aK bt)) (c9 nf) R ⟨R,aF (jI (f:=LV.I) (ys:=[r1,r2,r3]) cz qN bb R R R lO ⟨R,aF (dU (args:=[.L [r1,r2,r3]]) R Aq R (aK bt) (kJ CI) R ⟨R,Mk R zM⟩)⟩)⟩)⟩)⟩)⟩)⟩)⟩)⟩)⟩)⟩)⟩)⟩)⟩)⟩)⟩)⟩)
  refine LH.ret ?_
  obtain rfl:=oI h
  exact aS (aT Tryz.results88) (bR R (bP ⟨aR mN,R,a8 R,Sub.rfl⟩))
theorem Pd {F:Nat} {p0:Int} {p1:Int} {c0:List aL} {r:Int} (h:De F p0 p1 c0=some r):aP Tryz.prog 87 [.I p0,.I p1,.ag [.ak 3 (c0.map aL.lv)]] (Mem.of []) (.I r) (Mem.of []):=by
  unfold De at h
  refine bu Tryz.func87 R (nT Tryz.ntmps87 R) (LH.wk (aX [(0,.I p0),(1,.I p1),(2,.ag [.ak 3 (c0.map aL.lv)])] []) (LH.aj [(0,.I p0),(1,.I p1),(2,.ag [.ak 3 (c0.map aL.lv)])] [] R (bo R zS) ?_))
  obtain ⟨x1,Mh,h⟩:=al h
  obtain ⟨x2,K0,h⟩:=al h
  obtain ⟨r3,nf,h⟩:=al h
  refine LH.c7 mixed [] [0,0,0,0,0,0,0,0,0,0] [(5,.I r3)] [] R R (by kernel_rfl) (aF (bf R mR mG ⟨R,eV R (aF (eW (f:=aL.lv) eU b6 bW R R aL.ok Mh R ⟨R,aF (bh R b6 fX bW R R ⟨R,aF (bf R mR mG ⟨R,eV R (aF (eW (f:=aL.lv) eU b6 bW R R aL.ok K0 R ⟨R,aF (bh R b6 fX bW R R ⟨R,aF (dU (args:=[.agg [.I x1.Time,.I x1.Source,.I x1.Seq],.agg [.I x2.Time,.I x2.Source,.I x2.Seq]]) R OH R (aK (aK bt)) (Pw nf) R ⟨R,Mk R zM⟩)⟩)⟩))⟩)⟩)⟩))⟩)) (LH.ret ?_)
  obtain rfl:=oI h
  exact aS (aT Tryz.results87) (bR R (bP ⟨aR mN,R,a8 R,Sub.rfl⟩))
theorem Pk {F:Nat} {p0:List aL} {p1:List Int} {r:List Int × Int} (h:Di F p0 p1=some r):aP Tryz.prog 73 [.ak 3 (p0.map aL.lv),.L p1] (Mem.of []) (.de [.L r.1,.I r.2]) (Mem.of []):=by
  unfold Di at h
  refine bu Tryz.func73 R (nT Tryz.ntmps73 R) (LH.wk (aX [(0,.ak 3 (p0.map aL.lv)),(1,.L p1)] []) (LH.aj [(1,.L p1),(2,.ag [.ak 3 (p0.map aL.lv)])] [] R (sB (dp R R R R (kh R (bo R zS)))) (LH.seq (LH.aj [(1,.L p1),(2,.ag [.ak 3 (p0.map aL.lv)]),(13,.bool ((p0.length:Int) != (p1.length:Int)))] [] R (sN (bf R mR mG (sN (bX (f:=aL.lv) eU R (eZ R (sN (bX (f:=LV.I) cz R (sN (kg R R zS))))))))) (LH.cond (t:=((p0.length:Int) != (p1.length:Int))) R (fun jw=>?_) (fun jw=>?_))))))
  ·replace h:=aB h jw
   refine LH.aj [(4,.nil),(5,.I 1)] [] R (kh R (bo R zS)) (LH.ret (aZ ?_))
   obtain rfl:=oI h
   exact aS (aT Tryz.results73) (bR R (bR R (bP ⟨aR mN,R,a8 R,(Sub.de (yI (aK bt)))⟩)))
  replace h:=aA h jw
  refine LH.skip (av (LH.aj [(1,.L p1),(2,.ag [.ak 3 (p0.map aL.lv)]),(6,.nil)] [] R (kh R zS) (LH.seq ?_)))
  obtain ⟨r2,fz,h⟩:=al h
  refine LH.aj [(2,.ag [.ak 3 (p0.map aL.lv)]),(6,.nil),(16,.ak 2 (r2.map ed.lv)),(17,.I (r2.length:Int)),(18,.I 0)] [] R (sN (bf R mR mG (eZ R (sN (dU (args:=[.ak 3 (p0.map aL.lv),.L p1]) R OF R (aK (aK bt)) (PC fz) R (sN (bX (f:=ed.lv) qM R (bl R zS)))))))) (LH.block (LH.wk ((Wk.trans (aX [(2,.ag [.ak 3 (p0.map aL.lv)]),(6,.nil),(16,.ak 2 (r2.map ed.lv)),(17,.I (r2.length:Int)),(18,.I 0)] []) (Wk.trans (aX [(2,.ag [.ak 3 (p0.map aL.lv)]),(6,.nil),(16,.ak 2 (r2.map ed.lv)),(17,.I (r2.length:Int)),(18,.I 0)] []) (Wk.trans (Wk.rl (fk:=[(2,.ag [.ak 3 (p0.map aL.lv)]),(6,.arr 129 (List.length ([]:List Int))),(16,.ak 2 (r2.map ed.lv)),(17,.I (r2.length:Int)),(18,.I 0)]) 129 3 1 R R (wK (wO (wK (wK (wK wN)))))) (aX [(2,.ag [.ak 3 (p0.map aL.lv)]),(6,.arr 129 (List.length ([]:List Int))),(16,.ak 2 (r2.map ed.lv)),(17,.I (r2.length:Int)),(18,.I 0)] [(129,.arr 3 1 (List.map LV.I ([]:List Int)))]))))) (LH.loop (fun n e m=>∃ (n3:Int) (l4:List Int),Dc F p0 r2 n n3 l4=some r∧e=Env.of [(2,.ag [.ak 3 (p0.map aL.lv)]),(6,.arr 129 l4.length),(16,.ak 2 (r2.map ed.lv)),(17,.I (r2.length:Int)),(18,.I n3)]∧m=Mem.of [(129,.arr 3 1 (l4.map LV.I))]) F ⟨0,([]:List Int),h,R,R⟩ ?_)))
  clear h
  rintro n e m ⟨n3,l4,h,rfl,rfl⟩
  rcases n with _ | n
  · cases (show Option.none=some _ from h)
  obtain ⟨aH,ba⟩:∃ f,f=Dc F p0 r2 n:=⟨_,rfl⟩
  replace h:Gl F p0 r2 aH n3 l4=some r:=ba ▸ h
  unfold Gl at h
  refine LH.aj [(2,.ag [.ak 3 (p0.map aL.lv)]),(6,.arr 129 l4.length),(16,.ak 2 (r2.map ed.lv)),(17,.I (r2.length:Int)),(18,.I n3),(19,.bool (decide (n3<(r2.length:Int))))] [(129,.arr 3 1 (l4.map LV.I))] R (sN (fi R R zS)) (LH.seq (LH.cond (t:=(decide (n3<(r2.length:Int)))) R (fun ky=>?_) (fun ky=>?_)))
  ·replace h:=aB h ky
   refine LH.skip (av (LH.wk (aX [(2,.ag [.ak 3 (p0.map aL.lv)]),(6,.arr 129 l4.length),(16,.ak 2 (r2.map ed.lv)),(17,.I (r2.length:Int)),(18,.I n3)] [(129,.arr 3 1 (l4.map LV.I))]) (LH.seq (LH.block ?_))))
   obtain ⟨x6,NM,h⟩:=al h
   refine LH.aj [(2,.ag [.ak 3 (p0.map aL.lv)]),(6,.arr 129 l4.length),(8,.ag [.I x6.first,.bool x6.dI]),(16,.ak 2 (r2.map ed.lv)),(17,.I (r2.length:Int)),(18,.I n3)] [(129,.arr 3 1 (l4.map LV.I))] R (sN (eW (f:=ed.lv) qM va qO R R ed.ok NM R (sN (bh R va P6 qO R R (sN (kS (id:=108) R JG R R (s_ (cV R R R va qO R R R (s0 ((Wk.trans (aX [(2,.ag [.ak 3 (p0.map aL.lv)]),(6,.arr 129 l4.length),(8,.ptr 108 0),(16,.ak 2 (r2.map ed.lv)),(17,.I (r2.length:Int)),(18,.I n3)] [(108,.box [.I x6.first,.bool x6.dI]),(129,.arr 3 1 (l4.map LV.I))]) (Wk.trans (Wk.bk 108 [.I x6.first,.bool x6.dI] R R R (bO R)) (Wk.eq R R R R))))))))))))) (LH.aj [(2,.ag [.ak 3 (p0.map aL.lv)]),(6,.arr 129 l4.length),(8,.ag [.I x6.first,.bool x6.dI]),(16,.ak 2 (r2.map ed.lv)),(17,.I (r2.length:Int)),(18,.I n3),(24,.bool (!x6.dI))] [(129,.arr 3 1 (l4.map LV.I))] R (sN (aw wo ka lQ R R R (sN (bf R ka wm (sN (kp R zS)))))) (LH.cond (t:=(!x6.dI)) R (fun ke=>?_) (fun ke=>?_)))
   ·replace h:=aB h ke
    obtain ⟨v8,SG,h⟩:=al h
    refine LH.aQ [(2,.ag [.ak 3 (p0.map aL.lv)]),(6,.arr 129 v8.length),(16,.ak 2 (r2.map ed.lv)),(17,.I (r2.length:Int)),(18,.I n3)] [(129,.arr 3 1 (v8.map LV.I))] R (j5 R (sN (aw rJ aE bb R R R (sN (bf R aE bN (sN (jI (f:=LV.I) (ys:=[x6.first]) cz qN bb R R R lO (sN (my (f:=LV.I) cz qN bb R R (bO R) R SG (nE R zS)))))))))) (aY (av (LH.aQ [(2,.ag [.ak 3 (p0.map aL.lv)]),(6,.arr 129 v8.length),(16,.ak 2 (r2.map ed.lv)),(17,.I (r2.length:Int)),(18,.I (i64 (n3+1)))] [(129,.arr 3 1 (v8.map LV.I))] R (sN (cr R R (bl R zS))) ?_)))
    exact bg ⟨(i64 (n3+1)),v8,ba ▸ h,R,R⟩ (Wk.eq R R R R)
   replace h:=aA h ke
   refine LH.skip (aY (av (LH.aQ [(2,.ag [.ak 3 (p0.map aL.lv)]),(6,.arr 129 l4.length),(16,.ak 2 (r2.map ed.lv)),(17,.I (r2.length:Int)),(18,.I (i64 (n3+1)))] [(129,.arr 3 1 (l4.map LV.I))] R (sN (cr R R (bl R zS))) ?_)))
   exact bg ⟨(i64 (n3+1)),l4,ba ▸ h,R,R⟩ (Wk.eq R R R R)
  replace h:=aA h ky
  refine LH.exit (cv (bY (bM (av (LH.wk (aX [(2,.ag [.ak 3 (p0.map aL.lv)]),(6,.arr 129 l4.length)] [(129,.arr 3 1 (l4.map LV.I))]) (LH.seq (LH.aj [(2,.ag [.ak 3 (p0.map aL.lv)]),(6,.arr 129 l4.length),(33,.bool (decide ((l4.length:Int) > 300)))] [(129,.arr 3 1 (l4.map LV.I))] R (j5 R (sN (FK (f:=LV.I) cz R R (sN (iw R R zS))))) (LH.cond (t:=(decide ((l4.length:Int) > 300))) R (fun sy=>?_) (fun sy=>?_)))))))))
  ·replace h:=aB h sy
   refine LH.aj [(4,.nil),(5,.I 3)] [] R (kh R (bo R zS)) (LH.ret (aZ ?_))
   obtain rfl:=oI h
   exact aS (aT Tryz.results73) (bR R (bR R (bP ⟨aR mN,R,a8 R,(Sub.de (yI (aK bt)))⟩)))
  replace h:=aA h sy
  refine LH.skip (av ?_)
  obtain ⟨gp,M6,h⟩:=al h
  refine LH.aj [(6,.L gp)] [] R (j5 R (sN (O4 (vs:=[.ag [.ak 3 (p0.map aL.lv)]]) R (sN (fa (args:=[.arr 129 l4.length,.fn 87 [.ag [.ak 3 (p0.map aL.lv)]]]) (ml:=[(129,.arr 3 1 (l4.map LV.I))]) (dg:=[(129,.arr 3 1 (gp.map LV.I))]) R Ja R (aK (aK bt)) (yP Tryz.JA R OG R (fun _ _ _ h=>Pd h) 129 3 M6) (mC R mN) (b8 R cw) R (s0 ((Wk.trans (Wk.to (el:=[(6,.arr 129 gp.length)]) (ml:=[(129,.arr 3 1 (gp.map LV.I))]) (eC (congrArg (LV.arr 129) (u9 M6)) eN) ⟨R,trivial⟩ R (a8 R)) (Wk.trans (Wk.kL (f:=LV.I) (fk:=[(6,.L gp)]) 129 3 1 gp R R (bO R) (fZ fN)) (Wk.eq R R R R)))))))))) (LH.aj [(4,.L gp),(5,.I 0)] [] R (eZ R (qb R (bo R zS))) (LH.ret ?_))
  obtain rfl:=oI h
  exact aS (aT Tryz.results73) (bR R (bR R (bP ⟨aR mN,R,a8 R,(Sub.de (aK (aK bt)))⟩)))
theorem O7 {F:Nat} {p0:List ax} {p1:(ax→Option aL)} {p2:(ax→ax→Option Bool)} {r:List Int × Int} {dL:Nat} {c4:List LV} (Az:eo Tryz.prog dL) (oK:LV.bj c4=true) (AA:∀ (x0:ax) (q:aL),p1 x0=some q→aP Tryz.prog dL ([.agg [.I x0.ar.Time,.I x0.ar.Source,.I x0.ar.Seq,.I x0.Kind,.I x0.Item.ID,.I x0.Item.Version,.str x0.Item.bD,.ak 6 (x0.Item.aI.map ao.lv),.L x0.Item.aD,.I x0.Ref.ID,.I x0.Ref.Version,.I x0.Form]]++c4) (Mem.of []) (.agg [.I q.Time,.I q.Source,.I q.Seq]) (Mem.of [])) {et:Nat} {dq:List LV} (CW:eo Tryz.prog et) (uh:LV.bj dq=true) (CX:∀ (x0:ax) (x1:ax) (q:Bool),p2 x0 x1=some q→aP Tryz.prog et ([.agg [.I x0.ar.Time,.I x0.ar.Source,.I x0.ar.Seq,.I x0.Kind,.I x0.Item.ID,.I x0.Item.Version,.str x0.Item.bD,.ak 6 (x0.Item.aI.map ao.lv),.L x0.Item.aD,.I x0.Ref.ID,.I x0.Ref.Version,.I x0.Form],.agg [.I x1.ar.Time,.I x1.ar.Source,.I x1.ar.Seq,.I x1.Kind,.I x1.Item.ID,.I x1.Item.Version,.str x1.Item.bD,.ak 6 (x1.Item.aI.map ao.lv),.L x1.Item.aD,.I x1.Ref.ID,.I x1.Ref.Version,.I x1.Form]]++dq) (Mem.of []) (.bool q) (Mem.of [])) (h:F8 F p0 p1 p2=some r):aP Tryz.prog 54 [.ak 12 (p0.map ax.lv),.fn dL c4,.fn et dq] (Mem.of []) (.de [.L r.1,.I r.2]) (Mem.of []):=by
  have FX:∀ {l:List LV},LV.bj l=true→LV.bj (l++dq)=true:=Lz uh
  have eG:LV.bG dq=[]:=fU uh
  have FW:∀ {l:List LV},LV.bj l=true→LV.bj (l++c4)=true:=Lz oK
  have ez:LV.bG c4=[]:=fU oK
  unfold F8 at h
  refine bu Tryz.func54 R (nT Tryz.ntmps54 R) (LH.wk (Wk.to (el:=[(0,.ak 12 (p0.map ax.lv)),(1,.fn dL c4),(2,.fn et dq)]) (ml:=[]) (eQ ⟨R,R,R,trivial⟩) mN (by simp [aU,LV.refs,LV.bG,LV.cells,cZ,Env.args,Env.of,Env.put,Env.drop,ez,eG]) (a8 R)) (LH.aj [(0,.ak 12 (p0.map ax.lv)),(1,.fn dL c4),(2,.fn et dq)] [] R (kh R (bo R (s0 (Wk.to (eQ ⟨R,R,R,trivial⟩) mN (by simp [aU,LV.refs,LV.bG,LV.cells,cZ,Env.args,Env.of,Env.put,Env.drop,ez,eG]) (a8 R))))) ?_))
  obtain ⟨r1,ec,h⟩:=al h
  refine LH.aj [(8,.ak 3 (r1.1.map aL.lv)),(9,.L r1.2)] [] R (eZ R (sN (oM (v:=(.fn _ _)) R (sN (oM (v:=(.fn _ _)) R (sN (dU (args:=[.ak 12 (p0.map ax.lv),.fn dL c4,.fn et dq]) R Ox R (aK (aK (aK bt))) (O9 Az oK AA CW uh CX ec) (by simp [LV.pure,LV.bj,oK,uh]) (yH R (sN (iO R R (sN (iO R R (qb R (qb R (s0 (Wk.to (eQ ⟨R,R,trivial⟩) mN (by simp [aU,LV.refs,LV.bG,LV.cells,cZ,Env.args,Env.of,Env.put,Env.drop,ez,eG]) (a8 R))))))))))))))))) ?_
  obtain ⟨r2,fz,h⟩:=al h
  refine LH.aj [(6,.L r2.1),(7,.I r2.2)] [] R (eZ R (eZ R (sN (dU (args:=[.ak 3 (r1.1.map aL.lv),.L r1.2]) R Oy R (aK (aK bt)) (Pk fz) R (sN (iO R R (sN (iO R R (qb R (bo R (s0 (Wk.to (eQ ⟨R,R,trivial⟩) mN (by simp [aU,LV.refs,LV.bG,LV.cells,cZ,Env.args,Env.of,Env.put,Env.drop,ez,eG]) (a8 R))))))))))))) (LH.ret ?_)
  obtain rfl:=oI h
  exact aS (aT Tryz.results54) (bR R (bR R (bP ⟨aR mN,R,a8 R,(Sub.de (aK (aK bt)))⟩)))
theorem Pe {p0:ax} {r:aL} (h:BR p0=some r):aP Tryz.prog 55 [ax.lv p0] (Mem.of []) (.agg [.I r.Time,.I r.Source,.I r.Seq]) (Mem.of []):=by
  unfold BR at h
  refine bu Tryz.func55 R (nT Tryz.ntmps55 R) (LH.wk (aX [(0,ax.lv p0)] []) (LH.aj [(1,.ag (ax.lv p0).cells),(2,.ptr 102 0)] [(102,.box [.I 0,.I 0,.I 0])] R (sB (dp R R R R (sN (kS (id:=102) R uo R R zS)))) (LH.aj [(2,.ag [.I p0.ar.Time,.I p0.ar.Source,.I p0.ar.Seq])] [] R (sN (aw db b6 bW R R R (sN (bh R b6 fX bW R R (s_ (cV R R R b6 bW R R R (s0 ((Wk.trans (aX [(2,.ptr 102 0)] [(102,.box [.I p0.ar.Time,.I p0.ar.Source,.I p0.ar.Seq])]) (Wk.trans (Wk.bk 102 [.I p0.ar.Time,.I p0.ar.Source,.I p0.ar.Seq] R R R (bO R)) (Wk.eq R R R R))))))))))) (LH.ret ?_))))
  obtain rfl:=oI h
  exact aS (aT Tryz.results55) (df R b6 fX bW R R (bP ⟨aR mN,R,a8 R,Sub.rfl⟩))
theorem Pa {F:Nat} {p0:List ao} {p1:List ao} {r:Bool} (h:Gd F p0 p1=some r):aP Tryz.prog 89 [.ak 6 (p0.map ao.lv),.ak 6 (p1.map ao.lv)] (Mem.of []) (.bool r) (Mem.of []):=by
  unfold Gd at h
  refine bu Tryz.func89 R (nT Tryz.ntmps89 R) (LH.wk (aX [(0,.ak 6 (p0.map ao.lv)),(1,.ak 6 (p1.map ao.lv))] []) (LH.aj [(0,.ak 6 (p0.map ao.lv)),(1,.ak 6 (p1.map ao.lv))] [] R (cm R zS) (LH.seq (LH.aj [(0,.ak 6 (p0.map ao.lv)),(1,.ak 6 (p1.map ao.lv)),(10,.bool ((p0.length:Int) != (p1.length:Int)))] [] R (eZ R (sN (bX (f:=ao.lv) gj R (eZ R (sN (bX (f:=ao.lv) gj R (sN (kg R R zS)))))))) (LH.cond (t:=((p0.length:Int) != (p1.length:Int))) R (fun jw=>?_) (fun jw=>?_))))))
  ·replace h:=aB h jw
   refine LH.aj [(4,.bool false)] [] R (cm R zS) (LH.ret (aZ ?_))
   obtain rfl:=oI h
   exact aS (aT Tryz.results89) (bR R (bP ⟨aR mN,R,a8 R,Sub.rfl⟩))
  replace h:=aA h jw
  refine LH.skip (av (LH.wk (aX [(0,.ak 6 (p0.map ao.lv)),(1,.ak 6 (p1.map ao.lv))] []) (LH.seq (LH.aj [(0,.ak 6 (p0.map ao.lv)),(1,.ak 6 (p1.map ao.lv)),(12,.I (p0.length:Int)),(13,.I 0)] [] R (eZ R (sN (bX (f:=ao.lv) gj R (bl R zS)))) (LH.block (LH.loop (fun n e m=>∃ (n2:Int),C2 p0 p1 n n2=some r∧e=Env.of [(0,.ak 6 (p0.map ao.lv)),(1,.ak 6 (p1.map ao.lv)),(12,.I (p0.length:Int)),(13,.I n2)]∧m=Mem.of []) F ⟨0,h,R,R⟩ ?_))))))
  clear h
  rintro n e m ⟨n2,h,rfl,rfl⟩
  rcases n with _ | n
  · cases (show Option.none=some _ from h)
  obtain ⟨aH,ba⟩:∃ f,f=C2 p0 p1 n:=⟨_,rfl⟩
  replace h:F7 p0 p1 aH n2=some r:=ba ▸ h
  unfold F7 at h
  refine LH.aj [(0,.ak 6 (p0.map ao.lv)),(1,.ak 6 (p1.map ao.lv)),(12,.I (p0.length:Int)),(13,.I n2),(14,.bool (decide (n2<(p0.length:Int))))] [] R (sN (fi R R zS)) (LH.seq (LH.cond (t:=(decide (n2<(p0.length:Int)))) R (fun iC=>?_) (fun iC=>?_)))
  ·replace h:=aB h iC
   refine LH.skip (av (LH.wk (aX [(0,.ak 6 (p0.map ao.lv)),(1,.ak 6 (p1.map ao.lv)),(12,.I (p0.length:Int)),(13,.I n2)] []) (LH.seq (LH.block (LH.aj [(0,.ak 6 (p0.map ao.lv)),(1,.ak 6 (p1.map ao.lv)),(5,.I n2),(12,.I (p0.length:Int)),(13,.I n2)] [] R (bl R (bo R zS)) ?_)))))
   obtain ⟨x4,CM,h⟩:=al h
   obtain ⟨x5,oy,h⟩:=al h
   refine LH.c7 mixed [] [0,0,0,0,0,0,0,0,0] [(0,.ak 6 (p0.map ao.lv)),(1,.ak 6 (p1.map ao.lv)),(12,.I (p0.length:Int)),(13,.I n2),(24,.bool (!(decide (x4=x5))))] [] R R (by kernel_rfl) (pO R (eV R (aF (eW (f:=ao.lv) gj ee dB R R ao.ok CM R ⟨R,aF (bh R ee iM dB R R ⟨R,pO R (eV R (aF (eW (f:=ao.lv) gj ee dB R R ao.ok oy R ⟨R,aF (bh R ee iM dB R R ⟨R,aF (FM R R (Mt x4 x5) ⟨R,zM⟩)⟩)⟩)))⟩)⟩)))) (LH.cond (t:=(!(decide (x4=x5)))) R (fun gb=>?_) (fun gb=>?_))
   ·replace h:=aB h gb
    refine LH.aj [(4,.bool false)] [] R (cm R zS) (LH.ret (bL (aZ (dY (bL (aZ ?_))))))
    obtain rfl:=oI h
    exact aS (aT Tryz.results89) (bR R (bP ⟨aR mN,R,a8 R,Sub.rfl⟩))
   replace h:=aA h gb
   refine LH.skip (aY (av (LH.aQ [(0,.ak 6 (p0.map ao.lv)),(1,.ak 6 (p1.map ao.lv)),(12,.I (p0.length:Int)),(13,.I (i64 (n2+1)))] [] R (sN (cr R R (bl R zS))) ?_)))
   exact bg ⟨(i64 (n2+1)),ba ▸ h,R,R⟩ (Wk.eq R R R R)
  replace h:=aA h iC
  refine LH.exit (cv (bY (bM (av (LH.aj [(4,.bool true)] [] R (cm R zS) (LH.ret ?_))))))
  obtain rfl:=oI h
  exact aS (aT Tryz.results89) (bR R (bP ⟨aR mN,R,a8 R,Sub.rfl⟩))
end Go.Proofs.YtmollikhdbaikaaGreat
