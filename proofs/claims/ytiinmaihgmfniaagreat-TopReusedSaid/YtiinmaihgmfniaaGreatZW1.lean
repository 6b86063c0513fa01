import Derived.Test.YtiinmaihgmfniaaGreatZLc
import Derived.Test.YtiinmaihgmfniaaGreatZLb
import Derived.Test.YtiinmaihgmfniaaGreatZRep
import Derived.Test.YtiinmaihgmfniaaGreatZRow
import Derived.Test.YtiinmaihgmfniaaGreatZFacts
import Derived.Test.YtiinmaihgmfniaaGreatZEqs
import Derived.Test.YtiinmaihgmfniaaGreatZSort
import Derived.Test.YtiinmaihgmfniaaGreatZSh
set_option linter.unusedVariables false
set_option linter.unusedSimpArgs false
set_option maxRecDepth 100000
set_option maxHeartbeats 1000000
namespace Go.Proofs.YtiinmaihgmfniaaGreat
open Go.L Go.Sh
theorem U2 {p0:List Int} {r:aU} (h:lQ p0=some r):aF Tryz.prog 6 [.L p0] (Mem.of []) (.ptr 110 0) (Mem.of [(110,.box [.L r.L,.I r.At])]):=by
  unfold lQ at h
  refine bh Tryz.func6 R (nT Tryz.ntmps6 R) (LH.aj R (sN (oA (v:=.nilp) R zQ)) (LH.seq (LH.aj R (dY R (sN (bW (f:=LV.I) bU R (sN (jf R R zQ))))) (LH.cond (t:=(decide ((p0.length:Int) > 600))) R (fun hc1=>?_) (fun hc1=>?_)))))
  ·replace h:=aB h hc1
   obtain ⟨v2,hv2,h⟩:=ae h
   refine LH.bd R (dY R (sN (ZL (f:=LV.I) bU aD aW R R R hv2 (sD R zQ)))) (ai (LH.aj R (dY R (sN (gJ (vs:=[(0,.L v2)]) NT NV R (lf s9 dQ cm R R R gI) (sN (TS (id:=110) R R R R R R (Yu R zQ)))))) (LH.ret ?_)))
   obtain rfl:=oI h
   exact aJ (aT Tryz.results6) (bT R (bP ⟨aG (mC R mN),R,aN R,Sub.rfl⟩))
  replace h:=aA h hc1
  refine LH.skip (ai (LH.aj R (dY R (sN (gJ (vs:=[(0,.L p0)]) NT NV R (lf s9 dQ cm R R R gI) (sN (TS (id:=110) R R R R R R (Yu R zQ)))))) (LH.ret ?_)))
  obtain rfl:=oI h
  exact aJ (aT Tryz.results6) (bT R (bP ⟨aG (mC R mN),R,aN R,Sub.rfl⟩))
theorem U4 {p0:List Int} {r:aU} (h:lQ p0=some r):aF Tryz.prog 6 [.L p0] (Mem.of []) (.ptr 7 0) (Mem.of [(7,.box [.L r.L,.I r.At])]):=aF.Gw 7 rfl (U2 h)
theorem V6 {p0:aU} {r:Int × aU} (h:Hg p0=some r):aF Tryz.prog 65 [.ptr 7 0] (Mem.of [(7,.box [.L p0.L,.I p0.At])]) (.I r.1) (Mem.of [(7,.box [.L r.2.L,.I r.2.At])]):=by
  unfold Hg at h
  refine bh Tryz.func65 R (nT Tryz.ntmps65 R) (LH.aj R (br R zQ) (LH.seq (LH.du mixed [] [0,0,0,1007,0,0,0,1007,0,0] [(0,.ptr 7 0),(12,.bool (decide (p0.At ≥ (p0.L.length:Int))))] [(7,.box [.L p0.L,.I p0.At])] R R (by kernel_rfl) (F7 R (aX (Gc R ⟨R,aX (fo ta aD aW R R ⟨R,mD R R R (fun _ b _ d=>dv R b R R aD b5 d) (F7 R (aX (Gc R ⟨R,aX (fo s9 cm dQ R R ⟨R,mD R R R (fun _ b _ d=>dv R b R R cm eu d) (aX (bW (f:=LV.I) bU R ⟨R,aX (oY R R ⟨R,zM⟩)⟩))⟩)⟩)))⟩)⟩))) (LH.cond (t:=(decide (p0.At ≥ (p0.L.length:Int)))) R (fun hc1=>?_) (fun hc1=>?_)))))
  ·replace h:=aB h hc1
   refine LH.aj R (br R zQ) (LH.ret (aO ?_))
   obtain rfl:=oI h
   exact aJ (aT Tryz.results65) (bT R (bP ⟨aG (mC R mN),R,aN R,Sub.rfl⟩))
  replace h:=aA h hc1
  refine LH.skip (ai (LH.aj R (iA R (sN (Gc R (sN (fo ta aD aW R R (sN (dv R R R R aD b5 (sN (b8 R R (sN (Gc R (sN (fo ta aD aW R R (s_ (cM R R R aD aW R R R zQ))))))))))))))) ?_))
  obtain ⟨x2,LC,h⟩:=ae h
  refine LH.du mixed [] [0,0,0,1007,0,0,0,1007,0,0,0,0] [(2,.I x2)] [(7,.box [.L p0.L,.I (i64 (p0.At+1))])] R R (by kernel_rfl) (F7 R (aX (Gc R ⟨R,aX (fo s9 cm dQ R R ⟨R,mD R R R (fun _ b _ d=>dv R b R R cm eu d) (F7 R (aX (Gc R ⟨R,aX (fo ta aD aW R R ⟨R,mD R R R (fun _ b _ d=>dv R b R R aD b5 d) (aX (kq R R ⟨R,aX (eF (f:=LV.I) bU aD aW R R jB LC R ⟨R,aX (bj R aD b5 ⟨R,Qr R zM⟩)⟩)⟩))⟩)⟩)))⟩)⟩))) (LH.ret ?_)
  obtain rfl:=oI h
  exact aJ (aT Tryz.results65) (bT R (bP ⟨aG (mC R mN),R,aN R,Sub.rfl⟩))
theorem NF {p0:Int} {p1:Int} {r:Int} (h:lP p0 p1=some r):aF Tryz.prog 12 [.I p0,.I p1] (Mem.of []) (.I r) (Mem.of []):=by
  unfold lP at h
  refine bh Tryz.func12 R (nT Tryz.ntmps12 R) (LH.aj R (br R zQ) (LH.seq (LH.aj R (aZ R (sN (eG R R zQ))) (LH.cond (t:=(decide (p1<1))) R (fun hc1=>?_) (fun hc1=>?_)))))
  ·replace h:=aB h hc1
   refine LH.aj R (br R zQ) (LH.ret (aO ?_))
   obtain rfl:=oI h
   exact aJ (aT Tryz.results12) (bT R (bP ⟨aG mN,R,aN R,Sub.rfl⟩))
  replace h:=aA h hc1
  refine LH.skip (ai ?_)
  obtain ⟨v2,hv2,h⟩:=ae h
  refine LH.aj R (aZ R (aZ R (sN (TV R R hv2 (br R zQ))))) (LH.seq (LH.aj R (aZ R (sN (eG R R zQ))) (LH.cond (t:=(decide (v2<0))) R (fun fT=>?_) (fun fT=>?_))))
  ·replace h:=aB h fT
   refine LH.bd R (aZ R (aZ R (sN (b8 R R (br R zQ))))) (ai (LH.aj R (aZ R (br R zQ)) (LH.ret ?_)))
   obtain rfl:=oI h
   exact aJ (aT Tryz.results12) (bT R (bP ⟨aG mN,R,aN R,Sub.rfl⟩))
  replace h:=aA h fT
  refine LH.skip (ai (LH.aj R (aZ R (br R zQ)) (LH.ret ?_)))
  obtain rfl:=oI h
  exact aJ (aT Tryz.results12) (bT R (bP ⟨aG mN,R,aN R,Sub.rfl⟩))
theorem lz {p0:aU} {p1:Int} {r:Int × aU} (h:jD p0 p1=some r):aF Tryz.prog 23 [.ptr 7 0,.I p1] (Mem.of [(7,.box [.L p0.L,.I p0.At])]) (.I r.1) (Mem.of [(7,.box [.L r.2.L,.I r.2.At])]):=by
  unfold jD at h
  refine bh Tryz.func23 R (nT Tryz.ntmps23 R) (LH.aj R (br R zQ) ?_)
  obtain ⟨r1,dR,h⟩:=ae h
  obtain ⟨r2,hr2,h⟩:=ae h
  refine LH.aj R (iA R (sN (ej (args:=[.ptr 7 0]) (ml:=[(7,.box [.L p0.L,.I p0.At])]) (cS:=[(7,.box [.L r1.2.L,.I r1.2.At])]) R Tx R (aw bl) (V6 dR) (mC R mN) (bu R bX) R (aZ R (sN (dq (args:=[.I r1.1,.I p1]) R MU R (aw (aw bl)) (NF hr2) R (br R zQ))))))) (LH.ret ?_)
  obtain rfl:=oI h
  exact aJ (aT Tryz.results23) (bT R (bP ⟨aG (mC R mN),R,aN R,Sub.rfl⟩))
theorem o8 {p0:aU} {p1:Int} {p2:Int} {r:Int × aU} (h:lA p0 p1 p2=some r):aF Tryz.prog 34 [.ptr 7 0,.I p1,.I p2] (Mem.of [(7,.box [.L p0.L,.I p0.At])]) (.I r.1) (Mem.of [(7,.box [.L r.2.L,.I r.2.At])]):=by
  unfold lA at h
  refine bh Tryz.func34 R (nT Tryz.ntmps34 R) (LH.aj R (br R zQ) ?_)
  obtain ⟨r1,dR,h⟩:=ae h
  refine LH.aj R (aZ R (iA R (aZ R (aZ R (sN (kq R R (sN (b8 R R (sN (ej (args:=[.ptr 7 0,.I (i64 ((i64 (p2 - p1))+1))]) (ml:=[(7,.box [.L p0.L,.I p0.At])]) (cS:=[(7,.box [.L r1.2.L,.I r1.2.At])]) R iu R (aw (aw bl)) (lz dR) (mC R mN) (bu R bX) R (sN (b8 R R (br R zQ))))))))))))) (LH.ret ?_)
  obtain rfl:=oI h
  exact aJ (aT Tryz.results34) (bT R (bP ⟨aG (mC R mN),R,aN R,Sub.rfl⟩))
theorem Hf {p0:aU} {p1:List Int} {r:Int × aU} (h:vG p0 p1=some r):aF Tryz.prog 42 [.ptr 7 0,.L p1] (Mem.of [(7,.box [.L p0.L,.I p0.At])]) (.I r.1) (Mem.of [(7,.box [.L r.2.L,.I r.2.At])]):=by
  unfold vG at h
  refine bh Tryz.func42 R (nT Tryz.ntmps42 R) (LH.aj R (br R zQ) ?_)
  obtain ⟨r1,dR,h⟩:=ae h
  obtain ⟨x2,LC,h⟩:=ae h
  refine LH.aj R (dY R (iA R (dY R (sN (bW (f:=LV.I) bU R (sN (ej (args:=[.ptr 7 0,.I (p1.length:Int)]) (ml:=[(7,.box [.L p0.L,.I p0.At])]) (cS:=[(7,.box [.L r1.2.L,.I r1.2.At])]) R iu R (aw (aw bl)) (lz dR) (mC R mN) (bu R bX) R (sN (eF (f:=LV.I) bU aD aW R R jB LC R (sN (bj R aD b5 (br R zQ)))))))))))) (LH.ret ?_)
  obtain rfl:=oI h
  exact aJ (aT Tryz.results42) (bT R (bP ⟨aG (mC R mN),R,aN R,Sub.rfl⟩))
theorem V8 {F:Nat} {p0:aU} {p1:Int} {r:ByteArray × aU} (h:Hh F p0 p1=some r):aF Tryz.prog 110 [.ptr 7 0,.I p1] (Mem.of [(7,.box [.L p0.L,.I p0.At])]) (.str r.1) (Mem.of [(7,.box [.L r.2.L,.I r.2.At])]):=by
  unfold Hh at h
  refine bh Tryz.func110 R (nT Tryz.ntmps110 R) (LH.aj R (sN (oA (v:=(.str _)) R zQ)) (LH.aj R (sN (oA (v:=(.str _)) R zQ)) (LH.seq ?_)))
  obtain ⟨r1,dR,h⟩:=ae h
  refine LH.ax [(0,.ptr 7 0),(5,.str (ByteArray.mk #[])),(6,.I r1.1)] [(7,.box [.L r1.2.L,.I r1.2.At])] R (iA R (aZ R (sN (ej (args:=[.ptr 7 0,.I 1,.I p1]) (ml:=[(7,.box [.L p0.L,.I p0.At])]) (cS:=[(7,.box [.L r1.2.L,.I r1.2.At])]) R km R (aw (aw (aw bl))) (o8 dR) (mC R mN) (bu R bX) R (br R zS))))) (LH.block (LH.loop (fun n e m=>∃ (t2:ByteArray) (n3:Int) (l4:List Int) (n5:Int),Hi n t2 n3 l4 n5=some r∧e=Env.of [(0,.ptr 7 0),(5,.str t2),(6,.I n3)]∧m=Mem.of [(7,.box [.L l4,.I n5])]) F ⟨(ByteArray.mk #[]),r1.1,r1.2.L,r1.2.At,h,R,R⟩ ?_))
  clear h
  rintro n e m ⟨t2,n3,l4,n5,h,rfl,rfl⟩
  rcases n with _ | n
  · cases (show Option.none=some _ from h)
  obtain ⟨aH,aI⟩:∃ f,f=Hi n:=⟨_,rfl⟩
  replace h:Hj aH t2 n3 l4 n5=some r:=aI ▸ h
  unfold Hj at h
  refine LH.seq (LH.aj R (aZ R (sN (jf R R zQ))) (LH.cond (t:=(decide (n3 > 0))) R (fun fY=>?_) (fun fY=>?_)))
  ·replace h:=aB h fY
   refine LH.skip (ai (LH.seq (LH.block ?_)))
   obtain ⟨r7,CJ,h⟩:=ae h
   obtain ⟨t8,ht8,h⟩:=ae h
   refine LH.bd R (sN (oM (v:=(.str _)) R (iA R (sN (ej (args:=[.ptr 7 0,.I 3]) (ml:=[(7,.box [.L l4,.I n5])]) (cS:=[(7,.box [.L r7.2.L,.I r7.2.At])]) R iu R (aw (aw bl)) (lz CJ) (mC R mN) (bu R bX) R (sN (b8 R R (sN (Yh aD ZS R (sN (jU (f:=(LV.int .u8)) (ys:=[(IntKind.u8.wrap (i64 (97+r7.1)))]) NM tr5 ts5 R R R jB (sX ((Qy (ns:=[(IntKind.u8.wrap (i64 (97+r7.1)))]) NM ZS Vf R).ok) (sX ((Ep R R ht8).ok) (sN (oA (v:=(.str _)) R zQ))))))))))))))) (aQ (ai (LH.bd R (aZ R (sN (kq R R (br R zQ)))) ?_)))
   exact a7 ⟨t8,(i64 (n3 - 1)),r7.2.L,r7.2.At,aI ▸ h,R,R⟩ (Wk.eq R R R R)
  replace h:=aA h fY
  refine LH.exit (cg (bO (bK (ai (LH.aj R (sN (oM (v:=(.str _)) R (sN (oA (v:=(.str _)) R zQ)))) (LH.ret ?_))))))
  obtain rfl:=oI h
  exact aJ (aT Tryz.results110) (bT R (bP ⟨aG (mC R mN),R,aN R,Sub.rfl⟩))
theorem Fi {p0:aU} {p1:Int} {r:Bool × aU} (h:qS p0 p1=some r):aF Tryz.prog 32 [.ptr 7 0,.I p1] (Mem.of [(7,.box [.L p0.L,.I p0.At])]) (.bool r.1) (Mem.of [(7,.box [.L r.2.L,.I r.2.At])]):=by
  unfold qS at h
  refine bh Tryz.func32 R (nT Tryz.ntmps32 R) (LH.aj R (cr R zQ) ?_)
  obtain ⟨r1,dR,h⟩:=ae h
  refine LH.aj R (iA R (aZ R (sN (ej (args:=[.ptr 7 0,.I p1]) (ml:=[(7,.box [.L p0.L,.I p0.At])]) (cS:=[(7,.box [.L r1.2.L,.I r1.2.At])]) R iu R (aw (aw bl)) (lz dR) (mC R mN) (bu R bX) R (aZ R (sN (kq R R (sN (iX R R (cr R zQ)))))))))) (LH.ret ?_)
  obtain rfl:=oI h
  exact aJ (aT Tryz.results32) (bT R (bP ⟨aG (mC R mN),R,aN R,Sub.rfl⟩))
theorem Fl {p0:aU} {r:Int × aU} (h:y7 p0=some r):aF Tryz.prog 41 [.ptr 7 0] (Mem.of [(7,.box [.L p0.L,.I p0.At])]) (.I r.1) (Mem.of [(7,.box [.L r.2.L,.I r.2.At])]):=by
  unfold y7 at h
  refine bh Tryz.func41 R (nT Tryz.ntmps41 R) (LH.aj R (br R zQ) ?_)
  obtain ⟨r1,dR,h⟩:=ae h
  refine LH.aj R (iA R (sN (jU (f:=LV.I) (ys:=[(-1),0,1,2,31,32,99,100,200,201,9999,10000,1000000,1000001,1152921504606846976,1152921504606846977,(-1152921504606846976),9223372036854775807,(-9223372036854775808)]) bU qL aW R R R jB (sN (ej (args:=[.ptr 7 0,.L [(-1),0,1,2,31,32,99,100,200,201,9999,10000,1000000,1000001,1152921504606846976,1152921504606846977,(-1152921504606846976),9223372036854775807,(-9223372036854775808)]]) (ml:=[(7,.box [.L p0.L,.I p0.At])]) (cS:=[(7,.box [.L r1.2.L,.I r1.2.At])]) R zO R (aw (aw bl)) (Hf dR) (mC R mN) (bu R bX) R (br R zQ)))))) (LH.ret ?_)
  obtain rfl:=oI h
  exact aJ (aT Tryz.results41) (bT R (bP ⟨aG (mC R mN),R,aN R,Sub.rfl⟩))
theorem RP {p0:aU} {p1:Int} {r:ag × aU} (h:Fj p0 p1=some r):aF Tryz.prog 111 [.ptr 7 0,.I p1] (Mem.of [(7,.box [.L p0.L,.I p0.At])]) (ag.lv r.1) (Mem.of [(7,.box [.L r.2.L,.I r.2.At])]):=by
  unfold Fj at h
  refine bh Tryz.func111 R (nT Tryz.ntmps111 R) (LH.aj R (sN (hD (id:=104) R sq R R zQ)) ?_)
  obtain ⟨r1,dR,h⟩:=ae h
  obtain ⟨r2,hr2,h⟩:=ae h
  obtain ⟨r3,hr3,h⟩:=ae h
  refine LH.ax [(0,.ptr 7 0),(1,.I p1),(4,.ptr 104 0),(5,.ptr 105 0)] [(7,.box [.L r3.2.L,.I r3.2.At]),(104,.box [.I 0,.I 0,.I 0,.I 0,.I 0,.I 0]),(105,.box [.I 1,.I r1.1,.I r2.1,.I r3.1,.I 0,.I 0])] R (iA R (sN (ej (args:=[.ptr 7 0,.I 1,.I 12]) (ml:=[(7,.box [.L p0.L,.I p0.At])]) (cS:=[(7,.box [.L r1.2.L,.I r1.2.At])]) R km R (aw (aw (aw bl))) (o8 dR) (mC R mN) (bu R bX) R (iA R (sN (ej (args:=[.ptr 7 0,.I 4]) (ml:=[(7,.box [.L r1.2.L,.I r1.2.At])]) (cS:=[(7,.box [.L r2.2.L,.I r2.2.At])]) R iu R (aw (aw bl)) (lz hr2) (mC R mN) (bu R bX) R (iA R (sN (ej (args:=[.ptr 7 0,.I 3]) (ml:=[(7,.box [.L r2.2.L,.I r2.2.At])]) (cS:=[(7,.box [.L r3.2.L,.I r3.2.At])]) R iu R (aw (aw bl)) (lz hr3) (mC R mN) (bu R bX) R (sN (gJ (vs:=[(0,.I 1),(1,.I r1.1),(2,.I r2.1),(3,.I r3.1)]) NU sq R (lf qx aW aD R R R (lf kO aW aD R R R (lf qy aW aD R R R (lf qz aW aD R R R gI)))) (sN (hD (id:=105) R sq R R (s_ (cM R R R cT cF R R R zS))))))))))))))) (LH.mid (fun e m=>∃ (l4:List Int) (n5:Int) (n6:Int) (n7:Int) (n8:Int) (n9:Int),Fk p1 r2 r3 l4 n5 n6 n7 n8 n9=some r∧Wk (fun id=>Mem.of [(7,.box [.L p0.L,.I p0.At])] id ≠ .none) e m (Env.of [(0,.ptr 7 0),(1,.I p1),(4,.ptr 104 0),(5,.ptr 105 0)]) (Mem.of [(7,.box [.L l4,.I n5]),(104,.box [.I 0,.I 0,.I 0,.I 0,.I 0,.I 0]),(105,.box [.I n6,.I n7,.I r2.1,.I r3.1,.I n8,.I n9])])) ?_ ?_)
  ·obtain ⟨oH,CH,h⟩:=ae h
   refine LH.aj R (iA R (sN (ej (args:=[.ptr 7 0,.I 3]) (ml:=[(7,.box [.L r3.2.L,.I r3.2.At])]) (cS:=[(7,.box [.L oH.2.L,.I oH.2.At])]) R iu R (aw (aw bl)) (lz CH) (mC R mN) (bu R bX) R (sN (iX R R zQ))))) (LH.cond (t:=(oH.1 == 0)) R (fun qa=>?_) (fun qa=>?_))
   ·replace h:=aB h qa
    obtain ⟨ek,CI,h⟩:=ae h
    refine LH.aj R (iA R (sN (ej (args:=[.ptr 7 0,.I 2,.I 5]) (ml:=[(7,.box [.L oH.2.L,.I oH.2.At])]) (cS:=[(7,.box [.L ek.2.L,.I ek.2.At])]) R km R (aw (aw (aw bl))) (o8 CI) (mC R mN) (bu R bX) R (sN (fo qx aD aW R R (s_ (cM R R R aD aW R R R (sN (fo mL aD aW R R (s_ (cM R R R aD aW R R R zQ))))))))))) ?_
    obtain ⟨NG,Xb,h⟩:=ae h
    obtain ⟨ga,Io,h⟩:=ae h
    exact LH.bd R (iA R (sN (fo mL aD aW R R (sN (dv R R R R aD b5 (sN (ej (args:=[.ptr 7 0,.I ek.1]) (ml:=[(7,.box [.L ek.2.L,.I ek.2.At])]) (cS:=[(7,.box [.L NG.2.L,.I NG.2.At])]) R iu R (aw (aw bl)) (lz Xb) (mC R mN) (bu R bX) R (iA R (sN (ej (args:=[.ptr 7 0,.I 1,.I 3]) (ml:=[(7,.box [.L NG.2.L,.I NG.2.At])]) (cS:=[(7,.box [.L ga.2.L,.I ga.2.At])]) R km R (aw (aw (aw bl))) (o8 Io) (mC R mN) (bu R bX) R (sN (fo qA aD aW R R (s_ (cM R R R aD aW R R R (sN (fo kO aD aW R R (s_ (cM R R R aD aW R R R zQ)))))))))))))))))) (ai ⟨ga.2.L,ga.2.At,2,ga.1,ek.1,NG.1,h,Wk.eq R R R R⟩)
   replace h:=aA h qa
   exact LH.skip (ai ⟨oH.2.L,oH.2.At,1,r1.1,0,0,h,Wk.eq R R R R⟩)
  clear h
  rintro e m ⟨l4,n5,n6,n7,n8,n9,h,hw⟩
  refine LH.wk hw ?_
  clear hw
  unfold Fk at h
  refine LH.seq ?_
  obtain ⟨xS,hv,h⟩:=ae h
  refine LH.ax [(0,.ptr 7 0),(4,.ptr 104 0),(5,.ptr 105 0),(34,.bool xS.1)] [(7,.box [.L xS.2.1,.I xS.2.2]),(104,.box [.I 0,.I 0,.I 0,.I 0,.I 0,.I 0]),(105,.box [.I n6,.I n7,.I r2.1,.I r3.1,.I n8,.I n9])] R ?_ ?_
  ·refine aZ R (sN (jf R R (bZ R ?_)))
   by_cases c9:(decide (p1 > 0))=true
   ·replace hv:=aB hv c9
    refine sT R (cB c9) (oM (v:=(.ptr _ _)) R (sT R (cB c9) (oM (v:=(.int _ _)) R ?_)))
    obtain ⟨kC,ym,hv⟩:=ae hv
    refine sT R (cB c9) (ej (args:=[.ptr 7 0,.I p1]) (ml:=[(7,.box [.L l4,.I n5])]) (cS:=[(7,.box [.L kC.2.L,.I kC.2.At])]) R wI R (aw (aw bl)) (Fi ym) (mC R mN) (bu R bX) R (sN (aY (cB c9) (v:=(.bool _)) R ?_)))
    obtain rfl:=oI hv
    exact zS
   ·replace c9:=bF c9
    replace hv:=aA hv c9
    refine sF R R c9 (sF R R c9 (sF R R c9 (sN (bc (cB c9) (v:=(.bool _)) R ?_))))
    obtain rfl:=oI hv
    exact zS
  clear hv
  refine LH.cond (t:=xS.1) R (fun ke=>?_) (fun ke=>?_)
  ·replace h:=aB h ke
   obtain ⟨fp,CG,h⟩:=ae h
   refine LH.aj R (iA R (sN (ej (args:=[.ptr 7 0,.I 6]) (ml:=[(7,.box [.L xS.2.1,.I xS.2.2])]) (cS:=[(7,.box [.L fp.2.L,.I fp.2.At])]) R iu R (aw (aw bl)) (lz CG) (mC R mN) (bu R bX) R zQ))) (LH.block (LH.aj R (sN (iX R R (cr R zQ))) (LH.cond (t:=(fp.1 == 0)) R (fun tR=>?_) (fun tR=>?_))))
   ·replace h:=aB h tR
    obtain ⟨qK,Ij,h⟩:=ae h
    refine LH.df [(4,.ptr 104 0),(5,.sptr [.I qK.1,.I n7,.I r2.1,.I r3.1,.I n8,.I n9])] [(7,.box [.L qK.2.L,.I qK.2.At]),(104,.box [.I 0,.I 0,.I 0,.I 0,.I 0,.I 0])] R (iA R (sN (ej (args:=[.ptr 7 0,.I (-1),.I 3]) (ml:=[(7,.box [.L fp.2.L,.I fp.2.At])]) (cS:=[(7,.box [.L qK.2.L,.I qK.2.At])]) R km R (aw (aw (aw bl))) (o8 Ij) (mC R mN) (bu R bX) R (sN (fo qx aD aW R R (s_ (cM R R R aD aW R R R (s0 ((Wk.trans (bM [(4,.ptr 104 0),(5,.ptr 105 0)] [(7,.box [.L qK.2.L,.I qK.2.At]),(104,.box [.I 0,.I 0,.I 0,.I 0,.I 0,.I 0]),(105,.box [.I qK.1,.I n7,.I r2.1,.I r3.1,.I n8,.I n9])]) (Wk.trans (Wk.bD 105 [.I qK.1,.I n7,.I r2.1,.I r3.1,.I n8,.I n9] R R R (cc R)) (Wk.eq R R R R)))))))))))) (aQ (ai (LH.ax [(4,.sptr [.I qK.1,.I n7,.I r2.1,.I r3.1,.I n8,.I n9])] [(7,.box [.L qK.2.L,.I qK.2.At])] R (sN (bw R cT fb cF R R (s_ (cM R R R cT cF R R R (s0 ((Wk.trans (bM [(4,.ptr 104 0)] [(7,.box [.L qK.2.L,.I qK.2.At]),(104,.box [.I qK.1,.I n7,.I r2.1,.I r3.1,.I n8,.I n9])]) (Wk.trans (Wk.bD 104 [.I qK.1,.I n7,.I r2.1,.I r3.1,.I n8,.I n9] R R R (cc R)) (Wk.eq R R R R))))))))) (LH.ret ?_))))
    obtain rfl:=oI h
    exact aJ (aT Tryz.results111) (dN R cT fb cF R R (bP ⟨aG (mC R mN),R,aN R,Sub.rfl⟩))
   replace h:=aA h tR
   refine LH.aj R (sN (iX R R (cr R zQ))) (LH.cond (t:=(fp.1 == 1)) R (fun jz=>?_) (fun jz=>?_))
   ·replace h:=aB h jz
    obtain ⟨er,yp,h⟩:=ae h
    refine LH.df [(4,.ptr 104 0),(5,.sptr [.I n6,.I er.1,.I r2.1,.I r3.1,.I n8,.I n9])] [(7,.box [.L er.2.L,.I er.2.At]),(104,.box [.I 0,.I 0,.I 0,.I 0,.I 0,.I 0])] R (iA R (sN (jU (f:=LV.I) (ys:=[0,40,41,(-1)]) bU qL aW R R R jB (sN (ej (args:=[.ptr 7 0,.L [0,40,41,(-1)]]) (ml:=[(7,.box [.L fp.2.L,.I fp.2.At])]) (cS:=[(7,.box [.L er.2.L,.I er.2.At])]) R zO R (aw (aw bl)) (Hf yp) (mC R mN) (bu R bX) R (sN (fo kO aD aW R R (s_ (cM R R R aD aW R R R (s0 ((Wk.trans (bM [(4,.ptr 104 0),(5,.ptr 105 0)] [(7,.box [.L er.2.L,.I er.2.At]),(104,.box [.I 0,.I 0,.I 0,.I 0,.I 0,.I 0]),(105,.box [.I n6,.I er.1,.I r2.1,.I r3.1,.I n8,.I n9])]) (Wk.trans (Wk.bD 105 [.I n6,.I er.1,.I r2.1,.I r3.1,.I n8,.I n9] R R R (cc R)) (Wk.eq R R R R)))))))))))))) (aQ (ai (LH.ax [(4,.sptr [.I n6,.I er.1,.I r2.1,.I r3.1,.I n8,.I n9])] [(7,.box [.L er.2.L,.I er.2.At])] R (sN (bw R cT fb cF R R (s_ (cM R R R cT cF R R R (s0 ((Wk.trans (bM [(4,.ptr 104 0)] [(7,.box [.L er.2.L,.I er.2.At]),(104,.box [.I n6,.I er.1,.I r2.1,.I r3.1,.I n8,.I n9])]) (Wk.trans (Wk.bD 104 [.I n6,.I er.1,.I r2.1,.I r3.1,.I n8,.I n9] R R R (cc R)) (Wk.eq R R R R))))))))) (LH.ret ?_))))
    obtain rfl:=oI h
    exact aJ (aT Tryz.results111) (dN R cT fb cF R R (bP ⟨aG (mC R mN),R,aN R,Sub.rfl⟩))
   replace h:=aA h jz
   refine LH.aj R (sN (iX R R (cr R zQ))) (LH.cond (t:=(fp.1 == 2)) R (fun mg=>?_) (fun mg=>?_))
   ·replace h:=aB h mg
    obtain ⟨rr,O2,h⟩:=ae h
    refine LH.df [(4,.ptr 104 0),(5,.sptr [.I n6,.I n7,.I rr.1,.I r3.1,.I n8,.I n9])] [(7,.box [.L rr.2.L,.I rr.2.At]),(104,.box [.I 0,.I 0,.I 0,.I 0,.I 0,.I 0])] R (iA R (sN (ej (args:=[.ptr 7 0]) (ml:=[(7,.box [.L fp.2.L,.I fp.2.At])]) (cS:=[(7,.box [.L rr.2.L,.I rr.2.At])]) R wJ R (aw bl) (Fl O2) (mC R mN) (bu R bX) R (sN (fo qy aD aW R R (s_ (cM R R R aD aW R R R (s0 ((Wk.trans (bM [(4,.ptr 104 0),(5,.ptr 105 0)] [(7,.box [.L rr.2.L,.I rr.2.At]),(104,.box [.I 0,.I 0,.I 0,.I 0,.I 0,.I 0]),(105,.box [.I n6,.I n7,.I rr.1,.I r3.1,.I n8,.I n9])]) (Wk.trans (Wk.bD 105 [.I n6,.I n7,.I rr.1,.I r3.1,.I n8,.I n9] R R R (cc R)) (Wk.eq R R R R)))))))))))) (aQ (ai (LH.ax [(4,.sptr [.I n6,.I n7,.I rr.1,.I r3.1,.I n8,.I n9])] [(7,.box [.L rr.2.L,.I rr.2.At])] R (sN (bw R cT fb cF R R (s_ (cM R R R cT cF R R R (s0 ((Wk.trans (bM [(4,.ptr 104 0)] [(7,.box [.L rr.2.L,.I rr.2.At]),(104,.box [.I n6,.I n7,.I rr.1,.I r3.1,.I n8,.I n9])]) (Wk.trans (Wk.bD 104 [.I n6,.I n7,.I rr.1,.I r3.1,.I n8,.I n9] R R R (cc R)) (Wk.eq R R R R))))))))) (LH.ret ?_))))
    obtain rfl:=oI h
    exact aJ (aT Tryz.results111) (dN R cT fb cF R R (bP ⟨aG (mC R mN),R,aN R,Sub.rfl⟩))
   replace h:=aA h mg
   refine LH.aj R (sN (iX R R (cr R zQ))) (LH.cond (t:=(fp.1 == 3)) R (fun vM=>?_) (fun vM=>?_))
   ·replace h:=aB h vM
    obtain ⟨sA,O3,h⟩:=ae h
    refine LH.df [(4,.ptr 104 0),(5,.sptr [.I n6,.I n7,.I r2.1,.I sA.1,.I n8,.I n9])] [(7,.box [.L sA.2.L,.I sA.2.At]),(104,.box [.I 0,.I 0,.I 0,.I 0,.I 0,.I 0])] R (iA R (sN (ej (args:=[.ptr 7 0]) (ml:=[(7,.box [.L fp.2.L,.I fp.2.At])]) (cS:=[(7,.box [.L sA.2.L,.I sA.2.At])]) R wJ R (aw bl) (Fl O3) (mC R mN) (bu R bX) R (sN (fo qz aD aW R R (s_ (cM R R R aD aW R R R (s0 ((Wk.trans (bM [(4,.ptr 104 0),(5,.ptr 105 0)] [(7,.box [.L sA.2.L,.I sA.2.At]),(104,.box [.I 0,.I 0,.I 0,.I 0,.I 0,.I 0]),(105,.box [.I n6,.I n7,.I r2.1,.I sA.1,.I n8,.I n9])]) (Wk.trans (Wk.bD 105 [.I n6,.I n7,.I r2.1,.I sA.1,.I n8,.I n9] R R R (cc R)) (Wk.eq R R R R)))))))))))) (aQ (ai (LH.ax [(4,.sptr [.I n6,.I n7,.I r2.1,.I sA.1,.I n8,.I n9])] [(7,.box [.L sA.2.L,.I sA.2.At])] R (sN (bw R cT fb cF R R (s_ (cM R R R cT cF R R R (s0 ((Wk.trans (bM [(4,.ptr 104 0)] [(7,.box [.L sA.2.L,.I sA.2.At]),(104,.box [.I n6,.I n7,.I r2.1,.I sA.1,.I n8,.I n9])]) (Wk.trans (Wk.bD 104 [.I n6,.I n7,.I r2.1,.I sA.1,.I n8,.I n9] R R R (cc R)) (Wk.eq R R R R))))))))) (LH.ret ?_))))
    obtain rfl:=oI h
    exact aJ (aT Tryz.results111) (dN R cT fb cF R R (bP ⟨aG (mC R mN),R,aN R,Sub.rfl⟩))
   replace h:=aA h vM
   refine LH.aj R (sN (iX R R (cr R zQ))) (LH.cond (t:=(fp.1 == 4)) R (fun tS=>?_) (fun tS=>?_))
   ·replace h:=aB h tS
    obtain ⟨yG,Xa,h⟩:=ae h
    refine LH.df [(4,.ptr 104 0),(5,.sptr [.I n6,.I n7,.I r2.1,.I r3.1,.I yG.1,.I n9])] [(7,.box [.L yG.2.L,.I yG.2.At]),(104,.box [.I 0,.I 0,.I 0,.I 0,.I 0,.I 0])] R (iA R (sN (ej (args:=[.ptr 7 0,.I (-1),.I 6]) (ml:=[(7,.box [.L fp.2.L,.I fp.2.At])]) (cS:=[(7,.box [.L yG.2.L,.I yG.2.At])]) R km R (aw (aw (aw bl))) (o8 Xa) (mC R mN) (bu R bX) R (sN (fo mL aD aW R R (s_ (cM R R R aD aW R R R (s0 ((Wk.trans (bM [(4,.ptr 104 0),(5,.ptr 105 0)] [(7,.box [.L yG.2.L,.I yG.2.At]),(104,.box [.I 0,.I 0,.I 0,.I 0,.I 0,.I 0]),(105,.box [.I n6,.I n7,.I r2.1,.I r3.1,.I yG.1,.I n9])]) (Wk.trans (Wk.bD 105 [.I n6,.I n7,.I r2.1,.I r3.1,.I yG.1,.I n9] R R R (cc R)) (Wk.eq R R R R)))))))))))) (aQ (ai (LH.ax [(4,.sptr [.I n6,.I n7,.I r2.1,.I r3.1,.I yG.1,.I n9])] [(7,.box [.L yG.2.L,.I yG.2.At])] R (sN (bw R cT fb cF R R (s_ (cM R R R cT cF R R R (s0 ((Wk.trans (bM [(4,.ptr 104 0)] [(7,.box [.L yG.2.L,.I yG.2.At]),(104,.box [.I n6,.I n7,.I r2.1,.I r3.1,.I yG.1,.I n9])]) (Wk.trans (Wk.bD 104 [.I n6,.I n7,.I r2.1,.I r3.1,.I yG.1,.I n9] R R R (cc R)) (Wk.eq R R R R))))))))) (LH.ret ?_))))
    obtain rfl:=oI h
    exact aJ (aT Tryz.results111) (dN R cT fb cF R R (bP ⟨aG (mC R mN),R,aN R,Sub.rfl⟩))
   replace h:=aA h tS
   obtain ⟨pT,Im,h⟩:=ae h
   refine LH.df [(4,.ptr 104 0),(5,.sptr [.I n6,.I n7,.I r2.1,.I r3.1,.I n8,.I pT.1])] [(7,.box [.L pT.2.L,.I pT.2.At]),(104,.box [.I 0,.I 0,.I 0,.I 0,.I 0,.I 0])] R (iA R (sN (ej (args:=[.ptr 7 0,.I (-1),.I 5]) (ml:=[(7,.box [.L fp.2.L,.I fp.2.At])]) (cS:=[(7,.box [.L pT.2.L,.I pT.2.At])]) R km R (aw (aw (aw bl))) (o8 Im) (mC R mN) (bu R bX) R (sN (fo qA aD aW R R (s_ (cM R R R aD aW R R R (s0 ((Wk.trans (bM [(4,.ptr 104 0),(5,.ptr 105 0)] [(7,.box [.L pT.2.L,.I pT.2.At]),(104,.box [.I 0,.I 0,.I 0,.I 0,.I 0,.I 0]),(105,.box [.I n6,.I n7,.I r2.1,.I r3.1,.I n8,.I pT.1])]) (Wk.trans (Wk.bD 105 [.I n6,.I n7,.I r2.1,.I r3.1,.I n8,.I pT.1] R R R (cc R)) (Wk.eq R R R R)))))))))))) (aQ (ai (LH.ax [(4,.sptr [.I n6,.I n7,.I r2.1,.I r3.1,.I n8,.I pT.1])] [(7,.box [.L pT.2.L,.I pT.2.At])] R (sN (bw R cT fb cF R R (s_ (cM R R R cT cF R R R (s0 ((Wk.trans (bM [(4,.ptr 104 0)] [(7,.box [.L pT.2.L,.I pT.2.At]),(104,.box [.I n6,.I n7,.I r2.1,.I r3.1,.I n8,.I pT.1])]) (Wk.trans (Wk.bD 104 [.I n6,.I n7,.I r2.1,.I r3.1,.I n8,.I pT.1] R R R (cc R)) (Wk.eq R R R R))))))))) (LH.ret ?_))))
   obtain rfl:=oI h
   exact aJ (aT Tryz.results111) (dN R cT fb cF R R (bP ⟨aG (mC R mN),R,aN R,Sub.rfl⟩))
  replace h:=aA h ke
  refine LH.skip (ai (LH.wk ((Wk.trans (bM [(4,.ptr 104 0),(5,.ptr 105 0)] [(7,.box [.L xS.2.1,.I xS.2.2]),(104,.box [.I 0,.I 0,.I 0,.I 0,.I 0,.I 0]),(105,.box [.I n6,.I n7,.I r2.1,.I r3.1,.I n8,.I n9])]) (Wk.trans (Wk.bD 105 [.I n6,.I n7,.I r2.1,.I r3.1,.I n8,.I n9] R R R (cc R)) (bM [(4,.ptr 104 0),(5,.sptr [.I n6,.I n7,.I r2.1,.I r3.1,.I n8,.I n9])] [(7,.box [.L xS.2.1,.I xS.2.2]),(104,.box [.I 0,.I 0,.I 0,.I 0,.I 0,.I 0])])))) (LH.ax [(4,.sptr [.I n6,.I n7,.I r2.1,.I r3.1,.I n8,.I n9])] [(7,.box [.L xS.2.1,.I xS.2.2])] R (sN (bw R cT fb cF R R (s_ (cM R R R cT cF R R R (s0 ((Wk.trans (bM [(4,.ptr 104 0)] [(7,.box [.L xS.2.1,.I xS.2.2]),(104,.box [.I n6,.I n7,.I r2.1,.I r3.1,.I n8,.I n9])]) (Wk.trans (Wk.bD 104 [.I n6,.I n7,.I r2.1,.I r3.1,.I n8,.I n9] R R R (cc R)) (Wk.eq R R R R))))))))) (LH.ret ?_))))
  obtain rfl:=oI h
  exact aJ (aT Tryz.results111) (dN R cT fb cF R R (bP ⟨aG (mC R mN),R,aN R,Sub.rfl⟩))
set_option maxHeartbeats 4000000 in
theorem V5 {F:Nat} {p0:aU} {p1:Int} {p2:Int} {p3:Int} {r:ab × aU} (h:Hb F p0 p1 p2 p3=some r):aF Tryz.prog 62 [.ptr 7 0,.I p1,.I p2,.I p3] (Mem.of [(7,.box [.L p0.L,.I p0.At])]) (ab.lv r.1) (Mem.of [(7,.box [.L r.2.L,.I r.2.At])]):=by
  unfold Hb at h
  refine bh Tryz.func62 R (nT Tryz.ntmps62 R) (LH.aj R (sN (hD (id:=108) R jO R R zQ)) ?_)
  obtain ⟨r1,dR,h⟩:=ae h
  obtain ⟨t2,Xz,h⟩:=ae h
  refine LH.aj R (aZ R (aZ R (iA R (sN (ej (args:=[.ptr 7 0,.I 3]) (ml:=[(7,.box [.L p0.L,.I p0.At])]) (cS:=[(7,.box [.L r1.2.L,.I r1.2.At])]) R Py R (aw (aw bl)) (V8 dR) (mC R mN) (bu R bX) R (sX ((Ep R R Xz).ok) (sN (gJ (vs:=[(0,.I p1),(1,.I p2),(2,.str t2)]) E7 jO R (lf dZ aW aD R R R (lf gh aW aD R R R (lf kN Kw B8 R R R gI))) (sN (hD (id:=109) R jO R R (s_ (cM R R R bA bn R R R zQ)))))))))))) (LH.seq ?_)
  obtain ⟨r3,hr3,h⟩:=ae h
  refine LH.aj R (iA R (sN (ej (args:=[.ptr 7 0,.I 1,.I 3]) (ml:=[(7,.box [.L r1.2.L,.I r1.2.At])]) (cS:=[(7,.box [.L r3.2.L,.I r3.2.At])]) R km R (aw (aw (aw bl))) (o8 hr3) (mC R mN) (bu R bX) R (br R zQ)))) (LH.block (LH.wk ((Wk.trans (bM [(0,.ptr 7 0),(1,.I p1),(3,.I p3),(8,.ptr 108 0),(9,.ptr 109 0),(10,.I r3.1)] [(7,.box [.L r3.2.L,.I r3.2.At]),(108,.box gQ),(109,.box [.I p1,.I p2,.str t2,.nil,.nil])]) (Wk.trans (bM [(0,.ptr 7 0),(1,.I p1),(3,.I p3),(8,.ptr 108 0),(9,.ptr 109 0),(10,.I r3.1)] [(7,.box [.L r3.2.L,.I r3.2.At]),(108,.box gQ),(109,.box [.I p1,.I p2,.str t2,.nil,.nil])]) (Wk.trans (Wk.oa 129 185 6 109 3 R R R R R (cc R)) (bM [(0,.ptr 7 0),(1,.I p1),(3,.I p3),(8,.ptr 108 0),(9,.ptr 109 0),(10,.I r3.1)] [(7,.box [.L r3.2.L,.I r3.2.At]),(108,.box gQ),(109,.box [.I p1,.I p2,.str t2,.arr 129 (List.length ([]:List ag)),.nil]),(129,.arr 185 6 (List.map ag.lv ([]:List ag)))]))))) (LH.loop (fun n e m=>∃ (n4:Int) (l5:List Int) (n6:Int) (l7:List ag),Hc F p1 p2 p3 t2 n n4 l5 n6 l7=some r∧e=Env.of [(0,.ptr 7 0),(1,.I p1),(3,.I p3),(8,.ptr 108 0),(9,.ptr 109 0),(10,.I n4)]∧m=Mem.of [(7,.box [.L l5,.I n6]),(108,.box gQ),(109,.box [.I p1,.I p2,.str t2,.arr 129 l7.length,.nil]),(129,.arr 185 6 (l7.map ag.lv))]) F ⟨r3.1,r3.2.L,r3.2.At,([]:List ag),h,R,R⟩ ?_)))
  clear h
  rintro n e m ⟨n4,l5,n6,l7,h,rfl,rfl⟩
  rcases n with _ | n
  · cases (show Option.none=some _ from h)
  obtain ⟨aH,aI⟩:∃ f,f=Hc F p1 p2 p3 t2 n:=⟨_,rfl⟩
  replace h:Hd F p1 p2 p3 t2 aH n4 l5 n6 l7=some r:=aI ▸ h
  unfold Hd at h
  refine LH.seq (LH.aj R (aZ R (sN (jf R R zQ))) (LH.cond (t:=(decide (n4 > 0))) R (fun kf=>?_) (fun kf=>?_)))
  ·replace h:=aB h kf
   refine LH.skip (ai (LH.seq (LH.block ?_)))
   obtain ⟨r9,CK,h⟩:=ae h
   obtain ⟨v10,It,h⟩:=ae h
   refine LH.pE mixed [] [0,1109,0,100007,0,2,0,100109] [(0,.ptr 7 0),(1,.I p1),(3,.I p3),(8,.ptr 108 0),(9,.ptr 109 0),(10,.I n4)] [(7,.box [.L r9.2.L,.I r9.2.At]),(108,.box gQ),(109,.box [.I p1,.I p2,.str t2,.arr 129 v10.length,.nil]),(129,.arr 185 6 (v10.map ag.lv))] R R (by kernel_rfl) (aX (fo dA cE dP R R ⟨R,mD R R R (fun _ b _ d=>dv R b R R cE gf d) (F7 R (mW R R R (fun _ b _ d=>ej (args:=[.ptr 7 0,.I 0]) (ml:=[(7,.box [.L l5,.I n6])]) (cS:=[(7,.box [.L r9.2.L,.I r9.2.At])]) R Iy R (aw (aw bl)) (RP CK) (mC b mN) (bu R bX) R d) (aX (jU (f:=ag.lv) (ys:=[r9.1]) eP sm cF R R R ag.ok ⟨R,yt (rT (f:=ag.lv) eP sm cF R R (cc R) R It (aX (fo dA cE dP R R ⟨R,mS R R R (fun _ b _ d=>cM R R R cE dP b R R d) zM⟩)))⟩))))⟩)) (aQ (ai (LH.bd R (aZ R (sN (kq R R (br R zQ)))) ?_)))
   exact a7 ⟨(i64 (n4 - 1)),r9.2.L,r9.2.At,v10,aI ▸ h,R,R⟩ (Wk.eq R R R R)
  replace h:=aA h kf
  refine LH.exit (cg (bO (bK (ai (LH.seq (LH.aj R (br R zQ) (LH.block (LH.wk ((Wk.trans (bM [(0,.ptr 7 0),(1,.I p1),(3,.I p3),(8,.ptr 108 0),(9,.ptr 109 0),(11,.I 0)] [(7,.box [.L l5,.I n6]),(108,.box gQ),(109,.box [.I p1,.I p2,.str t2,.arr 129 l7.length,.nil]),(129,.arr 185 6 (l7.map ag.lv))]) (Wk.trans (bM [(0,.ptr 7 0),(1,.I p1),(3,.I p3),(8,.ptr 108 0),(9,.ptr 109 0),(11,.I 0)] [(7,.box [.L l5,.I n6]),(108,.box gQ),(109,.box [.I p1,.I p2,.str t2,.arr 129 l7.length,.nil]),(129,.arr 185 6 (l7.map ag.lv))]) (Wk.trans (Wk.oa 146 3 1 109 4 R R R R R (cc R)) (bM [(0,.ptr 7 0),(1,.I p1),(3,.I p3),(8,.ptr 108 0),(9,.ptr 109 0),(11,.I 0)] [(7,.box [.L l5,.I n6]),(108,.box gQ),(109,.box [.I p1,.I p2,.str t2,.arr 129 l7.length,.arr 146 (List.length ([]:List Int))]),(129,.arr 185 6 (l7.map ag.lv)),(146,.arr 3 1 (List.map LV.I ([]:List Int)))]))))) (LH.loop (fun n e m=>∃ (n11:Int) (wR:List Int) (n13:Int) (dD:List Int),Fh p1 p2 p3 t2 l7 n n11 wR n13 dD=some r∧e=Env.of [(0,.ptr 7 0),(1,.I p1),(3,.I p3),(8,.ptr 108 0),(9,.ptr 109 0),(11,.I n11)]∧m=Mem.of [(7,.box [.L wR,.I n13]),(108,.box gQ),(109,.box [.I p1,.I p2,.str t2,.arr 129 l7.length,.arr 146 dD.length]),(129,.arr 185 6 (l7.map ag.lv)),(146,.arr 3 1 (dD.map LV.I))]) F ⟨0,l5,n6,([]:List Int),h,R,R⟩ ?_)))))))))
  clear h
  rintro n e m ⟨n11,wR,n13,dD,h,rfl,rfl⟩
  rcases n with _ | n
  · cases (show Option.none=some _ from h)
  obtain ⟨fH,eU⟩:∃ f,f=Fh p1 p2 p3 t2 l7 n:=⟨_,rfl⟩
  replace h:He p1 p2 p3 t2 l7 fH n11 wR n13 dD=some r:=eU ▸ h
  unfold He at h
  refine LH.seq (LH.aj R (aZ R (sN (eG R R zQ))) (LH.cond (t:=(decide (n11<6))) R (fun kD=>?_) (fun kD=>?_)))
  ·replace h:=aB h kD
   refine LH.skip (ai (LH.seq (LH.block ?_)))
   obtain ⟨Fb,hv,h⟩:=ae h
   refine LH.ax [(0,.ptr 7 0),(1,.I p1),(3,.I p3),(8,.ptr 108 0),(9,.ptr 109 0),(11,.I n11),(41,.bool Fb.1)] [(7,.box [.L Fb.2.1,.I Fb.2.2]),(108,.box gQ),(109,.box [.I p1,.I p2,.str t2,.arr 129 l7.length,.arr 146 dD.length]),(129,.arr 185 6 (l7.map ag.lv)),(146,.arr 3 1 (dD.map LV.I))] R ?_ ?_
   ·refine aZ R (aZ R (sN (iC R R (bZ R ?_))))
    by_cases vK:(n11 != p1)=true
    ·replace hv:=aB hv vK
     refine sT R (cB vK) (oM (v:=(.ptr _ _)) R ?_)
     obtain ⟨er,yp,hv⟩:=ae hv
     refine sT R (cB vK) (ej (args:=[.ptr 7 0,.I 8]) (ml:=[(7,.box [.L wR,.I n13])]) (cS:=[(7,.box [.L er.2.L,.I er.2.At])]) R wI R (aw (aw bl)) (Fi yp) (mC R mN) (bu R bX) R (sN (aY (cB vK) (v:=(.bool _)) R ?_)))
     obtain rfl:=oI hv
     exact zS
    ·replace vK:=bF vK
     replace hv:=aA hv vK
     refine sF R R vK (sF R R vK (sN (bc (cB vK) (v:=(.bool _)) R ?_)))
     obtain rfl:=oI hv
     exact zS
   clear hv
   refine LH.cond (t:=Fb.1) R (fun mg=>?_) (fun mg=>?_)
   ·replace h:=aB h mg
    obtain ⟨v23,Iu,h⟩:=ae h
    refine LH.bd R (sN (fo hT cm dQ R R (sN (dv R R R R cm eu (aZ R (sN (jU (f:=LV.I) (ys:=[n11]) bU qL aW R R R jB (sN (rT (f:=LV.I) bU qL aW R R (cc R) R Iu (sN (fo hT cm dQ R R (s_ (cM R R R cm dQ R R R zQ))))))))))))) (aQ (ai (LH.bd R (aZ R (sN (b8 R R (br R zQ)))) ?_)))
    exact a7 ⟨(i64 (n11+1)),Fb.2.1,Fb.2.2,v23,eU ▸ h,R,R⟩ (Wk.eq R R R R)
   replace h:=aA h mg
   refine LH.skip (aQ (ai (LH.bd R (aZ R (sN (b8 R R (br R zQ)))) ?_)))
   exact a7 ⟨(i64 (n11+1)),Fb.2.1,Fb.2.2,dD,eU ▸ h,R,R⟩ (Wk.eq R R R R)
  replace h:=aA h kD
  refine LH.exit (cg (bO (bK (ai (LH.seq ?_)))))
  obtain ⟨qN,hv,h⟩:=ae h
  refine LH.ax [(0,.ptr 7 0),(1,.I p1),(8,.ptr 108 0),(9,.ptr 109 0),(54,.bool qN.1)] [(7,.box [.L qN.2.1,.I qN.2.2]),(108,.box gQ),(109,.box [.I p1,.I p2,.str t2,.arr 129 l7.length,.arr 146 dD.length]),(129,.arr 185 6 (l7.map ag.lv)),(146,.arr 3 1 (dD.map LV.I))] R ?_ ?_
  ·refine aZ R (sN (jf R R (bZ R ?_)))
   by_cases su:(decide (p3 > 0))=true
   ·replace hv:=aB hv su
    refine sT R (cB su) (oM (v:=(.ptr _ _)) R (sT R (cB su) (oM (v:=(.int _ _)) R ?_)))
    obtain ⟨oH,CH,hv⟩:=ae hv
    refine sT R (cB su) (ej (args:=[.ptr 7 0,.I p3]) (ml:=[(7,.box [.L wR,.I n13])]) (cS:=[(7,.box [.L oH.2.L,.I oH.2.At])]) R wI R (aw (aw bl)) (Fi CH) (mC R mN) (bu R bX) R (sN (aY (cB su) (v:=(.bool _)) R ?_)))
    obtain rfl:=oI hv
    exact zS
   ·replace su:=bF su
    replace hv:=aA hv su
    refine sF R R su (sF R R su (sF R R su (sN (bc (cB su) (v:=(.bool _)) R ?_))))
    obtain rfl:=oI hv
    exact zS
  clear hv
  refine LH.cond (t:=qN.1) R (fun qa=>?_) (fun qa=>?_)
  ·replace h:=aB h qa
   obtain ⟨ek,CI,h⟩:=ae h
   refine LH.aj R (iA R (sN (ej (args:=[.ptr 7 0,.I 7]) (ml:=[(7,.box [.L qN.2.1,.I qN.2.2])]) (cS:=[(7,.box [.L ek.2.L,.I ek.2.At])]) R iu R (aw (aw bl)) (lz CI) (mC R mN) (bu R bX) R zQ))) (LH.block (LH.aj R (sN (iX R R (cr R zQ))) (LH.cond (t:=(ek.1 == 0)) R (fun pt=>?_) (fun pt=>?_))))
   ·replace h:=aB h pt
    obtain ⟨ga,Io,h⟩:=ae h
    refine LH.df [(8,.ptr 108 0),(9,.sptr [.I ga.1,.I p2,.str t2,.lst 6 (l7.map ag.lv),.L dD])] [(7,.box [.L ga.2.L,.I ga.2.At]),(108,.box gQ)] R (iA R (sN (ej (args:=[.ptr 7 0]) (ml:=[(7,.box [.L ek.2.L,.I ek.2.At])]) (cS:=[(7,.box [.L ga.2.L,.I ga.2.At])]) R wJ R (aw bl) (Fl Io) (mC R mN) (bu R bX) R (sN (fo dZ aD aW R R (s_ (cM R R R aD aW R R R (s0 ((Wk.trans (bM [(8,.ptr 108 0),(9,.ptr 109 0)] [(7,.box [.L ga.2.L,.I ga.2.At]),(108,.box gQ),(109,.box [.I ga.1,.I p2,.str t2,.arr 129 l7.length,.arr 146 dD.length]),(129,.arr 185 6 (l7.map ag.lv)),(146,.arr 3 1 (dD.map LV.I))]) (Wk.trans (bM [(8,.ptr 108 0),(9,.ptr 109 0)] [(7,.box [.L ga.2.L,.I ga.2.At]),(108,.box gQ),(109,.box [.I ga.1,.I p2,.str t2,.arr 129 l7.length,.arr 146 dD.length]),(129,.arr 185 6 (l7.map ag.lv)),(146,.arr 3 1 (dD.map LV.I))]) (Wk.trans (Wk.trans (Wk.ez (f:=ag.lv) 129 185 6 l7 109 R R R (cC R (cC R (cC R (gS (cC R gR))))) R R (cc R)) (bM [(8,.ptr 108 0),(9,.ptr 109 0)] [(7,.box [.L ga.2.L,.I ga.2.At]),(108,.box gQ),(109,.box [.I ga.1,.I p2,.str t2,.lst 6 (l7.map ag.lv),.arr 146 dD.length]),(146,.arr 3 1 (dD.map LV.I))])) (Wk.trans (bM [(8,.ptr 108 0),(9,.ptr 109 0)] [(7,.box [.L ga.2.L,.I ga.2.At]),(108,.box gQ),(109,.box [.I ga.1,.I p2,.str t2,.lst 6 (l7.map ag.lv),.arr 146 dD.length]),(146,.arr 3 1 (dD.map LV.I))]) (Wk.trans (Wk.trans (Wk.ez (f:=LV.I) 146 3 1 dD 109 R R R (cC R (cC R (cC R (cC R (gS gR))))) R R (cc R)) (bM [(8,.ptr 108 0),(9,.ptr 109 0)] [(7,.box [.L ga.2.L,.I ga.2.At]),(108,.box gQ),(109,.box [.I ga.1,.I p2,.str t2,.lst 6 (l7.map ag.lv),.L dD])])) (Wk.trans (Wk.bD 109 [.I ga.1,.I p2,.str t2,.lst 6 (l7.map ag.lv),.L dD] R R R (cc R)) (Wk.eq R R R R)))))))))))))))) (aQ (ai (LH.ax [(8,.sptr [.I ga.1,.I p2,.str t2,.lst 6 (l7.map ag.lv),.L dD])] [(7,.box [.L ga.2.L,.I ga.2.At])] R (sN (bw R bA c7 bn R R (s_ (cM R R R bA bn R R R (s0 ((Wk.trans (bM [(8,.ptr 108 0)] [(7,.box [.L ga.2.L,.I ga.2.At]),(108,.box [.I ga.1,.I p2,.str t2,.lst 6 (l7.map ag.lv),.L dD])]) (Wk.trans (Wk.bD 108 [.I ga.1,.I p2,.str t2,.lst 6 (l7.map ag.lv),.L dD] R R R (cc R)) (Wk.eq R R R R))))))))) (LH.ret ?_))))
    obtain rfl:=oI h
    exact aJ (aT Tryz.results62) (dN R bA c7 bn R R (bP ⟨aG (mC R mN),R,aN R,Sub.rfl⟩))
   replace h:=aA h pt
   refine LH.aj R (sN (iX R R (cr R zQ))) (LH.cond (t:=(ek.1 == 1)) R (fun Oz=>?_) (fun Oz=>?_))
   ·replace h:=aB h Oz
    obtain ⟨nC,O5,h⟩:=ae h
    refine LH.df [(8,.ptr 108 0),(9,.sptr [.I p1,.I nC.1,.str t2,.lst 6 (l7.map ag.lv),.L dD])] [(7,.box [.L nC.2.L,.I nC.2.At]),(108,.box gQ)] R (iA R (sN (jU (f:=LV.I) (ys:=[0,8,9,(-1)]) bU qL aW R R R jB (sN (ej (args:=[.ptr 7 0,.L [0,8,9,(-1)]]) (ml:=[(7,.box [.L ek.2.L,.I ek.2.At])]) (cS:=[(7,.box [.L nC.2.L,.I nC.2.At])]) R zO R (aw (aw bl)) (Hf O5) (mC R mN) (bu R bX) R (sN (fo gh aD aW R R (s_ (cM R R R aD aW R R R (s0 ((Wk.trans (bM [(8,.ptr 108 0),(9,.ptr 109 0)] [(7,.box [.L nC.2.L,.I nC.2.At]),(108,.box gQ),(109,.box [.I p1,.I nC.1,.str t2,.arr 129 l7.length,.arr 146 dD.length]),(129,.arr 185 6 (l7.map ag.lv)),(146,.arr 3 1 (dD.map LV.I))]) (Wk.trans (bM [(8,.ptr 108 0),(9,.ptr 109 0)] [(7,.box [.L nC.2.L,.I nC.2.At]),(108,.box gQ),(109,.box [.I p1,.I nC.1,.str t2,.arr 129 l7.length,.arr 146 dD.length]),(129,.arr 185 6 (l7.map ag.lv)),(146,.arr 3 1 (dD.map LV.I))]) (Wk.trans (Wk.trans (Wk.ez (f:=ag.lv) 129 185 6 l7 109 R R R (cC R (cC R (cC R (gS (cC R gR))))) R R (cc R)) (bM [(8,.ptr 108 0),(9,.ptr 109 0)] [(7,.box [.L nC.2.L,.I nC.2.At]),(108,.box gQ),(109,.box [.I p1,.I nC.1,.str t2,.lst 6 (l7.map ag.lv),.arr 146 dD.length]),(146,.arr 3 1 (dD.map LV.I))])) (Wk.trans (bM [(8,.ptr 108 0),(9,.ptr 109 0)] [(7,.box [.L nC.2.L,.I nC.2.At]),(108,.box gQ),(109,.box [.I p1,.I nC.1,.str t2,.lst 6 (l7.map ag.lv),.arr 146 dD.length]),(146,.arr 3 1 (dD.map LV.I))]) (Wk.trans (Wk.trans (Wk.ez (f:=LV.I) 146 3 1 dD 109 R R R (cC R (cC R (cC R (cC R (gS gR))))) R R (cc R)) (bM [(8,.ptr 108 0),(9,.ptr 109 0)] [(7,.box [.L nC.2.L,.I nC.2.At]),(108,.box gQ),(109,.box [.I p1,.I nC.1,.str t2,.lst 6 (l7.map ag.lv),.L dD])])) (Wk.trans (Wk.bD 109 [.I p1,.I nC.1,.str t2,.lst 6 (l7.map ag.lv),.L dD] R R R (cc R)) (Wk.eq R R R R)))))))))))))))))) (aQ (ai (LH.ax [(8,.sptr [.I p1,.I nC.1,.str t2,.lst 6 (l7.map ag.lv),.L dD])] [(7,.box [.L nC.2.L,.I nC.2.At])] R (sN (bw R bA c7 bn R R (s_ (cM R R R bA bn R R R (s0 ((Wk.trans (bM [(8,.ptr 108 0)] [(7,.box [.L nC.2.L,.I nC.2.At]),(108,.box [.I p1,.I nC.1,.str t2,.lst 6 (l7.map ag.lv),.L dD])]) (Wk.trans (Wk.bD 108 [.I p1,.I nC.1,.str t2,.lst 6 (l7.map ag.lv),.L dD] R R R (cc R)) (Wk.eq R R R R))))))))) (LH.ret ?_))))
    obtain rfl:=oI h
    exact aJ (aT Tryz.results62) (dN R bA c7 bn R R (bP ⟨aG (mC R mN),R,aN R,Sub.rfl⟩))
   replace h:=aA h Oz
   refine LH.aj R (sN (iX R R (cr R zQ))) (LH.cond (t:=(ek.1 == 2)) R (fun Cs=>?_) (fun Cs=>?_))
   ·replace h:=aB h Cs
    obtain ⟨oJ,O7,h⟩:=ae h
    obtain ⟨G7,XZ,h⟩:=ae h
    refine LH.df [(8,.ptr 108 0),(9,.sptr [.I p1,.I p2,.str G7,.lst 6 (l7.map ag.lv),.L dD])] [(7,.box [.L oJ.2.L,.I oJ.2.At]),(108,.box gQ)] R (sN (jU (f:=LV.str) (ys:=[(ByteArray.mk #[]),(ByteArray.mk #[116,97,98,9]),(ByteArray.mk #[48,49,50,51,52,53,54,55,56,57,48,49,50,51,52,53,54,55,56,57,48,49,50,51,52,53,54,55,56,57,48,49,50,51,52,53,54,55,56,57,120])]) NL tr9 Kw R R R ZN (iA R (sN (ej (args:=[.ptr 7 0,.I 3]) (ml:=[(7,.box [.L ek.2.L,.I ek.2.At])]) (cS:=[(7,.box [.L oJ.2.L,.I oJ.2.At])]) R iu R (aw (aw bl)) (lz O7) (mC R mN) (bu R bX) R (sN (eF (f:=LV.str) NL B8 Kw R R ZN XZ R (sN (bj R B8 RK (sN (fo kN B8 Kw R R (s_ (cM R R R B8 Kw R R R (s0 ((Wk.trans (bM [(8,.ptr 108 0),(9,.ptr 109 0)] [(7,.box [.L oJ.2.L,.I oJ.2.At]),(108,.box gQ),(109,.box [.I p1,.I p2,.str G7,.arr 129 l7.length,.arr 146 dD.length]),(129,.arr 185 6 (l7.map ag.lv)),(146,.arr 3 1 (dD.map LV.I))]) (Wk.trans (bM [(8,.ptr 108 0),(9,.ptr 109 0)] [(7,.box [.L oJ.2.L,.I oJ.2.At]),(108,.box gQ),(109,.box [.I p1,.I p2,.str G7,.arr 129 l7.length,.arr 146 dD.length]),(129,.arr 185 6 (l7.map ag.lv)),(146,.arr 3 1 (dD.map LV.I))]) (Wk.trans (Wk.trans (Wk.ez (f:=ag.lv) 129 185 6 l7 109 R R R (cC R (cC R (cC R (gS (cC R gR))))) R R (cc R)) (bM [(8,.ptr 108 0),(9,.ptr 109 0)] [(7,.box [.L oJ.2.L,.I oJ.2.At]),(108,.box gQ),(109,.box [.I p1,.I p2,.str G7,.lst 6 (l7.map ag.lv),.arr 146 dD.length]),(146,.arr 3 1 (dD.map LV.I))])) (Wk.trans (bM [(8,.ptr 108 0),(9,.ptr 109 0)] [(7,.box [.L oJ.2.L,.I oJ.2.At]),(108,.box gQ),(109,.box [.I p1,.I p2,.str G7,.lst 6 (l7.map ag.lv),.arr 146 dD.length]),(146,.arr 3 1 (dD.map LV.I))]) (Wk.trans (Wk.trans (Wk.ez (f:=LV.I) 146 3 1 dD 109 R R R (cC R (cC R (cC R (cC R (gS gR))))) R R (cc R)) (bM [(8,.ptr 108 0),(9,.ptr 109 0)] [(7,.box [.L oJ.2.L,.I oJ.2.At]),(108,.box gQ),(109,.box [.I p1,.I p2,.str G7,.lst 6 (l7.map ag.lv),.L dD])])) (Wk.trans (Wk.bD 109 [.I p1,.I p2,.str G7,.lst 6 (l7.map ag.lv),.L dD] R R R (cc R)) (Wk.eq R R R R)))))))))))))))))))))) (aQ (ai (LH.ax [(8,.sptr [.I p1,.I p2,.str G7,.lst 6 (l7.map ag.lv),.L dD])] [(7,.box [.L oJ.2.L,.I oJ.2.At])] R (sN (bw R bA c7 bn R R (s_ (cM R R R bA bn R R R (s0 ((Wk.trans (bM [(8,.ptr 108 0)] [(7,.box [.L oJ.2.L,.I oJ.2.At]),(108,.box [.I p1,.I p2,.str G7,.lst 6 (l7.map ag.lv),.L dD])]) (Wk.trans (Wk.bD 108 [.I p1,.I p2,.str G7,.lst 6 (l7.map ag.lv),.L dD] R R R (cc R)) (Wk.eq R R R R))))))))) (LH.ret ?_))))
    obtain rfl:=oI h
    exact aJ (aT Tryz.results62) (dN R bA c7 bn R R (bP ⟨aG (mC R mN),R,aN R,Sub.rfl⟩))
   replace h:=aA h Cs
   refine LH.aj R (sN (iX R R (cr R zQ))) (LH.cond (t:=(ek.1 == 3)) R (fun vN=>?_) (fun vN=>?_))
   ·replace h:=aB h vN
    refine LH.df [(8,.ptr 108 0),(9,.sptr [.I p1,.I p2,.str t2,.nil,.L dD])] [(7,.box [.L ek.2.L,.I ek.2.At]),(108,.box gQ)] R (sN (fo dA cE dP R R (s_ (cM R R R cE dP R R R (s0 ((Wk.trans (bM [(8,.ptr 108 0),(9,.ptr 109 0)] [(7,.box [.L ek.2.L,.I ek.2.At]),(108,.box gQ),(109,.box [.I p1,.I p2,.str t2,.nil,.arr 146 dD.length]),(146,.arr 3 1 (dD.map LV.I))]) (Wk.trans (bM [(8,.ptr 108 0),(9,.ptr 109 0)] [(7,.box [.L ek.2.L,.I ek.2.At]),(108,.box gQ),(109,.box [.I p1,.I p2,.str t2,.nil,.arr 146 dD.length]),(146,.arr 3 1 (dD.map LV.I))]) (Wk.trans (Wk.trans (Wk.ez (f:=LV.I) 146 3 1 dD 109 R R R (cC R (cC R (cC R (cC R (gS gR))))) R R (cc R)) (bM [(8,.ptr 108 0),(9,.ptr 109 0)] [(7,.box [.L ek.2.L,.I ek.2.At]),(108,.box gQ),(109,.box [.I p1,.I p2,.str t2,.nil,.L dD])])) (Wk.trans (Wk.bD 109 [.I p1,.I p2,.str t2,.nil,.L dD] R R R (cc R)) (Wk.eq R R R R))))))))))) (aQ (ai (LH.ax [(8,.sptr [.I p1,.I p2,.str t2,.nil,.L dD])] [(7,.box [.L ek.2.L,.I ek.2.At])] R (sN (bw R bA c7 bn R R (s_ (cM R R R bA bn R R R (s0 ((Wk.trans (bM [(8,.ptr 108 0)] [(7,.box [.L ek.2.L,.I ek.2.At]),(108,.box [.I p1,.I p2,.str t2,.nil,.L dD])]) (Wk.trans (Wk.bD 108 [.I p1,.I p2,.str t2,.nil,.L dD] R R R (cc R)) (Wk.eq R R R R))))))))) (LH.ret ?_))))
    obtain rfl:=oI h
    exact aJ (aT Tryz.results62) (dN R bA c7 bn R R (bP ⟨aG (mC R mN),R,aN R,(fl.head (sd (Sub.agg (aw (aw (aw (jC (aw bl)))))) bl))⟩))
   replace h:=aA h vN
   refine LH.aj R (sN (iX R R (cr R zQ))) (LH.cond (t:=(ek.1 == 4)) R (fun Cu=>?_) (fun Cu=>?_))
   ·replace h:=aB h Cu
    obtain ⟨vC,Xf,h⟩:=ae h
    obtain ⟨DT,XL,h⟩:=ae h
    refine LH.pE mixed [] [0,1109,0,100007,0,2,0,100109] [(8,.ptr 108 0),(9,.sptr [.I p1,.I p2,.str t2,.lst 6 (DT.map ag.lv),.L dD])] [(7,.box [.L vC.2.L,.I vC.2.At]),(108,.box gQ)] R R (by kernel_rfl) (aX (fo dA cE dP R R ⟨R,mD R R R (fun _ b _ d=>dv R b R R cE gf d) (F7 R (mW R R R (fun _ b _ d=>ej (args:=[.ptr 7 0,.I 1]) (ml:=[(7,.box [.L ek.2.L,.I ek.2.At])]) (cS:=[(7,.box [.L vC.2.L,.I vC.2.At])]) R Iy R (aw (aw bl)) (RP Xf) (mC b mN) (bu R bX) R d) (aX (jU (f:=ag.lv) (ys:=[vC.1]) eP sm cF R R R ag.ok ⟨R,yt (rT (f:=ag.lv) eP sm cF R R (cc R) R XL (aX (fo dA cE dP R R ⟨R,mS R R R (fun _ b _ d=>cM R R R cE dP b R R d) (m0 ((Wk.trans (bM [(8,.ptr 108 0),(9,.ptr 109 0)] [(7,.box [.L vC.2.L,.I vC.2.At]),(108,.box gQ),(109,.box [.I p1,.I p2,.str t2,.arr 129 DT.length,.arr 146 dD.length]),(129,.arr 185 6 (DT.map ag.lv)),(146,.arr 3 1 (dD.map LV.I))]) (Wk.trans (bM [(8,.ptr 108 0),(9,.ptr 109 0)] [(7,.box [.L vC.2.L,.I vC.2.At]),(108,.box gQ),(109,.box [.I p1,.I p2,.str t2,.arr 129 DT.length,.arr 146 dD.length]),(129,.arr 185 6 (DT.map ag.lv)),(146,.arr 3 1 (dD.map LV.I))]) (Wk.trans (Wk.trans (Wk.ez (f:=ag.lv) 129 185 6 DT 109 R R R (cC R (cC R (cC R (gS (cC R gR))))) R R (cc R)) (bM [(8,.ptr 108 0),(9,.ptr 109 0)] [(7,.box [.L vC.2.L,.I vC.2.At]),(108,.box gQ),(109,.box [.I p1,.I p2,.str t2,.lst 6 (DT.map ag.lv),.arr 146 dD.length]),(146,.arr 3 1 (dD.map LV.I))])) (Wk.trans (bM [(8,.ptr 108 0),(9,.ptr 109 0)] [(7,.box [.L vC.2.L,.I vC.2.At]),(108,.box gQ),(109,.box [.I p1,.I p2,.str t2,.lst 6 (DT.map ag.lv),.arr 146 dD.length]),(146,.arr 3 1 (dD.map LV.I))]) (Wk.trans (Wk.trans (Wk.ez (f:=LV.I) 146 3 1 dD 109 R R R (cC R (cC R (cC R (cC R (gS gR))))) R R (cc R)) (bM [(8,.ptr 108 0),(9,.ptr 109 0)] [(7,.box [.L vC.2.L,.I vC.2.At]),(108,.box gQ),(109,.box [.I p1,.I p2,.str t2,.lst 6 (DT.map ag.lv),.L dD])])) (Wk.trans (Wk.bD 109 [.I p1,.I p2,.str t2,.lst 6 (DT.map ag.lv),.L dD] R R R (cc R)) (Wk.eq R R R R)))))))))⟩)))⟩))))⟩)) (aQ (ai (LH.ax [(8,.sptr [.I p1,.I p2,.str t2,.lst 6 (DT.map ag.lv),.L dD])] [(7,.box [.L vC.2.L,.I vC.2.At])] R (sN (bw R bA c7 bn R R (s_ (cM R R R bA bn R R R (s0 ((Wk.trans (bM [(8,.ptr 108 0)] [(7,.box [.L vC.2.L,.I vC.2.At]),(108,.box [.I p1,.I p2,.str t2,.lst 6 (DT.map ag.lv),.L dD])]) (Wk.trans (Wk.bD 108 [.I p1,.I p2,.str t2,.lst 6 (DT.map ag.lv),.L dD] R R R (cc R)) (Wk.eq R R R R))))))))) (LH.ret ?_))))
    obtain rfl:=oI h
    exact aJ (aT Tryz.results62) (dN R bA c7 bn R R (bP ⟨aG (mC R mN),R,aN R,Sub.rfl⟩))
   replace h:=aA h Cu
   refine LH.aj R (sN (iX R R (cr R zQ))) (LH.cond (t:=(ek.1 == 5)) R (fun OB=>?_) (fun OB=>?_))
   ·replace h:=aB h OB
    obtain ⟨vD,Xg,h⟩:=ae h
    obtain ⟨v45,XM,h⟩:=ae h
    refine LH.pE mixed [] [0,1109,0,0,0,100007,0,2,0,100109] [(8,.ptr 108 0),(9,.sptr [.I p1,.I p2,.str t2,.lst 6 (l7.map ag.lv),.L v45])] [(7,.box [.L vD.2.L,.I vD.2.At]),(108,.box gQ)] R R (by kernel_rfl) (aX (fo hT cm dQ R R ⟨R,mD R R R (fun _ b _ d=>dv R b R R cm eu d) (F7 R (iT R (aX (jU (f:=LV.I) (ys:=[0,p1,(-1),10000,3]) bU qL aW R R R jB ⟨R,mW R R R (fun _ b _ d=>ej (args:=[.ptr 7 0,.L [0,p1,(-1),10000,3]]) (ml:=[(7,.box [.L ek.2.L,.I ek.2.At])]) (cS:=[(7,.box [.L vD.2.L,.I vD.2.At])]) R zO R (aw (aw bl)) (Hf Xg) (mC b mN) (bu R bX) R d) (aX (jU (f:=LV.I) (ys:=[vD.1]) bU qL aW R R R jB ⟨R,yt (rT (f:=LV.I) bU qL aW R R (cc R) R XM (aX (fo hT cm dQ R R ⟨R,mS R R R (fun _ b _ d=>cM R R R cm dQ b R R d) (m0 ((Wk.trans (bM [(8,.ptr 108 0),(9,.ptr 109 0)] [(7,.box [.L vD.2.L,.I vD.2.At]),(108,.box gQ),(109,.box [.I p1,.I p2,.str t2,.arr 129 l7.length,.arr 146 v45.length]),(129,.arr 185 6 (l7.map ag.lv)),(146,.arr 3 1 (v45.map LV.I))]) (Wk.trans (bM [(8,.ptr 108 0),(9,.ptr 109 0)] [(7,.box [.L vD.2.L,.I vD.2.At]),(108,.box gQ),(109,.box [.I p1,.I p2,.str t2,.arr 129 l7.length,.arr 146 v45.length]),(129,.arr 185 6 (l7.map ag.lv)),(146,.arr 3 1 (v45.map LV.I))]) (Wk.trans (Wk.trans (Wk.ez (f:=ag.lv) 129 185 6 l7 109 R R R (cC R (cC R (cC R (gS (cC R gR))))) R R (cc R)) (bM [(8,.ptr 108 0),(9,.ptr 109 0)] [(7,.box [.L vD.2.L,.I vD.2.At]),(108,.box gQ),(109,.box [.I p1,.I p2,.str t2,.lst 6 (l7.map ag.lv),.arr 146 v45.length]),(146,.arr 3 1 (v45.map LV.I))])) (Wk.trans (bM [(8,.ptr 108 0),(9,.ptr 109 0)] [(7,.box [.L vD.2.L,.I vD.2.At]),(108,.box gQ),(109,.box [.I p1,.I p2,.str t2,.lst 6 (l7.map ag.lv),.arr 146 v45.length]),(146,.arr 3 1 (v45.map LV.I))]) (Wk.trans (Wk.trans (Wk.ez (f:=LV.I) 146 3 1 v45 109 R R R (cC R (cC R (cC R (cC R (gS gR))))) R R (cc R)) (bM [(8,.ptr 108 0),(9,.ptr 109 0)] [(7,.box [.L vD.2.L,.I vD.2.At]),(108,.box gQ),(109,.box [.I p1,.I p2,.str t2,.lst 6 (l7.map ag.lv),.L v45])])) (Wk.trans (Wk.bD 109 [.I p1,.I p2,.str t2,.lst 6 (l7.map ag.lv),.L v45] R R R (cc R)) (Wk.eq R R R R)))))))))⟩)))⟩))⟩))))⟩)) (aQ (ai (LH.ax [(8,.sptr [.I p1,.I p2,.str t2,.lst 6 (l7.map ag.lv),.L v45])] [(7,.box [.L vD.2.L,.I vD.2.At])] R (sN (bw R bA c7 bn R R (s_ (cM R R R bA bn R R R (s0 ((Wk.trans (bM [(8,.ptr 108 0)] [(7,.box [.L vD.2.L,.I vD.2.At]),(108,.box [.I p1,.I p2,.str t2,.lst 6 (l7.map ag.lv),.L v45])]) (Wk.trans (Wk.bD 108 [.I p1,.I p2,.str t2,.lst 6 (l7.map ag.lv),.L v45] R R R (cc R)) (Wk.eq R R R R))))))))) (LH.ret ?_))))
    obtain rfl:=oI h
    exact aJ (aT Tryz.results62) (dN R bA c7 bn R R (bP ⟨aG (mC R mN),R,aN R,Sub.rfl⟩))
   replace h:=aA h OB
   obtain ⟨YS,S7,h⟩:=ae h
   obtain ⟨YT,S8,h⟩:=ae h
   obtain ⟨YU,S9,h⟩:=ae h
   obtain ⟨YV,Ta,h⟩:=ae h
   obtain ⟨YW,Tb,h⟩:=ae h
   obtain ⟨YX,Tc,h⟩:=ae h
   obtain ⟨DU,XN,h⟩:=ae h
   refine LH.pE mixed [] [0,1109,0,1109,1129,1129,0,1109,1129,1129,0,1109,1129,1129,0,1109,1129,1129,0,1109,1129,1129,0,1109,1129,1129,0,2,0,100109] [(8,.ptr 108 0),(9,.sptr [.I p1,.I p2,.str t2,.lst 6 (DU.map ag.lv),.L dD])] [(7,.box [.L ek.2.L,.I ek.2.At]),(108,.box gQ)] R R (by kernel_rfl) ?_ ?_
   ·exact aX (fo dA cE dP R R ⟨R,mD R R R (fun _ b _ d=>dv R b R R cE gf d) (aX (fo dA cE dP R R ⟨R,mD R R R (fun _ b _ d=>dv R b R R cE gf d) (mD R R R (fun _ b _ d=>fP (f:=ag.lv) eP cT cF R b R S7 d) (mD R R R (fun _ b _ d=>qm (f:=ag.lv) R b (dp S7).2 R R cT fb cF R R d) (aX (fo dA cE dP R R ⟨R,mD R R R (fun _ b _ d=>dv R b R R cE gf d) (mD R R R (fun _ b _ d=>fP (f:=ag.lv) eP cT cF R b R S8 d) (mD R R R (fun _ b _ d=>qm (f:=ag.lv) R b (dp S8).2 R R cT fb cF R R d) (aX (fo dA cE dP R R ⟨R,mD R R R (fun _ b _ d=>dv R b R R cE gf d) (mD R R R (fun _ b _ d=>fP (f:=ag.lv) eP cT cF R b R S9 d) (mD R R R (fun _ b _ d=>qm (f:=ag.lv) R b (dp S9).2 R R cT fb cF R R d) (aX (fo dA cE dP R R ⟨R,mD R R R (fun _ b _ d=>dv R b R R cE gf d) (mD R R R (fun _ b _ d=>fP (f:=ag.lv) eP cT cF R b R Ta d) (mD R R R (fun _ b _ d=>qm (f:=ag.lv) R b (dp Ta).2 R R cT fb cF R R d) (aX (fo dA cE dP R R ⟨R,mD R R R (fun _ b _ d=>dv R b R R cE gf d) (mD R R R (fun _ b _ d=>fP (f:=ag.lv) eP cT cF R b R Tb d) (mD R R R (fun _ b _ d=>qm (f:=ag.lv) R b (dp Tb).2 R R cT fb cF R R d) (aX (fo dA cE dP R R ⟨R,mD R R R (fun _ b _ d=>dv R b R R cE gf d) (mD R R R (fun _ b _ d=>fP (f:=ag.lv) eP cT cF R b R Tc d) (mD R R R (fun _ b _ d=>qm (f:=ag.lv) R b (dp Tc).2 R R cT fb cF R R d) (aX (jU (f:=ag.lv) (ys:=[YS,YT,YU,YV,YW,YX]) eP sm cF R R R ag.ok ⟨R,yt (rT (f:=ag.lv) eP sm cF R R (cc R) R XN (aX (fo dA cE dP R R ⟨R,mS R R R (fun _ b _ d=>cM R R R cE dP b R R d) (m0 ((Wk.trans (bM [(8,.ptr 108 0),(9,.ptr 109 0)] [(7,.box [.L ek.2.L,.I ek.2.At]),(108,.box gQ),(109,.box [.I p1,.I p2,.str t2,.arr 129 DU.length,.arr 146 dD.length]),(129,.arr 185 6 (DU.map ag.lv)),(146,.arr 3 1 (dD.map LV.I))]) (Wk.trans (bM [(8,.ptr 108 0),(9,.ptr 109 0)] [(7,.box [.L ek.2.L,.I ek.2.At]),(108,.box gQ),(109,.box [.I p1,.I p2,.str t2,.arr 129 DU.length,.arr 146 dD.length]),(129,.arr 185 6 (DU.map ag.lv)),(146,.arr 3 1 (dD.map LV.I))]) (Wk.trans (Wk.trans (Wk.ez (f:=ag.lv) 129 185 6 DU 109 R R R (cC R (cC R (cC R (gS (cC R gR))))) R R (cc R)) (bM [(8,.ptr 108 0),(9,.ptr 109 0)] [(7,.box [.L ek.2.L,.I ek.2.At]),(108,.box gQ),(109,.box [.I p1,.I p2,.str t2,.lst 6 (DU.map ag.lv),.arr 146 dD.length]),(146,.arr 3 1 (dD.map LV.I))])) (Wk.trans (bM [(8,.ptr 108 0),(9,.ptr 109 0)] [(7,.box [.L ek.2.L,.I ek.2.At]),(108,.box gQ),(109,.box [.I p1,.I p2,.str t2,.lst 6 (DU.map ag.lv),.arr 146 dD.length]),(146,.arr 3 1 (dD.map LV.I))]) (Wk.trans (Wk.trans (Wk.ez (f:=LV.I) 146 3 1 dD 109 R R R (cC R (cC R (cC R (cC R (gS gR))))) R R (cc R)) (bM [(8,.ptr 108 0),(9,.ptr 109 0)] [(7,.box [.L ek.2.L,.I ek.2.At]),(108,.box gQ),(109,.box [.I p1,.I p2,.str t2,.lst 6 (DU.map ag.lv),.L dD])])) (Wk.trans (Wk.bD 109 [.I p1,.I p2,.str t2,.lst 6 (DU.map ag.lv),.L dD] R R R (cc R)) (Wk.eq R R R R)))))))))⟩)))⟩))))⟩))))⟩))))⟩))))⟩))))⟩))))⟩))⟩)
   refine aQ (ai (LH.ax [(8,.sptr [.I p1,.I p2,.str t2,.lst 6 (DU.map ag.lv),.L dD])] [(7,.box [.L ek.2.L,.I ek.2.At])] R (sN (bw R bA c7 bn R R (s_ (cM R R R bA bn R R R (s0 ((Wk.trans (bM [(8,.ptr 108 0)] [(7,.box [.L ek.2.L,.I ek.2.At]),(108,.box [.I p1,.I p2,.str t2,.lst 6 (DU.map ag.lv),.L dD])]) (Wk.trans (Wk.bD 108 [.I p1,.I p2,.str t2,.lst 6 (DU.map ag.lv),.L dD] R R R (cc R)) (Wk.eq R R R R))))))))) (LH.ret ?_)))
   obtain rfl:=oI h
   exact aJ (aT Tryz.results62) (dN R bA c7 bn R R (bP ⟨aG (mC R mN),R,aN R,Sub.rfl⟩))
  replace h:=aA h qa
  refine LH.skip (ai (LH.wk ((Wk.trans (bM [(8,.ptr 108 0),(9,.ptr 109 0)] [(7,.box [.L qN.2.1,.I qN.2.2]),(108,.box gQ),(109,.box [.I p1,.I p2,.str t2,.arr 129 l7.length,.arr 146 dD.length]),(129,.arr 185 6 (l7.map ag.lv)),(146,.arr 3 1 (dD.map LV.I))]) (Wk.trans (bM [(8,.ptr 108 0),(9,.ptr 109 0)] [(7,.box [.L qN.2.1,.I qN.2.2]),(108,.box gQ),(109,.box [.I p1,.I p2,.str t2,.arr 129 l7.length,.arr 146 dD.length]),(129,.arr 185 6 (l7.map ag.lv)),(146,.arr 3 1 (dD.map LV.I))]) (Wk.trans (Wk.trans (Wk.ez (f:=ag.lv) 129 185 6 l7 109 R R R (cC R (cC R (cC R (gS (cC R gR))))) R R (cc R)) (bM [(8,.ptr 108 0),(9,.ptr 109 0)] [(7,.box [.L qN.2.1,.I qN.2.2]),(108,.box gQ),(109,.box [.I p1,.I p2,.str t2,.lst 6 (l7.map ag.lv),.arr 146 dD.length]),(146,.arr 3 1 (dD.map LV.I))])) (Wk.trans (bM [(8,.ptr 108 0),(9,.ptr 109 0)] [(7,.box [.L qN.2.1,.I qN.2.2]),(108,.box gQ),(109,.box [.I p1,.I p2,.str t2,.lst 6 (l7.map ag.lv),.arr 146 dD.length]),(146,.arr 3 1 (dD.map LV.I))]) (Wk.trans (Wk.trans (Wk.ez (f:=LV.I) 146 3 1 dD 109 R R R (cC R (cC R (cC R (cC R (gS gR))))) R R (cc R)) (bM [(8,.ptr 108 0),(9,.ptr 109 0)] [(7,.box [.L qN.2.1,.I qN.2.2]),(108,.box gQ),(109,.box [.I p1,.I p2,.str t2,.lst 6 (l7.map ag.lv),.L dD])])) (Wk.trans (Wk.bD 109 [.I p1,.I p2,.str t2,.lst 6 (l7.map ag.lv),.L dD] R R R (cc R)) (bM [(8,.ptr 108 0),(9,.sptr [.I p1,.I p2,.str t2,.lst 6 (l7.map ag.lv),.L dD])] [(7,.box [.L qN.2.1,.I qN.2.2]),(108,.box gQ)])))))))) (LH.ax [(8,.sptr [.I p1,.I p2,.str t2,.lst 6 (l7.map ag.lv),.L dD])] [(7,.box [.L qN.2.1,.I qN.2.2])] R (sN (bw R bA c7 bn R R (s_ (cM R R R bA bn R R R (s0 ((Wk.trans (bM [(8,.ptr 108 0)] [(7,.box [.L qN.2.1,.I qN.2.2]),(108,.box [.I p1,.I p2,.str t2,.lst 6 (l7.map ag.lv),.L dD])]) (Wk.trans (Wk.bD 108 [.I p1,.I p2,.str t2,.lst 6 (l7.map ag.lv),.L dD] R R R (cc R)) (Wk.eq R R R R))))))))) (LH.ret ?_))))
  obtain rfl:=oI h
  exact aJ (aT Tryz.results62) (dN R bA c7 bn R R (bP ⟨aG (mC R mN),R,aN R,Sub.rfl⟩))
theorem V7 {p0:aU} {p1:Int} {r:bE × aU} (h:N7 p0 p1=some r):aF Tryz.prog 43 [.ptr 7 0,.I p1] (Mem.of [(7,.box [.L p0.L,.I p0.At])]) (.agg [.I r.1.Time,.I r.1.Source,.I r.1.Seq]) (Mem.of [(7,.box [.L r.2.L,.I r.2.At])]):=by
  unfold N7 at h
  refine bh Tryz.func43 R (nT Tryz.ntmps43 R) (LH.aj R (sN (hD (id:=104) R yS R R zQ)) ?_)
  obtain ⟨r1,dR,h⟩:=ae h
  obtain ⟨r2,hr2,h⟩:=ae h
  obtain ⟨r3,hr3,h⟩:=ae h
  refine LH.aj R (iA R (sN (ej (args:=[.ptr 7 0,.I 0,.I 24]) (ml:=[(7,.box [.L p0.L,.I p0.At])]) (cS:=[(7,.box [.L r1.2.L,.I r1.2.At])]) R km R (aw (aw (aw bl))) (o8 dR) (mC R mN) (bu R bX) R (iA R (sN (ej (args:=[.ptr 7 0,.I 0,.I 3]) (ml:=[(7,.box [.L r1.2.L,.I r1.2.At])]) (cS:=[(7,.box [.L r2.2.L,.I r2.2.At])]) R km R (aw (aw (aw bl))) (o8 hr2) (mC R mN) (bu R bX) R (iA R (sN (ej (args:=[.ptr 7 0,.I 0,.I 9]) (ml:=[(7,.box [.L r2.2.L,.I r2.2.At])]) (cS:=[(7,.box [.L r3.2.L,.I r3.2.At])]) R km R (aw (aw (aw bl))) (o8 hr3) (mC R mN) (bu R bX) R (sN (gJ (vs:=[(0,.I r1.1),(1,.I r2.1),(2,.I r3.1)]) Mj yS R (lf ky aW aD R R R (lf gO aW aD R R R (lf gy aW aD R R R gI))) (sN (hD (id:=105) R yS R R (s_ (cM R R R di dh R R R zQ))))))))))))))) (LH.seq ?_)
  obtain ⟨w7,hv,h⟩:=ae h
  refine LH.ax [(0,.ptr 7 0),(4,.ptr 104 0),(5,.ptr 105 0),(19,.bool w7.1)] [(7,.box [.L w7.2.1,.I w7.2.2]),(104,.box [.I 0,.I 0,.I 0]),(105,.box [.I r1.1,.I r2.1,.I r3.1])] R ?_ ?_
  ·refine aZ R (sN (jf R R (bZ R ?_)))
   by_cases cA:(decide (p1 > 0))=true
   ·replace hv:=aB hv cA
    refine sT R (cB cA) (oM (v:=(.ptr _ _)) R (sT R (cB cA) (oM (v:=(.int _ _)) R ?_)))
    obtain ⟨r9,CK,hv⟩:=ae hv
    refine sT R (cB cA) (ej (args:=[.ptr 7 0,.I p1]) (ml:=[(7,.box [.L r3.2.L,.I r3.2.At])]) (cS:=[(7,.box [.L r9.2.L,.I r9.2.At])]) R wI R (aw (aw bl)) (Fi CK) (mC R mN) (bu R bX) R (sN (aY (cB cA) (v:=(.bool _)) R ?_)))
    obtain rfl:=oI hv
    exact zS
   ·replace cA:=bF cA
    replace hv:=aA hv cA
    refine sF R R cA (sF R R cA (sF R R cA (sN (bc (cB cA) (v:=(.bool _)) R ?_))))
    obtain rfl:=oI hv
    exact zS
  clear hv
  refine LH.cond (t:=w7.1) R (fun gD=>?_) (fun gD=>?_)
  ·replace h:=aB h gD
   obtain ⟨da,k6,h⟩:=ae h
   refine LH.aj R (iA R (sN (ej (args:=[.ptr 7 0,.I 3]) (ml:=[(7,.box [.L w7.2.1,.I w7.2.2])]) (cS:=[(7,.box [.L da.2.L,.I da.2.At])]) R iu R (aw (aw bl)) (lz k6) (mC R mN) (bu R bX) R zQ))) (LH.block (LH.aj R (sN (iX R R (cr R zQ))) (LH.cond (t:=(da.1 == 0)) R (fun gl=>?_) (fun gl=>?_))))
   ·replace h:=aB h gl
    obtain ⟨ew,CF,h⟩:=ae h
    refine LH.df [(4,.ptr 104 0),(5,.sptr [.I ew.1,.I r2.1,.I r3.1])] [(7,.box [.L ew.2.L,.I ew.2.At]),(104,.box [.I 0,.I 0,.I 0])] R (iA R (sN (ej (args:=[.ptr 7 0]) (ml:=[(7,.box [.L da.2.L,.I da.2.At])]) (cS:=[(7,.box [.L ew.2.L,.I ew.2.At])]) R wJ R (aw bl) (Fl CF) (mC R mN) (bu R bX) R (sN (fo ky aD aW R R (s_ (cM R R R aD aW R R R (s0 ((Wk.trans (bM [(4,.ptr 104 0),(5,.ptr 105 0)] [(7,.box [.L ew.2.L,.I ew.2.At]),(104,.box [.I 0,.I 0,.I 0]),(105,.box [.I ew.1,.I r2.1,.I r3.1])]) (Wk.trans (Wk.bD 105 [.I ew.1,.I r2.1,.I r3.1] R R R (cc R)) (Wk.eq R R R R)))))))))))) (aQ (ai (LH.ax [(4,.sptr [.I ew.1,.I r2.1,.I r3.1])] [(7,.box [.L ew.2.L,.I ew.2.At])] R (sN (bw R di jX dh R R (s_ (cM R R R di dh R R R (s0 ((Wk.trans (bM [(4,.ptr 104 0)] [(7,.box [.L ew.2.L,.I ew.2.At]),(104,.box [.I ew.1,.I r2.1,.I r3.1])]) (Wk.trans (Wk.bD 104 [.I ew.1,.I r2.1,.I r3.1] R R R (cc R)) (Wk.eq R R R R))))))))) (LH.ret ?_))))
    obtain rfl:=oI h
    exact aJ (aT Tryz.results43) (dN R di jX dh R R (bP ⟨aG (mC R mN),R,aN R,Sub.rfl⟩))
   replace h:=aA h gl
   refine LH.aj R (sN (iX R R (cr R zQ))) (LH.cond (t:=(da.1 == 1)) R (fun jy=>?_) (fun jy=>?_))
   ·replace h:=aB h jy
    obtain ⟨kC,ym,h⟩:=ae h
    refine LH.df [(4,.ptr 104 0),(5,.sptr [.I r1.1,.I kC.1,.I r3.1])] [(7,.box [.L kC.2.L,.I kC.2.At]),(104,.box [.I 0,.I 0,.I 0])] R (iA R (sN (ej (args:=[.ptr 7 0]) (ml:=[(7,.box [.L da.2.L,.I da.2.At])]) (cS:=[(7,.box [.L kC.2.L,.I kC.2.At])]) R wJ R (aw bl) (Fl ym) (mC R mN) (bu R bX) R (sN (fo gO aD aW R R (s_ (cM R R R aD aW R R R (s0 ((Wk.trans (bM [(4,.ptr 104 0),(5,.ptr 105 0)] [(7,.box [.L kC.2.L,.I kC.2.At]),(104,.box [.I 0,.I 0,.I 0]),(105,.box [.I r1.1,.I kC.1,.I r3.1])]) (Wk.trans (Wk.bD 105 [.I r1.1,.I kC.1,.I r3.1] R R R (cc R)) (Wk.eq R R R R)))))))))))) (aQ (ai (LH.ax [(4,.sptr [.I r1.1,.I kC.1,.I r3.1])] [(7,.box [.L kC.2.L,.I kC.2.At])] R (sN (bw R di jX dh R R (s_ (cM R R R di dh R R R (s0 ((Wk.trans (bM [(4,.ptr 104 0)] [(7,.box [.L kC.2.L,.I kC.2.At]),(104,.box [.I r1.1,.I kC.1,.I r3.1])]) (Wk.trans (Wk.bD 104 [.I r1.1,.I kC.1,.I r3.1] R R R (cc R)) (Wk.eq R R R R))))))))) (LH.ret ?_))))
    obtain rfl:=oI h
    exact aJ (aT Tryz.results43) (dN R di jX dh R R (bP ⟨aG (mC R mN),R,aN R,Sub.rfl⟩))
   replace h:=aA h jy
   obtain ⟨iz,yn,h⟩:=ae h
   refine LH.df [(4,.ptr 104 0),(5,.sptr [.I r1.1,.I r2.1,.I iz.1])] [(7,.box [.L iz.2.L,.I iz.2.At]),(104,.box [.I 0,.I 0,.I 0])] R (iA R (sN (ej (args:=[.ptr 7 0]) (ml:=[(7,.box [.L da.2.L,.I da.2.At])]) (cS:=[(7,.box [.L iz.2.L,.I iz.2.At])]) R wJ R (aw bl) (Fl yn) (mC R mN) (bu R bX) R (sN (fo gy aD aW R R (s_ (cM R R R aD aW R R R (s0 ((Wk.trans (bM [(4,.ptr 104 0),(5,.ptr 105 0)] [(7,.box [.L iz.2.L,.I iz.2.At]),(104,.box [.I 0,.I 0,.I 0]),(105,.box [.I r1.1,.I r2.1,.I iz.1])]) (Wk.trans (Wk.bD 105 [.I r1.1,.I r2.1,.I iz.1] R R R (cc R)) (Wk.eq R R R R)))))))))))) (aQ (ai (LH.ax [(4,.sptr [.I r1.1,.I r2.1,.I iz.1])] [(7,.box [.L iz.2.L,.I iz.2.At])] R (sN (bw R di jX dh R R (s_ (cM R R R di dh R R R (s0 ((Wk.trans (bM [(4,.ptr 104 0)] [(7,.box [.L iz.2.L,.I iz.2.At]),(104,.box [.I r1.1,.I r2.1,.I iz.1])]) (Wk.trans (Wk.bD 104 [.I r1.1,.I r2.1,.I iz.1] R R R (cc R)) (Wk.eq R R R R))))))))) (LH.ret ?_))))
   obtain rfl:=oI h
   exact aJ (aT Tryz.results43) (dN R di jX dh R R (bP ⟨aG (mC R mN),R,aN R,Sub.rfl⟩))
  replace h:=aA h gD
  refine LH.skip (ai (LH.wk ((Wk.trans (bM [(4,.ptr 104 0),(5,.ptr 105 0)] [(7,.box [.L w7.2.1,.I w7.2.2]),(104,.box [.I 0,.I 0,.I 0]),(105,.box [.I r1.1,.I r2.1,.I r3.1])]) (Wk.trans (Wk.bD 105 [.I r1.1,.I r2.1,.I r3.1] R R R (cc R)) (bM [(4,.ptr 104 0),(5,.sptr [.I r1.1,.I r2.1,.I r3.1])] [(7,.box [.L w7.2.1,.I w7.2.2]),(104,.box [.I 0,.I 0,.I 0])])))) (LH.ax [(4,.sptr [.I r1.1,.I r2.1,.I r3.1])] [(7,.box [.L w7.2.1,.I w7.2.2])] R (sN (bw R di jX dh R R (s_ (cM R R R di dh R R R (s0 ((Wk.trans (bM [(4,.ptr 104 0)] [(7,.box [.L w7.2.1,.I w7.2.2]),(104,.box [.I r1.1,.I r2.1,.I r3.1])]) (Wk.trans (Wk.bD 104 [.I r1.1,.I r2.1,.I r3.1] R R R (cc R)) (Wk.eq R R R R))))))))) (LH.ret ?_))))
  obtain rfl:=oI h
  exact aJ (aT Tryz.results43) (dN R di jX dh R R (bP ⟨aG (mC R mN),R,aN R,Sub.rfl⟩))
set_option maxHeartbeats 4000000 in
theorem V4 {F:Nat} {p0:aU} {p1:Int} {p2:Int} {r:List ba × aU} (h:N8 F p0 p1 p2=some r):aF Tryz.prog 21 [.ptr 7 0,.I p1,.I p2] (Mem.of [(7,.box [.L p0.L,.I p0.At])]) (.lst 12 (r.1.map ba.lv)) (Mem.of [(7,.box [.L r.2.L,.I r.2.At])]):=by
  unfold N8 at h
  refine bh Tryz.func21 R (nT Tryz.ntmps21 R) (LH.aj R (pU R zQ) (LH.aj R (pU R zQ) ?_))
  obtain ⟨v1,iR,h⟩:=ae h
  refine LH.aj R (sN (Qw (f:=LV.I) (z:=0) (id:=112) R bU NZ qL aW R R R iR R (uT R zQ))) (LH.seq ?_)
  obtain ⟨r2,hr2,h⟩:=ae h
  refine LH.aj R (iA R (aZ R (sN (ej (args:=[.ptr 7 0,.I 0,.I p1]) (ml:=[(7,.box [.L p0.L,.I p0.At])]) (cS:=[(7,.box [.L r2.2.L,.I r2.2.At])]) R km R (aw (aw (aw bl))) (o8 hr2) (mC R mN) (bu R bX) R (br R zQ))))) (LH.block (LH.wk ((Wk.trans (bM [(0,.ptr 7 0),(2,.I p2),(7,.nil),(8,.arr 112 v1.length),(9,.I r2.1)] [(7,.box [.L r2.2.L,.I r2.2.At]),(112,.arr 3 1 (v1.map LV.I))]) (Wk.trans (bM [(0,.ptr 7 0),(2,.I p2),(7,.nil),(8,.arr 112 v1.length),(9,.I r2.1)] [(7,.box [.L r2.2.L,.I r2.2.At]),(112,.arr 3 1 (v1.map LV.I))]) (Wk.trans (Wk.Ac (iP:=[(0,.ptr 7 0),(2,.I p2),(7,.arr 221 (List.length ([]:List ba))),(8,.arr 112 v1.length),(9,.I r2.1)]) 221 110 12 R R (wK (wK (wO (wK (wK wN)))))) (bM [(0,.ptr 7 0),(2,.I p2),(7,.arr 221 (List.length ([]:List ba))),(8,.arr 112 v1.length),(9,.I r2.1)] [(7,.box [.L r2.2.L,.I r2.2.At]),(112,.arr 3 1 (v1.map LV.I)),(221,.arr 110 12 (List.map ba.lv ([]:List ba)))]))))) (LH.loop (fun n e m=>∃ (n3:Int) (l4:List Int) (n5:Int) (l6:List Int) (l7:List ba),G9 F p2 n n3 l4 n5 l6 l7=some r∧e=Env.of [(0,.ptr 7 0),(2,.I p2),(7,.arr 221 l7.length),(8,.arr 112 l6.length),(9,.I n3)]∧m=Mem.of [(7,.box [.L l4,.I n5]),(112,.arr 3 1 (l6.map LV.I)),(221,.arr 110 12 (l7.map ba.lv))]) F ⟨r2.1,r2.2.L,r2.2.At,v1,([]:List ba),h,R,R⟩ ?_)))
  clear h
  rintro n e m ⟨n3,l4,n5,l6,l7,h,rfl,rfl⟩
  rcases n with _ | n
  · cases (show Option.none=some _ from h)
  obtain ⟨aH,aI⟩:∃ f,f=G9 F p2 n:=⟨_,rfl⟩
  replace h:Ha F p2 aH n3 l4 n5 l6 l7=some r:=aI ▸ h
  unfold Ha at h
  refine LH.seq (LH.aj R (aZ R (sN (jf R R zQ))) (LH.cond (t:=(decide (n3 > 0))) R (fun kf=>?_) (fun kf=>?_)))
  ·replace h:=aB h kf
   refine LH.skip (ai (LH.seq (LH.block ?_)))
   obtain ⟨r9,CK,h⟩:=ae h
   refine LH.aj R (iA R (sN (ej (args:=[.ptr 7 0,.I 5]) (ml:=[(7,.box [.L l4,.I n5])]) (cS:=[(7,.box [.L r9.2.L,.I r9.2.At])]) R iu R (aw (aw bl)) (lz CK) (mC R mN) (bu R bX) R (br R zQ)))) ?_
   obtain ⟨ea,pz,h⟩:=ae h
   obtain ⟨da,k6,h⟩:=ae h
   obtain ⟨fx,qZ,h⟩:=ae h
   obtain ⟨gF,qg,h⟩:=ae h
   obtain ⟨ct,q9,h⟩:=ae h
   refine LH.du mixed [] [0,1221,0,100007,0,0,100007,0,1221,0,0,0,100007,0,0,0,1112,1112,4,0,0,100007,0,2,100111] [(0,.ptr 7 0),(2,.I p2),(7,.arr 221 l7.length),(8,.arr 112 l6.length),(9,.I n3),(10,.I r9.1),(11,.ptr 111 0)] [(7,.box [.L ct.2.L,.I ct.2.At]),(111,.box [.I (i64 ((l7.length:Int)+ea.1)),.I da.1,.I (l7.length:Int),.I fx.1,.I 0,.I 0,.str (ByteArray.mk #[]),.nil,.nil,.I r9.1,.I (max 1 gF),.I ct.1]),(112,.arr 3 1 (l6.map LV.I)),(221,.arr 110 12 (l7.map ba.lv))] R R (by kernel_rfl) ?_ ?_
   ·exact VT R (mD R R R (fun _ b _ d=>z6 (f:=ba.lv) lg R b d) (F7 R (mW R R R (fun _ b _ d=>ej (args:=[.ptr 7 0,.I 2]) (ml:=[(7,.box [.L r9.2.L,.I r9.2.At])]) (cS:=[(7,.box [.L ea.2.L,.I ea.2.At])]) R iu R (aw (aw bl)) (lz pz) (mC b mN) (bu R bX) R d) (aX (b8 R R ⟨R,F7 R (mW R R R (fun _ b _ d=>ej (args:=[.ptr 7 0,.I 2]) (ml:=[(7,.box [.L ea.2.L,.I ea.2.At])]) (cS:=[(7,.box [.L da.2.L,.I da.2.At])]) R iu R (aw (aw bl)) (lz k6) (mC b mN) (bu R bX) R d) (VT R (mD R R R (fun _ b _ d=>z6 (f:=ba.lv) lg R b d) (aX (gJ (vs:=[(0,.I (i64 ((l7.length:Int)+ea.1))),(1,.I da.1),(2,.I (l7.length:Int))]) Mj yS R (lf ky aW aD R R R (lf gO aW aD R R R (lf gy aW aD R R R gI))) ⟨R,F7 R (aX (jU (f:=LV.I) (ys:=[3,4,4,2,5,6]) bU qL aW R R R jB ⟨R,mW R R R (fun _ b _ d=>ej (args:=[.ptr 7 0,.L [3,4,4,2,5,6]]) (ml:=[(7,.box [.L da.2.L,.I da.2.At])]) (cS:=[(7,.box [.L fx.2.L,.I fx.2.At])]) R zO R (aw (aw bl)) (Hf qZ) (mC b mN) (bu R bX) R d) (iT R (VT R (iT R (mD R R R (fun _ b _ d=>fP (f:=LV.I) bU aD aW R b R qg d) (mD R R R (fun _ b _ d=>sx (f:=LV.I) R b (dp qg).2 R R R aD b5 d) (mM (fun _=>Jk R R) (aX (gJ (vs:=[(0,.I r9.1),(1,.I (max 1 gF))]) xP xQ R (lf jo aW aD R R R (lf fq aW aD R R R gI)) ⟨R,F7 R (mW R R R (fun _ b _ d=>ej (args:=[.ptr 7 0,.I 4]) (ml:=[(7,.box [.L fx.2.L,.I fx.2.At])]) (cS:=[(7,.box [.L ct.2.L,.I ct.2.At])]) R iu R (aw (aw bl)) (lz q9) (mC b mN) (bu R bX) R d) (aX (gJ (vs:=[(0,.agg [.I (i64 ((l7.length:Int)+ea.1)),.I da.1,.I (l7.length:Int)]),(1,.I fx.1),(3,.agg [.I r9.1,.I (max 1 gF)]),(4,.I ct.1)]) E8 so R (lf dE dh di R R R (lf dB aW aD R R R (lf fI dW eA R R R (lf mB aW aD R R R gI)))) ⟨R,yt (hD (id:=111) R so R R (mS R R R (fun _ b _ d=>cM R R R eB dJ b R R d) zM))⟩)))⟩))))))))⟩))⟩)))))⟩)))))
   refine LH.mid (fun e m=>∃ (Qo:List Int) (n16:Int) (n17:Int) (n18:Int) (n19:Int) (t20:ByteArray) (oW:List ag) (oX:List Int) (n23:Int) (n24:Int) (n25:Int) (k7:List Int),Ff aH p2 n3 l7 ea da Qo n16 n17 n18 n19 t20 oW oX n23 n24 n25 k7=some r∧Wk (fun id=>Mem.of [(7,.box [.L p0.L,.I p0.At])] id ≠ .none) e m (Env.of [(0,.ptr 7 0),(2,.I p2),(7,.arr 221 l7.length),(8,.arr 112 k7.length),(9,.I n3),(11,.ptr 111 0)]) (Mem.of [(7,.box [.L Qo,.I n16]),(111,.box [.I (i64 ((l7.length:Int)+ea.1)),.I da.1,.I (l7.length:Int),.I n17,.I n18,.I n19,.str t20,.lst 6 (oW.map ag.lv),.L oX,.I n23,.I n24,.I n25]),(112,.arr 3 1 (k7.map LV.I)),(221,.arr 110 12 (l7.map ba.lv))])) ?_ ?_
   ·obtain ⟨VZ,hv,h⟩:=ae h
    refine LH.ax [(0,.ptr 7 0),(2,.I p2),(7,.arr 221 l7.length),(8,.arr 112 l6.length),(9,.I n3),(10,.I r9.1),(11,.ptr 111 0),(54,.bool VZ)] [(7,.box [.L ct.2.L,.I ct.2.At]),(111,.box [.I (i64 ((l7.length:Int)+ea.1)),.I da.1,.I (l7.length:Int),.I fx.1,.I 0,.I 0,.str (ByteArray.mk #[]),.nil,.nil,.I r9.1,.I (max 1 gF),.I ct.1]),(112,.arr 3 1 (l6.map LV.I)),(221,.arr 110 12 (l7.map ba.lv))] R ?_ ?_
    ·refine lq R (aZ R ?_)
     obtain ⟨Vw,Td,hv⟩:=ae hv
     refine sN (fP (f:=LV.I) bU aD aW R R R Td (sN (sx (f:=LV.I) R R (dp Td).2 R R R aD b5 (sN (iX R R (bZ R ?_))))))
     by_cases sw:(Vw == 0)=true
     ·replace hv:=aB hv sw
      refine sF R R sw (sF R R sw (sF R R sw (sN (aY (cB sw) (v:=(.bool _)) R ?_))))
      obtain rfl:=oI hv
      exact zS
     ·replace sw:=bF sw
      replace hv:=aA hv sw
      refine sT R (cB sw) (fo dB aD aW R R (sT R (cB sw) (dv R R R R aD b5 (sT R (cB sw) (iX R R (sN (bc (cB sw) (v:=(.bool _)) R ?_)))))))
      obtain rfl:=oI hv
      exact zS
    clear hv
    refine LH.cond (t:=VZ) R (fun Lp=>?_) (fun Lp=>?_)
    ·replace h:=aB h Lp
     refine LH.ax [(0,.ptr 7 0),(2,.I p2),(7,.arr 221 l7.length),(8,.arr 112 l6.length),(9,.I n3),(10,.I r9.1),(11,.ptr 111 0)] [(7,.box [.L ct.2.L,.I ct.2.At]),(111,.box [.I (i64 ((l7.length:Int)+ea.1)),.I da.1,.I (l7.length:Int),.I 2,.I 0,.I 0,.str (ByteArray.mk #[]),.nil,.nil,.I r9.1,.I (max 1 gF),.I ct.1]),(112,.arr 3 1 (l6.map LV.I)),(221,.arr 110 12 (l7.map ba.lv))] R (sN (fo dB aD aW R R (s_ (cM R R R aD aW R R R zS)))) (LH.mid (fun e m=>∃ (M5:Int),Fg aH F p2 n3 l6 l7 r9 ea da ct M5=some r∧Wk (fun id=>Mem.of [(7,.box [.L p0.L,.I p0.At])] id ≠ .none) e m (Env.of [(0,.ptr 7 0),(2,.I p2),(7,.arr 221 l7.length),(8,.arr 112 l6.length),(9,.I n3),(10,.I r9.1),(11,.ptr 111 0)]) (Mem.of [(7,.box [.L ct.2.L,.I ct.2.At]),(111,.box [.I (i64 ((l7.length:Int)+ea.1)),.I da.1,.I (l7.length:Int),.I M5,.I 0,.I 0,.str (ByteArray.mk #[]),.nil,.nil,.I r9.1,.I (max 1 gF),.I ct.1]),(112,.arr 3 1 (l6.map LV.I)),(221,.arr 110 12 (l7.map ba.lv))])) ?_ ?_)
     ·obtain ⟨V2,Th,h⟩:=ae h
      refine LH.aj R (lq R (aZ R (sN (fP (f:=LV.I) bU aD aW R R R Th (sN (sx (f:=LV.I) R R (dp Th).2 R R R aD b5 (sN (iX R R zQ)))))))) (LH.cond (t:=(V2 == 0)) R (fun OH=>?_) (fun OH=>?_))
      ·replace h:=aB h OH
       exact LH.bd R (sN (fo dB aD aW R R (s_ (cM R R R aD aW R R R zQ)))) (ai ⟨1,h,Wk.eq R R R R⟩)
      replace h:=aA h OH
      exact LH.skip (ai ⟨2,h,Wk.eq R R R R⟩)
     clear h
     rintro e m ⟨M5,h,hw⟩
     refine LH.wk hw ?_
     clear hw
     unfold Fg at h
     obtain ⟨KY,Te,h⟩:=ae h
     obtain ⟨ZY,Tf,h⟩:=ae h
     refine LH.ax [(0,.ptr 7 0),(2,.I p2),(7,.arr 221 l7.length),(8,.arr 112 (List.length (l6.set r9.1.toNat (min (i64 (KY+1)) 9)))),(9,.I n3),(10,.I r9.1),(11,.ptr 111 0)] [(7,.box [.L ct.2.L,.I ct.2.At]),(111,.box [.I (i64 ((l7.length:Int)+ea.1)),.I da.1,.I (l7.length:Int),.I M5,.I 0,.I 0,.str (ByteArray.mk #[]),.nil,.nil,.I r9.1,.I (max 1 gF),.I ct.1]),(112,.arr 3 1 (List.map LV.I (l6.set r9.1.toNat (min (i64 (KY+1)) 9)))),(221,.arr 110 12 (l7.map ba.lv))] R (lq R (aZ R (lq R (aZ R (sN (fP (f:=LV.I) bU aD aW R R R Te (sN (sx (f:=LV.I) R R (dp Te).2 R R R aD b5 (sN (b8 R R (sX ((CX R R).ok) (sN (fP (f:=LV.I) bU aD aW R R R Tf (s_ (nZ (f:=LV.I) (z':=(min (i64 (KY+1)) 9)) R R R R aD aW R (dp Tf).2 R (s0 (Wk.to (eC R (eC R (eC R (eC (congrArg (LV.arr 112) (by simp)) (eC R (eC R (eC R eN))))))) ⟨R,R,R,R,trivial⟩ R (aN R)))))))))))))))))) ?_
     obtain ⟨Vx,Tg,h⟩:=ae h
     obtain ⟨sC,Xp,h⟩:=ae h
     refine LH.df [(0,.ptr 7 0),(2,.I p2),(7,.arr 221 l7.length),(8,.arr 112 (List.length (l6.set r9.1.toNat (min (i64 (KY+1)) 9)))),(9,.I n3),(11,.ptr 111 0)] [(7,.box [.L sC.2.L,.I sC.2.At]),(111,.box [.I (i64 ((l7.length:Int)+ea.1)),.I da.1,.I (l7.length:Int),.I M5,.I sC.1.ID,.I sC.1.Version,.str sC.1.cn,.lst 6 (sC.1.aK.map ag.lv),.L sC.1.aL,.I 0,.I 0,.I 0]),(112,.arr 3 1 (List.map LV.I (l6.set r9.1.toNat (min (i64 (KY+1)) 9)))),(221,.arr 110 12 (l7.map ba.lv))] R ?_ ?_
     ·exact iA R (aZ R (lq R (aZ R (sN (fP (f:=LV.I) bU aD aW R R R Tg (sN (sx (f:=LV.I) R R (dp Tg).2 R R R aD b5 (aZ R (sN (ej (args:=[.ptr 7 0,.I r9.1,.I Vx,.I p2]) (ml:=[(7,.box [.L ct.2.L,.I ct.2.At])]) (cS:=[(7,.box [.L sC.2.L,.I sC.2.At])]) R Tw R (aw (aw (aw (aw bl)))) (V5 Xp) (mC R mN) (bu R bX) R (sN (gJ (vs:=[]) xP xQ R gI (sN (fo fu bA bn R R (s_ (cM R R R bA bn R R R (sN (fo fI eA dW R R (s_ (cM R R R eA dW R R R (sN (fo mB aD aW R R (s_ (cM R R R aD aW R R R zS))))))))))))))))))))))))
     exact ai ⟨sC.2.L,sC.2.At,M5,sC.1.ID,sC.1.Version,sC.1.cn,sC.1.aK,sC.1.aL,0,0,0,(l6.set r9.1.toNat (min (i64 (KY+1)) 9)),h,Wk.eq R R R R⟩
    replace h:=aA h Lp
    exact LH.skip (ai ⟨ct.2.L,ct.2.At,fx.1,0,0,(ByteArray.mk #[]),([]:List ag),([]:List Int),r9.1,(max 1 gF),ct.1,l6,h,(Wk.trans (bM [(0,.ptr 7 0),(2,.I p2),(7,.arr 221 l7.length),(8,.arr 112 l6.length),(9,.I n3),(11,.ptr 111 0)] [(7,.box [.L ct.2.L,.I ct.2.At]),(111,.box [.I (i64 ((l7.length:Int)+ea.1)),.I da.1,.I (l7.length:Int),.I fx.1,.I 0,.I 0,.str (ByteArray.mk #[]),.nil,.nil,.I r9.1,.I (max 1 gF),.I ct.1]),(112,.arr 3 1 (l6.map LV.I)),(221,.arr 110 12 (l7.map ba.lv))]) (Wk.trans (bM [(0,.ptr 7 0),(2,.I p2),(7,.arr 221 l7.length),(8,.arr 112 l6.length),(9,.I n3),(11,.ptr 111 0)] [(7,.box [.L ct.2.L,.I ct.2.At]),(111,.box [.I (i64 ((l7.length:Int)+ea.1)),.I da.1,.I (l7.length:Int),.I fx.1,.I 0,.I 0,.str (ByteArray.mk #[]),.nil,.nil,.I r9.1,.I (max 1 gF),.I ct.1]),(112,.arr 3 1 (l6.map LV.I)),(221,.arr 110 12 (l7.map ba.lv))]) (Wk.trans (Wk.oa 10117 185 6 111 7 R R R R R (cc R)) (Wk.trans (bM [(0,.ptr 7 0),(2,.I p2),(7,.arr 221 l7.length),(8,.arr 112 l6.length),(9,.I n3),(11,.ptr 111 0)] [(7,.box [.L ct.2.L,.I ct.2.At]),(111,.box [.I (i64 ((l7.length:Int)+ea.1)),.I da.1,.I (l7.length:Int),.I fx.1,.I 0,.I 0,.str (ByteArray.mk #[]),.arr 10117 (List.length ([]:List ag)),.nil,.I r9.1,.I (max 1 gF),.I ct.1]),(112,.arr 3 1 (l6.map LV.I)),(221,.arr 110 12 (l7.map ba.lv)),(10117,.arr 185 6 (List.map ag.lv ([]:List ag)))]) (Wk.trans (Wk.trans (Wk.ez (f:=ag.lv) 10117 185 6 ([]:List ag) 111 R R R (cC R (cC R (cC R (cC R (cC R (cC R (cC R (gS (cC R (cC R (cC R (cC R gR)))))))))))) R R (cc R)) (bM [(0,.ptr 7 0),(2,.I p2),(7,.arr 221 l7.length),(8,.arr 112 l6.length),(9,.I n3),(11,.ptr 111 0)] [(7,.box [.L ct.2.L,.I ct.2.At]),(111,.box [.I (i64 ((l7.length:Int)+ea.1)),.I da.1,.I (l7.length:Int),.I fx.1,.I 0,.I 0,.str (ByteArray.mk #[]),.lst 6 (List.map ag.lv ([]:List ag)),.nil,.I r9.1,.I (max 1 gF),.I ct.1]),(112,.arr 3 1 (l6.map LV.I)),(221,.arr 110 12 (l7.map ba.lv))])) (Wk.trans (bM [(0,.ptr 7 0),(2,.I p2),(7,.arr 221 l7.length),(8,.arr 112 l6.length),(9,.I n3),(11,.ptr 111 0)] [(7,.box [.L ct.2.L,.I ct.2.At]),(111,.box [.I (i64 ((l7.length:Int)+ea.1)),.I da.1,.I (l7.length:Int),.I fx.1,.I 0,.I 0,.str (ByteArray.mk #[]),.lst 6 (List.map ag.lv ([]:List ag)),.nil,.I r9.1,.I (max 1 gF),.I ct.1]),(112,.arr 3 1 (l6.map LV.I)),(221,.arr 110 12 (l7.map ba.lv))]) (Wk.trans (Wk.oa 10118 3 1 111 8 R R R R R (cc R)) (Wk.trans (bM [(0,.ptr 7 0),(2,.I p2),(7,.arr 221 l7.length),(8,.arr 112 l6.length),(9,.I n3),(11,.ptr 111 0)] [(7,.box [.L ct.2.L,.I ct.2.At]),(111,.box [.I (i64 ((l7.length:Int)+ea.1)),.I da.1,.I (l7.length:Int),.I fx.1,.I 0,.I 0,.str (ByteArray.mk #[]),.lst 6 (List.map ag.lv ([]:List ag)),.arr 10118 (List.length ([]:List Int)),.I r9.1,.I (max 1 gF),.I ct.1]),(112,.arr 3 1 (l6.map LV.I)),(221,.arr 110 12 (l7.map ba.lv)),(10118,.arr 3 1 (List.map LV.I ([]:List Int)))]) (Wk.trans (Wk.trans (Wk.ez (f:=LV.I) 10118 3 1 ([]:List Int) 111 R R R (cC R (cC R (cC R (cC R (cC R (cC R (cC R (cC R (gS (cC R (cC R (cC R gR)))))))))))) R R (cc R)) (bM [(0,.ptr 7 0),(2,.I p2),(7,.arr 221 l7.length),(8,.arr 112 l6.length),(9,.I n3),(11,.ptr 111 0)] [(7,.box [.L ct.2.L,.I ct.2.At]),(111,.box [.I (i64 ((l7.length:Int)+ea.1)),.I da.1,.I (l7.length:Int),.I fx.1,.I 0,.I 0,.str (ByteArray.mk #[]),.lst 6 (List.map ag.lv ([]:List ag)),.L ([]:List Int),.I r9.1,.I (max 1 gF),.I ct.1]),(112,.arr 3 1 (l6.map LV.I)),(221,.arr 110 12 (l7.map ba.lv))])) (Wk.eq R R R R))))))))))⟩)
   clear h
   rintro e m ⟨Qo,n16,n17,n18,n19,t20,oW,oX,n23,n24,n25,k7,h,hw⟩
   refine LH.wk hw ?_
   clear hw
   unfold Ff at h
   refine LH.mid (fun e m=>∃ (n27:Int) (n28:Int) (n29:Int) (n30:Int) (n31:Int) (n32:Int) (n33:Int) (RG:List Int) (n35:Int),vE aH n3 l7 n18 t20 oW oX n25 k7 n27 n28 n29 n30 n31 n32 n33 RG n35=some r∧Wk (fun id=>Mem.of [(7,.box [.L p0.L,.I p0.At])] id ≠ .none) e m (Env.of [(0,.ptr 7 0),(2,.I p2),(7,.arr 221 l7.length),(8,.arr 112 k7.length),(9,.I n3),(11,.sptr [.I n27,.I n28,.I n29,.I n30,.I n18,.I n31,.str t20,.lst 6 (oW.map ag.lv),.L oX,.I n32,.I n33,.I n25])]) (Mem.of [(7,.box [.L RG,.I n35]),(112,.arr 3 1 (k7.map LV.I)),(221,.arr 110 12 (l7.map ba.lv))])) ?_ ?_
   ·obtain ⟨B9,hv,h⟩:=ae h
    refine LH.ax [(0,.ptr 7 0),(2,.I p2),(7,.arr 221 l7.length),(8,.arr 112 k7.length),(9,.I n3),(11,.ptr 111 0),(89,.bool B9.1)] [(7,.box [.L B9.2.1,.I B9.2.2]),(111,.box [.I (i64 ((l7.length:Int)+ea.1)),.I da.1,.I (l7.length:Int),.I n17,.I n18,.I n19,.str t20,.lst 6 (oW.map ag.lv),.L oX,.I n23,.I n24,.I n25]),(112,.arr 3 1 (k7.map LV.I)),(221,.arr 110 12 (l7.map ba.lv))] R ?_ ?_
    ·refine aZ R (sN (jf R R (bZ R ?_)))
     by_cases sv:(decide (p2 > 0))=true
     ·replace hv:=aB hv sv
      refine sT R (cB sv) (oM (v:=(.ptr _ _)) R (sT R (cB sv) (oM (v:=(.int _ _)) R ?_)))
      obtain ⟨RJ,Xi,hv⟩:=ae hv
      refine sT R (cB sv) (ej (args:=[.ptr 7 0,.I p2]) (ml:=[(7,.box [.L Qo,.I n16])]) (cS:=[(7,.box [.L RJ.2.L,.I RJ.2.At])]) R wI R (aw (aw bl)) (Fi Xi) (mC R mN) (bu R bX) R (sN (aY (cB sv) (v:=(.bool _)) R ?_)))
      obtain rfl:=oI hv
      exact zS
     ·replace sv:=bF sv
      replace hv:=aA hv sv
      refine sF R R sv (sF R R sv (sF R R sv (sN (bc (cB sv) (v:=(.bool _)) R ?_))))
      obtain rfl:=oI hv
      exact zS
    clear hv
    refine LH.cond (t:=B9.1) R (fun OC=>?_) (fun OC=>?_)
    ·replace h:=aB h OC
     obtain ⟨rY,Xj,h⟩:=ae h
     refine LH.aj R (iA R (sN (ej (args:=[.ptr 7 0,.I 5]) (ml:=[(7,.box [.L B9.2.1,.I B9.2.2])]) (cS:=[(7,.box [.L rY.2.L,.I rY.2.At])]) R iu R (aw (aw bl)) (lz Xj) (mC R mN) (bu R bX) R zQ))) (LH.block (LH.aj R (sN (iX R R (cr R zQ))) (LH.cond (t:=(rY.1 == 0)) R (fun OD=>?_) (fun OD=>?_))))
     ·replace h:=aB h OD
      obtain ⟨B2,Xk,h⟩:=ae h
      exact LH.df [(0,.ptr 7 0),(2,.I p2),(7,.arr 221 l7.length),(8,.arr 112 k7.length),(9,.I n3),(11,.sptr [.I (i64 ((l7.length:Int)+ea.1)),.I da.1,.I (l7.length:Int),.I B2.1,.I n18,.I n19,.str t20,.lst 6 (oW.map ag.lv),.L oX,.I n23,.I n24,.I n25])] [(7,.box [.L B2.2.L,.I B2.2.At]),(112,.arr 3 1 (k7.map LV.I)),(221,.arr 110 12 (l7.map ba.lv))] R (iA R (sN (ej (args:=[.ptr 7 0,.I (-1),.I 8]) (ml:=[(7,.box [.L rY.2.L,.I rY.2.At])]) (cS:=[(7,.box [.L B2.2.L,.I B2.2.At])]) R km R (aw (aw (aw bl))) (o8 Xk) (mC R mN) (bu R bX) R (sN (fo dB aD aW R R (s_ (cM R R R aD aW R R R (s0 ((Wk.trans (bM [(0,.ptr 7 0),(2,.I p2),(7,.arr 221 l7.length),(8,.arr 112 k7.length),(9,.I n3),(11,.ptr 111 0)] [(7,.box [.L B2.2.L,.I B2.2.At]),(111,.box [.I (i64 ((l7.length:Int)+ea.1)),.I da.1,.I (l7.length:Int),.I B2.1,.I n18,.I n19,.str t20,.lst 6 (oW.map ag.lv),.L oX,.I n23,.I n24,.I n25]),(112,.arr 3 1 (k7.map LV.I)),(221,.arr 110 12 (l7.map ba.lv))]) (Wk.trans (Wk.bD 111 [.I (i64 ((l7.length:Int)+ea.1)),.I da.1,.I (l7.length:Int),.I B2.1,.I n18,.I n19,.str t20,.lst 6 (oW.map ag.lv),.L oX,.I n23,.I n24,.I n25] R R R (cc R)) (Wk.eq R R R R)))))))))))) (aQ (ai ⟨(i64 ((l7.length:Int)+ea.1)),da.1,(l7.length:Int),B2.1,n19,n23,n24,B2.2.L,B2.2.At,h,Wk.eq R R R R⟩))
     replace h:=aA h OD
     refine LH.aj R (sN (iX R R (cr R zQ))) (LH.cond (t:=(rY.1 == 1)) R (fun OE=>?_) (fun OE=>?_))
     ·replace h:=aB h OE
      obtain ⟨B3,Xl,h⟩:=ae h
      exact LH.df [(0,.ptr 7 0),(2,.I p2),(7,.arr 221 l7.length),(8,.arr 112 k7.length),(9,.I n3),(11,.sptr [.I (i64 ((l7.length:Int)+ea.1)),.I da.1,.I (l7.length:Int),.I n17,.I n18,.I n19,.str t20,.lst 6 (oW.map ag.lv),.L oX,.I n23,.I B3.1,.I n25])] [(7,.box [.L B3.2.L,.I B3.2.At]),(112,.arr 3 1 (k7.map LV.I)),(221,.arr 110 12 (l7.map ba.lv))] R (iA R (sN (ej (args:=[.ptr 7 0,.I (-1),.I 3]) (ml:=[(7,.box [.L rY.2.L,.I rY.2.At])]) (cS:=[(7,.box [.L B3.2.L,.I B3.2.At])]) R km R (aw (aw (aw bl))) (o8 Xl) (mC R mN) (bu R bX) R (sN (fo fI eA dW R R (sN (fo fq aD aW R R (s_ (cM R R R aD aW R R R (s0 ((Wk.trans (bM [(0,.ptr 7 0),(2,.I p2),(7,.arr 221 l7.length),(8,.arr 112 k7.length),(9,.I n3),(11,.ptr 111 0)] [(7,.box [.L B3.2.L,.I B3.2.At]),(111,.box [.I (i64 ((l7.length:Int)+ea.1)),.I da.1,.I (l7.length:Int),.I n17,.I n18,.I n19,.str t20,.lst 6 (oW.map ag.lv),.L oX,.I n23,.I B3.1,.I n25]),(112,.arr 3 1 (k7.map LV.I)),(221,.arr 110 12 (l7.map ba.lv))]) (Wk.trans (Wk.bD 111 [.I (i64 ((l7.length:Int)+ea.1)),.I da.1,.I (l7.length:Int),.I n17,.I n18,.I n19,.str t20,.lst 6 (oW.map ag.lv),.L oX,.I n23,.I B3.1,.I n25] R R R (cc R)) (Wk.eq R R R R)))))))))))))) (aQ (ai ⟨(i64 ((l7.length:Int)+ea.1)),da.1,(l7.length:Int),n17,n19,n23,B3.1,B3.2.L,B3.2.At,h,Wk.eq R R R R⟩))
     replace h:=aA h OE
     refine LH.aj R (sN (iX R R (cr R zQ))) (LH.cond (t:=(rY.1 == 2)) R (fun OF=>?_) (fun OF=>?_))
     ·replace h:=aB h OF
      obtain ⟨B4,Xm,h⟩:=ae h
      exact LH.df [(0,.ptr 7 0),(2,.I p2),(7,.arr 221 l7.length),(8,.arr 112 k7.length),(9,.I n3),(11,.sptr [.I (i64 ((l7.length:Int)+ea.1)),.I da.1,.I (l7.length:Int),.I n17,.I n18,.I n19,.str t20,.lst 6 (oW.map ag.lv),.L oX,.I B4.1,.I n24,.I n25])] [(7,.box [.L B4.2.L,.I B4.2.At]),(112,.arr 3 1 (k7.map LV.I)),(221,.arr 110 12 (l7.map ba.lv))] R (iA R (sN (ej (args:=[.ptr 7 0,.I 7]) (ml:=[(7,.box [.L rY.2.L,.I rY.2.At])]) (cS:=[(7,.box [.L B4.2.L,.I B4.2.At])]) R iu R (aw (aw bl)) (lz Xm) (mC R mN) (bu R bX) R (sN (fo fI eA dW R R (sN (fo jo aD aW R R (s_ (cM R R R aD aW R R R (s0 ((Wk.trans (bM [(0,.ptr 7 0),(2,.I p2),(7,.arr 221 l7.length),(8,.arr 112 k7.length),(9,.I n3),(11,.ptr 111 0)] [(7,.box [.L B4.2.L,.I B4.2.At]),(111,.box [.I (i64 ((l7.length:Int)+ea.1)),.I da.1,.I (l7.length:Int),.I n17,.I n18,.I n19,.str t20,.lst 6 (oW.map ag.lv),.L oX,.I B4.1,.I n24,.I n25]),(112,.arr 3 1 (k7.map LV.I)),(221,.arr 110 12 (l7.map ba.lv))]) (Wk.trans (Wk.bD 111 [.I (i64 ((l7.length:Int)+ea.1)),.I da.1,.I (l7.length:Int),.I n17,.I n18,.I n19,.str t20,.lst 6 (oW.map ag.lv),.L oX,.I B4.1,.I n24,.I n25] R R R (cc R)) (Wk.eq R R R R)))))))))))))) (aQ (ai ⟨(i64 ((l7.length:Int)+ea.1)),da.1,(l7.length:Int),n17,n19,B4.1,n24,B4.2.L,B4.2.At,h,Wk.eq R R R R⟩))
     replace h:=aA h OF
     refine LH.aj R (sN (iX R R (cr R zQ))) (LH.cond (t:=(rY.1 == 3)) R (fun OG=>?_) (fun OG=>?_))
     ·replace h:=aB h OG
      obtain ⟨rZ,Xn,h⟩:=ae h
      exact LH.df [(0,.ptr 7 0),(2,.I p2),(7,.arr 221 l7.length),(8,.arr 112 k7.length),(9,.I n3),(11,.sptr [.I rZ.1.Time,.I rZ.1.Source,.I rZ.1.Seq,.I n17,.I n18,.I n19,.str t20,.lst 6 (oW.map ag.lv),.L oX,.I n23,.I n24,.I n25])] [(7,.box [.L rZ.2.L,.I rZ.2.At]),(112,.arr 3 1 (k7.map LV.I)),(221,.arr 110 12 (l7.map ba.lv))] R (iA R (sN (ej (args:=[.ptr 7 0,.I 3]) (ml:=[(7,.box [.L rY.2.L,.I rY.2.At])]) (cS:=[(7,.box [.L rZ.2.L,.I rZ.2.At])]) R Tu R (aw (aw bl)) (V7 Xn) (mC R mN) (bu R bX) R (sN (fo dE di dh R R (s_ (cM R R R di dh R R R (s0 ((Wk.trans (bM [(0,.ptr 7 0),(2,.I p2),(7,.arr 221 l7.length),(8,.arr 112 k7.length),(9,.I n3),(11,.ptr 111 0)] [(7,.box [.L rZ.2.L,.I rZ.2.At]),(111,.box [.I rZ.1.Time,.I rZ.1.Source,.I rZ.1.Seq,.I n17,.I n18,.I n19,.str t20,.lst 6 (oW.map ag.lv),.L oX,.I n23,.I n24,.I n25]),(112,.arr 3 1 (k7.map LV.I)),(221,.arr 110 12 (l7.map ba.lv))]) (Wk.trans (Wk.bD 111 [.I rZ.1.Time,.I rZ.1.Source,.I rZ.1.Seq,.I n17,.I n18,.I n19,.str t20,.lst 6 (oW.map ag.lv),.L oX,.I n23,.I n24,.I n25] R R R (cc R)) (Wk.eq R R R R)))))))))))) (aQ (ai ⟨rZ.1.Time,rZ.1.Source,rZ.1.Seq,n17,n19,n23,n24,rZ.2.L,rZ.2.At,h,Wk.eq R R R R⟩))
     replace h:=aA h OG
     obtain ⟨B5,Xo,h⟩:=ae h
     exact LH.df [(0,.ptr 7 0),(2,.I p2),(7,.arr 221 l7.length),(8,.arr 112 k7.length),(9,.I n3),(11,.sptr [.I (i64 ((l7.length:Int)+ea.1)),.I da.1,.I (l7.length:Int),.I n17,.I n18,.I B5.1,.str t20,.lst 6 (oW.map ag.lv),.L oX,.I n23,.I n24,.I n25])] [(7,.box [.L B5.2.L,.I B5.2.At]),(112,.arr 3 1 (k7.map LV.I)),(221,.arr 110 12 (l7.map ba.lv))] R (iA R (sN (ej (args:=[.ptr 7 0,.I 0,.I 3]) (ml:=[(7,.box [.L rY.2.L,.I rY.2.At])]) (cS:=[(7,.box [.L B5.2.L,.I B5.2.At])]) R km R (aw (aw (aw bl))) (o8 Xo) (mC R mN) (bu R bX) R (sN (fo fu bA bn R R (sN (fo gh aD aW R R (s_ (cM R R R aD aW R R R (s0 ((Wk.trans (bM [(0,.ptr 7 0),(2,.I p2),(7,.arr 221 l7.length),(8,.arr 112 k7.length),(9,.I n3),(11,.ptr 111 0)] [(7,.box [.L B5.2.L,.I B5.2.At]),(111,.box [.I (i64 ((l7.length:Int)+ea.1)),.I da.1,.I (l7.length:Int),.I n17,.I n18,.I B5.1,.str t20,.lst 6 (oW.map ag.lv),.L oX,.I n23,.I n24,.I n25]),(112,.arr 3 1 (k7.map LV.I)),(221,.arr 110 12 (l7.map ba.lv))]) (Wk.trans (Wk.bD 111 [.I (i64 ((l7.length:Int)+ea.1)),.I da.1,.I (l7.length:Int),.I n17,.I n18,.I B5.1,.str t20,.lst 6 (oW.map ag.lv),.L oX,.I n23,.I n24,.I n25] R R R (cc R)) (Wk.eq R R R R)))))))))))))) (aQ (ai ⟨(i64 ((l7.length:Int)+ea.1)),da.1,(l7.length:Int),n17,B5.1,n23,n24,B5.2.L,B5.2.At,h,Wk.eq R R R R⟩))
    replace h:=aA h OC
    exact LH.skip (ai ⟨(i64 ((l7.length:Int)+ea.1)),da.1,(l7.length:Int),n17,n19,n23,n24,B9.2.1,B9.2.2,h,(Wk.trans (bM [(0,.ptr 7 0),(2,.I p2),(7,.arr 221 l7.length),(8,.arr 112 k7.length),(9,.I n3),(11,.ptr 111 0)] [(7,.box [.L B9.2.1,.I B9.2.2]),(111,.box [.I (i64 ((l7.length:Int)+ea.1)),.I da.1,.I (l7.length:Int),.I n17,.I n18,.I n19,.str t20,.lst 6 (oW.map ag.lv),.L oX,.I n23,.I n24,.I n25]),(112,.arr 3 1 (k7.map LV.I)),(221,.arr 110 12 (l7.map ba.lv))]) (Wk.trans (Wk.bD 111 [.I (i64 ((l7.length:Int)+ea.1)),.I da.1,.I (l7.length:Int),.I n17,.I n18,.I n19,.str t20,.lst 6 (oW.map ag.lv),.L oX,.I n23,.I n24,.I n25] R R R (cc R)) (Wk.eq R R R R)))⟩)
   clear h
   rintro e m ⟨n27,n28,n29,n30,n31,n32,n33,RG,n35,h,hw⟩
   refine LH.wk hw ?_
   clear hw
   unfold vE at h
   obtain ⟨Ri,XJ,h⟩:=ae h
   refine LH.aj R (lq R (sN (bw R eB iv dJ R R (sN (jU (f:=ba.lv) (ys:=[(ba.mk (bE.mk n27 n28 n29) n30 (ab.mk n18 n31 t20 oW oX) (aS.mk n32 n33) n25)]) lg xN dJ R R R ba.ok (sN (rT (f:=ba.lv) lg xN dJ R R (cc R) R XJ (uT R zQ)))))))) ?_
   obtain ⟨oJ,O7,h⟩:=ae h
   refine LH.aj R (iA R (sN (ej (args:=[.ptr 7 0,.I 8]) (ml:=[(7,.box [.L RG,.I n35])]) (cS:=[(7,.box [.L oJ.2.L,.I oJ.2.At])]) R wI R (aw (aw bl)) (Fi O7) (mC R mN) (bu R bX) R zQ))) (LH.cond (t:=oJ.1) R (fun OA=>?_) (fun OA=>?_))
   ·replace h:=aB h OA
    obtain ⟨NH,Xe,h⟩:=ae h
    obtain ⟨YR,S6,h⟩:=ae h
    obtain ⟨v41,Pm,h⟩:=ae h
    refine LH.bd R (lq R (lq R (iA R (lq R (sN (z6 (f:=ba.lv) lg R R (sN (ej (args:=[.ptr 7 0,.I (Ri.length:Int)]) (ml:=[(7,.box [.L oJ.2.L,.I oJ.2.At])]) (cS:=[(7,.box [.L NH.2.L,.I NH.2.At])]) R iu R (aw (aw bl)) (lz Xe) (mC R mN) (bu R bX) R (sN (fP (f:=ba.lv) lg eB dJ R R R S6 (sN (qm (f:=ba.lv) R R (dp S6).2 R R eB iv dJ R R (sN (jU (f:=ba.lv) (ys:=[YR]) lg xN dJ R R R ba.ok (sN (rT (f:=ba.lv) lg xN dJ R R (cc R) R Pm (uT R zQ))))))))))))))))) (aQ (ai (LH.bd R (aZ R (sN (kq R R (br R zQ)))) ?_)))
    exact a7 ⟨(i64 (n3 - 1)),NH.2.L,NH.2.At,k7,v41,aI ▸ h,R,R⟩ (Wk.eq R R R R)
   replace h:=aA h OA
   refine LH.skip (aQ (ai (LH.bd R (aZ R (sN (kq R R (br R zQ)))) ?_)))
   exact a7 ⟨(i64 (n3 - 1)),oJ.2.L,oJ.2.At,k7,Ri,aI ▸ h,R,R⟩ (Wk.eq R R R R)
  replace h:=aA h kf
  refine LH.exit (cg (bO (bK (ai (LH.wk ((Wk.trans (bM [(7,.arr 221 l7.length)] [(7,.box [.L l4,.I n5]),(221,.arr 110 12 (l7.map ba.lv))]) (Wk.trans (Wk.pj (f:=ba.lv) (iP:=[(7,.lst 12 (l7.map ba.lv))]) 221 110 12 l7 R R (cc R) (fZ fN)) (bM [(7,.lst 12 (l7.map ba.lv))] [(7,.box [.L l4,.I n5])])))) (LH.aj R (dY R (sD R zQ)) (LH.ret ?_)))))))
  obtain rfl:=oI h
  exact aJ (aT Tryz.results21) (bT R (bP ⟨aG (mC R mN),R,aN R,Sub.rfl⟩))
theorem Ub {F:Nat} {p0:List ba} {p1:(ba→Option bE)} {p2:(ba→ba→Option Bool)} {r:List bE × List Int} {cH:Nat} {ca:List LV} (rk:dn Tryz.prog cH) (jA:LV.bt ca=true) (rl:∀ (x0:ba) (q:bE),p1 x0=some q→aF Tryz.prog cH ([.agg [.I x0.ak.Time,.I x0.ak.Source,.I x0.ak.Seq,.I x0.Kind,.I x0.Item.ID,.I x0.Item.Version,.str x0.Item.cn,.lst 6 (x0.Item.aK.map ag.lv),.L x0.Item.aL,.I x0.Ref.ID,.I x0.Ref.Version,.I x0.Form]]++ca) (Mem.of []) (.agg [.I q.Time,.I q.Source,.I q.Seq]) (Mem.of [])) {eS:Nat} {dH:List LV} (Gg:dn Tryz.prog eS) (vZ:LV.bt dH=true) (Gh:∀ (x0:ba) (x1:ba) (q:Bool),p2 x0 x1=some q→aF Tryz.prog eS ([.agg [.I x0.ak.Time,.I x0.ak.Source,.I x0.ak.Seq,.I x0.Kind,.I x0.Item.ID,.I x0.Item.Version,.str x0.Item.cn,.lst 6 (x0.Item.aK.map ag.lv),.L x0.Item.aL,.I x0.Ref.ID,.I x0.Ref.Version,.I x0.Form],.agg [.I x1.ak.Time,.I x1.ak.Source,.I x1.ak.Seq,.I x1.Kind,.I x1.Item.ID,.I x1.Item.Version,.str x1.Item.cn,.lst 6 (x1.Item.aK.map ag.lv),.L x1.Item.aL,.I x1.Ref.ID,.I x1.Ref.Version,.I x1.Form]]++dH) (Mem.of []) (.bool q) (Mem.of [])) (h:J3 F p0 p1 p2=some r):aF Tryz.prog 210 [.lst 12 (p0.map ba.lv),.fn cH ca,.fn eS dH] (Mem.of []) (.tup [.lst 3 (r.1.map bE.lv),.L r.2]) (Mem.of []):=by
  have Js:∀ {l:List LV},LV.bt l=true→LV.bt (l++dH)=true:=Ju vZ
  have e7:LV.a8 dH=[]:=et vZ
  have vY:∀ {l:List LV},LV.bt l=true→LV.bt (l++ca)=true:=Ju jA
  have cZ:LV.a8 ca=[]:=et jA
  unfold J3 at h
  refine bh Tryz.func210 R (nT Tryz.ntmps210 R) (LH.wk (Wk.to (el:=[(0,.lst 12 (p0.map ba.lv)),(1,.fn cH ca),(2,.fn eS dH)]) (ml:=[]) (eQ ⟨R,R,R,trivial⟩) mN (by simp [av,LV.refs,LV.a8,LV.cells,cP,Env.args,Env.of,Env.put,Env.drop,cZ,e7]) (aN R)) (LH.ax [(0,.lst 12 (p0.map ba.lv)),(1,.fn cH ca),(2,.fn eS dH)] [] R (pU R (pU R (s0 (Wk.to (eQ ⟨R,R,R,trivial⟩) mN (by simp [av,LV.refs,LV.a8,LV.cells,cP,Env.args,Env.of,Env.put,Env.drop,cZ,e7]) (aN R))))) ?_))
  obtain ⟨v1,iR,h⟩:=ae h
  refine LH.ax [(0,.lst 12 (p0.map ba.lv)),(1,.fn cH ca),(2,.fn eS dH),(8,.arr 117 v1.length)] [(117,.arr 40 3 (v1.map bE.lv))] R (dY R (sN (bW (f:=ba.lv) lg R (sN (Qw (f:=bE.lv) (z:=(bE.mk 0 0 0)) (id:=117) R kx yS YA dh R R R iR R (uT R (s0 (Wk.to (eQ ⟨R,R,R,R,trivial⟩) ⟨R,trivial⟩ (by simp [av,LV.refs,LV.a8,LV.cells,cP,Env.args,Env.of,Env.put,Env.drop,cZ,e7]) (aN R))))))))) ?_
  obtain ⟨v2,hv2,h⟩:=ae h
  refine LH.ax [(0,.lst 12 (p0.map ba.lv)),(1,.fn cH ca),(2,.fn eS dH),(8,.arr 117 v1.length),(9,.arr 120 v2.length)] [(117,.arr 40 3 (v1.map bE.lv)),(120,.arr 3 1 (v2.map LV.I))] R (dY R (sN (bW (f:=ba.lv) lg R (sN (Qw (f:=LV.I) (z:=0) (id:=120) R bU NZ qL aW R R R hv2 R (uT R (s0 (Wk.to (eQ ⟨R,R,R,R,R,trivial⟩) ⟨R,R,trivial⟩ (by simp [av,LV.refs,LV.a8,LV.cells,cP,Env.args,Env.of,Env.put,Env.drop,cZ,e7]) (aN R))))))))) (LH.ax [(0,.lst 12 (p0.map ba.lv)),(1,.fn cH ca),(2,.fn eS dH),(8,.arr 117 v1.length),(9,.arr 120 v2.length),(10,.mp 121)] [(117,.arr 40 3 (v1.map bE.lv)),(120,.arr 3 1 (v2.map LV.I)),(121,.map 40 3 (je bE.lv LV.I ([]:List (bE × Int))))] R (sX ((uA (kt:=40) (vt:=3) (id:=121) R).ok) (sN (oA (v:=(.mp _)) R (s0 (Wk.to (eQ ⟨R,R,R,R,R,R,trivial⟩) ⟨R,R,R,trivial⟩ (by simp [av,LV.refs,LV.a8,LV.cells,cP,Env.args,Env.of,Env.put,Env.drop,cZ,e7]) (aN R)))))) (LH.seq (LH.ax [(0,.lst 12 (p0.map ba.lv)),(1,.fn cH ca),(2,.fn eS dH),(8,.arr 117 v1.length),(9,.arr 120 v2.length),(10,.mp 121),(22,.lst 12 (p0.map ba.lv)),(23,.I (p0.length:Int)),(24,.I 0)] [(117,.arr 40 3 (v1.map bE.lv)),(120,.arr 3 1 (v2.map LV.I)),(121,.map 40 3 (je bE.lv LV.I ([]:List (bE × Int))))] R (dY R (sN (bW (f:=ba.lv) lg R (aZ R (s0 (Wk.to (eQ ⟨R,R,R,R,R,R,R,R,R,trivial⟩) ⟨R,R,R,trivial⟩ (by simp [av,LV.refs,LV.a8,LV.cells,cP,Env.args,Env.of,Env.put,Env.drop,cZ,e7]) (aN R))))))) (LH.block (LH.loop (fun n e m=>∃ (n3:Int) (l4:List bE) (l5:List Int) (m6:List (bE × Int)),C2 p0 p1 p2 n n3 l4 l5 m6=some r∧e=Env.of [(0,.lst 12 (p0.map ba.lv)),(1,.fn cH ca),(2,.fn eS dH),(8,.arr 117 l4.length),(9,.arr 120 l5.length),(10,.mp 121),(22,.lst 12 (p0.map ba.lv)),(23,.I (p0.length:Int)),(24,.I n3)]∧m=Mem.of [(117,.arr 40 3 (l4.map bE.lv)),(120,.arr 3 1 (l5.map LV.I)),(121,.map 40 3 (je bE.lv LV.I m6))]) F ⟨0,v1,v2,([]:List (bE × Int)),h,R,R⟩ ?_)))))
  clear h
  rintro n e m ⟨n3,l4,l5,m6,h,rfl,rfl⟩
  rcases n with _ | n
  · cases (show Option.none=some _ from h)
  obtain ⟨aH,aI⟩:∃ f,f=C2 p0 p1 p2 n:=⟨_,rfl⟩
  replace h:JO p0 p1 p2 aH n3 l4 l5 m6=some r:=aI ▸ h
  unfold JO at h
  refine LH.ax [(0,.lst 12 (p0.map ba.lv)),(1,.fn cH ca),(2,.fn eS dH),(8,.arr 117 l4.length),(9,.arr 120 l5.length),(10,.mp 121),(22,.lst 12 (p0.map ba.lv)),(23,.I (p0.length:Int)),(24,.I n3),(25,.bool (decide (n3<(p0.length:Int))))] [(117,.arr 40 3 (l4.map bE.lv)),(120,.arr 3 1 (l5.map LV.I)),(121,.map 40 3 (je bE.lv LV.I m6))] R (sN (eG R R (s0 (Wk.to (eQ ⟨R,R,R,R,R,R,R,R,R,R,trivial⟩) ⟨R,R,R,trivial⟩ (by simp [av,LV.refs,LV.a8,LV.cells,cP,Env.args,Env.of,Env.put,Env.drop,cZ,e7]) (aN R))))) (LH.seq (LH.cond (t:=(decide (n3<(p0.length:Int)))) R (fun ln=>?_) (fun ln=>?_)))
  ·replace h:=aB h ln
   refine LH.skip (ai (LH.wk (Wk.to (el:=[(0,.lst 12 (p0.map ba.lv)),(1,.fn cH ca),(2,.fn eS dH),(8,.arr 117 l4.length),(9,.arr 120 l5.length),(10,.mp 121),(22,.lst 12 (p0.map ba.lv)),(23,.I (p0.length:Int)),(24,.I n3)]) (ml:=[(117,.arr 40 3 (l4.map bE.lv)),(120,.arr 3 1 (l5.map LV.I)),(121,.map 40 3 (je bE.lv LV.I m6))]) (eQ ⟨R,R,R,R,R,R,R,R,R,trivial⟩) ⟨R,R,R,trivial⟩ (by simp [av,LV.refs,LV.a8,LV.cells,cP,Env.args,Env.of,Env.put,Env.drop,cZ,e7]) (aN R)) (LH.seq (LH.block ?_))))
   obtain ⟨x8,G2,h⟩:=ae h
   refine LH.ax [(0,.lst 12 (p0.map ba.lv)),(1,.fn cH ca),(2,.fn eS dH),(8,.arr 117 l4.length),(9,.arr 120 l5.length),(10,.mp 121),(11,.I n3),(12,.ptr 112 0),(22,.lst 12 (p0.map ba.lv)),(23,.I (p0.length:Int)),(24,.I n3)] [(112,.box [.I x8.ak.Time,.I x8.ak.Source,.I x8.ak.Seq,.I x8.Kind,.I x8.Item.ID,.I x8.Item.Version,.str x8.Item.cn,.lst 6 (x8.Item.aK.map ag.lv),.L x8.Item.aL,.I x8.Ref.ID,.I x8.Ref.Version,.I x8.Form]),(117,.arr 40 3 (l4.map bE.lv)),(120,.arr 3 1 (l5.map LV.I)),(121,.map 40 3 (je bE.lv LV.I m6))] R (aZ R (sN (eF (f:=ba.lv) lg eB dJ R R ba.ok G2 R (sN (bw R eB iv dJ R R (sN (hD (id:=112) R so R R (br R (s_ (cM R R R eB dJ R R R (s0 (Wk.to (eQ ⟨R,R,R,R,R,R,R,R,R,R,R,trivial⟩) ⟨R,R,R,R,trivial⟩ (by simp [av,LV.refs,LV.a8,LV.cells,cP,Env.args,Env.of,Env.put,Env.drop,cZ,e7]) (aN R))))))))))))) ?_
   obtain ⟨r9,CK,h⟩:=ae h
   obtain ⟨lr,oV,h⟩:=ae h
   refine LH.ax [(0,.lst 12 (p0.map ba.lv)),(1,.fn cH ca),(2,.fn eS dH),(8,.arr 117 (List.length (l4.set n3.toNat r9))),(9,.arr 120 l5.length),(10,.mp 121),(11,.I n3),(12,.ptr 112 0),(22,.lst 12 (p0.map ba.lv)),(23,.I (p0.length:Int)),(24,.I n3)] [(112,.box [.I x8.ak.Time,.I x8.ak.Source,.I x8.ak.Seq,.I x8.Kind,.I x8.Item.ID,.I x8.Item.Version,.str x8.Item.cn,.lst 6 (x8.Item.aK.map ag.lv),.L x8.Item.aL,.I x8.Ref.ID,.I x8.Ref.Version,.I x8.Form]),(117,.arr 40 3 (List.map bE.lv (l4.set n3.toNat r9))),(120,.arr 3 1 (l5.map LV.I)),(121,.map 40 3 (je bE.lv LV.I m6))] R ?_ ?_
   ·refine lq R (aZ R (sN (oM (v:=(.fn _ _)) R (sN (kp R R R eB iv dJ R R (sN (dq (args:=[.agg [.I x8.ak.Time,.I x8.ak.Source,.I x8.ak.Seq,.I x8.Kind,.I x8.Item.ID,.I x8.Item.Version,.str x8.Item.cn,.lst 6 (x8.Item.aK.map ag.lv),.L x8.Item.aL,.I x8.Ref.ID,.I x8.Ref.Version,.I x8.Form]]++ca) (eH:=[.agg [.I x8.ak.Time,.I x8.ak.Source,.I x8.ak.Seq,.I x8.Kind,.I x8.Item.ID,.I x8.Item.Version,.str x8.Item.cn,.lst 6 (x8.Item.aK.map ag.lv),.L x8.Item.aL,.I x8.Ref.ID,.I x8.Ref.Version,.I x8.Form]]++ca) R rk R fl.rfl (rl _ _ CK) (vY R) ?_)))))))
    exact sN (fP (f:=bE.lv) kx di dh R R R oV (s_ (nZ (f:=bE.lv) (z':=r9) R R R R di dh R (dp oV).2 R (s0 (Wk.to (eC R (eC R (eC R (eC (congrArg (LV.arr 117) (by simp)) (eC R (eC R (eC R (eC R (eC R (eC R (eC R eN))))))))))) ⟨R,R,R,R,trivial⟩ (by simp [av,LV.refs,LV.a8,LV.cells,cP,Env.args,Env.of,Env.put,Env.drop,cZ,e7]) (aN R))))))
   obtain ⟨lu,pA,h⟩:=ae h
   refine LH.ax [(0,.lst 12 (p0.map ba.lv)),(1,.fn cH ca),(2,.fn eS dH),(8,.arr 117 (List.length (l4.set n3.toNat r9))),(9,.arr 120 l5.length),(10,.mp 121),(11,.I n3),(12,.ptr 112 0),(13,.I ((ib m6 lu).getD 0)),(14,.bool ((ib m6 lu).isSome)),(22,.lst 12 (p0.map ba.lv)),(23,.I (p0.length:Int)),(24,.I n3)] [(112,.box [.I x8.ak.Time,.I x8.ak.Source,.I x8.ak.Seq,.I x8.Kind,.I x8.Item.ID,.I x8.Item.Version,.str x8.Item.cn,.lst 6 (x8.Item.aK.map ag.lv),.L x8.Item.aL,.I x8.Ref.ID,.I x8.Ref.Version,.I x8.Form]),(117,.arr 40 3 (List.map bE.lv (l4.set n3.toNat r9))),(120,.arr 3 1 (l5.map LV.I)),(121,.map 40 3 (je bE.lv LV.I m6))] R (sN (oM (v:=(.mp _)) R (lq R (aZ R (sN (fP (f:=bE.lv) kx di dh R R R pA (sN (qm (f:=bE.lv) R R (dp pA).2 R R di jX dh R R (sX ((uz (f:=bE.lv) (g:=LV.I) (xs:=m6) (key:=lu) (z:=0) NO M4 TH R R R NZ).ok) (sE R (sN (fL R R (sN (fL R R (br R (cr R (s0 (Wk.to (eQ ⟨R,R,R,R,R,R,R,R,R,R,R,R,R,trivial⟩) ⟨R,R,R,R,trivial⟩ (by simp [av,LV.refs,LV.a8,LV.cells,cP,Env.args,Env.of,Env.put,Env.drop,cZ,e7]) (aN R))))))))))))))))))) (LH.ax [(0,.lst 12 (p0.map ba.lv)),(1,.fn cH ca),(2,.fn eS dH),(8,.arr 117 (List.length (l4.set n3.toNat r9))),(9,.arr 120 l5.length),(10,.mp 121),(11,.I n3),(12,.ptr 112 0),(13,.I ((ib m6 lu).getD 0)),(22,.lst 12 (p0.map ba.lv)),(23,.I (p0.length:Int)),(24,.I n3),(45,.bool (!((ib m6 lu).isSome)))] [(112,.box [.I x8.ak.Time,.I x8.ak.Source,.I x8.ak.Seq,.I x8.Kind,.I x8.Item.ID,.I x8.Item.Version,.str x8.Item.cn,.lst 6 (x8.Item.aK.map ag.lv),.L x8.Item.aL,.I x8.Ref.ID,.I x8.Ref.Version,.I x8.Form]),(117,.arr 40 3 (List.map bE.lv (l4.set n3.toNat r9))),(120,.arr 3 1 (l5.map LV.I)),(121,.map 40 3 (je bE.lv LV.I m6))] R (bZ R (sN (eM R (s0 (Wk.to (eQ ⟨R,R,R,R,R,R,R,R,R,R,R,R,R,trivial⟩) ⟨R,R,R,R,trivial⟩ (by simp [av,LV.refs,LV.a8,LV.cells,cP,Env.args,Env.of,Env.put,Env.drop,cZ,e7]) (aN R)))))) (LH.cond (t:=(!((ib m6 lu).isSome))) R (fun gl=>?_) (fun gl=>?_)))
   ·replace h:=aB h gl
    obtain ⟨gF,qg,h⟩:=ae h
    refine LH.df [(0,.lst 12 (p0.map ba.lv)),(1,.fn cH ca),(2,.fn eS dH),(8,.arr 117 (List.length (l4.set n3.toNat r9))),(9,.arr 120 l5.length),(10,.mp 121),(22,.lst 12 (p0.map ba.lv)),(23,.I (p0.length:Int)),(24,.I n3)] [(117,.arr 40 3 (List.map bE.lv (l4.set n3.toNat r9))),(120,.arr 3 1 (l5.map LV.I)),(121,.map 40 3 (je bE.lv LV.I (eW m6 gF n3)))] R (sN (oM (v:=(.mp _)) R (lq R (aZ R (sN (fP (f:=bE.lv) kx di dh R R R qg (sN (qm (f:=bE.lv) R R (dp qg).2 R R di jX dh R R (aZ R (KW ((jg (f:=bE.lv) (g:=LV.I) (xs:=m6) (key:=gF) (val:=n3) (.inl R) NO M4 TH (fun _=>R) R R R R).ok) (s0 (Wk.to (eQ ⟨R,R,R,R,R,R,R,R,R,trivial⟩) ⟨R,R,R,trivial⟩ (by simp [av,LV.refs,LV.a8,LV.cells,cP,Env.args,Env.of,Env.put,Env.drop,cZ,e7]) (aN R))))))))))))) (aQ (ai (LH.df [(0,.lst 12 (p0.map ba.lv)),(1,.fn cH ca),(2,.fn eS dH),(8,.arr 117 (List.length (l4.set n3.toNat r9))),(9,.arr 120 l5.length),(10,.mp 121),(22,.lst 12 (p0.map ba.lv)),(23,.I (p0.length:Int)),(24,.I (i64 (n3+1)))] [(117,.arr 40 3 (List.map bE.lv (l4.set n3.toNat r9))),(120,.arr 3 1 (l5.map LV.I)),(121,.map 40 3 (je bE.lv LV.I (eW m6 gF n3)))] R (sN (b8 R R (aZ R (s0 (Wk.to (eQ ⟨R,R,R,R,R,R,R,R,R,trivial⟩) ⟨R,R,R,trivial⟩ (by simp [av,LV.refs,LV.a8,LV.cells,cP,Env.args,Env.of,Env.put,Env.drop,cZ,e7]) (aN R)))))) ?_)))
    exact a7 ⟨(i64 (n3+1)),(l4.set n3.toNat r9),l5,(eW m6 gF n3),aI ▸ h,R,R⟩ (Wk.to (eQ ⟨R,R,R,R,R,R,R,R,R,trivial⟩) ⟨R,R,R,trivial⟩ (by simp [av,LV.refs,LV.a8,LV.cells,cP,Env.args,Env.of,Env.put,Env.drop,cZ,e7]) (aN R))
   replace h:=aA h gl
   obtain ⟨pQ,Pr,h⟩:=ae h
   obtain ⟨kC,ym,h⟩:=ae h
   refine LH.du mixed [] [0,0,0,0,0,1112,0,0] [(0,.lst 12 (p0.map ba.lv)),(1,.fn cH ca),(2,.fn eS dH),(8,.arr 117 (List.length (l4.set n3.toNat r9))),(9,.arr 120 l5.length),(10,.mp 121),(11,.I n3),(22,.lst 12 (p0.map ba.lv)),(23,.I (p0.length:Int)),(24,.I n3),(59,.bool (!kC))] [(117,.arr 40 3 (List.map bE.lv (l4.set n3.toNat r9))),(120,.arr 3 1 (l5.map LV.I)),(121,.map 40 3 (je bE.lv LV.I m6))] R R (by kernel_rfl) ?_ ?_
   ·refine mMf R (vX R (iT R (aX (eF (f:=ba.lv) lg eB dJ R R ba.ok Pr R ⟨R,aX (bw R eB iv dJ R R ⟨R,mD R R R (fun _ b _ d=>kp R b R eB iv dJ R R d) (aX (dq (args:=[.agg [.I pQ.ak.Time,.I pQ.ak.Source,.I pQ.ak.Seq,.I pQ.Kind,.I pQ.Item.ID,.I pQ.Item.Version,.str pQ.Item.cn,.lst 6 (pQ.Item.aK.map ag.lv),.L pQ.Item.aL,.I pQ.Ref.ID,.I pQ.Ref.Version,.I pQ.Form],.agg [.I x8.ak.Time,.I x8.ak.Source,.I x8.ak.Seq,.I x8.Kind,.I x8.Item.ID,.I x8.Item.Version,.str x8.Item.cn,.lst 6 (x8.Item.aK.map ag.lv),.L x8.Item.aL,.I x8.Ref.ID,.I x8.Ref.Version,.I x8.Form]]++dH) (eH:=[.agg [.I pQ.ak.Time,.I pQ.ak.Source,.I pQ.ak.Seq,.I pQ.Kind,.I pQ.Item.ID,.I pQ.Item.Version,.str pQ.Item.cn,.lst 6 (pQ.Item.aK.map ag.lv),.L pQ.Item.aL,.I pQ.Ref.ID,.I pQ.Ref.Version,.I pQ.Form],.agg [.I x8.ak.Time,.I x8.ak.Source,.I x8.ak.Seq,.I x8.Kind,.I x8.Item.ID,.I x8.Item.Version,.str x8.Item.cn,.lst 6 (x8.Item.aK.map ag.lv),.L x8.Item.aL,.I x8.Ref.ID,.I x8.Ref.Version,.I x8.Form]]++dH) R Gg R fl.rfl (Gh _ _ _ ym) (Js R) ⟨R,?_⟩))⟩)⟩))))
    exact aX (eM R ⟨R,m0 (Wk.to (eQ ⟨R,R,R,R,R,R,R,R,R,R,R,trivial⟩) ⟨R,R,R,trivial⟩ (by simp [av,LV.refs,LV.a8,LV.cells,cP,Env.args,Env.of,Env.put,Env.drop,cZ,e7]) (aN R))⟩)
   refine LH.cond (t:=(!kC)) R (fun ke=>?_) (fun ke=>?_)
   ·replace h:=aB h ke
    obtain ⟨gA,qh,h⟩:=ae h
    refine LH.df [(0,.lst 12 (p0.map ba.lv)),(1,.fn cH ca),(2,.fn eS dH),(8,.arr 117 (List.length (l4.set n3.toNat r9))),(9,.arr 120 (List.length (l5.set n3.toNat 1))),(10,.mp 121),(22,.lst 12 (p0.map ba.lv)),(23,.I (p0.length:Int)),(24,.I n3)] [(117,.arr 40 3 (List.map bE.lv (l4.set n3.toNat r9))),(120,.arr 3 1 (List.map LV.I (l5.set n3.toNat 1))),(121,.map 40 3 (je bE.lv LV.I m6))] R (lq R (aZ R (sN (fP (f:=LV.I) bU aD aW R R R qh (s_ (nZ (f:=LV.I) (z':=1) R R R R aD aW R (dp qh).2 R (s0 (Wk.to (eC R (eC R (eC R (eC R (eC (congrArg (LV.arr 120) (by simp)) (eC R (eC R (eC R (eC R eN))))))))) ⟨R,R,R,trivial⟩ (by simp [av,LV.refs,LV.a8,LV.cells,cP,Env.args,Env.of,Env.put,Env.drop,cZ,e7]) (aN R))))))))) (aQ (ai (LH.df [(0,.lst 12 (p0.map ba.lv)),(1,.fn cH ca),(2,.fn eS dH),(8,.arr 117 (List.length (l4.set n3.toNat r9))),(9,.arr 120 (List.length (l5.set n3.toNat 1))),(10,.mp 121),(22,.lst 12 (p0.map ba.lv)),(23,.I (p0.length:Int)),(24,.I (i64 (n3+1)))] [(117,.arr 40 3 (List.map bE.lv (l4.set n3.toNat r9))),(120,.arr 3 1 (List.map LV.I (l5.set n3.toNat 1))),(121,.map 40 3 (je bE.lv LV.I m6))] R (sN (b8 R R (aZ R (s0 (Wk.to (eQ ⟨R,R,R,R,R,R,R,R,R,trivial⟩) ⟨R,R,R,trivial⟩ (by simp [av,LV.refs,LV.a8,LV.cells,cP,Env.args,Env.of,Env.put,Env.drop,cZ,e7]) (aN R)))))) ?_)))
    exact a7 ⟨(i64 (n3+1)),(l4.set n3.toNat r9),(l5.set n3.toNat 1),m6,aI ▸ h,R,R⟩ (Wk.to (eQ ⟨R,R,R,R,R,R,R,R,R,trivial⟩) ⟨R,R,R,trivial⟩ (by simp [av,LV.refs,LV.a8,LV.cells,cP,Env.args,Env.of,Env.put,Env.drop,cZ,e7]) (aN R))
   replace h:=aA h ke
   refine LH.skip (aQ (ai (LH.df [(0,.lst 12 (p0.map ba.lv)),(1,.fn cH ca),(2,.fn eS dH),(8,.arr 117 (List.length (l4.set n3.toNat r9))),(9,.arr 120 l5.length),(10,.mp 121),(22,.lst 12 (p0.map ba.lv)),(23,.I (p0.length:Int)),(24,.I (i64 (n3+1)))] [(117,.arr 40 3 (List.map bE.lv (l4.set n3.toNat r9))),(120,.arr 3 1 (l5.map LV.I)),(121,.map 40 3 (je bE.lv LV.I m6))] R (sN (b8 R R (aZ R (s0 (Wk.to (eQ ⟨R,R,R,R,R,R,R,R,R,trivial⟩) ⟨R,R,R,trivial⟩ (by simp [av,LV.refs,LV.a8,LV.cells,cP,Env.args,Env.of,Env.put,Env.drop,cZ,e7]) (aN R)))))) ?_)))
   exact a7 ⟨(i64 (n3+1)),(l4.set n3.toNat r9),l5,m6,aI ▸ h,R,R⟩ (Wk.to (eQ ⟨R,R,R,R,R,R,R,R,R,trivial⟩) ⟨R,R,R,trivial⟩ (by simp [av,LV.refs,LV.a8,LV.cells,cP,Env.args,Env.of,Env.put,Env.drop,cZ,e7]) (aN R))
  replace h:=aA h ln
  refine LH.exit (cg (bO (bK (ai (LH.wk ((Wk.trans (Wk.to (el:=[(8,.arr 117 l4.length),(9,.arr 120 l5.length)]) (ml:=[(117,.arr 40 3 (l4.map bE.lv)),(120,.arr 3 1 (l5.map LV.I))]) (eQ ⟨R,R,trivial⟩) ⟨R,R,trivial⟩ (by simp [av,LV.refs,LV.a8,LV.cells,cP,Env.args,Env.of,Env.put,Env.drop,cZ,e7]) (aN R)) (Wk.trans (Wk.pj (f:=bE.lv) (iP:=[(8,.lst 3 (l4.map bE.lv)),(9,.arr 120 l5.length)]) 117 40 3 l4 R R (cc R) (fZ (fK R fN))) (Wk.trans (Wk.pj (f:=LV.I) (iP:=[(8,.lst 3 (l4.map bE.lv)),(9,.L l5)]) 120 3 1 l5 R R (cc R) (fK R (fZ fN))) (Wk.to (el:=[(8,.lst 3 (l4.map bE.lv)),(9,.L l5)]) (ml:=[]) (eQ ⟨R,R,trivial⟩) mN (by simp [av,LV.refs,LV.a8,LV.cells,cP,Env.args,Env.of,Env.put,Env.drop,cZ,e7]) (aN R)))))) (LH.ax [(6,.lst 3 (l4.map bE.lv)),(7,.L l5)] [] R (dY R (dY R (sD R (sD R (s0 (Wk.to (eQ ⟨R,R,trivial⟩) mN (by simp [av,LV.refs,LV.a8,LV.cells,cP,Env.args,Env.of,Env.put,Env.drop,cZ,e7]) (aN R))))))) (LH.ret ?_)))))))
  obtain rfl:=oI h
  exact aJ (aT Tryz.results210) (bT R (bT R (bP ⟨aG mN,R,aN R,(Sub.tup (aw (aw bl)))⟩)))
theorem UU {p0:bE} {r:Bool} (h:ES p0=some r):aF Tryz.prog 218 [.agg [.I p0.Time,.I p0.Source,.I p0.Seq]] (Mem.of []) (.bool r) (Mem.of []):=by
  unfold ES at h
  refine bh Tryz.func218 R (nT Tryz.ntmps218 R) (LH.aj R (sB (dm R R R R (cr R zQ))) (LH.ax [(2,.bool ((decide (p0.Time ≥ 0)) && ((decide (p0.Time≤1000000)) && ((decide (p0.Source ≥ 0)) && ((decide (p0.Source≤99)) && ((decide (p0.Seq ≥ 0)) && (decide (p0.Seq≤9999))))))))] [] R ?_ ?_))
  ·refine sN (aC ky aD aW R R R (sN (bj R aD b5 (sN (oY R R (bZ R ?_))))))
   by_cases hb2:(decide (p0.Time ≥ 0))=true
   ·refine sT R (cB hb2) (aC ky aD aW R R R (sT R (cB hb2) (bj R aD b5 (sT R (cB hb2) (KV R R (sN (aY (cB hb2) (v:=(.bool _)) R (bZ R ?_))))))))
    by_cases hb3:(decide (p0.Time≤1000000))=true
    ·refine sT R (cB hb3) (aC gO aD aW R R R (sT R (cB hb3) (bj R aD b5 (sT R (cB hb3) (oY R R (sN (aY (cB hb3) (v:=(.bool _)) R (bZ R ?_))))))))
     by_cases bY:(decide (p0.Source ≥ 0))=true
     ·refine sT R (cB bY) (aC gO aD aW R R R (sT R (cB bY) (bj R aD b5 (sT R (cB bY) (KV R R (sN (aY (cB bY) (v:=(.bool _)) R (bZ R ?_))))))))
      by_cases eD:(decide (p0.Source≤99))=true
      ·refine sT R (cB eD) (aC gy aD aW R R R (sT R (cB eD) (bj R aD b5 (sT R (cB eD) (oY R R (sN (aY (cB eD) (v:=(.bool _)) R (bZ R ?_))))))))
       by_cases bV:(decide (p0.Seq ≥ 0))=true
       ·exact sT R (cB bV) (aC gy aD aW R R R (sT R (cB bV) (bj R aD b5 (sT R (cB bV) (KV R R (sN (aY (cB bV) (v:=(.bool _)) R (cr R (s0 (Wk.to (eC (cB (Eq.trans (Eq.trans (Eq.trans (Eq.trans (eV bV) (eV eD)) (eV bY)) (eV hb3)) (eV hb2))) eN) mN R (aN R)))))))))))
       ·replace bV:=bF bV
        exact sF R R bV (sF R R bV (sF R R bV (sN (bc (cB bV) (v:=(.bool _)) R (cr R (s0 (Wk.to (eC (cB (Eq.trans (Eq.trans (Eq.trans (Eq.trans (lB bV) (eV eD)) (eV bY)) (eV hb3)) (eV hb2))) eN) mN R (aN R))))))))
      ·replace eD:=bF eD
       exact sF R R eD (sF R R eD (sF R R eD (sN (bc (cB eD) (v:=(.bool _)) R (bZ R (sF R R R (sF R R R (sF R R R (sN (bc R (v:=(.bool _)) R (cr R (s0 (Wk.to (eC (cB (Eq.trans (Eq.trans (Eq.trans (lB eD) (eV bY)) (eV hb3)) (eV hb2))) eN) mN R (aN R))))))))))))))
     ·replace bY:=bF bY
      exact sF R R bY (sF R R bY (sF R R bY (sN (bc (cB bY) (v:=(.bool _)) R (bZ R (sF R R R (sF R R R (sF R R R (sN (bc R (v:=(.bool _)) R (bZ R (sF R R R (sF R R R (sF R R R (sN (bc R (v:=(.bool _)) R (cr R (s0 (Wk.to (eC (cB (Eq.trans (Eq.trans (lB bY) (eV hb3)) (eV hb2))) eN) mN R (aN R))))))))))))))))))))
    ·replace hb3:=bF hb3
     exact sF R R hb3 (sF R R hb3 (sF R R hb3 (sN (bc (cB hb3) (v:=(.bool _)) R (bZ R (sF R R R (sF R R R (sF R R R (sN (bc R (v:=(.bool _)) R (bZ R (sF R R R (sF R R R (sF R R R (sN (bc R (v:=(.bool _)) R (bZ R (sF R R R (sF R R R (sF R R R (sN (bc R (v:=(.bool _)) R (cr R (s0 (Wk.to (eC (cB (Eq.trans (lB hb3) (eV hb2))) eN) mN R (aN R))))))))))))))))))))))))))
   ·replace hb2:=bF hb2
    exact sF R R hb2 (sF R R hb2 (sF R R hb2 (sN (bc (cB hb2) (v:=(.bool _)) R (bZ R (sF R R R (sF R R R (sF R R R (sN (bc R (v:=(.bool _)) R (bZ R (sF R R R (sF R R R (sF R R R (sN (bc R (v:=(.bool _)) R (bZ R (sF R R R (sF R R R (sF R R R (sN (bc R (v:=(.bool _)) R (bZ R (sF R R R (sF R R R (sF R R R (sN (bc R (v:=(.bool _)) R (cr R (s0 (Wk.to (eC (cB (lB hb2)) eN) mN R (aN R))))))))))))))))))))))))))))))))
  refine LH.ret ?_
  obtain rfl:=oI h
  exact aJ (aT Tryz.results218) (bT R (bP ⟨aG mN,R,aN R,Sub.rfl⟩))
theorem lI {p0:Int} {r:Bool} (h:cmp_isNaN_int p0=some r):aF Tryz.prog 203 [.I p0] (Mem.of []) (.bool r) (Mem.of []):=by
  unfold cmp_isNaN_int at h
  refine bh Tryz.func203 R (nT Tryz.ntmps203 R) (LH.aj R (cr R zQ) (LH.aj R (aZ R (aZ R (sN (iC R R (cr R zQ))))) (LH.ret ?_)))
  obtain rfl:=oI h
  exact aJ (aT Tryz.results203) (bT R (bP ⟨aG mN,R,aN R,Sub.rfl⟩))
theorem dx {p0:Int} {p1:Int} {r:Int} (h:cW p0 p1=some r):aF Tryz.prog 160 [.I p0,.I p1] (Mem.of []) (.I r) (Mem.of []):=by
  unfold cW at h
  refine bh Tryz.func160 R (nT Tryz.ntmps160 R) (LH.aj R (br R zQ) ?_)
  obtain ⟨r1,dR,h⟩:=ae h
  refine LH.aj R (aZ R (sN (dq (args:=[.I p0]) R IV R (aw bl) (lI dR) R (cr R zQ)))) ?_
  obtain ⟨r2,hr2,h⟩:=ae h
  refine LH.aj R (aZ R (sN (dq (args:=[.I p1]) R IV R (aw bl) (lI hr2) R (cr R zQ)))) (LH.seq (LH.aj R (bZ R zQ) (LH.cond (t:=r1) R (fun fT=>?_) (fun fT=>?_))))
  ·replace h:=aB h fT
   refine LH.seq (LH.aj R (bZ R zQ) (LH.cond (t:=r2) R (fun jj=>?_) (fun jj=>?_)))
   ·replace h:=aB h jj
    refine LH.aj R (br R zQ) (LH.ret (aO (aO ?_)))
    obtain rfl:=oI h
    exact aJ (aT Tryz.results160) (bT R (bP ⟨aG mN,R,aN R,Sub.rfl⟩))
   replace h:=aA h jj
   refine LH.skip (ai (LH.aj R (br R zQ) (LH.ret (aO ?_))))
   obtain rfl:=oI h
   exact aJ (aT Tryz.results160) (bT R (bP ⟨aG mN,R,aN R,Sub.rfl⟩))
  replace h:=aA h fT
  refine LH.skip (ai (LH.seq (LH.aj R (bZ R zQ) (LH.cond (t:=r2) R (fun gZ=>?_) (fun gZ=>?_)))))
  ·replace h:=aB h gZ
   refine LH.aj R (br R zQ) (LH.ret (aO ?_))
   obtain rfl:=oI h
   exact aJ (aT Tryz.results160) (bT R (bP ⟨aG mN,R,aN R,Sub.rfl⟩))
  replace h:=aA h gZ
  refine LH.skip (ai (LH.seq (LH.aj R (aZ R (aZ R (sN (eG R R zQ)))) (LH.cond (t:=(decide (p0<p1))) R (fun fY=>?_) (fun fY=>?_)))))
  ·replace h:=aB h fY
   refine LH.aj R (br R zQ) (LH.ret (aO ?_))
   obtain rfl:=oI h
   exact aJ (aT Tryz.results160) (bT R (bP ⟨aG mN,R,aN R,Sub.rfl⟩))
  replace h:=aA h fY
  refine LH.skip (ai (LH.seq (LH.aj R (aZ R (aZ R (sN (jf R R zQ)))) (LH.cond (t:=(decide (p0 > p1))) R (fun ln=>?_) (fun ln=>?_)))))
  ·replace h:=aB h ln
   refine LH.aj R (br R zQ) (LH.ret (aO ?_))
   obtain rfl:=oI h
   exact aJ (aT Tryz.results160) (bT R (bP ⟨aG mN,R,aN R,Sub.rfl⟩))
  replace h:=aA h ln
  refine LH.skip (ai (LH.aj R (br R zQ) (LH.ret ?_)))
  obtain rfl:=oI h
  exact aJ (aT Tryz.results160) (bT R (bP ⟨aG mN,R,aN R,Sub.rfl⟩))
theorem kW {F:Nat} {p0:List Int} {r:Int} (h:ia F p0=some r):aF Tryz.prog 159 [.L p0] (Mem.of []) (.I r) (Mem.of []):=by
  unfold ia at h
  refine bh Tryz.func159 R (nT Tryz.ntmps159 R) (LH.aj R (br R zQ) (LH.aj R (br R zQ) (LH.seq (LH.ax [(3,.I 0),(6,.L p0),(7,.I (p0.length:Int)),(8,.I 0)] [] R (dY R (sN (bW (f:=LV.I) bU R (aZ R zS)))) (LH.block (LH.loop (fun n e m=>∃ (n1:Int),fi p0 n n1=some r∧e=Env.of [(3,.I 0),(6,.L p0),(7,.I (p0.length:Int)),(8,.I n1)]∧m=Mem.of []) F ⟨0,h,R,R⟩ ?_))))))
  clear h
  rintro n e m ⟨n1,h,rfl,rfl⟩
  rcases n with _ | n
  · cases (show Option.none=some _ from h)
  obtain ⟨aH,aI⟩:∃ f,f=fi p0 n:=⟨_,rfl⟩
  replace h:fO p0 aH n1=some r:=aI ▸ h
  unfold fO at h
  refine LH.aj R (sN (eG R R zQ)) (LH.seq (LH.cond (t:=(decide (n1<(p0.length:Int)))) R (fun dI=>?_) (fun dI=>?_)))
  ·replace h:=aB h dI
   refine LH.skip (ai (LH.seq (LH.block ?_)))
   obtain ⟨x3,fj,h⟩:=ae h
   refine LH.aj R (sN (eF (f:=LV.I) bU aD aW R R jB fj R (sN (bj R aD b5 (br R zQ))))) (LH.aj R (aZ R (aZ R (sN (iC R R zQ)))) (LH.cond (t:=(x3 != 0)) R (fun jj=>?_) (fun jj=>?_)))
   ·replace h:=aB h jj
    refine LH.aj R (aZ R (br R zQ)) (LH.ret (bH (aO (dg (bH (aO ?_))))))
    obtain rfl:=oI h
    exact aJ (aT Tryz.results159) (bT R (bP ⟨aG mN,R,aN R,Sub.rfl⟩))
   replace h:=aA h jj
   refine LH.skip (aQ (ai (LH.bd R (sN (b8 R R (aZ R zQ))) ?_)))
   exact a7 ⟨(i64 (n1+1)),aI ▸ h,R,R⟩ (Wk.eq R R R R)
  replace h:=aA h dI
  refine LH.exit (cg (bO (bK (ai (LH.aj R (aZ R (br R zQ)) (LH.ret ?_))))))
  obtain rfl:=oI h
  exact aJ (aT Tryz.results159) (bT R (bP ⟨aG mN,R,aN R,Sub.rfl⟩))
theorem Nc {F:Nat} {p0:bE} {p1:bE} {r:Int} (h:Gn F p0 p1=some r):aF Tryz.prog 220 [.agg [.I p0.Time,.I p0.Source,.I p0.Seq],.agg [.I p1.Time,.I p1.Source,.I p1.Seq]] (Mem.of []) (.I r) (Mem.of []):=by
  unfold Gn at h
  refine bh Tryz.func220 R (nT Tryz.ntmps220 R) (LH.aj R (sB (dm R R R R (sB (dm R R R R (br R zQ))))) ?_)
  obtain ⟨r1,dR,h⟩:=ae h
  obtain ⟨r2,hr2,h⟩:=ae h
  obtain ⟨r3,hr3,h⟩:=ae h
  refine LH.du mixed [] [0,0,0,0,0,0,0,0,0,0,0,0,0] [(4,.I r3)] [] R R (by kernel_rfl) (aX (aC gO aD aW R R R ⟨R,aX (bj R aD b5 ⟨R,aX (aC gO aD aW R R R ⟨R,aX (bj R aD b5 ⟨R,aX (dq (args:=[.I p0.Source,.I p1.Source]) R pC R (aw (aw bl)) (dx dR) R ⟨R,aX (aC gy aD aW R R R ⟨R,aX (bj R aD b5 ⟨R,aX (aC gy aD aW R R R ⟨R,aX (bj R aD b5 ⟨R,aX (dq (args:=[.I p0.Seq,.I p1.Seq]) R pC R (aw (aw bl)) (dx hr2) R ⟨R,aX (jU (f:=LV.I) (ys:=[r1,r2]) bU qL aW R R R jB ⟨R,aX (dq (args:=[.L [r1,r2]]) R CR R (aw bl) (kW hr3) R ⟨R,Qr R zM⟩)⟩)⟩)⟩)⟩)⟩)⟩)⟩)⟩)⟩)⟩)⟩)) (LH.ret ?_)
  obtain rfl:=oI h
  exact aJ (aT Tryz.results220) (bT R (bP ⟨aG mN,R,aN R,Sub.rfl⟩))
theorem UN {F:Nat} {p0:Int} {p1:Int} {c0:List bE} {r:Int} (h:xo F p0 p1 c0=some r):aF Tryz.prog 219 [.I p0,.I p1,.sptr [.lst 3 (c0.map bE.lv)]] (Mem.of []) (.I r) (Mem.of []):=by
  unfold xo at h
  refine bh Tryz.func219 R (nT Tryz.ntmps219 R) (LH.aj R (br R zQ) ?_)
  obtain ⟨x1,VN,h⟩:=ae h
  obtain ⟨x2,LC,h⟩:=ae h
  obtain ⟨r3,hr3,h⟩:=ae h
  obtain ⟨r4,F1,h⟩:=ae h
  obtain ⟨r5,vR,h⟩:=ae h
  refine LH.du mixed [] [0,0,0,0,0,0,0,0,0,0,0,0,0,0,0] [(5,.I r5)] [] R R (by kernel_rfl) ?_ ?_
  ·exact aX (bj R oh oe ⟨R,iT R (aX (eF (f:=bE.lv) kx di dh R R bE.ok VN R ⟨R,aX (bw R di jX dh R R ⟨R,aX (bj R oh oe ⟨R,iT R (aX (eF (f:=bE.lv) kx di dh R R bE.ok LC R ⟨R,aX (bw R di jX dh R R ⟨R,aX (dq (args:=[.agg [.I x1.Time,.I x1.Source,.I x1.Seq],.agg [.I x2.Time,.I x2.Source,.I x2.Seq]]) R IW R (aw (aw bl)) (Nc hr3) R ⟨R,iT R (iT R (aX (dq (args:=[.I p0,.I p1]) R pC R (aw (aw bl)) (dx F1) R ⟨R,aX (jU (f:=LV.I) (ys:=[r3,r4]) bU qL aW R R R jB ⟨R,aX (dq (args:=[.L [r3,r4]]) R CR R (aw bl) (kW vR) R ⟨R,Qr R zM⟩)⟩)⟩)))⟩)⟩)⟩))⟩)⟩)⟩))⟩)
  refine LH.ret ?_
  obtain rfl:=oI h
  exact aJ (aT Tryz.results219) (bT R (bP ⟨aG mN,R,aN R,Sub.rfl⟩))
theorem UT {F:Nat} {p0:List bE} {p1:List Int} {r:List fG} (h:ER F p0 p1=some r):aF Tryz.prog 199 [.lst 3 (p0.map bE.lv),.L p1] (Mem.of []) (.lst 2 (r.map fG.lv)) (Mem.of []):=by
  unfold ER at h
  refine bh Tryz.func199 R (nT Tryz.ntmps199 R) (LH.aj R (sB (dm R R R R (pU R zQ))) (LH.aj R (pU R zQ) (LH.seq (LH.aj R (sN (bj R oh oe (sN (bW (f:=bE.lv) kx R (aZ R zQ))))) (LH.block (LH.wk ((Wk.trans (bM [(1,.L p1),(2,.sptr [.lst 3 (p0.map bE.lv)]),(5,.nil),(13,.lst 3 (p0.map bE.lv)),(14,.I (p0.length:Int)),(15,.I 0)] []) (Wk.trans (bM [(1,.L p1),(2,.sptr [.lst 3 (p0.map bE.lv)]),(5,.nil),(13,.lst 3 (p0.map bE.lv)),(14,.I (p0.length:Int)),(15,.I 0)] []) (Wk.trans (Wk.Ac (iP:=[(1,.L p1),(2,.sptr [.lst 3 (p0.map bE.lv)]),(5,.arr 125 (List.length ([]:List Int))),(13,.lst 3 (p0.map bE.lv)),(14,.I (p0.length:Int)),(15,.I 0)]) 125 3 1 R R (wK (wK (wO (wK (wK (wK wN))))))) (bM [(1,.L p1),(2,.sptr [.lst 3 (p0.map bE.lv)]),(5,.arr 125 (List.length ([]:List Int))),(13,.lst 3 (p0.map bE.lv)),(14,.I (p0.length:Int)),(15,.I 0)] [(125,.arr 3 1 (List.map LV.I ([]:List Int)))]))))) (LH.loop (fun n e m=>∃ (n1:Int) (l2:List Int),xl F p0 p1 n n1 l2=some r∧e=Env.of [(1,.L p1),(2,.sptr [.lst 3 (p0.map bE.lv)]),(5,.arr 125 l2.length),(13,.lst 3 (p0.map bE.lv)),(14,.I (p0.length:Int)),(15,.I n1)]∧m=Mem.of [(125,.arr 3 1 (l2.map LV.I))]) F ⟨0,([]:List Int),h,R,R⟩ ?_)))))))
  clear h
  rintro n e m ⟨n1,l2,h,rfl,rfl⟩
  rcases n with _ | n
  · cases (show Option.none=some _ from h)
  obtain ⟨aH,aI⟩:∃ f,f=xl F p0 p1 n:=⟨_,rfl⟩
  replace h:AU F p0 p1 aH n1 l2=some r:=aI ▸ h
  unfold AU at h
  refine LH.aj R (sN (eG R R zQ)) (LH.seq (LH.cond (t:=(decide (n1<(p0.length:Int)))) R (fun fT=>?_) (fun fT=>?_)))
  ·replace h:=aB h fT
   refine LH.skip (ai (LH.seq (LH.block ?_)))
   obtain ⟨x4,zL,h⟩:=ae h
   refine LH.ax [(1,.L p1),(2,.sptr [.lst 3 (p0.map bE.lv)]),(5,.arr 125 l2.length),(6,.I n1),(7,.sptr [.I x4.Time,.I x4.Source,.I x4.Seq]),(13,.lst 3 (p0.map bE.lv)),(14,.I (p0.length:Int)),(15,.I n1)] [(125,.arr 3 1 (l2.map LV.I))] R (aZ R (sN (eF (f:=bE.lv) kx di dh R R bE.ok zL R (sN (bw R di jX dh R R (sN (hD (id:=107) R yS R R (br R (s_ (cM R R R di dh R R R (s0 ((Wk.trans (bM [(1,.L p1),(2,.sptr [.lst 3 (p0.map bE.lv)]),(5,.arr 125 l2.length),(6,.I n1),(7,.ptr 107 0),(13,.lst 3 (p0.map bE.lv)),(14,.I (p0.length:Int)),(15,.I n1)] [(107,.box [.I x4.Time,.I x4.Source,.I x4.Seq]),(125,.arr 3 1 (l2.map LV.I))]) (Wk.trans (Wk.bD 107 [.I x4.Time,.I x4.Source,.I x4.Seq] R R R (cc R)) (Wk.eq R R R R))))))))))))))) ?_
   obtain ⟨r5,vR,h⟩:=ae h
   refine LH.aj R (sN (bw R di jX dh R R (sN (dq (args:=[.agg [.I x4.Time,.I x4.Source,.I x4.Seq]]) R Qi R (aw bl) (UU vR) R zQ)))) (LH.cond (t:=r5) R (fun fY=>?_) (fun fY=>?_))
   ·replace h:=aB h fY
    obtain ⟨v7,hv7,h⟩:=ae h
    refine LH.bd R (lq R (aZ R (sN (jU (f:=LV.I) (ys:=[n1]) bU qL aW R R R jB (sN (rT (f:=LV.I) bU qL aW R R (cc R) R hv7 (uT R zQ))))))) (aQ (ai (LH.bd R (sN (b8 R R (aZ R zQ))) ?_)))
    exact a7 ⟨(i64 (n1+1)),v7,aI ▸ h,R,R⟩ (Wk.eq R R R R)
   replace h:=aA h fY
   refine LH.skip (aQ (ai (LH.bd R (sN (b8 R R (aZ R zQ))) ?_)))
   exact a7 ⟨(i64 (n1+1)),l2,aI ▸ h,R,R⟩ (Wk.eq R R R R)
  replace h:=aA h fT
  refine LH.exit (cg (bO (bK (ai ?_))))
  obtain ⟨l8,Zo,h⟩:=ae h
  refine LH.ax [(1,.L p1),(2,.sptr [.lst 3 (p0.map bE.lv)]),(5,.L l8)] [] R (lq R (sN (z7 (vs:=[.sptr [.lst 3 (p0.map bE.lv)]]) R (sN (ej (args:=[.arr 125 l2.length,.fn 219 [.sptr [.lst 3 (p0.map bE.lv)]]]) (ml:=[(125,.arr 3 1 (l2.map LV.I))]) (cS:=[(125,.arr 3 1 (l8.map LV.I))]) R IU R (aw (aw bl)) (BB Tryz.NI R Qj R (fun _ _ _ h=>UN h) 125 3 Zo) (mC R mN) (bu R bX) R (s0 ((Wk.trans (Wk.to (el:=[(1,.L p1),(2,.sptr [.lst 3 (p0.map bE.lv)]),(5,.arr 125 l8.length)]) (ml:=[(125,.arr 3 1 (l8.map LV.I))]) (eC R (eC R (eC (congrArg (LV.arr 125) (xI Zo)) eN))) ⟨R,trivial⟩ R (aN R)) (Wk.trans (Wk.pj (f:=LV.I) (iP:=[(1,.L p1),(2,.sptr [.lst 3 (p0.map bE.lv)]),(5,.L l8)]) 125 3 1 l8 R R (cc R) (fK R (fK R (fZ fN)))) (Wk.eq R R R R)))))))))) (LH.aj R (pU R zQ) (LH.seq (LH.aj R (dY R (sN (bW (f:=LV.I) bU R (aZ R zQ)))) (LH.block (LH.wk ((Wk.trans (bM [(1,.L p1),(2,.sptr [.lst 3 (p0.map bE.lv)]),(8,.nil),(30,.L l8),(31,.I (l8.length:Int)),(32,.I 0)] []) (Wk.trans (bM [(1,.L p1),(2,.sptr [.lst 3 (p0.map bE.lv)]),(8,.nil),(30,.L l8),(31,.I (l8.length:Int)),(32,.I 0)] []) (Wk.trans (Wk.Ac (iP:=[(1,.L p1),(2,.sptr [.lst 3 (p0.map bE.lv)]),(8,.arr 161 (List.length ([]:List fG))),(30,.L l8),(31,.I (l8.length:Int)),(32,.I 0)]) 161 299 2 R R (wK (wK (wO (wK (wK (wK wN))))))) (bM [(1,.L p1),(2,.sptr [.lst 3 (p0.map bE.lv)]),(8,.arr 161 (List.length ([]:List fG))),(30,.L l8),(31,.I (l8.length:Int)),(32,.I 0)] [(161,.arr 299 2 (List.map fG.lv ([]:List fG)))]))))) (LH.loop (fun n e m=>∃ (n9:Int) (iW:List fG),xm F p0 p1 l8 n n9 iW=some r∧e=Env.of [(1,.L p1),(2,.sptr [.lst 3 (p0.map bE.lv)]),(8,.arr 161 iW.length),(30,.L l8),(31,.I (l8.length:Int)),(32,.I n9)]∧m=Mem.of [(161,.arr 299 2 (iW.map fG.lv))]) F ⟨0,([]:List fG),h,R,R⟩ ?_))))))
  clear h
  rintro n e m ⟨n9,iW,h,rfl,rfl⟩
  rcases n with _ | n
  · cases (show Option.none=some _ from h)
  obtain ⟨fH,eU⟩:∃ f,f=xm F p0 p1 l8 n:=⟨_,rfl⟩
  replace h:AV F p0 p1 l8 fH n9 iW=some r:=eU ▸ h
  unfold AV at h
  refine LH.aj R (sN (eG R R zQ)) (LH.seq (LH.cond (t:=(decide (n9<(l8.length:Int)))) R (fun mf=>?_) (fun mf=>?_)))
  ·replace h:=aB h mf
   refine LH.skip (ai (LH.seq (LH.block ?_)))
   obtain ⟨iB,vT,h⟩:=ae h
   refine LH.aj R (sN (eF (f:=LV.I) bU aD aW R R jB vT R (sN (bj R aD b5 (br R zQ))))) (LH.aj R (lq R (sN (z6 (f:=fG.lv) sk R R (sN (kq R R (br R zQ)))))) (LH.seq ?_))
   obtain ⟨Mr,hv,h⟩:=ae h
   refine LH.du mixed [] [0,0,0,0,0,0,1,1,1,0,0,0,0,0,0,0,0,0] [(1,.L p1),(2,.sptr [.lst 3 (p0.map bE.lv)]),(8,.arr 161 iW.length),(10,.I iB),(11,.I (i64 ((iW.length:Int) - 1))),(30,.L l8),(31,.I (l8.length:Int)),(32,.I n9),(56,.bool Mr)] [(161,.arr 299 2 (iW.map fG.lv))] R R (by kernel_rfl) ?_ ?_
   ·refine iT R (aX (eG R R ⟨R,zW R ?_⟩))
    by_cases cd:(decide ((i64 ((iW.length:Int) - 1))<0))=true
    ·replace hv:=aB hv cd
     refine mF R R cd (mF R R cd (mF R R cd (mF R R cd (mF R R cd (mF R R cd (mF R R cd (mF R R cd (mF R R cd (mF R R cd (mF R R cd (mF R R cd (mF R R cd (mF R R cd (aX (aY (cB cd) (v:=(.bool _)) R ⟨R,?_⟩)))))))))))))))
     obtain rfl:=oI hv
     exact zM
    ·replace cd:=bF cd
     replace hv:=aA hv cd
     refine mT R (cB cd) (aX (bj R oh oe ⟨R,mT R (cB cd) (VT R (mT R (cB cd) (iT R ?_)))⟩))
     obtain ⟨mY,CN,hv⟩:=ae hv
     refine mT R (cB cd) (KU (fP (f:=fG.lv) sk xM sn R R R CN ⟨R,mT R (cB cd) (KU (Gb (f:=fG.lv) tc aD aW R R R ⟨R,mT R (cB cd) (KU (sx (f:=fG.lv) R R (dp CN).2 R R R aD b5 ⟨R,?_⟩))⟩))⟩))
     obtain ⟨gA,qh,hv⟩:=ae hv
     refine mT R (cB cd) (aX (eF (f:=bE.lv) kx di dh R R bE.ok qh R ⟨R,mT R (cB cd) (aX (bw R di jX dh R R ⟨R,mT R (cB cd) (aX (bj R oh oe ⟨R,mT R (cB cd) (iT R ?_)⟩))⟩))⟩))
     obtain ⟨Rl,LB,hv⟩:=ae hv
     refine mT R (cB cd) (aX (eF (f:=bE.lv) kx di dh R R bE.ok LB R ⟨R,mT R (cB cd) (aX (bw R di jX dh R R ⟨R,?_⟩))⟩))
     obtain ⟨qK,Ij,hv⟩:=ae hv
     refine mT R (cB cd) (aX (dq (args:=[.agg [.I gA.Time,.I gA.Source,.I gA.Seq],.agg [.I Rl.Time,.I Rl.Source,.I Rl.Seq]]) R IW R (aw (aw bl)) (Nc Ij) R ⟨R,mT R (cB cd) (aX (iC R R ⟨R,aX (bc (cB cd) (v:=(.bool _)) R ⟨R,?_⟩)⟩))⟩))
     obtain rfl:=oI hv
     exact zM
   clear hv
   refine LH.cond (t:=Mr) R (fun jz=>?_) (fun jz=>?_)
   ·replace h:=aB h jz
    obtain ⟨v21,XG,h⟩:=ae h
    refine LH.aj R (lq R (aZ R (sN (gJ (vs:=[(0,.I iB),(1,.bool false)]) Vq NY R (lf tc aW aD R R R (lf yQ sM nq R R R gI)) (sN (jU (f:=fG.lv) (ys:=[(fG.mk iB false)]) sk NR sn R R R fG.ok (sN (rT (f:=fG.lv) sk NR sn R R (cc R) R XG (uT R zQ))))))))) (LH.exit (cg (bK (ai (LH.bd R (sN (b8 R R (aZ R zQ))) ?_)))))
    exact a7 ⟨(i64 (n9+1)),v21,eU ▸ h,R,R⟩ (Wk.eq R R R R)
   replace h:=aA h jz
   refine LH.skip (ai ?_)
   obtain ⟨YP,S4,h⟩:=ae h
   refine LH.aj R (lq R (aZ R (sN (fP (f:=fG.lv) sk xM sn R R R S4 (sN (Gb (f:=fG.lv) tc aD aW R R R (sN (sx (f:=fG.lv) R R (dp S4).2 R R R aD b5 (br R zQ))))))))) ?_
   obtain ⟨VY,hv,h⟩:=ae h
   refine LH.du mixed [] [0,0,0,0,0,0,0,0,0,0,0,0,0,0,0,0,0,0,0,0] [(1,.L p1),(2,.sptr [.lst 3 (p0.map bE.lv)]),(8,.arr 161 iW.length),(11,.I (i64 ((iW.length:Int) - 1))),(30,.L l8),(31,.I (l8.length:Int)),(32,.I n9),(86,.bool VY)] [(161,.arr 299 2 (iW.map fG.lv))] R R (by kernel_rfl) ?_ ?_
   ·refine aX (bj R oh oe ⟨R,iT R ?_⟩)
    obtain ⟨Ca,Ix,hv⟩:=ae hv
    refine aX (eF (f:=bE.lv) kx di dh R R bE.ok Ix R ⟨R,aX (bw R di jX dh R R ⟨R,aX (bj R oh oe ⟨R,iT R ?_⟩)⟩)⟩)
    obtain ⟨V1,XT,hv⟩:=ae hv
    refine aX (eF (f:=bE.lv) kx di dh R R bE.ok XT R ⟨R,aX (bw R di jX dh R R ⟨R,aX (TU R R (Ob Ca V1) ⟨R,zW R ?_⟩)⟩)⟩)
    by_cases jQ:(!(decide (Ca=V1)))=true
    ·replace hv:=aB hv jQ
     refine mF R R jQ (mF R R jQ (mF R R jQ (mF R R jQ (mF R R jQ (mF R R jQ (mF R R jQ (mF R R jQ (mF R R jQ (aX (aY (cB jQ) (v:=(.bool _)) R ⟨R,?_⟩))))))))))
     obtain rfl:=oI hv
     exact zM
    ·replace jQ:=bF jQ
     replace hv:=aA hv jQ
     refine mT R (cB jQ) (vX R (mT R (cB jQ) (iT R ?_)))
     obtain ⟨ZW,XV,hv⟩:=ae hv
     refine mT R (cB jQ) (aX (eF (f:=LV.I) bU aD aW R R jB XV R ⟨R,mT R (cB jQ) (aX (bj R aD b5 ⟨R,mT R (cB jQ) (vX R (mT R (cB jQ) (iT R ?_)))⟩))⟩))
     obtain ⟨ZX,XW,hv⟩:=ae hv
     refine mT R (cB jQ) (aX (eF (f:=LV.I) bU aD aW R R jB XW R ⟨R,mT R (cB jQ) (aX (bj R aD b5 ⟨R,mT R (cB jQ) (aX (iC R R ⟨R,aX (bc (cB jQ) (v:=(.bool _)) R ⟨R,?_⟩)⟩))⟩))⟩))
     obtain rfl:=oI hv
     exact zM
   clear hv
   refine LH.cond (t:=VY) R (fun qa=>?_) (fun qa=>?_)
   ·replace h:=aB h qa
    obtain ⟨RM,S5,h⟩:=ae h
    refine LH.df [(1,.L p1),(2,.sptr [.lst 3 (p0.map bE.lv)]),(8,.arr 161 (List.length (iW.set ((i64 ((iW.length:Int) - 1)).toNat) (fG.mk RM.first true)))),(30,.L l8),(31,.I (l8.length:Int)),(32,.I n9)] [(161,.arr 299 2 (List.map fG.lv (iW.set ((i64 ((iW.length:Int) - 1)).toNat) (fG.mk RM.first true))))] R (lq R (aZ R (sN (fP (f:=fG.lv) sk xM sn R R R S5 (sN (Gb (f:=fG.lv) yQ nq sM R R R (s_ (nZ (f:=fG.lv) (z':=(fG.mk RM.first true)) R R R R nq sM R (dp S5).2 R (s0 (Wk.to (eC R (eC R (eC (congrArg (LV.arr 161) (by simp)) (eC R (eC R (eC R eN)))))) ⟨R,trivial⟩ R (aN R))))))))))) (aQ (ai (LH.bd R (sN (b8 R R (aZ R zQ))) ?_)))
    exact a7 ⟨(i64 (n9+1)),(iW.set ((i64 ((iW.length:Int) - 1)).toNat) (fG.mk RM.first true)),eU ▸ h,R,R⟩ (Wk.eq R R R R)
   replace h:=aA h qa
   refine LH.skip (aQ (ai (LH.bd R (sN (b8 R R (aZ R zQ))) ?_)))
   exact a7 ⟨(i64 (n9+1)),iW,eU ▸ h,R,R⟩ (Wk.eq R R R R)
  replace h:=aA h mf
  refine LH.exit (cg (bO (bK (ai (LH.wk ((Wk.trans (bM [(8,.arr 161 iW.length)] [(161,.arr 299 2 (iW.map fG.lv))]) (Wk.trans (Wk.pj (f:=fG.lv) (iP:=[(8,.lst 2 (iW.map fG.lv))]) 161 299 2 iW R R (cc R) (fZ fN)) (bM [(8,.lst 2 (iW.map fG.lv))] [])))) (LH.aj R (dY R (sD R zQ)) (LH.ret ?_)))))))
  obtain rfl:=oI h
  exact aJ (aT Tryz.results199) (bT R (bP ⟨aG mN,R,aN R,Sub.rfl⟩))
theorem UR {F:Nat} {p0:bE} {p1:bE} {r:Int} (h:Bi F p0 p1=some r):aF Tryz.prog 202 [.agg [.I p0.Time,.I p0.Source,.I p0.Seq],.agg [.I p1.Time,.I p1.Source,.I p1.Seq]] (Mem.of []) (.I r) (Mem.of []):=by
  unfold Bi at h
  refine bh Tryz.func202 R (nT Tryz.ntmps202 R) (LH.aj R (sB (dm R R R R (sB (dm R R R R (br R zQ))))) ?_)
  obtain ⟨r1,dR,h⟩:=ae h
  obtain ⟨r2,hr2,h⟩:=ae h
  obtain ⟨r3,hr3,h⟩:=ae h
  obtain ⟨r4,F1,h⟩:=ae h
  refine LH.du mixed [] [0,0,0,0,0,0,0,0,0,0,0,0,0,0,0,0,0,0] [(4,.I r4)] [] R R (by kernel_rfl) ?_ ?_
  ·exact aX (aC ky aD aW R R R ⟨R,aX (bj R aD b5 ⟨R,aX (aC ky aD aW R R R ⟨R,aX (bj R aD b5 ⟨R,aX (dq (args:=[.I p0.Time,.I p1.Time]) R pC R (aw (aw bl)) (dx dR) R ⟨R,aX (aC gO aD aW R R R ⟨R,aX (bj R aD b5 ⟨R,aX (aC gO aD aW R R R ⟨R,aX (bj R aD b5 ⟨R,aX (dq (args:=[.I p0.Source,.I p1.Source]) R pC R (aw (aw bl)) (dx hr2) R ⟨R,aX (aC gy aD aW R R R ⟨R,aX (bj R aD b5 ⟨R,aX (aC gy aD aW R R R ⟨R,aX (bj R aD b5 ⟨R,aX (dq (args:=[.I p0.Seq,.I p1.Seq]) R pC R (aw (aw bl)) (dx hr3) R ⟨R,aX (jU (f:=LV.I) (ys:=[r1,r2,r3]) bU qL aW R R R jB ⟨R,aX (dq (args:=[.L [r1,r2,r3]]) R CR R (aw bl) (kW F1) R ⟨R,Qr R zM⟩)⟩)⟩)⟩)⟩)⟩)⟩)⟩)⟩)⟩)⟩)⟩)⟩)⟩)⟩)⟩)⟩)
  refine LH.ret ?_
  obtain rfl:=oI h
  exact aJ (aT Tryz.results202) (bT R (bP ⟨aG mN,R,aN R,Sub.rfl⟩))
theorem Uq {F:Nat} {p0:Int} {p1:Int} {c0:List bE} {r:Int} (h:xf F p0 p1 c0=some r):aF Tryz.prog 201 [.I p0,.I p1,.sptr [.lst 3 (c0.map bE.lv)]] (Mem.of []) (.I r) (Mem.of []):=by
  unfold xf at h
  refine bh Tryz.func201 R (nT Tryz.ntmps201 R) (LH.aj R (br R zQ) ?_)
  obtain ⟨x1,VN,h⟩:=ae h
  obtain ⟨x2,LC,h⟩:=ae h
  obtain ⟨r3,hr3,h⟩:=ae h
  refine LH.du mixed [] [0,0,0,0,0,0,0,0,0,0] [(5,.I r3)] [] R R (by kernel_rfl) (aX (bj R oh oe ⟨R,iT R (aX (eF (f:=bE.lv) kx di dh R R bE.ok VN R ⟨R,aX (bw R di jX dh R R ⟨R,aX (bj R oh oe ⟨R,iT R (aX (eF (f:=bE.lv) kx di dh R R bE.ok LC R ⟨R,aX (bw R di jX dh R R ⟨R,aX (dq (args:=[.agg [.I x1.Time,.I x1.Source,.I x1.Seq],.agg [.I x2.Time,.I x2.Source,.I x2.Seq]]) R Qb R (aw (aw bl)) (UR hr3) R ⟨R,Qr R zM⟩)⟩)⟩))⟩)⟩)⟩))⟩)) (LH.ret ?_)
  obtain rfl:=oI h
  exact aJ (aT Tryz.results201) (bT R (bP ⟨aG mN,R,aN R,Sub.rfl⟩))
theorem UG {F:Nat} {p0:List bE} {p1:List Int} {r:List Int × Int} (h:xk F p0 p1=some r):aF Tryz.prog 156 [.lst 3 (p0.map bE.lv),.L p1] (Mem.of []) (.tup [.L r.1,.I r.2]) (Mem.of []):=by
  unfold xk at h
  refine bh Tryz.func156 R (nT Tryz.ntmps156 R) (LH.aj R (sB (dm R R R R (pU R (br R zQ)))) (LH.seq (LH.aj R (sN (bj R oh oe (sN (bW (f:=bE.lv) kx R (dY R (sN (bW (f:=LV.I) bU R (sN (iC R R zQ))))))))) (LH.cond (t:=((p0.length:Int) != (p1.length:Int))) R (fun hc1=>?_) (fun hc1=>?_)))))
  ·replace h:=aB h hc1
   refine LH.aj R (pU R (br R zQ)) (LH.ret (aO ?_))
   obtain rfl:=oI h
   exact aJ (aT Tryz.results156) (bT R (bT R (bP ⟨aG mN,R,aN R,(Sub.tup (jC (aw bl)))⟩)))
  replace h:=aA h hc1
  refine LH.skip (ai (LH.aj R (pU R zQ) (LH.seq ?_)))
  obtain ⟨r2,hr2,h⟩:=ae h
  refine LH.aj R (sN (bj R oh oe (dY R (sN (dq (args:=[.lst 3 (p0.map bE.lv),.L p1]) R P9 R (aw (aw bl)) (UT hr2) R (sN (bW (f:=fG.lv) sk R (aZ R zQ)))))))) (LH.block (LH.wk ((Wk.trans (bM [(2,.sptr [.lst 3 (p0.map bE.lv)]),(6,.nil),(16,.lst 2 (r2.map fG.lv)),(17,.I (r2.length:Int)),(18,.I 0)] []) (Wk.trans (bM [(2,.sptr [.lst 3 (p0.map bE.lv)]),(6,.nil),(16,.lst 2 (r2.map fG.lv)),(17,.I (r2.length:Int)),(18,.I 0)] []) (Wk.trans (Wk.Ac (iP:=[(2,.sptr [.lst 3 (p0.map bE.lv)]),(6,.arr 129 (List.length ([]:List Int))),(16,.lst 2 (r2.map fG.lv)),(17,.I (r2.length:Int)),(18,.I 0)]) 129 3 1 R R (wK (wO (wK (wK (wK wN)))))) (bM [(2,.sptr [.lst 3 (p0.map bE.lv)]),(6,.arr 129 (List.length ([]:List Int))),(16,.lst 2 (r2.map fG.lv)),(17,.I (r2.length:Int)),(18,.I 0)] [(129,.arr 3 1 (List.map LV.I ([]:List Int)))]))))) (LH.loop (fun n e m=>∃ (n3:Int) (l4:List Int),xb F p0 r2 n n3 l4=some r∧e=Env.of [(2,.sptr [.lst 3 (p0.map bE.lv)]),(6,.arr 129 l4.length),(16,.lst 2 (r2.map fG.lv)),(17,.I (r2.length:Int)),(18,.I n3)]∧m=Mem.of [(129,.arr 3 1 (l4.map LV.I))]) F ⟨0,([]:List Int),h,R,R⟩ ?_)))
  clear h
  rintro n e m ⟨n3,l4,h,rfl,rfl⟩
  rcases n with _ | n
  · cases (show Option.none=some _ from h)
  obtain ⟨aH,aI⟩:∃ f,f=xb F p0 r2 n:=⟨_,rfl⟩
  replace h:Aq F p0 r2 aH n3 l4=some r:=aI ▸ h
  unfold Aq at h
  refine LH.aj R (sN (eG R R zQ)) (LH.seq (LH.cond (t:=(decide (n3<(r2.length:Int)))) R (fun gZ=>?_) (fun gZ=>?_)))
  ·replace h:=aB h gZ
   refine LH.skip (ai (LH.seq (LH.block ?_)))
   obtain ⟨x6,wF,h⟩:=ae h
   refine LH.ax [(2,.sptr [.lst 3 (p0.map bE.lv)]),(6,.arr 129 l4.length),(8,.sptr [.I x6.first,.bool x6.eI]),(16,.lst 2 (r2.map fG.lv)),(17,.I (r2.length:Int)),(18,.I n3)] [(129,.arr 3 1 (l4.map LV.I))] R (sN (eF (f:=fG.lv) sk xM sn R R fG.ok wF R (sN (bw R xM Vh sn R R (sN (hD (id:=108) R NY R R (s_ (cM R R R xM sn R R R (s0 ((Wk.trans (bM [(2,.sptr [.lst 3 (p0.map bE.lv)]),(6,.arr 129 l4.length),(8,.ptr 108 0),(16,.lst 2 (r2.map fG.lv)),(17,.I (r2.length:Int)),(18,.I n3)] [(108,.box [.I x6.first,.bool x6.eI]),(129,.arr 3 1 (l4.map LV.I))]) (Wk.trans (Wk.bD 108 [.I x6.first,.bool x6.eI] R R R (cc R)) (Wk.eq R R R R))))))))))))) (LH.aj R (sN (aC yQ nq sM R R R (sN (bj R nq B7 (sN (eM R zQ)))))) (LH.cond (t:=(!x6.eI)) R (fun ln=>?_) (fun ln=>?_)))
   ·replace h:=aB h ln
    obtain ⟨v8,SZ,h⟩:=ae h
    refine LH.bd R (lq R (sN (aC tc aD aW R R R (sN (bj R aD b5 (sN (jU (f:=LV.I) (ys:=[x6.first]) bU qL aW R R R jB (sN (rT (f:=LV.I) bU qL aW R R (cc R) R SZ (uT R zQ)))))))))) (aQ (ai (LH.bd R (sN (b8 R R (aZ R zQ))) ?_)))
    exact a7 ⟨(i64 (n3+1)),v8,aI ▸ h,R,R⟩ (Wk.eq R R R R)
   replace h:=aA h ln
   refine LH.skip (aQ (ai (LH.bd R (sN (b8 R R (aZ R zQ))) ?_)))
   exact a7 ⟨(i64 (n3+1)),l4,aI ▸ h,R,R⟩ (Wk.eq R R R R)
  replace h:=aA h gZ
  refine LH.exit (cg (bO (bK (ai (LH.seq (LH.aj R (lq R (sN (z6 (f:=LV.I) bU R R (sN (jf R R zQ))))) (LH.cond (t:=(decide ((l4.length:Int) > 300))) R (fun ng=>?_) (fun ng=>?_))))))))
  ·replace h:=aB h ng
   refine LH.aj R (pU R (br R zQ)) (LH.ret (aO ?_))
   obtain rfl:=oI h
   exact aJ (aT Tryz.results156) (bT R (bT R (bP ⟨aG mN,R,aN R,(Sub.tup (jC (aw bl)))⟩)))
  replace h:=aA h ng
  refine LH.skip (ai ?_)
  obtain ⟨iW,SB,h⟩:=ae h
  refine LH.ax [(6,.L iW)] [] R (lq R (sN (z7 (vs:=[.sptr [.lst 3 (p0.map bE.lv)]]) R (sN (ej (args:=[.arr 129 l4.length,.fn 201 [.sptr [.lst 3 (p0.map bE.lv)]]]) (ml:=[(129,.arr 3 1 (l4.map LV.I))]) (cS:=[(129,.arr 3 1 (iW.map LV.I))]) R IU R (aw (aw bl)) (BB Tryz.NI R Qa R (fun _ _ _ h=>Uq h) 129 3 SB) (mC R mN) (bu R bX) R (s0 ((Wk.trans (Wk.to (el:=[(6,.arr 129 iW.length)]) (ml:=[(129,.arr 3 1 (iW.map LV.I))]) (eC (congrArg (LV.arr 129) (xI SB)) eN) ⟨R,trivial⟩ R (aN R)) (Wk.trans (Wk.pj (f:=LV.I) (iP:=[(6,.L iW)]) 129 3 1 iW R R (cc R) (fZ fN)) (Wk.eq R R R R)))))))))) (LH.aj R (dY R (sD R (br R zQ))) (LH.ret ?_))
  obtain rfl:=oI h
  exact aJ (aT Tryz.results156) (bT R (bT R (bP ⟨aG mN,R,aN R,(Sub.tup (aw (aw bl)))⟩)))
theorem T5 {F:Nat} {p0:List ba} {p1:(ba→Option bE)} {p2:(ba→ba→Option Bool)} {r:List Int × Int} {cH:Nat} {ca:List LV} (rk:dn Tryz.prog cH) (jA:LV.bt ca=true) (rl:∀ (x0:ba) (q:bE),p1 x0=some q→aF Tryz.prog cH ([.agg [.I x0.ak.Time,.I x0.ak.Source,.I x0.ak.Seq,.I x0.Kind,.I x0.Item.ID,.I x0.Item.Version,.str x0.Item.cn,.lst 6 (x0.Item.aK.map ag.lv),.L x0.Item.aL,.I x0.Ref.ID,.I x0.Ref.Version,.I x0.Form]]++ca) (Mem.of []) (.agg [.I q.Time,.I q.Source,.I q.Seq]) (Mem.of [])) {eS:Nat} {dH:List LV} (Gg:dn Tryz.prog eS) (vZ:LV.bt dH=true) (Gh:∀ (x0:ba) (x1:ba) (q:Bool),p2 x0 x1=some q→aF Tryz.prog eS ([.agg [.I x0.ak.Time,.I x0.ak.Source,.I x0.ak.Seq,.I x0.Kind,.I x0.Item.ID,.I x0.Item.Version,.str x0.Item.cn,.lst 6 (x0.Item.aK.map ag.lv),.L x0.Item.aL,.I x0.Ref.ID,.I x0.Ref.Version,.I x0.Form],.agg [.I x1.ak.Time,.I x1.ak.Source,.I x1.ak.Seq,.I x1.Kind,.I x1.Item.ID,.I x1.Item.Version,.str x1.Item.cn,.lst 6 (x1.Item.aK.map ag.lv),.L x1.Item.aL,.I x1.Ref.ID,.I x1.Ref.Version,.I x1.Form]]++dH) (Mem.of []) (.bool q) (Mem.of [])) (h:JQ F p0 p1 p2=some r):aF Tryz.prog 176 [.lst 12 (p0.map ba.lv),.fn cH ca,.fn eS dH] (Mem.of []) (.tup [.L r.1,.I r.2]) (Mem.of []):=by
  have Js:∀ {l:List LV},LV.bt l=true→LV.bt (l++dH)=true:=Ju vZ
  have e7:LV.a8 dH=[]:=et vZ
  have vY:∀ {l:List LV},LV.bt l=true→LV.bt (l++ca)=true:=Ju jA
  have cZ:LV.a8 ca=[]:=et jA
  unfold JQ at h
  refine bh Tryz.func176 R (nT Tryz.ntmps176 R) (LH.wk (Wk.to (el:=[(0,.lst 12 (p0.map ba.lv)),(1,.fn cH ca),(2,.fn eS dH)]) (ml:=[]) (eQ ⟨R,R,R,trivial⟩) mN (by simp [av,LV.refs,LV.a8,LV.cells,cP,Env.args,Env.of,Env.put,Env.drop,cZ,e7]) (aN R)) (LH.ax [(0,.lst 12 (p0.map ba.lv)),(1,.fn cH ca),(2,.fn eS dH)] [] R (pU R (br R (s0 (Wk.to (eQ ⟨R,R,R,trivial⟩) mN (by simp [av,LV.refs,LV.a8,LV.cells,cP,Env.args,Env.of,Env.put,Env.drop,cZ,e7]) (aN R))))) ?_))
  obtain ⟨r1,dR,h⟩:=ae h
  refine LH.ax [(8,.lst 3 (r1.1.map bE.lv)),(9,.L r1.2)] [] R (dY R (sN (oM (v:=(.fn _ _)) R (sN (oM (v:=(.fn _ _)) R (sN (dq (args:=[.lst 12 (p0.map ba.lv),.fn cH ca,.fn eS dH]) R Qc R (aw (aw (aw bl))) (Ub rk jA rl Gg vZ Gh dR) (by simp [LV.pure,LV.bt,jA,vZ]) (sE R (sN (fL R R (sN (fL R R (sD R (sD R (s0 (Wk.to (eQ ⟨R,R,trivial⟩) mN (by simp [av,LV.refs,LV.a8,LV.cells,cP,Env.args,Env.of,Env.put,Env.drop,cZ,e7]) (aN R))))))))))))))))) ?_
  obtain ⟨r2,hr2,h⟩:=ae h
  refine LH.ax [(6,.L r2.1),(7,.I r2.2)] [] R (dY R (dY R (sN (dq (args:=[.lst 3 (r1.1.map bE.lv),.L r1.2]) R PV R (aw (aw bl)) (UG hr2) R (sN (fL R R (sN (fL R R (sD R (br R (s0 (Wk.to (eQ ⟨R,R,trivial⟩) mN (by simp [av,LV.refs,LV.a8,LV.cells,cP,Env.args,Env.of,Env.put,Env.drop,cZ,e7]) (aN R))))))))))))) (LH.ret ?_)
  obtain rfl:=oI h
  exact aJ (aT Tryz.results176) (bT R (bT R (bP ⟨aG mN,R,aN R,(Sub.tup (aw (aw bl)))⟩)))
theorem Us {p0:ba} {r:bE} (h:EI p0=some r):aF Tryz.prog 177 [ba.lv p0] (Mem.of []) (.agg [.I r.Time,.I r.Source,.I r.Seq]) (Mem.of []):=by
  unfold EI at h
  refine bh Tryz.func177 R (nT Tryz.ntmps177 R) (LH.aj R (sB (dm R R R R (sN (hD (id:=102) R yS R R zQ)))) (LH.ax [(2,.sptr [.I p0.ak.Time,.I p0.ak.Source,.I p0.ak.Seq])] [] R (sN (aC dE di dh R R R (sN (bw R di jX dh R R (s_ (cM R R R di dh R R R (s0 ((Wk.trans (bM [(2,.ptr 102 0)] [(102,.box [.I p0.ak.Time,.I p0.ak.Source,.I p0.ak.Seq])]) (Wk.trans (Wk.bD 102 [.I p0.ak.Time,.I p0.ak.Source,.I p0.ak.Seq] R R R (cc R)) (Wk.eq R R R R))))))))))) (LH.ret ?_)))
  obtain rfl:=oI h
  exact aJ (aT Tryz.results177) (dN R di jX dh R R (bP ⟨aG mN,R,aN R,Sub.rfl⟩))
theorem Uc {F:Nat} {p0:List ag} {p1:List ag} {r:Bool} (h:J5 F p0 p1=some r):aF Tryz.prog 224 [.lst 6 (p0.map ag.lv),.lst 6 (p1.map ag.lv)] (Mem.of []) (.bool r) (Mem.of []):=by
  unfold J5 at h
  refine bh Tryz.func224 R (nT Tryz.ntmps224 R) (LH.aj R (cr R zQ) (LH.seq (LH.aj R (dY R (sN (bW (f:=ag.lv) eP R (dY R (sN (bW (f:=ag.lv) eP R (sN (iC R R zQ)))))))) (LH.cond (t:=((p0.length:Int) != (p1.length:Int))) R (fun hc1=>?_) (fun hc1=>?_)))))
  ·replace h:=aB h hc1
   refine LH.aj R (cr R zQ) (LH.ret (aO ?_))
   obtain rfl:=oI h
   exact aJ (aT Tryz.results224) (bT R (bP ⟨aG mN,R,aN R,Sub.rfl⟩))
  replace h:=aA h hc1
  refine LH.skip (ai (LH.seq (LH.ax [(0,.lst 6 (p0.map ag.lv)),(1,.lst 6 (p1.map ag.lv)),(12,.I (p0.length:Int)),(13,.I 0)] [] R (dY R (sN (bW (f:=ag.lv) eP R (aZ R zS)))) (LH.block (LH.loop (fun n e m=>∃ (n2:Int),Gk p0 p1 n n2=some r∧e=Env.of [(0,.lst 6 (p0.map ag.lv)),(1,.lst 6 (p1.map ag.lv)),(12,.I (p0.length:Int)),(13,.I n2)]∧m=Mem.of []) F ⟨0,h,R,R⟩ ?_)))))
  clear h
  rintro n e m ⟨n2,h,rfl,rfl⟩
  rcases n with _ | n
  · cases (show Option.none=some _ from h)
  obtain ⟨aH,aI⟩:∃ f,f=Gk p0 p1 n:=⟨_,rfl⟩
  replace h:JP p0 p1 aH n2=some r:=aI ▸ h
  unfold JP at h
  refine LH.aj R (sN (eG R R zQ)) (LH.seq (LH.cond (t:=(decide (n2<(p0.length:Int)))) R (fun fT=>?_) (fun fT=>?_)))
  ·replace h:=aB h fT
   refine LH.skip (ai (LH.seq (LH.block (LH.aj R (aZ R (br R zQ)) ?_))))
   obtain ⟨x4,zL,h⟩:=ae h
   obtain ⟨x5,nB,h⟩:=ae h
   refine LH.du mixed [] [0,0,0,0,0,0,0,0,0] [(0,.lst 6 (p0.map ag.lv)),(1,.lst 6 (p1.map ag.lv)),(12,.I (p0.length:Int)),(13,.I n2),(24,.bool (!(decide (x4=x5))))] [] R R (by kernel_rfl) (vX R (iT R (aX (eF (f:=ag.lv) eP cT cF R R ag.ok zL R ⟨R,aX (bw R cT fb cF R R ⟨R,vX R (iT R (aX (eF (f:=ag.lv) eP cT cF R R ag.ok nB R ⟨R,aX (bw R cT fb cF R R ⟨R,aX (TU R R (RU x4 x5) ⟨R,zM⟩)⟩)⟩)))⟩)⟩)))) (LH.cond (t:=(!(decide (x4=x5)))) R (fun fY=>?_) (fun fY=>?_))
   ·replace h:=aB h fY
    refine LH.aj R (cr R zQ) (LH.ret (bH (aO (dg (bH (aO ?_))))))
    obtain rfl:=oI h
    exact aJ (aT Tryz.results224) (bT R (bP ⟨aG mN,R,aN R,Sub.rfl⟩))
   replace h:=aA h fY
   refine LH.skip (aQ (ai (LH.bd R (sN (b8 R R (aZ R zQ))) ?_)))
   exact a7 ⟨(i64 (n2+1)),aI ▸ h,R,R⟩ (Wk.eq R R R R)
  replace h:=aA h fT
  refine LH.exit (cg (bO (bK (ai (LH.aj R (cr R zQ) (LH.ret ?_))))))
  obtain rfl:=oI h
  exact aJ (aT Tryz.results224) (bT R (bP ⟨aG mN,R,aN R,Sub.rfl⟩))
end Go.Proofs.YtiinmaihgmfniaaGreat
