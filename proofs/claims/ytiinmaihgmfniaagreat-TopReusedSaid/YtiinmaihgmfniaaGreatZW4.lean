import Derived.Test.YtiinmaihgmfniaaGreatZW3
set_option linter.unusedVariables false
set_option linter.unusedSimpArgs false
set_option maxRecDepth 100000
set_option maxHeartbeats 1000000
namespace Go.Proofs.YtiinmaihgmfniaaGreat
open Go.L Go.Sh
theorem Ua {F:Nat} {p0:List aq} {p1:List ab} {r:List aq} (h:J1 F p0 p1=some r):aF Tryz.prog 126 [.ptr 511 0,.lst 5 (p1.map ab.lv)] (Mem.of [(511,.box [.arr 512 p0.length]),(512,.arr 230 3 (p0.map aq.lv))]) (.tup []) (Mem.of [(511,.box [.arr 512 r.length]),(512,.arr 230 3 (r.map aq.lv))]):=by
  unfold J1 at h
  refine bh Tryz.func126 R (nT Tryz.ntmps126 R) (LH.ax [(0,.ptr 511 0),(1,.lst 5 (p1.map ab.lv)),(8,.I (p1.length:Int)),(9,.I 0)] [(511,.box [.arr 512 p0.length]),(512,.arr 230 3 (p0.map aq.lv))] R (dY R (sN (bW (f:=ab.lv) eR R (aZ R zS)))) (LH.block (LH.loop (fun n e m=>∃ (n1:Int) (l2:List aq),L4 F p1 n n1 l2=some r∧e=Env.of [(0,.ptr 511 0),(1,.lst 5 (p1.map ab.lv)),(8,.I (p1.length:Int)),(9,.I n1)]∧m=Mem.of [(511,.box [.arr 512 l2.length]),(512,.arr 230 3 (l2.map aq.lv))]) F ⟨0,p0,h,R,R⟩ ?_)))
  clear h
  rintro n e m ⟨n1,l2,h,rfl,rfl⟩
  rcases n with _ | n
  · cases (show Option.none=some _ from h)
  obtain ⟨aH,aI⟩:∃ f,f=L4 F p1 n:=⟨_,rfl⟩
  replace h:JM F p1 aH n1 l2=some r:=aI ▸ h
  unfold JM at h
  refine LH.aj R (sN (eG R R zQ)) (LH.seq (LH.cond (t:=(decide (n1<(p1.length:Int)))) R (fun fT=>?_) (fun fT=>?_)))
  ·replace h:=aB h fT
   refine LH.skip (ai (LH.seq (LH.block (LH.aj R (aZ R (br R zQ)) (LH.ax [(0,.ptr 511 0),(1,.lst 5 (p1.map ab.lv)),(4,.I n1),(5,.I (i64 (n1+1))),(8,.I (p1.length:Int)),(9,.I n1)] [(511,.box [.arr 512 l2.length]),(512,.arr 230 3 (l2.map aq.lv))] R (aZ R (sN (b8 R R (br R zS)))) (LH.block (LH.loop (fun n e m=>∃ (n4:Int) (l5:List aq),C1 aH F p1 n1 n n4 l5=some r∧e=Env.of [(0,.ptr 511 0),(1,.lst 5 (p1.map ab.lv)),(4,.I n1),(5,.I n4),(8,.I (p1.length:Int)),(9,.I n1)]∧m=Mem.of [(511,.box [.arr 512 l5.length]),(512,.arr 230 3 (l5.map aq.lv))]) F ⟨(i64 (n1+1)),l2,h,R,R⟩ ?_)))))))
   clear h
   rintro n e m ⟨n4,l5,h,rfl,rfl⟩
   rcases n with _ | n
   · cases (show Option.none=some _ from h)
   obtain ⟨fH,eU⟩:∃ f,f=C1 aH F p1 n1 n:=⟨_,rfl⟩
   replace h:JN aH F p1 n1 fH n4 l5=some r:=eU ▸ h
   unfold JN at h
   refine LH.seq (LH.aj R (aZ R (dY R (sN (bW (f:=ab.lv) eR R (sN (eG R R zQ)))))) (LH.cond (t:=(decide (n4<(p1.length:Int)))) R (fun fY=>?_) (fun fY=>?_)))
   ·replace h:=aB h fY
    refine LH.skip (ai (LH.seq (LH.block (LH.seq ?_))))
    obtain ⟨w8,hv,h⟩:=ae h
    refine LH.du mixed [] [0,0,0,0,0,0,0,0,0,0,0,0,0,0,0,0,0,0,0,0,0,0,0] [(0,.ptr 511 0),(1,.lst 5 (p1.map ab.lv)),(4,.I n1),(5,.I n4),(8,.I (p1.length:Int)),(9,.I n1),(42,.bool w8)] [(511,.box [.arr 512 l5.length]),(512,.arr 230 3 (l5.map aq.lv))] R R (by kernel_rfl) ?_ ?_
    ·refine vX R (iT R ?_)
     obtain ⟨x9,yZ,hv⟩:=ae hv
     refine aX (eF (f:=ab.lv) eR bA bn R R ab.ok yZ R ⟨R,aX (aC dZ aD aW R R R ⟨R,aX (bj R aD b5 ⟨R,vX R (iT R ?_)⟩)⟩)⟩)
     obtain ⟨lr,oV,hv⟩:=ae hv
     refine aX (eF (f:=ab.lv) eR bA bn R R ab.ok oV R ⟨R,aX (aC dZ aD aW R R R ⟨R,aX (bj R aD b5 ⟨R,aX (iC R R ⟨R,zW R ?_⟩)⟩)⟩)⟩)
     by_cases dj:(x9.ID != lr.ID)=true
     ·replace hv:=aB hv dj
      refine mT R (cB dj) (vX R (mT R (cB dj) (iT R ?_)))
      obtain ⟨iB,vT,hv⟩:=ae hv
      refine mT R (cB dj) (aX (eF (f:=ab.lv) eR bA bn R R ab.ok vT R ⟨R,mT R (cB dj) (aX (bw R bA c7 bn R R ⟨R,mT R (cB dj) (vX R (mT R (cB dj) (iT R ?_)))⟩))⟩))
      obtain ⟨gF,qg,hv⟩:=ae hv
      refine mT R (cB dj) (aX (eF (f:=ab.lv) eR bA bn R R ab.ok qg R ⟨R,mT R (cB dj) (aX (bw R bA c7 bn R R ⟨R,?_⟩))⟩))
      obtain ⟨ct,q9,hv⟩:=ae hv
      refine mT R (cB dj) (aX (dq (args:=[ab.lv iB,ab.lv gF]) R TG R (aw (aw bl)) (UZ q9) R ⟨R,mT R (cB dj) (aX (eM R ⟨R,aX (aY (cB dj) (v:=(.bool _)) R ⟨R,?_⟩)⟩))⟩))
      obtain rfl:=oI hv
      exact zM
     ·replace dj:=bF dj
      replace hv:=aA hv dj
      refine mF R R dj (mF R R dj (mF R R dj (mF R R dj (mF R R dj (mF R R dj (mF R R dj (mF R R dj (mF R R dj (mF R R dj (aX (bc (cB dj) (v:=(.bool _)) R ⟨R,?_⟩)))))))))))
      obtain rfl:=oI hv
      exact zM
    clear hv
    refine LH.cond (t:=w8) R (fun kD=>?_) (fun kD=>?_)
    ·replace h:=aB h kD
     refine LH.exit (cg (bK (ai (LH.bd R (aZ R (sN (b8 R R (br R zQ)))) ?_))))
     exact a7 ⟨(i64 (n4+1)),l5,eU ▸ h,R,R⟩ (Wk.eq R R R R)
    replace h:=aA h kD
    refine LH.skip (ai ?_)
    obtain ⟨y5,Pk,h⟩:=ae h
    refine LH.aj R (dY R (sN (bW (f:=ab.lv) eR R (sN (Qw (f:=LV.I) (z:=0) (id:=145) R bU NZ qL aW R R R Pk R (uT R zQ)))))) ?_
    obtain ⟨gA,qh,h⟩:=ae h
    obtain ⟨Rl,LB,h⟩:=ae h
    refine LH.ax [(0,.ptr 511 0),(1,.lst 5 (p1.map ab.lv)),(4,.I n1),(5,.I n4),(6,.L ((y5.set n1.toNat 1).set n4.toNat 1)),(8,.I (p1.length:Int)),(9,.I n1)] [(511,.box [.arr 512 l5.length]),(512,.arr 230 3 (l5.map aq.lv))] R (lq R (aZ R (lq R (aZ R (sN (fP (f:=LV.I) bU aD aW R R R qh (s_ (nZ (f:=LV.I) (z':=1) R R R R aD aW R (dp qh).2 R (sN (fP (f:=LV.I) bU aD aW (congrArg (LV.arr 145) (by simp)) R R LB (s_ (nZ (f:=LV.I) (z':=1) R R R R aD aW R (dp LB).2 R (s0 ((Wk.trans (Wk.to (el:=[(0,.ptr 511 0),(1,.lst 5 (p1.map ab.lv)),(4,.I n1),(5,.I n4),(6,.arr 145 (List.length ((y5.set n1.toNat 1).set n4.toNat 1))),(8,.I (p1.length:Int)),(9,.I n1)]) (ml:=[(145,.arr 3 1 (List.map LV.I ((y5.set n1.toNat 1).set n4.toNat 1))),(511,.box [.arr 512 l5.length]),(512,.arr 230 3 (l5.map aq.lv))]) (eC R (eC R (eC R (eC R (eC (congrArg (LV.arr 145) (by simp)) (eC R (eC R eN))))))) ⟨R,R,R,trivial⟩ R (aN R)) (Wk.trans (Wk.pj (f:=LV.I) (iP:=[(0,.ptr 511 0),(1,.lst 5 (p1.map ab.lv)),(4,.I n1),(5,.I n4),(6,.L ((y5.set n1.toNat 1).set n4.toNat 1)),(8,.I (p1.length:Int)),(9,.I n1)]) 145 3 1 ((y5.set n1.toNat 1).set n4.toNat 1) R R (cc R) (fK R (fK R (fK R (fK R (fZ (fK R (fK R fN)))))))) (Wk.eq R R R R))))))))))))))))) ?_
    obtain ⟨qK,Ij,h⟩:=ae h
    refine LH.bd R (iA R (dY R (sN (gJ (vs:=[(0,.L ((y5.set n1.toNat 1).set n4.toNat 1)),(1,.I 0),(2,.I 1)]) Ky qD R (lf jr dQ cm R R R (lf mO aW aD R R R (lf mP aW aD R R R gI))) (sN (jU (f:=aq.lv) (ys:=[(aq.mk ((y5.set n1.toNat 1).set n4.toNat 1) 0 1)]) lU va fF R R R aq.ok (sX (((eO (args:=[.ptr 511 0,.lst 3 (List.map aq.lv [(aq.mk ((y5.set n1.toNat 1).set n4.toNat 1) 0 1)])]) (ml:=[(511,.box [.arr 512 l5.length]),(512,.arr 230 3 (l5.map aq.lv))]) (cS:=[(511,.box [.arr 512 qK.length]),(512,.arr 230 3 (qK.map aq.lv))]) R rb R (aw (aw bl)) (Gp Ij) (mC R (mC R mN)) (bu R (bu R bX)) R)).ok) zQ))))))) (aQ (ai (LH.bd R (aZ R (sN (b8 R R (br R zQ)))) ?_)))
    exact a7 ⟨(i64 (n4+1)),qK,eU ▸ h,R,R⟩ (Wk.eq R R R R)
   replace h:=aA h fY
   refine LH.exit (cg (bO (bK (aQ (ai (LH.bd R (sN (b8 R R (aZ R zQ))) ?_))))))
   exact a7 ⟨(i64 (n1+1)),l5,aI ▸ h,R,R⟩ (Wk.eq R R R R)
  replace h:=aA h fT
  refine LH.exit (cg (bO (bK ?_)))
  obtain rfl:=oI h
  exact uR (aT Tryz.results126) (bP ⟨aG (mC R (mC R mN)),R,aN R,(Sub.tup bl)⟩)
theorem Uf {F:Nat} {p0:List aS} {p1:aS} {r:Int} (h:Ez F p0 p1=some r):aF Tryz.prog 182 [.lst 2 (p0.map aS.lv),.agg [.I p1.ID,.I p1.Version]] (Mem.of []) (.I r) (Mem.of []):=by
  unfold Ez at h
  refine bh Tryz.func182 R (nT Tryz.ntmps182 R) (LH.aj R (sB (dm R R R R (br R zQ))) (LH.seq (LH.ax [(0,.lst 2 (p0.map aS.lv)),(3,.sptr [.I p1.ID,.I p1.Version]),(7,.I (p0.length:Int)),(8,.I 0)] [] R (dY R (sN (bW (f:=aS.lv) mA R (aZ R zS)))) (LH.block (LH.loop (fun n e m=>∃ (n1:Int),Az p0 p1 n n1=some r∧e=Env.of [(0,.lst 2 (p0.map aS.lv)),(3,.sptr [.I p1.ID,.I p1.Version]),(7,.I (p0.length:Int)),(8,.I n1)]∧m=Mem.of []) F ⟨0,h,R,R⟩ ?_)))))
  clear h
  rintro n e m ⟨n1,h,rfl,rfl⟩
  rcases n with _ | n
  · cases (show Option.none=some _ from h)
  obtain ⟨aH,aI⟩:∃ f,f=Az p0 p1 n:=⟨_,rfl⟩
  replace h:JT p0 p1 aH n1=some r:=aI ▸ h
  unfold JT at h
  refine LH.aj R (sN (eG R R zQ)) (LH.seq (LH.cond (t:=(decide (n1<(p0.length:Int)))) R (fun dI=>?_) (fun dI=>?_)))
  ·replace h:=aB h dI
   refine LH.skip (ai (LH.seq (LH.block (LH.aj R (aZ R (br R zQ)) ?_))))
   obtain ⟨x3,fj,h⟩:=ae h
   refine LH.du mixed [] [0,0,0,0,0,0] [(0,.lst 2 (p0.map aS.lv)),(3,.sptr [.I p1.ID,.I p1.Version]),(5,.I n1),(7,.I (p0.length:Int)),(8,.I n1),(16,.bool (decide (p1=x3)))] [] R R (by kernel_rfl) (aX (bw R eA o6 dW R R ⟨R,vX R (iT R (aX (eF (f:=aS.lv) mA eA dW R R aS.ok fj R ⟨R,aX (bw R eA o6 dW R R ⟨R,aX (Qv R R (Mv p1 x3) ⟨R,zM⟩)⟩)⟩)))⟩)) (LH.cond (t:=(decide (p1=x3))) R (fun jj=>?_) (fun jj=>?_))
   ·replace h:=aB h jj
    refine LH.aj R (aZ R (br R zQ)) (LH.ret (bH (aO (dg (bH (aO ?_))))))
    obtain rfl:=oI h
    exact aJ (aT Tryz.results182) (bT R (bP ⟨aG mN,R,aN R,Sub.rfl⟩))
   replace h:=aA h jj
   refine LH.skip (aQ (ai (LH.bd R (sN (b8 R R (aZ R zQ))) ?_)))
   exact a7 ⟨(i64 (n1+1)),aI ▸ h,R,R⟩ (Wk.eq R R R R)
  replace h:=aA h dI
  refine LH.exit (cg (bO (bK (ai (LH.aj R (br R zQ) (LH.ret ?_))))))
  obtain rfl:=oI h
  exact aJ (aT Tryz.results182) (bT R (bP ⟨aG mN,R,aN R,Sub.rfl⟩))
theorem T8 {F:Nat} {p0:List aS} {p1:aS} {r:Bool} (h:JY F p0 p1=some r):aF Tryz.prog 128 [.lst 2 (p0.map aS.lv),.agg [.I p1.ID,.I p1.Version]] (Mem.of []) (.bool r) (Mem.of []):=by
  unfold JY at h
  refine bh Tryz.func128 R (nT Tryz.ntmps128 R) (LH.aj R (sB (dm R R R R (cr R zQ))) ?_)
  obtain ⟨r1,dR,h⟩:=ae h
  refine LH.aj R (dY R (sN (bw R eA o6 dW R R (sN (dq (args:=[.lst 2 (p0.map aS.lv),.agg [.I p1.ID,.I p1.Version]]) R P0 R (aw (aw bl)) (Uf dR) R (sN (oY R R (cr R zQ)))))))) (LH.ret ?_)
  obtain rfl:=oI h
  exact aJ (aT Tryz.results128) (bT R (bP ⟨aG mN,R,aN R,Sub.rfl⟩))
theorem Uy {F:Nat} {p0:ab} {c0:bG} {r:Int} (h:EK F p0 c0=some r):aF Tryz.prog 127 [ab.lv p0,.sptr [.I c0.Code,.lst 2 (c0.Items.map aS.lv)]] (Mem.of []) (.I r) (Mem.of []):=by
  unfold EK at h
  refine bh Tryz.func127 R (nT Tryz.ntmps127 R) (LH.aj R (sB (dm R R R R (br R zQ))) ?_)
  obtain ⟨r1,dR,h⟩:=ae h
  obtain ⟨r2,hr2,h⟩:=ae h
  refine LH.aj R (sN (aC og oZ yR R R R (sN (bj R oZ DD (sN (aC dZ aD aW R R R (sN (bj R aD b5 (sN (aC gh aD aW R R R (sN (bj R aD b5 (sN (gJ (vs:=[(0,.I p0.ID),(1,.I p0.Version)]) xP xQ R (lf jo aW aD R R R (lf fq aW aD R R R gI)) (sN (dq (args:=[.lst 2 (c0.Items.map aS.lv),.agg [.I p0.ID,.I p0.Version]]) R PK R (aw (aw bl)) (T8 dR) R (sN (dq (args:=[.bool r1]) R IA R (aw bl) (Nr hr2) R (br R zQ))))))))))))))))))) (LH.ret ?_)
  obtain rfl:=oI h
  exact aJ (aT Tryz.results127) (bT R (bP ⟨aG mN,R,aN R,Sub.rfl⟩))
set_option maxHeartbeats 4000000 in
theorem UJ {F:Nat} {p0:qR} {p1:List ab} {r:List aq × Int} (h:Ba F p0 p1=some r):aF Tryz.prog 66 [.agg [.I p0.bf,.I p0.bB,.I p0.bg,.I p0.bC,.lst 3 (p0.b6.map cK.lv),.lst 3 (p0.aP.map cK.lv),.L p0.bb,.lst 2 (p0.bm.map bG.lv),.I p0.aV],.lst 5 (p1.map ab.lv)] (Mem.of []) (.tup [.lst 3 (r.1.map aq.lv),.I r.2]) (Mem.of []):=by
  unfold Ba at h
  refine bh Tryz.func66 R (nT Tryz.ntmps66 R) (LH.aj R (sB (dm R R R R (pU R (br R zQ)))) (LH.seq ?_))
  obtain ⟨r1,dR,h⟩:=ae h
  refine LH.aj R (sN (bw R Kt Mb Kv R R (sN (dq (args:=[.agg [.I p0.bf,.I p0.bB,.I p0.bg,.I p0.bC,.lst 3 (p0.b6.map cK.lv),.lst 3 (p0.aP.map cK.lv),.L p0.bb,.lst 2 (p0.bm.map bG.lv),.I p0.aV]]) R PA R (aw bl) (UD dR) R (br R zQ))))) (LH.aj R (aZ R (sN (iC R R zQ))) (LH.cond (t:=(r1 != 0)) R (fun dI=>?_) (fun dI=>?_)))
  ·replace h:=aB h dI
   refine LH.aj R (aZ R (pU R (br R zQ))) (LH.ret (aO ?_))
   obtain rfl:=oI h
   exact aJ (aT Tryz.results66) (bT R (bT R (bP ⟨aG mN,R,aN R,(Sub.tup (jC (aw bl)))⟩)))
  replace h:=aA h dI
  refine LH.skip (ai (LH.seq (LH.aj R (dY R (sN (bW (f:=ab.lv) eR R (sN (jf R R zQ))))) (LH.cond (t:=(decide ((p1.length:Int) > 12))) R (fun fT=>?_) (fun fT=>?_)))))
  ·replace h:=aB h fT
   refine LH.aj R (pU R (br R zQ)) (LH.ret (aO ?_))
   obtain rfl:=oI h
   exact aJ (aT Tryz.results66) (bT R (bT R (bP ⟨aG mN,R,aN R,(Sub.tup (jC (aw bl)))⟩)))
  replace h:=aA h fT
  refine LH.skip (ai (LH.seq (LH.ax [(1,.lst 5 (p1.map ab.lv)),(2,.sptr [.I p0.bf,.I p0.bB,.I p0.bg,.I p0.bC,.lst 3 (p0.b6.map cK.lv),.lst 3 (p0.aP.map cK.lv),.L p0.bb,.lst 2 (p0.bm.map bG.lv),.I p0.aV]),(26,.lst 5 (p1.map ab.lv)),(27,.I (p1.length:Int)),(28,.I 0)] [] R (dY R (sN (bW (f:=ab.lv) eR R (aZ R zS)))) (LH.block (LH.loop (fun n e m=>∃ (n4:Int),Di F p0 p1 n n4=some r∧e=Env.of [(1,.lst 5 (p1.map ab.lv)),(2,.sptr [.I p0.bf,.I p0.bB,.I p0.bg,.I p0.bC,.lst 3 (p0.b6.map cK.lv),.lst 3 (p0.aP.map cK.lv),.L p0.bb,.lst 2 (p0.bm.map bG.lv),.I p0.aV]),(26,.lst 5 (p1.map ab.lv)),(27,.I (p1.length:Int)),(28,.I n4)]∧m=Mem.of []) F ⟨0,h,R,R⟩ ?_)))))
  clear h
  rintro n e m ⟨n4,h,rfl,rfl⟩
  rcases n with _ | n
  · cases (show Option.none=some _ from h)
  obtain ⟨aH,aI⟩:∃ f,f=Di F p0 p1 n:=⟨_,rfl⟩
  replace h:Av F p0 p1 aH n4=some r:=aI ▸ h
  unfold Av at h
  refine LH.aj R (sN (eG R R zQ)) (LH.seq (LH.cond (t:=(decide (n4<(p1.length:Int)))) R (fun gZ=>?_) (fun gZ=>?_)))
  ·replace h:=aB h gZ
   refine LH.skip (ai (LH.seq (LH.block ?_)))
   obtain ⟨x6,wF,h⟩:=ae h
   refine LH.ax [(1,.lst 5 (p1.map ab.lv)),(2,.sptr [.I p0.bf,.I p0.bB,.I p0.bg,.I p0.bC,.lst 3 (p0.b6.map cK.lv),.lst 3 (p0.aP.map cK.lv),.L p0.bb,.lst 2 (p0.bm.map bG.lv),.I p0.aV]),(8,.sptr (ab.lv x6).cells),(26,.lst 5 (p1.map ab.lv)),(27,.I (p1.length:Int)),(28,.I n4)] [] R (sN (eF (f:=ab.lv) eR bA bn R R ab.ok wF R (sN (bw R bA c7 bn R R (sN (hD (id:=108) R jO R R (s_ (cM R R R bA bn R R R (s0 ((Wk.trans (bM [(1,.lst 5 (p1.map ab.lv)),(2,.sptr [.I p0.bf,.I p0.bB,.I p0.bg,.I p0.bC,.lst 3 (p0.b6.map cK.lv),.lst 3 (p0.aP.map cK.lv),.L p0.bb,.lst 2 (p0.bm.map bG.lv),.I p0.aV]),(8,.ptr 108 0),(26,.lst 5 (p1.map ab.lv)),(27,.I (p1.length:Int)),(28,.I n4)] [(108,.box (ab.lv x6).cells)]) (Wk.trans (Wk.bD 108 (ab.lv x6).cells R R R (cc R)) (Wk.eq R R R R))))))))))))) ?_
   obtain ⟨r7,CJ,h⟩:=ae h
   refine LH.aj R (sN (bw R bA c7 bn R R (sN (dq (args:=[ab.lv x6]) R qj R (aw bl) (yF CJ) R (sN (iC R R zQ)))))) (LH.cond (t:=(r7 != 0)) R (fun kf=>?_) (fun kf=>?_))
   ·replace h:=aB h kf
    refine LH.aj R (pU R (br R zQ)) (LH.ret (bH (aO (dg (bH (aO ?_))))))
    obtain rfl:=oI h
    exact aJ (aT Tryz.results66) (bT R (bT R (bP ⟨aG mN,R,aN R,(Sub.tup (jC (aw bl)))⟩)))
   replace h:=aA h kf
   refine LH.skip (aQ (ai (LH.bd R (sN (b8 R R (aZ R zQ))) ?_)))
   exact a7 ⟨(i64 (n4+1)),aI ▸ h,R,R⟩ (Wk.eq R R R R)
  replace h:=aA h gZ
  refine LH.exit (cg (bO (bK (ai (LH.ax [(1,.lst 5 (p1.map ab.lv)),(2,.sptr [.I p0.bf,.I p0.bB,.I p0.bg,.I p0.bC,.lst 3 (p0.b6.map cK.lv),.lst 3 (p0.aP.map cK.lv),.L p0.bb,.lst 2 (p0.bm.map bG.lv),.I p0.aV]),(9,.ptr 511 0)] [(511,.box [.arr 512 (List.length ([]:List aq))]),(512,.arr 230 3 (List.map aq.lv ([]:List aq)))] R (sX (gp 411 R YI R R) (s0 ((Wk.trans (bM [(1,.lst 5 (p1.map ab.lv)),(2,.sptr [.I p0.bf,.I p0.bB,.I p0.bg,.I p0.bC,.lst 3 (p0.b6.map cK.lv),.lst 3 (p0.aP.map cK.lv),.L p0.bb,.lst 2 (p0.bm.map bG.lv),.I p0.aV]),(9,.ptr 511 0)] [(511,.box [.nil])]) (Wk.trans (bM [(1,.lst 5 (p1.map ab.lv)),(2,.sptr [.I p0.bf,.I p0.bB,.I p0.bg,.I p0.bC,.lst 3 (p0.b6.map cK.lv),.lst 3 (p0.aP.map cK.lv),.L p0.bb,.lst 2 (p0.bm.map bG.lv),.I p0.aV]),(9,.ptr 511 0)] [(511,.box [.nil])]) (Wk.trans (Wk.oa 512 230 3 511 0 R R R R R (cc R)) (Wk.eq R R R R))))))) ?_)))))
  obtain ⟨r9,CK,h⟩:=ae h
  obtain ⟨ea,pz,h⟩:=ae h
  obtain ⟨da,k6,h⟩:=ae h
  refine LH.du mixed [] [0,0,0,0,0,0,0,0,0,0,0,0,0,3] [(1,.lst 5 (p1.map ab.lv)),(2,.sptr [.I p0.bf,.I p0.bB,.I p0.bg,.I p0.bC,.lst 3 (p0.b6.map cK.lv),.lst 3 (p0.aP.map cK.lv),.L p0.bb,.lst 2 (p0.bm.map bG.lv),.I p0.aV]),(9,.ptr 511 0)] [(511,.box [.arr 512 da.length]),(512,.arr 230 3 (da.map aq.lv))] R R (by kernel_rfl) ?_ ?_
  ·exact vX R (aX (aC DE aD aW R R R ⟨R,aX (bj R aD b5 ⟨R,aX (aC DF aD aW R R R ⟨R,aX (bj R aD b5 ⟨R,aX (dq (args:=[.lst 5 (p1.map ab.lv),.I p0.bf,.I p0.bB,.fn 117 []]) R rh R (aw (aw (aw (aw bl)))) (xh (mr:=117) (kr:=[]) PB R (fun _ _ h=>Uu h) CK) R ⟨R,vX R (aX (aC Ks aD aW R R R ⟨R,aX (bj R aD b5 ⟨R,aX (aC DG aD aW R R R ⟨R,aX (bj R aD b5 ⟨R,aX (dq (args:=[.lst 5 (p1.map ab.lv),.I p0.bg,.I p0.bC,.fn 118 []]) R rh R (aw (aw (aw (aw bl)))) (xh (mr:=118) (kr:=[]) PC R (fun _ _ h=>U0 h) pz) R ⟨R,aX (jU (f:=aq.lv) (ys:=[r9,ea]) lU va fF R R R aq.ok ⟨R,mX ((eO (args:=[.ptr 511 0,.lst 3 (List.map aq.lv [r9,ea])]) (ml:=[(511,.box [.arr 512 (List.length ([]:List aq))]),(512,.arr 230 3 (List.map aq.lv ([]:List aq)))]) (cS:=[(511,.box [.arr 512 da.length]),(512,.arr 230 3 (da.map aq.lv))]) R rb R (aw (aw bl)) (Gp k6) (mC R (mC R mN)) (bu R (bu R bX)) R)) zM⟩)⟩)⟩)⟩)⟩)⟩))⟩)⟩)⟩)⟩)⟩))
  refine LH.seq (LH.ax [(1,.lst 5 (p1.map ab.lv)),(2,.sptr [.I p0.bf,.I p0.bB,.I p0.bg,.I p0.bC,.lst 3 (p0.b6.map cK.lv),.lst 3 (p0.aP.map cK.lv),.L p0.bb,.lst 2 (p0.bm.map bG.lv),.I p0.aV]),(9,.ptr 511 0),(51,.lst 3 (p0.b6.map cK.lv)),(52,.I (p0.b6.length:Int)),(53,.I 0)] [(511,.box [.arr 512 da.length]),(512,.arr 230 3 (da.map aq.lv))] R (sN (aC DH sK GM R R R (sN (bj R sK GJ (sN (bW (f:=cK.lv) u3 R (aZ R zS))))))) (LH.block (LH.loop (fun n e m=>∃ (n12:Int) (zR:List aq),xd F p0 p1 n n12 zR=some r∧e=Env.of [(1,.lst 5 (p1.map ab.lv)),(2,.sptr [.I p0.bf,.I p0.bB,.I p0.bg,.I p0.bC,.lst 3 (p0.b6.map cK.lv),.lst 3 (p0.aP.map cK.lv),.L p0.bb,.lst 2 (p0.bm.map bG.lv),.I p0.aV]),(9,.ptr 511 0),(51,.lst 3 (p0.b6.map cK.lv)),(52,.I (p0.b6.length:Int)),(53,.I n12)]∧m=Mem.of [(511,.box [.arr 512 zR.length]),(512,.arr 230 3 (zR.map aq.lv))]) F ⟨0,da,h,R,R⟩ ?_)))
  clear h
  rintro n e m ⟨n12,zR,h,rfl,rfl⟩
  rcases n with _ | n
  · cases (show Option.none=some _ from h)
  obtain ⟨fH,eU⟩:∃ f,f=xd F p0 p1 n:=⟨_,rfl⟩
  replace h:EB F p0 p1 fH n12 zR=some r:=eU ▸ h
  unfold EB at h
  refine LH.aj R (sN (eG R R zQ)) (LH.seq (LH.cond (t:=(decide (n12<(p0.b6.length:Int)))) R (fun jy=>?_) (fun jy=>?_)))
  ·replace h:=aB h jy
   refine LH.skip (ai (LH.seq (LH.block ?_)))
   obtain ⟨pR,F2,h⟩:=ae h
   refine LH.ax [(1,.lst 5 (p1.map ab.lv)),(2,.sptr [.I p0.bf,.I p0.bB,.I p0.bg,.I p0.bC,.lst 3 (p0.b6.map cK.lv),.lst 3 (p0.aP.map cK.lv),.L p0.bb,.lst 2 (p0.bm.map bG.lv),.I p0.aV]),(9,.ptr 511 0),(11,.sptr [.I pR.Index,.I pR.bQ,.I pR.cO]),(51,.lst 3 (p0.b6.map cK.lv)),(52,.I (p0.b6.length:Int)),(53,.I n12)] [(511,.box [.arr 512 zR.length]),(512,.arr 230 3 (zR.map aq.lv))] R (sN (eF (f:=cK.lv) u3 np nt R R cK.ok F2 R (sN (bw R np E1 nt R R (sN (hD (id:=111) R KA R R (s_ (cM R R R np nt R R R (s0 ((Wk.trans (bM [(1,.lst 5 (p1.map ab.lv)),(2,.sptr [.I p0.bf,.I p0.bB,.I p0.bg,.I p0.bC,.lst 3 (p0.b6.map cK.lv),.lst 3 (p0.aP.map cK.lv),.L p0.bb,.lst 2 (p0.bm.map bG.lv),.I p0.aV]),(9,.ptr 511 0),(11,.ptr 111 0),(51,.lst 3 (p0.b6.map cK.lv)),(52,.I (p0.b6.length:Int)),(53,.I n12)] [(111,.box [.I pR.Index,.I pR.bQ,.I pR.cO]),(511,.box [.arr 512 zR.length]),(512,.arr 230 3 (zR.map aq.lv))]) (Wk.trans (Wk.bD 111 [.I pR.Index,.I pR.bQ,.I pR.cO] R R R (cc R)) (Wk.eq R R R R))))))))))))) ?_
   obtain ⟨iz,yn,h⟩:=ae h
   obtain ⟨fp,CG,h⟩:=ae h
   refine LH.df [(1,.lst 5 (p1.map ab.lv)),(2,.sptr [.I p0.bf,.I p0.bB,.I p0.bg,.I p0.bC,.lst 3 (p0.b6.map cK.lv),.lst 3 (p0.aP.map cK.lv),.L p0.bb,.lst 2 (p0.bm.map bG.lv),.I p0.aV]),(9,.ptr 511 0),(51,.lst 3 (p0.b6.map cK.lv)),(52,.I (p0.b6.length:Int)),(53,.I n12)] [(511,.box [.arr 512 fp.length]),(512,.arr 230 3 (fp.map aq.lv))] R (dY R (sN (aC yO aD aW R R R (sN (bj R aD b5 (sN (aC yP aD aW R R R (sN (bj R aD b5 (sN (z7 (vs:=[.sptr [.I pR.Index,.I pR.bQ,.I pR.cO]]) R (sN (dq (args:=[.lst 5 (p1.map ab.lv),.I pR.bQ,.I pR.cO,.fn 119 [.sptr [.I pR.Index,.I pR.bQ,.I pR.cO]]]) R rh R (aw (aw (aw (aw bl)))) (xh (mr:=119) (kr:=[.sptr [.I pR.Index,.I pR.bQ,.I pR.cO]]) PD R (fun _ _ h=>Uv h) yn) R (sN (jU (f:=aq.lv) (ys:=[iz]) lU va fF R R R aq.ok (sX (((eO (args:=[.ptr 511 0,.lst 3 (List.map aq.lv [iz])]) (ml:=[(511,.box [.arr 512 zR.length]),(512,.arr 230 3 (zR.map aq.lv))]) (cS:=[(511,.box [.arr 512 fp.length]),(512,.arr 230 3 (fp.map aq.lv))]) R rb R (aw (aw bl)) (Gp CG) (mC R (mC R mN)) (bu R (bu R bX)) R)).ok) zS)))))))))))))))) (aQ (ai (LH.bd R (sN (b8 R R (aZ R zQ))) ?_)))
   exact a7 ⟨(i64 (n12+1)),fp,eU ▸ h,R,R⟩ (Wk.eq R R R R)
  replace h:=aA h jy
  refine LH.exit (cg (bO (bK (ai (LH.seq (LH.ax [(1,.lst 5 (p1.map ab.lv)),(2,.sptr [.I p0.bf,.I p0.bB,.I p0.bg,.I p0.bC,.lst 3 (p0.b6.map cK.lv),.lst 3 (p0.aP.map cK.lv),.L p0.bb,.lst 2 (p0.bm.map bG.lv),.I p0.aV]),(9,.ptr 511 0),(68,.lst 3 (p0.aP.map cK.lv)),(69,.I (p0.aP.length:Int)),(70,.I 0)] [(511,.box [.arr 512 zR.length]),(512,.arr 230 3 (zR.map aq.lv))] R (sN (aC DI sK GM R R R (sN (bj R sK GJ (sN (bW (f:=cK.lv) u3 R (aZ R zS))))))) (LH.block (LH.loop (fun n e m=>∃ (n18:Int) (zT:List aq),AR F p0 p1 n n18 zT=some r∧e=Env.of [(1,.lst 5 (p1.map ab.lv)),(2,.sptr [.I p0.bf,.I p0.bB,.I p0.bg,.I p0.bC,.lst 3 (p0.b6.map cK.lv),.lst 3 (p0.aP.map cK.lv),.L p0.bb,.lst 2 (p0.bm.map bG.lv),.I p0.aV]),(9,.ptr 511 0),(68,.lst 3 (p0.aP.map cK.lv)),(69,.I (p0.aP.length:Int)),(70,.I n18)]∧m=Mem.of [(511,.box [.arr 512 zT.length]),(512,.arr 230 3 (zT.map aq.lv))]) F ⟨0,zR,h,R,R⟩ ?_))))))))
  clear h
  rintro n e m ⟨n18,zT,h,rfl,rfl⟩
  rcases n with _ | n
  · cases (show Option.none=some _ from h)
  obtain ⟨rv,o4⟩:∃ f,f=AR F p0 p1 n:=⟨_,rfl⟩
  replace h:EC F p0 p1 rv n18 zT=some r:=o4 ▸ h
  unfold EC at h
  refine LH.aj R (sN (eG R R zQ)) (LH.seq (LH.cond (t:=(decide (n18<(p0.aP.length:Int)))) R (fun jz=>?_) (fun jz=>?_)))
  ·replace h:=aB h jz
   refine LH.skip (ai (LH.seq (LH.block ?_)))
   obtain ⟨qO,Ps,h⟩:=ae h
   refine LH.ax [(1,.lst 5 (p1.map ab.lv)),(2,.sptr [.I p0.bf,.I p0.bB,.I p0.bg,.I p0.bC,.lst 3 (p0.b6.map cK.lv),.lst 3 (p0.aP.map cK.lv),.L p0.bb,.lst 2 (p0.bm.map bG.lv),.I p0.aV]),(9,.ptr 511 0),(13,.sptr [.I qO.Index,.I qO.bQ,.I qO.cO]),(68,.lst 3 (p0.aP.map cK.lv)),(69,.I (p0.aP.length:Int)),(70,.I n18)] [(511,.box [.arr 512 zT.length]),(512,.arr 230 3 (zT.map aq.lv))] R (sN (eF (f:=cK.lv) u3 np nt R R cK.ok Ps R (sN (bw R np E1 nt R R (sN (hD (id:=113) R KA R R (s_ (cM R R R np nt R R R (s0 ((Wk.trans (bM [(1,.lst 5 (p1.map ab.lv)),(2,.sptr [.I p0.bf,.I p0.bB,.I p0.bg,.I p0.bC,.lst 3 (p0.b6.map cK.lv),.lst 3 (p0.aP.map cK.lv),.L p0.bb,.lst 2 (p0.bm.map bG.lv),.I p0.aV]),(9,.ptr 511 0),(13,.ptr 113 0),(68,.lst 3 (p0.aP.map cK.lv)),(69,.I (p0.aP.length:Int)),(70,.I n18)] [(113,.box [.I qO.Index,.I qO.bQ,.I qO.cO]),(511,.box [.arr 512 zT.length]),(512,.arr 230 3 (zT.map aq.lv))]) (Wk.trans (Wk.bD 113 [.I qO.Index,.I qO.bQ,.I qO.cO] R R R (cc R)) (Wk.eq R R R R))))))))))))) ?_
   obtain ⟨xE,Ik,h⟩:=ae h
   obtain ⟨rr,O2,h⟩:=ae h
   refine LH.df [(1,.lst 5 (p1.map ab.lv)),(2,.sptr [.I p0.bf,.I p0.bB,.I p0.bg,.I p0.bC,.lst 3 (p0.b6.map cK.lv),.lst 3 (p0.aP.map cK.lv),.L p0.bb,.lst 2 (p0.bm.map bG.lv),.I p0.aV]),(9,.ptr 511 0),(68,.lst 3 (p0.aP.map cK.lv)),(69,.I (p0.aP.length:Int)),(70,.I n18)] [(511,.box [.arr 512 rr.length]),(512,.arr 230 3 (rr.map aq.lv))] R (dY R (sN (aC yO aD aW R R R (sN (bj R aD b5 (sN (aC yP aD aW R R R (sN (bj R aD b5 (sN (z7 (vs:=[.sptr [.I qO.Index,.I qO.bQ,.I qO.cO]]) R (sN (dq (args:=[.lst 5 (p1.map ab.lv),.I qO.bQ,.I qO.cO,.fn 122 [.sptr [.I qO.Index,.I qO.bQ,.I qO.cO]]]) R rh R (aw (aw (aw (aw bl)))) (xh (mr:=122) (kr:=[.sptr [.I qO.Index,.I qO.bQ,.I qO.cO]]) PF R (fun _ _ h=>Uw h) Ik) R (sN (jU (f:=aq.lv) (ys:=[xE]) lU va fF R R R aq.ok (sX (((eO (args:=[.ptr 511 0,.lst 3 (List.map aq.lv [xE])]) (ml:=[(511,.box [.arr 512 zT.length]),(512,.arr 230 3 (zT.map aq.lv))]) (cS:=[(511,.box [.arr 512 rr.length]),(512,.arr 230 3 (rr.map aq.lv))]) R rb R (aw (aw bl)) (Gp O2) (mC R (mC R mN)) (bu R (bu R bX)) R)).ok) zS)))))))))))))))) (aQ (ai (LH.bd R (sN (b8 R R (aZ R zQ))) ?_)))
   exact a7 ⟨(i64 (n18+1)),rr,o4 ▸ h,R,R⟩ (Wk.eq R R R R)
  replace h:=aA h jz
  refine LH.exit (cg (bO (bK (ai (LH.seq (LH.ax [(1,.lst 5 (p1.map ab.lv)),(2,.sptr [.I p0.bf,.I p0.bB,.I p0.bg,.I p0.bC,.lst 3 (p0.b6.map cK.lv),.lst 3 (p0.aP.map cK.lv),.L p0.bb,.lst 2 (p0.bm.map bG.lv),.I p0.aV]),(9,.ptr 511 0),(85,.L p0.bb),(86,.I (p0.bb.length:Int)),(87,.I 0)] [(511,.box [.arr 512 zT.length]),(512,.arr 230 3 (zT.map aq.lv))] R (sN (aC u4 cm dQ R R R (sN (bj R cm eu (sN (bW (f:=LV.I) bU R (aZ R zS))))))) (LH.block (LH.loop (fun n e m=>∃ (n24:Int) (BZ:List aq),AS F p0 p1 n n24 BZ=some r∧e=Env.of [(1,.lst 5 (p1.map ab.lv)),(2,.sptr [.I p0.bf,.I p0.bB,.I p0.bg,.I p0.bC,.lst 3 (p0.b6.map cK.lv),.lst 3 (p0.aP.map cK.lv),.L p0.bb,.lst 2 (p0.bm.map bG.lv),.I p0.aV]),(9,.ptr 511 0),(85,.L p0.bb),(86,.I (p0.bb.length:Int)),(87,.I n24)]∧m=Mem.of [(511,.box [.arr 512 BZ.length]),(512,.arr 230 3 (BZ.map aq.lv))]) F ⟨0,zT,h,R,R⟩ ?_))))))))
  clear h
  rintro n e m ⟨n24,BZ,h,rfl,rfl⟩
  rcases n with _ | n
  · cases (show Option.none=some _ from h)
  obtain ⟨QU,MQ⟩:∃ f,f=AS F p0 p1 n:=⟨_,rfl⟩
  replace h:ED F p0 p1 QU n24 BZ=some r:=MQ ▸ h
  unfold ED at h
  refine LH.aj R (sN (eG R R zQ)) (LH.seq (LH.cond (t:=(decide (n24<(p0.bb.length:Int)))) R (fun tS=>?_) (fun tS=>?_)))
  ·replace h:=aB h tS
   refine LH.skip (ai (LH.seq (LH.block ?_)))
   obtain ⟨N3,XU,h⟩:=ae h
   refine LH.ax [(1,.lst 5 (p1.map ab.lv)),(2,.sptr [.I p0.bf,.I p0.bB,.I p0.bg,.I p0.bC,.lst 3 (p0.b6.map cK.lv),.lst 3 (p0.aP.map cK.lv),.L p0.bb,.lst 2 (p0.bm.map bG.lv),.I p0.aV]),(9,.ptr 511 0),(15,.sptr [.I N3]),(85,.L p0.bb),(86,.I (p0.bb.length:Int)),(87,.I n24)] [(511,.box [.arr 512 BZ.length]),(512,.arr 230 3 (BZ.map aq.lv))] R (sN (eF (f:=LV.I) bU aD aW R R jB XU R (sN (bj R aD b5 (sN (hD (id:=115) R NZ R R (s_ (cM R R R aD aW R R R (s0 ((Wk.trans (bM [(1,.lst 5 (p1.map ab.lv)),(2,.sptr [.I p0.bf,.I p0.bB,.I p0.bg,.I p0.bC,.lst 3 (p0.b6.map cK.lv),.lst 3 (p0.aP.map cK.lv),.L p0.bb,.lst 2 (p0.bm.map bG.lv),.I p0.aV]),(9,.ptr 511 0),(15,.ptr 115 0),(85,.L p0.bb),(86,.I (p0.bb.length:Int)),(87,.I n24)] [(115,.box [.I N3]),(511,.box [.arr 512 BZ.length]),(512,.arr 230 3 (BZ.map aq.lv))]) (Wk.trans (Wk.bD 115 [.I N3] R R R (cc R)) (Wk.eq R R R R))))))))))))) ?_
   obtain ⟨pT,Im,h⟩:=ae h
   obtain ⟨oH,CH,h⟩:=ae h
   refine LH.df [(1,.lst 5 (p1.map ab.lv)),(2,.sptr [.I p0.bf,.I p0.bB,.I p0.bg,.I p0.bC,.lst 3 (p0.b6.map cK.lv),.lst 3 (p0.aP.map cK.lv),.L p0.bb,.lst 2 (p0.bm.map bG.lv),.I p0.aV]),(9,.ptr 511 0),(85,.L p0.bb),(86,.I (p0.bb.length:Int)),(87,.I n24)] [(511,.box [.arr 512 oH.length]),(512,.arr 230 3 (oH.map aq.lv))] R (dY R (sN (z7 (vs:=[.sptr [.I N3]]) R (sN (dq (args:=[.lst 5 (p1.map ab.lv),.I 1,.I 1,.fn 124 [.sptr [.I N3]]]) R rh R (aw (aw (aw (aw bl)))) (xh (mr:=124) (kr:=[.sptr [.I N3]]) PH R (fun _ _ h=>Ux h) Im) R (sN (jU (f:=aq.lv) (ys:=[pT]) lU va fF R R R aq.ok (sX (((eO (args:=[.ptr 511 0,.lst 3 (List.map aq.lv [pT])]) (ml:=[(511,.box [.arr 512 BZ.length]),(512,.arr 230 3 (BZ.map aq.lv))]) (cS:=[(511,.box [.arr 512 oH.length]),(512,.arr 230 3 (oH.map aq.lv))]) R rb R (aw (aw bl)) (Gp CH) (mC R (mC R mN)) (bu R (bu R bX)) R)).ok) zS)))))))) (aQ (ai (LH.bd R (sN (b8 R R (aZ R zQ))) ?_)))
   exact a7 ⟨(i64 (n24+1)),oH,MQ ▸ h,R,R⟩ (Wk.eq R R R R)
  replace h:=aA h tS
  refine LH.exit (cg (bO (bK (ai ?_))))
  obtain ⟨EU,O4,h⟩:=ae h
  refine LH.aj R (dY R (sX (((eO (args:=[.ptr 511 0,.lst 5 (p1.map ab.lv)]) (ml:=[(511,.box [.arr 512 BZ.length]),(512,.arr 230 3 (BZ.map aq.lv))]) (cS:=[(511,.box [.arr 512 EU.length]),(512,.arr 230 3 (EU.map aq.lv))]) R PI R (aw (aw bl)) (Ua O4) (mC R (mC R mN)) (bu R (bu R bX)) R)).ok) zQ)) (LH.seq (LH.ax [(1,.lst 5 (p1.map ab.lv)),(2,.sptr [.I p0.bf,.I p0.bB,.I p0.bg,.I p0.bC,.lst 3 (p0.b6.map cK.lv),.lst 3 (p0.aP.map cK.lv),.L p0.bb,.lst 2 (p0.bm.map bG.lv),.I p0.aV]),(9,.ptr 511 0),(100,.lst 2 (p0.bm.map bG.lv)),(101,.I (p0.bm.length:Int)),(102,.I 0)] [(511,.box [.arr 512 EU.length]),(512,.arr 230 3 (EU.map aq.lv))] R (sN (aC DJ GL Mi R R R (sN (bj R GL Vi (sN (bW (f:=bG.lv) Mc R (aZ R zS))))))) (LH.block (LH.loop (fun n e m=>∃ (n31:Int) (sY:List aq),Dj F p0 p1 n n31 sY=some r∧e=Env.of [(1,.lst 5 (p1.map ab.lv)),(2,.sptr [.I p0.bf,.I p0.bB,.I p0.bg,.I p0.bC,.lst 3 (p0.b6.map cK.lv),.lst 3 (p0.aP.map cK.lv),.L p0.bb,.lst 2 (p0.bm.map bG.lv),.I p0.aV]),(9,.ptr 511 0),(100,.lst 2 (p0.bm.map bG.lv)),(101,.I (p0.bm.length:Int)),(102,.I n31)]∧m=Mem.of [(511,.box [.arr 512 sY.length]),(512,.arr 230 3 (sY.map aq.lv))]) F ⟨0,EU,h,R,R⟩ ?_))))
  clear h
  rintro n e m ⟨n31,sY,h,rfl,rfl⟩
  rcases n with _ | n
  · cases (show Option.none=some _ from h)
  obtain ⟨QV,MR⟩:∃ f,f=Dj F p0 p1 n:=⟨_,rfl⟩
  replace h:Aw F p0 p1 QV n31 sY=some r:=MR ▸ h
  unfold Aw at h
  refine LH.aj R (sN (eG R R zQ)) (LH.seq (LH.cond (t:=(decide (n31<(p0.bm.length:Int)))) R (fun FL=>?_) (fun FL=>?_)))
  ·replace h:=aB h FL
   refine LH.skip (ai (LH.seq (LH.block ?_)))
   obtain ⟨Fe,XX,h⟩:=ae h
   refine LH.ax [(1,.lst 5 (p1.map ab.lv)),(2,.sptr [.I p0.bf,.I p0.bB,.I p0.bg,.I p0.bC,.lst 3 (p0.b6.map cK.lv),.lst 3 (p0.aP.map cK.lv),.L p0.bb,.lst 2 (p0.bm.map bG.lv),.I p0.aV]),(9,.ptr 511 0),(17,.sptr [.I Fe.Code,.lst 2 (Fe.Items.map aS.lv)]),(100,.lst 2 (p0.bm.map bG.lv)),(101,.I (p0.bm.length:Int)),(102,.I n31)] [(511,.box [.arr 512 sY.length]),(512,.arr 230 3 (sY.map aq.lv))] R (sN (eF (f:=bG.lv) Mc rF qC R R bG.ok XX R (sN (bw R rF GK qC R R (sN (hD (id:=117) R DR R R (s_ (cM R R R rF qC R R R (s0 ((Wk.trans (bM [(1,.lst 5 (p1.map ab.lv)),(2,.sptr [.I p0.bf,.I p0.bB,.I p0.bg,.I p0.bC,.lst 3 (p0.b6.map cK.lv),.lst 3 (p0.aP.map cK.lv),.L p0.bb,.lst 2 (p0.bm.map bG.lv),.I p0.aV]),(9,.ptr 511 0),(17,.ptr 117 0),(100,.lst 2 (p0.bm.map bG.lv)),(101,.I (p0.bm.length:Int)),(102,.I n31)] [(117,.box [.I Fe.Code,.lst 2 (Fe.Items.map aS.lv)]),(511,.box [.arr 512 sY.length]),(512,.arr 230 3 (sY.map aq.lv))]) (Wk.trans (Wk.bD 117 [.I Fe.Code,.lst 2 (Fe.Items.map aS.lv)] R R R (cc R)) (Wk.eq R R R R))))))))))))) ?_
   obtain ⟨nC,O5,h⟩:=ae h
   obtain ⟨xF,O6,h⟩:=ae h
   refine LH.df [(1,.lst 5 (p1.map ab.lv)),(2,.sptr [.I p0.bf,.I p0.bB,.I p0.bg,.I p0.bC,.lst 3 (p0.b6.map cK.lv),.lst 3 (p0.aP.map cK.lv),.L p0.bb,.lst 2 (p0.bm.map bG.lv),.I p0.aV]),(9,.ptr 511 0),(100,.lst 2 (p0.bm.map bG.lv)),(101,.I (p0.bm.length:Int)),(102,.I n31)] [(511,.box [.arr 512 xF.length]),(512,.arr 230 3 (xF.map aq.lv))] R (dY R (sN (aC DK aD aW R R R (sN (bj R aD b5 (sN (z7 (vs:=[.sptr [.I Fe.Code,.lst 2 (Fe.Items.map aS.lv)]]) R (sN (dq (args:=[.lst 5 (p1.map ab.lv),.I 0,.I p0.aV,.fn 127 [.sptr [.I Fe.Code,.lst 2 (Fe.Items.map aS.lv)]]]) R rh R (aw (aw (aw (aw bl)))) (xh (mr:=127) (kr:=[.sptr [.I Fe.Code,.lst 2 (Fe.Items.map aS.lv)]]) PJ R (fun _ _ h=>Uy h) O5) R (sN (jU (f:=aq.lv) (ys:=[nC]) lU va fF R R R aq.ok (sX (((eO (args:=[.ptr 511 0,.lst 3 (List.map aq.lv [nC])]) (ml:=[(511,.box [.arr 512 sY.length]),(512,.arr 230 3 (sY.map aq.lv))]) (cS:=[(511,.box [.arr 512 xF.length]),(512,.arr 230 3 (xF.map aq.lv))]) R rb R (aw (aw bl)) (Gp O6) (mC R (mC R mN)) (bu R (bu R bX)) R)).ok) zS)))))))))))) (aQ (ai (LH.bd R (sN (b8 R R (aZ R zQ))) ?_)))
   exact a7 ⟨(i64 (n31+1)),xF,MR ▸ h,R,R⟩ (Wk.eq R R R R)
  replace h:=aA h FL
  refine LH.exit (cg (bO (bK (ai (LH.wk ((Wk.trans (bM [(9,.ptr 511 0)] [(511,.box [.arr 512 sY.length]),(512,.arr 230 3 (sY.map aq.lv))]) (Wk.trans (bM [(9,.ptr 511 0)] [(511,.box [.arr 512 sY.length]),(512,.arr 230 3 (sY.map aq.lv))]) (Wk.trans (Wk.trans (Wk.ez (f:=aq.lv) 512 230 3 sY 511 R R R (gS gR) R R (cc R)) (bM [(9,.ptr 511 0)] [(511,.box [.lst 3 (sY.map aq.lv)])])) (Wk.trans (Wk.bD 511 [.lst 3 (sY.map aq.lv)] R R R (cc R)) (bM [(9,.sptr [.lst 3 (sY.map aq.lv)])] [])))))) (LH.seq (LH.aj R (sN (bj R lh u1 (sN (bW (f:=aq.lv) lU R (sN (jf R R zQ)))))) (LH.cond (t:=(decide ((sY.length:Int) > 60))) R (fun Ct=>?_) (fun Ct=>?_)))))))))
  ·replace h:=aB h Ct
   refine LH.aj R (pU R (br R zQ)) (LH.ret (aO ?_))
   obtain rfl:=oI h
   exact aJ (aT Tryz.results66) (bT R (bT R (bP ⟨aG mN,R,aN R,(Sub.tup (jC (aw bl)))⟩)))
  replace h:=aA h Ct
  refine LH.skip (ai (LH.aj R (sN (bj R lh u1 (sD R (br R zQ)))) (LH.ret ?_)))
  obtain rfl:=oI h
  exact aJ (aT Tryz.results66) (bT R (bT R (bP ⟨aG mN,R,aN R,(Sub.tup (aw (aw bl)))⟩)))
theorem Nj {F:Nat} {p0:qR} {p1:List ab} {p2:List Int} {r:eX × Int} (h:Dm F p0 p1 p2=some r):aF Tryz.prog 24 [.agg [.I p0.bf,.I p0.bB,.I p0.bg,.I p0.bC,.lst 3 (p0.b6.map cK.lv),.lst 3 (p0.aP.map cK.lv),.L p0.bb,.lst 2 (p0.bm.map bG.lv),.I p0.aV],.lst 5 (p1.map ab.lv),.L p2] (Mem.of []) (.tup [.agg [.L r.1.al,.lst 3 (r.1.Rows.map aq.lv)],.I r.2]) (Mem.of []):=by
  unfold Dm at h
  refine bh Tryz.func24 R (nT Tryz.ntmps24 R) (LH.aj R (sB (dm R R R R (sN (hD (id:=106) R DQ R R (br R zQ))))) ?_)
  obtain ⟨r1,dR,h⟩:=ae h
  refine LH.aj R (sN (bw R Kt Mb Kv R R (dY R (sN (dq (args:=[.agg [.I p0.bf,.I p0.bB,.I p0.bg,.I p0.bC,.lst 3 (p0.b6.map cK.lv),.lst 3 (p0.aP.map cK.lv),.L p0.bb,.lst 2 (p0.bm.map bG.lv),.I p0.aV],.lst 5 (p1.map ab.lv)]) R Ty R (aw (aw bl)) (UJ dR) R (sE R (sN (fL R R (sN (fL R R (sD R (br R zQ)))))))))))) (LH.seq (LH.aj R (aZ R (sN (iC R R zQ))) (LH.cond (t:=(r1.2 != 0)) R (fun dI=>?_) (fun dI=>?_))))
  ·replace h:=aB h dI
   refine LH.ax [(6,.sptr [.nil,.nil]),(7,.I r1.2)] [] R (sN (gJ (vs:=[]) Mk DQ R gI (aZ R (s_ (cM R R R lj lk R R R (br R (s0 ((Wk.trans (bM [(6,.ptr 106 0),(7,.I r1.2)] [(106,.box [.nil,.nil])]) (Wk.trans (Wk.bD 106 [.nil,.nil] R R R (cc R)) (Wk.eq R R R R))))))))))) (LH.ret (aO ?_))
   obtain rfl:=oI h
   exact aJ (aT Tryz.results24) (dN R lj pM lk R R (bT R (bP ⟨aG mN,R,aN R,(Sub.tup (sd (Sub.agg (jC (jC bl))) (aw bl)))⟩)))
  replace h:=aA h dI
  refine LH.skip (ai (LH.seq (LH.aj R (dY R (sN (bW (f:=LV.I) bU R (dY R (sN (bW (f:=ab.lv) eR R (sN (iC R R zQ)))))))) (LH.cond (t:=((p2.length:Int) != (p1.length:Int))) R (fun fT=>?_) (fun fT=>?_)))))
  ·replace h:=aB h fT
   refine LH.ax [(6,.sptr [.nil,.nil]),(7,.I 1)] [] R (sN (gJ (vs:=[]) Mk DQ R gI (s_ (cM R R R lj lk R R R (br R (s0 ((Wk.trans (bM [(6,.ptr 106 0),(7,.I 1)] [(106,.box [.nil,.nil])]) (Wk.trans (Wk.bD 106 [.nil,.nil] R R R (cc R)) (Wk.eq R R R R)))))))))) (LH.ret (aO ?_))
   obtain rfl:=oI h
   exact aJ (aT Tryz.results24) (dN R lj pM lk R R (bT R (bP ⟨aG mN,R,aN R,(Sub.tup (sd (Sub.agg (jC (jC bl))) (aw bl)))⟩)))
  replace h:=aA h fT
  refine LH.skip (ai (LH.seq (LH.ax [(2,.L p2),(6,.ptr 106 0),(8,.lst 3 (r1.1.map aq.lv)),(28,.L p2),(29,.I (p2.length:Int)),(30,.I 0)] [(106,.box [.nil,.nil])] R (dY R (sN (bW (f:=LV.I) bU R (aZ R zS)))) (LH.block (LH.loop (fun n e m=>∃ (n4:Int),C8 p2 r1 n n4=some r∧e=Env.of [(2,.L p2),(6,.ptr 106 0),(8,.lst 3 (r1.1.map aq.lv)),(28,.L p2),(29,.I (p2.length:Int)),(30,.I n4)]∧m=Mem.of [(106,.box [.nil,.nil])]) F ⟨0,h,R,R⟩ ?_)))))
  clear h
  rintro n e m ⟨n4,h,rfl,rfl⟩
  rcases n with _ | n
  · cases (show Option.none=some _ from h)
  obtain ⟨aH,aI⟩:∃ f,f=C8 p2 r1 n:=⟨_,rfl⟩
  replace h:J6 p2 r1 aH n4=some r:=aI ▸ h
  unfold J6 at h
  refine LH.aj R (sN (eG R R zQ)) (LH.seq (LH.cond (t:=(decide (n4<(p2.length:Int)))) R (fun gZ=>?_) (fun gZ=>?_)))
  ·replace h:=aB h gZ
   refine LH.skip (ai (LH.seq (LH.block ?_)))
   obtain ⟨x6,wF,h⟩:=ae h
   refine LH.aj R (sN (eF (f:=LV.I) bU aD aW R R jB wF R (sN (bj R aD b5 (br R zQ))))) (LH.ax [(2,.L p2),(6,.ptr 106 0),(8,.lst 3 (r1.1.map aq.lv)),(28,.L p2),(29,.I (p2.length:Int)),(30,.I n4),(39,.bool ((decide (x6<0)) || (decide (x6 > 10000))))] [(106,.box [.nil,.nil])] R ?_ ?_)
   ·refine aZ R (sN (eG R R (bZ R ?_)))
    by_cases cA:(decide (x6<0))=true
    ·exact sF R R cA (sF R R cA (sN (aY (cB cA) (v:=(.bool _)) R (s0 (Wk.to (eC R (eC R (eC R (eC R (eC R (eC R (eC (cB (mq cA)) eN))))))) ⟨R,trivial⟩ R (aN R))))))
    ·replace cA:=bF cA
     exact sT R (cB cA) (oM (v:=(.int _ _)) R (sT R (cB cA) (jf R R (sN (bc (cB cA) (v:=(.bool _)) R (s0 (Wk.to (eC R (eC R (eC R (eC R (eC R (eC R (eC (cB (gN cA)) eN))))))) ⟨R,trivial⟩ R (aN R))))))))
   refine LH.cond (t:=((decide (x6<0)) || (decide (x6 > 10000)))) R (fun ng=>?_) (fun ng=>?_)
   ·replace h:=aB h ng
    refine LH.ax [(6,.sptr [.nil,.nil]),(7,.I 2)] [] R (sN (gJ (vs:=[]) Mk DQ R gI (s_ (cM R R R lj lk R R R (br R (s0 ((Wk.trans (bM [(6,.ptr 106 0),(7,.I 2)] [(106,.box [.nil,.nil])]) (Wk.trans (Wk.bD 106 [.nil,.nil] R R R (cc R)) (Wk.eq R R R R)))))))))) (LH.ret (bH (aO (dg (bH (aO ?_))))))
    obtain rfl:=oI h
    exact aJ (aT Tryz.results24) (dN R lj pM lk R R (bT R (bP ⟨aG mN,R,aN R,(Sub.tup (sd (Sub.agg (jC (jC bl))) (aw bl)))⟩)))
   replace h:=aA h ng
   refine LH.skip (aQ (ai (LH.bd R (sN (b8 R R (aZ R zQ))) ?_)))
   exact a7 ⟨(i64 (n4+1)),aI ▸ h,R,R⟩ (Wk.eq R R R R)
  replace h:=aA h gZ
  refine LH.exit (cg (bO (bK (ai ?_))))
  obtain ⟨v10,It,h⟩:=ae h
  refine LH.ax [(6,.sptr [.L v10,.lst 3 (r1.1.map aq.lv)]),(7,.I 0)] [] R (dY R (sN (dq (args:=[.L p2]) R IX R (aw bl) (aF.Ea (lG (g:=LV.I) tw R 143 It) R) R (dY R (sN (gJ (vs:=[(0,.L v10),(1,.lst 3 (r1.1.map aq.lv))]) Mk DQ R (lf kz dQ cm R R R (lf mR wg lh R R R gI)) (s_ (cM R R R lj lk R R R (br R (s0 ((Wk.trans (bM [(6,.ptr 106 0),(7,.I 0)] [(106,.box [.L v10,.lst 3 (r1.1.map aq.lv)])]) (Wk.trans (Wk.bD 106 [.L v10,.lst 3 (r1.1.map aq.lv)] R R R (cc R)) (Wk.eq R R R R)))))))))))))) (LH.ret ?_)
  obtain rfl:=oI h
  exact aJ (aT Tryz.results24) (dN R lj pM lk R R (bT R (bP ⟨aG mN,R,aN R,(Sub.tup (aw (aw bl)))⟩)))
theorem Nd {F:Nat} {p0:List Int} {r:Bool} (h:Gr F p0=some r):aF Tryz.prog 129 [.L p0] (Mem.of []) (.bool r) (Mem.of []):=by
  unfold Gr at h
  refine bh Tryz.func129 R (nT Tryz.ntmps129 R) (LH.aj R (cr R zQ) (LH.seq (LH.ax [(5,.L p0),(6,.I (p0.length:Int)),(7,.I 0)] [] R (dY R (sN (bW (f:=LV.I) bU R (aZ R zS)))) (LH.block (LH.loop (fun n e m=>∃ (n1:Int),C3 p0 n n1=some r∧e=Env.of [(5,.L p0),(6,.I (p0.length:Int)),(7,.I n1)]∧m=Mem.of []) F ⟨0,h,R,R⟩ ?_)))))
  clear h
  rintro n e m ⟨n1,h,rfl,rfl⟩
  rcases n with _ | n
  · cases (show Option.none=some _ from h)
  obtain ⟨aH,aI⟩:∃ f,f=C3 p0 n:=⟨_,rfl⟩
  replace h:JR p0 aH n1=some r:=aI ▸ h
  unfold JR at h
  refine LH.aj R (sN (eG R R zQ)) (LH.seq (LH.cond (t:=(decide (n1<(p0.length:Int)))) R (fun dI=>?_) (fun dI=>?_)))
  ·replace h:=aB h dI
   refine LH.skip (ai (LH.seq (LH.block ?_)))
   obtain ⟨x3,fj,h⟩:=ae h
   refine LH.aj R (sN (eF (f:=LV.I) bU aD aW R R jB fj R (sN (bj R aD b5 (br R zQ))))) (LH.ax [(5,.L p0),(6,.I (p0.length:Int)),(7,.I n1),(16,.bool ((decide (x3<(-10000))) || (decide (x3 > 10000))))] [] R ?_ ?_)
   ·refine aZ R (sN (eG R R (bZ R ?_)))
    by_cases eD:(decide (x3<(-10000)))=true
    ·exact sF R R eD (sF R R eD (sN (aY (cB eD) (v:=(.bool _)) R (s0 (Wk.to (eC R (eC R (eC R (eC (cB (mq eD)) eN)))) mN R (aN R))))))
    ·replace eD:=bF eD
     exact sT R (cB eD) (oM (v:=(.int _ _)) R (sT R (cB eD) (jf R R (sN (bc (cB eD) (v:=(.bool _)) R (s0 (Wk.to (eC R (eC R (eC R (eC (cB (gN eD)) eN)))) mN R (aN R))))))))
   refine LH.cond (t:=((decide (x3<(-10000))) || (decide (x3 > 10000)))) R (fun fY=>?_) (fun fY=>?_)
   ·replace h:=aB h fY
    refine LH.aj R (cr R zQ) (LH.ret (bH (aO (dg (bH (aO ?_))))))
    obtain rfl:=oI h
    exact aJ (aT Tryz.results129) (bT R (bP ⟨aG mN,R,aN R,Sub.rfl⟩))
   replace h:=aA h fY
   refine LH.skip (aQ (ai (LH.bd R (sN (b8 R R (aZ R zQ))) ?_)))
   exact a7 ⟨(i64 (n1+1)),aI ▸ h,R,R⟩ (Wk.eq R R R R)
  replace h:=aA h dI
  refine LH.exit (cg (bO (bK (ai (LH.aj R (cr R zQ) (LH.ret ?_))))))
  obtain rfl:=oI h
  exact aJ (aT Tryz.results129) (bT R (bP ⟨aG mN,R,aN R,Sub.rfl⟩))
theorem Ng {p0:Int} {r:Bool} (h:Bm p0=some r):aF Tryz.prog 130 [.I p0] (Mem.of []) (.bool r) (Mem.of []):=by
  unfold Bm at h
  refine bh Tryz.func130 R (nT Tryz.ntmps130 R) (LH.aj R (cr R zQ) (LH.ax [(2,.bool ((decide (p0 ≥ (-1000000))) && (decide (p0≤1000000))))] [] R ?_ ?_))
  ·refine aZ R (sN (oY R R (bZ R ?_)))
   by_cases hb2:(decide (p0 ≥ (-1000000)))=true
   ·exact sT R (cB hb2) (oM (v:=(.int _ _)) R (sT R (cB hb2) (KV R R (sN (aY (cB hb2) (v:=(.bool _)) R (cr R (s0 (Wk.to (eC (cB (eV hb2)) eN) mN R (aN R)))))))))
   ·replace hb2:=bF hb2
    exact sF R R hb2 (sF R R hb2 (sN (bc (cB hb2) (v:=(.bool _)) R (cr R (s0 (Wk.to (eC (cB (lB hb2)) eN) mN R (aN R)))))))
  refine LH.ret ?_
  obtain rfl:=oI h
  exact aJ (aT Tryz.results130) (bT R (bP ⟨aG mN,R,aN R,Sub.rfl⟩))
theorem JF {F:Nat} {p0:eX} {r:Bool} (h:uH F p0=some r):aF Tryz.prog 68 [.agg [.L p0.al,.lst 3 (p0.Rows.map aq.lv)]] (Mem.of []) (.bool r) (Mem.of []):=by
  unfold uH at h
  refine bh Tryz.func68 R (nT Tryz.ntmps68 R) (LH.aj R (sB (dm R R R R (cr R zQ))) (LH.seq (LH.ax [(1,.sptr [.L p0.al,.lst 3 (p0.Rows.map aq.lv)]),(16,.bool ((decide ((p0.al.length:Int) > 12)) || (decide ((p0.Rows.length:Int) > 60))))] [] R ?_ ?_)))
  ·refine sN (aC kz cm dQ R R R (sN (bj R cm eu (sN (bW (f:=LV.I) bU R (sN (jf R R (bZ R ?_))))))))
   by_cases hb2:(decide ((p0.al.length:Int) > 12))=true
   ·exact sF R R hb2 (sF R R hb2 (sF R R hb2 (sF R R hb2 (sN (aY (cB hb2) (v:=(.bool _)) R (s0 (Wk.to (eC R (eC (cB (mq hb2)) eN)) mN R (aN R))))))))
   ·replace hb2:=bF hb2
    exact sT R (cB hb2) (aC mR lh wg R R R (sT R (cB hb2) (bj R lh u1 (sT R (cB hb2) (bW (f:=aq.lv) lU R (sT R (cB hb2) (jf R R (sN (bc (cB hb2) (v:=(.bool _)) R (s0 (Wk.to (eC R (eC (cB (gN hb2)) eN)) mN R (aN R))))))))))))
  refine LH.cond (t:=((decide ((p0.al.length:Int) > 12)) || (decide ((p0.Rows.length:Int) > 60)))) R (fun fT=>?_) (fun fT=>?_)
  ·replace h:=aB h fT
   refine LH.aj R (cr R zQ) (LH.ret (aO ?_))
   obtain rfl:=oI h
   exact aJ (aT Tryz.results68) (bT R (bP ⟨aG mN,R,aN R,Sub.rfl⟩))
  replace h:=aA h fT
  refine LH.skip (ai (LH.seq (LH.ax [(1,.sptr [.L p0.al,.lst 3 (p0.Rows.map aq.lv)]),(18,.L p0.al),(19,.I (p0.al.length:Int)),(20,.I 0)] [] R (sN (aC kz cm dQ R R R (sN (bj R cm eu (sN (bW (f:=LV.I) bU R (aZ R zS))))))) (LH.block (LH.loop (fun n e m=>∃ (n4:Int),De F p0 n n4=some r∧e=Env.of [(1,.sptr [.L p0.al,.lst 3 (p0.Rows.map aq.lv)]),(18,.L p0.al),(19,.I (p0.al.length:Int)),(20,.I n4)]∧m=Mem.of []) F ⟨0,h,R,R⟩ ?_)))))
  clear h
  rintro n e m ⟨n4,h,rfl,rfl⟩
  rcases n with _ | n
  · cases (show Option.none=some _ from h)
  obtain ⟨aH,aI⟩:∃ f,f=De F p0 n:=⟨_,rfl⟩
  replace h:An F p0 aH n4=some r:=aI ▸ h
  unfold An at h
  refine LH.aj R (sN (eG R R zQ)) (LH.seq (LH.cond (t:=(decide (n4<(p0.al.length:Int)))) R (fun gZ=>?_) (fun gZ=>?_)))
  ·replace h:=aB h gZ
   refine LH.skip (ai (LH.seq (LH.block ?_)))
   obtain ⟨x6,wF,h⟩:=ae h
   refine LH.aj R (sN (eF (f:=LV.I) bU aD aW R R jB wF R (sN (bj R aD b5 (br R zQ))))) (LH.ax [(1,.sptr [.L p0.al,.lst 3 (p0.Rows.map aq.lv)]),(18,.L p0.al),(19,.I (p0.al.length:Int)),(20,.I n4),(29,.bool ((decide (x6<0)) || (decide (x6 > 10000))))] [] R ?_ ?_)
   ·refine aZ R (sN (eG R R (bZ R ?_)))
    by_cases cA:(decide (x6<0))=true
    ·exact sF R R cA (sF R R cA (sN (aY (cB cA) (v:=(.bool _)) R (s0 (Wk.to (eC R (eC R (eC R (eC R (eC (cB (mq cA)) eN))))) mN R (aN R))))))
    ·replace cA:=bF cA
     exact sT R (cB cA) (oM (v:=(.int _ _)) R (sT R (cB cA) (jf R R (sN (bc (cB cA) (v:=(.bool _)) R (s0 (Wk.to (eC R (eC R (eC R (eC R (eC (cB (gN cA)) eN))))) mN R (aN R))))))))
   refine LH.cond (t:=((decide (x6<0)) || (decide (x6 > 10000)))) R (fun ng=>?_) (fun ng=>?_)
   ·replace h:=aB h ng
    refine LH.aj R (cr R zQ) (LH.ret (bH (aO (dg (bH (aO ?_))))))
    obtain rfl:=oI h
    exact aJ (aT Tryz.results68) (bT R (bP ⟨aG mN,R,aN R,Sub.rfl⟩))
   replace h:=aA h ng
   refine LH.skip (aQ (ai (LH.bd R (sN (b8 R R (aZ R zQ))) ?_)))
   exact a7 ⟨(i64 (n4+1)),aI ▸ h,R,R⟩ (Wk.eq R R R R)
  replace h:=aA h gZ
  refine LH.exit (cg (bO (bK (ai (LH.seq (LH.ax [(1,.sptr [.L p0.al,.lst 3 (p0.Rows.map aq.lv)]),(32,.lst 3 (p0.Rows.map aq.lv)),(33,.I (p0.Rows.length:Int)),(34,.I 0)] [] R (sN (aC mR lh wg R R R (sN (bj R lh u1 (sN (bW (f:=aq.lv) lU R (aZ R zS))))))) (LH.block (LH.loop (fun n e m=>∃ (n10:Int),Bl F p0 n n10=some r∧e=Env.of [(1,.sptr [.L p0.al,.lst 3 (p0.Rows.map aq.lv)]),(32,.lst 3 (p0.Rows.map aq.lv)),(33,.I (p0.Rows.length:Int)),(34,.I n10)]∧m=Mem.of []) F ⟨0,h,R,R⟩ ?_))))))))
  clear h
  rintro n e m ⟨n10,h,rfl,rfl⟩
  rcases n with _ | n
  · cases (show Option.none=some _ from h)
  obtain ⟨fH,eU⟩:∃ f,f=Bl F p0 n:=⟨_,rfl⟩
  replace h:Ao F p0 fH n10=some r:=eU ▸ h
  unfold Ao at h
  refine LH.aj R (sN (eG R R zQ)) (LH.seq (LH.cond (t:=(decide (n10<(p0.Rows.length:Int)))) R (fun mf=>?_) (fun mf=>?_)))
  ·replace h:=aB h mf
   refine LH.skip (ai (LH.seq (LH.block ?_)))
   obtain ⟨iB,vT,h⟩:=ae h
   refine LH.ax [(1,.sptr [.L p0.al,.lst 3 (p0.Rows.map aq.lv)]),(6,.sptr [.L iB.cu,.I iB.bQ,.I iB.cO]),(32,.lst 3 (p0.Rows.map aq.lv)),(33,.I (p0.Rows.length:Int)),(34,.I n10)] [] R (sN (eF (f:=aq.lv) lU iL fF R R aq.ok vT R (sN (bw R iL uZ fF R R (sN (hD (id:=106) R qD R R (s_ (cM R R R iL fF R R R (s0 ((Wk.trans (bM [(1,.sptr [.L p0.al,.lst 3 (p0.Rows.map aq.lv)]),(6,.ptr 106 0),(32,.lst 3 (p0.Rows.map aq.lv)),(33,.I (p0.Rows.length:Int)),(34,.I n10)] [(106,.box [.L iB.cu,.I iB.bQ,.I iB.cO])]) (Wk.trans (Wk.bD 106 [.L iB.cu,.I iB.bQ,.I iB.cO] R R R (cc R)) (Wk.eq R R R R))))))))))))) ?_
   obtain ⟨Mr,hv,h⟩:=ae h
   refine LH.ax [(1,.sptr [.L p0.al,.lst 3 (p0.Rows.map aq.lv)]),(32,.lst 3 (p0.Rows.map aq.lv)),(33,.I (p0.Rows.length:Int)),(34,.I n10),(62,.bool Mr)] [] R ?_ ?_
   ·refine sN (aC jr cm dQ R R R (sN (bj R cm eu (sN (bW (f:=LV.I) bU R (sN (aC kz cm dQ R R R (sN (bj R cm eu (sN (bW (f:=LV.I) bU R (sN (iC R R (bZ R ?_))))))))))))))
    by_cases cd:((iB.cu.length:Int) != (p0.al.length:Int))=true
    ·replace hv:=aB hv cd
     refine sF R R cd (sF R R cd (sF R R cd (sF R R cd (sN (aY (cB cd) (v:=(.bool _)) R (bZ R (sF R R R (sF R R R (sF R R R (sF R R R (sN (aY R (v:=(.bool _)) R (bZ R (sF R R R (sF R R R (sF R R R (sF R R R (sN (aY R (v:=(.bool _)) R ?_)))))))))))))))))))
     obtain rfl:=oI hv
     exact zS
    ·replace cd:=bF cd
     replace hv:=aA hv cd
     refine sT R (cB cd) (aC jr cm dQ R R R (sT R (cB cd) (bj R cm eu ?_)))
     obtain ⟨iz,yn,hv⟩:=ae hv
     refine sT R (cB cd) (dq (args:=[.L iB.cu]) R IB R (aw bl) (Nd yn) R (sT R (cB cd) (eM R (sN (bc (cB cd) (v:=(.bool _)) R (bZ R ?_))))))
     by_cases jb:(!iz)=true
     ·replace hv:=aB hv jb
      refine sF R R jb (sF R R jb (sF R R jb (sF R R jb (sN (aY (cB jb) (v:=(.bool _)) R (bZ R (sF R R R (sF R R R (sF R R R (sF R R R (sN (aY R (v:=(.bool _)) R ?_))))))))))))
      obtain rfl:=oI hv
      exact zS
     ·replace jb:=bF jb
      replace hv:=aA hv jb
      refine sT R (cB jb) (aC mO aD aW R R R (sT R (cB jb) (bj R aD b5 ?_)))
      obtain ⟨xD,Ii,hv⟩:=ae hv
      refine sT R (cB jb) (dq (args:=[.I iB.bQ]) R IC R (aw bl) (Ng Ii) R (sT R (cB jb) (eM R (sN (bc (cB jb) (v:=(.bool _)) R (bZ R ?_))))))
      by_cases dX:(!xD)=true
      ·replace hv:=aB hv dX
       refine sF R R dX (sF R R dX (sF R R dX (sF R R dX (sN (aY (cB dX) (v:=(.bool _)) R ?_)))))
       obtain rfl:=oI hv
       exact zS
      ·replace dX:=bF dX
       replace hv:=aA hv dX
       refine sT R (cB dX) (aC mP aD aW R R R (sT R (cB dX) (bj R aD b5 ?_)))
       obtain ⟨pH,yo,hv⟩:=ae hv
       refine sT R (cB dX) (dq (args:=[.I iB.cO]) R IC R (aw bl) (Ng yo) R (sT R (cB dX) (eM R (sN (bc (cB dX) (v:=(.bool _)) R ?_)))))
       obtain rfl:=oI hv
       exact zS
   clear hv
   refine LH.cond (t:=Mr) R (fun pq=>?_) (fun pq=>?_)
   ·replace h:=aB h pq
    refine LH.aj R (cr R zQ) (LH.ret (bH (aO (dg (bH (aO ?_))))))
    obtain rfl:=oI h
    exact aJ (aT Tryz.results68) (bT R (bP ⟨aG mN,R,aN R,Sub.rfl⟩))
   replace h:=aA h pq
   refine LH.skip (aQ (ai (LH.bd R (sN (b8 R R (aZ R zQ))) ?_)))
   exact a7 ⟨(i64 (n10+1)),eU ▸ h,R,R⟩ (Wk.eq R R R R)
  replace h:=aA h mf
  refine LH.exit (cg (bO (bK (ai (LH.aj R (cr R zQ) (LH.ret ?_))))))
  obtain rfl:=oI h
  exact aJ (aT Tryz.results68) (bT R (bP ⟨aG mN,R,aN R,Sub.rfl⟩))
theorem Ur {p0:List Int} {p1:Int} {c0:bk} {r:bk} (h:AW p0 p1 c0=some r):aF Tryz.prog 70 [.arr 432 p0.length,.I p1,.ptr 423 0] (Mem.of [(423,.box (bk.lv c0).cells),(432,.arr 3 1 (p0.map LV.I))]) (.tup []) (Mem.of [(423,.box (bk.lv r).cells),(432,.arr 3 1 (p0.map LV.I))]):=by
  unfold AW at h
  refine bh Tryz.func70 R (nT Tryz.ntmps70 R) (LH.ax [(0,.arr 432 p0.length),(1,.I p1),(2,.ptr 423 0),(13,.bool ((!c0.Found) || (decide (p1<c0.iy))))] [(423,.box (bk.lv c0).cells),(432,.arr 3 1 (p0.map LV.I))] R ?_ ?_)
  ·refine sN (fo u5 nq sM R R (sN (dv R R R R nq B7 (sN (eM R (bZ R ?_))))))
   by_cases hb2:(!c0.Found)=true
   ·exact sF R R hb2 (sF R R hb2 (sF R R hb2 (sF R R hb2 (sN (aY (cB hb2) (v:=(.bool _)) R (s0 (Wk.to (eC R (eC R (eC R (eC (cB (mq hb2)) eN)))) ⟨R,R,trivial⟩ R (aN R))))))))
   ·replace hb2:=bF hb2
    exact sT R (cB hb2) (oM (v:=(.int _ _)) R (sT R (cB hb2) (fo DL aD aW R R (sT R (cB hb2) (dv R R R R aD b5 (sT R (cB hb2) (eG R R (sN (bc (cB hb2) (v:=(.bool _)) R (s0 (Wk.to (eC R (eC R (eC R (eC (cB (gN hb2)) eN)))) ⟨R,R,trivial⟩ R (aN R))))))))))))
  refine LH.cond (t:=((!c0.Found) || (decide (p1<c0.iy)))) R (fun fT=>?_) (fun fT=>?_)
  ·replace h:=aB h fT
   obtain ⟨v4,hv4,h⟩:=ae h
   refine LH.df [] [(423,.box [.bool true,.L v4,.I p1,.lst 7 (c0.jt.map aM.lv)]),(432,.arr 3 1 (p0.map LV.I))] R (aZ R (lq R (cJ.wk (bM [(2,.ptr 423 0),(14,.I p1),(15,.arr 432 p0.length)] [(423,.box (bk.lv c0).cells),(432,.arr 3 1 (p0.map LV.I))]) (sN (ej (args:=[.arr 432 p0.length]) (ml:=[(432,.arr 3 1 (p0.map LV.I))]) (cS:=[(432,.arr 3 1 (p0.map LV.I)),(116,.arr 3 1 (v4.map LV.I))]) R IX R (aw bl) (aF.LM 432 3 1 (xs:=List.map LV.I p0) (lG (g:=LV.I) tw R 116 hv4) (.row (by simp) .nil) R R R R R (plC (plA (fun _=>R)) TZ)) (mC R mN) (bu R (kE R bX)) R (sN (fo u5 nq sM R R (s_ (cM R R R nq sM R R R (sN (fo DL aD aW R R (s_ (cM R R R aD aW R R R (sN (fo rE cm dQ R R (cJ.wk ((Wk.trans (bM [(16,.arr 116 v4.length),(19,.ptr 423 1)] [(116,.arr 3 1 (v4.map LV.I)),(423,.box [.bool true,.L c0.cN,.I p1,.lst 7 (c0.jt.map aM.lv)]),(432,.arr 3 1 (p0.map LV.I))]) (Wk.trans (Wk.pj (f:=LV.I) (iP:=[(16,.L v4),(19,.ptr 423 1)]) 116 3 1 v4 R R (cc R) (fZ (fK R fN))) (bM [(16,.L v4),(19,.ptr 423 1)] [(423,.box [.bool true,.L c0.cN,.I p1,.lst 7 (c0.jt.map aM.lv)]),(432,.arr 3 1 (p0.map LV.I))])))) (s_ (cM R R R cm dQ R R R zS)))))))))))))))))) ?_
   obtain rfl:=oI h
   exact uR (aT Tryz.results70) (bP ⟨aG (mC R (mC R mN)),R,aN R,(Sub.tup bl)⟩)
  replace h:=aA h fT
  refine LH.skip ?_
  obtain rfl:=oI h
  exact uR (aT Tryz.results70) (bP ⟨aG (mC R (mC R mN)),R,aN R,(Sub.tup bl)⟩)
theorem Nl {F:Nat} {p0:Int} {p1:Int} {c0:eX} {c1:List Int} {r:List Int} (h:xi F p0 p1 c0 c1=some r):aF Tryz.prog 131 [.I p0,.I p1,.sptr [.L c0.al,.lst 3 (c0.Rows.map aq.lv)],.ptr 421 0] (Mem.of [(421,.box [.arr 431 c1.length]),(431,.arr 3 1 (c1.map LV.I))]) (.tup []) (Mem.of [(421,.box [.arr 431 r.length]),(431,.arr 3 1 (r.map LV.I))]):=by
  unfold xi at h
  refine bh Tryz.func131 R (nT Tryz.ntmps131 R) (LH.ax [(0,.I p0),(1,.I p1),(3,.ptr 421 0),(9,.lst 3 (c0.Rows.map aq.lv)),(10,.I (c0.Rows.length:Int)),(11,.I 0)] [(421,.box [.arr 431 c1.length]),(431,.arr 3 1 (c1.map LV.I))] R (sN (aC mR lh wg R R R (sN (bj R lh u1 (sN (bW (f:=aq.lv) lU R (aZ R zS))))))) (LH.block (LH.loop (fun n e m=>∃ (n1:Int) (l2:List Int),Db p0 p1 c0 n n1 l2=some r∧e=Env.of [(0,.I p0),(1,.I p1),(3,.ptr 421 0),(9,.lst 3 (c0.Rows.map aq.lv)),(10,.I (c0.Rows.length:Int)),(11,.I n1)]∧m=Mem.of [(421,.box [.arr 431 l2.length]),(431,.arr 3 1 (l2.map LV.I))]) F ⟨0,c1,h,R,R⟩ ?_)))
  clear h
  rintro n e m ⟨n1,l2,h,rfl,rfl⟩
  rcases n with _ | n
  · cases (show Option.none=some _ from h)
  obtain ⟨aH,aI⟩:∃ f,f=Db p0 p1 c0 n:=⟨_,rfl⟩
  replace h:Ak p0 p1 c0 aH n1 l2=some r:=aI ▸ h
  unfold Ak at h
  refine LH.aj R (sN (eG R R zQ)) (LH.seq (LH.cond (t:=(decide (n1<(c0.Rows.length:Int)))) R (fun fT=>?_) (fun fT=>?_)))
  ·replace h:=aB h fT
   refine LH.skip (ai (LH.seq (LH.block ?_)))
   obtain ⟨x4,zL,h⟩:=ae h
   refine LH.ax [(0,.I p0),(1,.I p1),(3,.ptr 421 0),(6,.I n1),(7,.sptr [.L x4.cu,.I x4.bQ,.I x4.cO]),(9,.lst 3 (c0.Rows.map aq.lv)),(10,.I (c0.Rows.length:Int)),(11,.I n1)] [(421,.box [.arr 431 l2.length]),(431,.arr 3 1 (l2.map LV.I))] R (aZ R (sN (eF (f:=aq.lv) lU iL fF R R aq.ok zL R (sN (bw R iL uZ fF R R (sN (hD (id:=107) R qD R R (br R (s_ (cM R R R iL fF R R R (s0 ((Wk.trans (bM [(0,.I p0),(1,.I p1),(3,.ptr 421 0),(6,.I n1),(7,.ptr 107 0),(9,.lst 3 (c0.Rows.map aq.lv)),(10,.I (c0.Rows.length:Int)),(11,.I n1)] [(107,.box [.L x4.cu,.I x4.bQ,.I x4.cO]),(421,.box [.arr 431 l2.length]),(431,.arr 3 1 (l2.map LV.I))]) (Wk.trans (Wk.bD 107 [.L x4.cu,.I x4.bQ,.I x4.cO] R R R (cc R)) (Wk.eq R R R R))))))))))))))) ?_
   obtain ⟨x5,nB,h⟩:=ae h
   obtain ⟨x6,wF,h⟩:=ae h
   obtain ⟨x7,vA,h⟩:=ae h
   refine LH.pE mixed [] [1421,0,1431,1431,0,0,0,0,0,0,0,0,1431,100431] [(0,.I p0),(1,.I p1),(3,.ptr 421 0),(9,.lst 3 (c0.Rows.map aq.lv)),(10,.I (c0.Rows.length:Int)),(11,.I n1)] [(421,.box [.arr 431 (List.length (l2.set n1.toNat (i64 (x5+(i64 (p1 * x6))))))]),(431,.arr 3 1 (List.map LV.I (l2.set n1.toNat (i64 (x5+(i64 (p1 * x6)))))))] R R (by kernel_rfl) ?_ ?_
   ·refine mD R R R (fun _ b _ d=>dv R b R R cm eu d) (iT R (mD R R R (fun _ b _ d=>fP (f:=LV.I) bU aD aW R b R nB d) (mD R R R (fun _ b _ d=>sx (f:=LV.I) R b (dp nB).2 R R R aD b5 d) (iT R (aX (aC jr cm dQ R R R ⟨R,aX (bj R cm eu ⟨R,iT R (aX (eF (f:=LV.I) bU aD aW R R jB wF R ⟨R,aX (bj R aD b5 ⟨R,aX (Jd R R ⟨R,aX (b8 R R ⟨R,mD R R R (fun _ b _ d=>fP (f:=LV.I) bU aD aW R b R vA d) (mS R R R (fun _ b _ d=>nZ (f:=LV.I) (z':=(i64 (x5+(i64 (p1 * x6))))) R R R R aD aW b (dp vA).2 R d) ?_)⟩)⟩)⟩)⟩))⟩)⟩))))))
    exact m0 (Wk.to (eQ ⟨R,R,R,R,R,R,trivial⟩) (mC ((show _=some (LE.box [.arr 431 l2.length]) from R).trans (by simp)) (mC R mN)) R (aN R))
   refine aQ (ai (LH.bd R (sN (b8 R R (aZ R zQ))) ?_))
   exact a7 ⟨(i64 (n1+1)),(l2.set n1.toNat (i64 (x5+(i64 (p1 * x6))))),aI ▸ h,R,R⟩ (Wk.eq R R R R)
  replace h:=aA h fT
  refine LH.exit (cg (bO (bK ?_)))
  obtain rfl:=oI h
  exact uR (aT Tryz.results131) (bP ⟨aG (mC R (mC R mN)),R,aN R,(Sub.tup bl)⟩)
theorem UA {F:Nat} {c0:eX} {c1:List Int} {r:Bool × List Int} (h:A1 F c0 c1=some r):aF Tryz.prog 132 [.sptr [.L c0.al,.lst 3 (c0.Rows.map aq.lv)],.ptr 421 0] (Mem.of [(421,.box [.arr 431 c1.length]),(431,.arr 3 1 (c1.map LV.I))]) (.bool r.1) (Mem.of [(421,.box [.arr 431 r.2.length]),(431,.arr 3 1 (r.2.map LV.I))]):=by
  unfold A1 at h
  refine bh Tryz.func132 R (nT Tryz.ntmps132 R) (LH.aj R (cr R zQ) (LH.seq (LH.ax [(1,.ptr 421 0),(6,.lst 3 (c0.Rows.map aq.lv)),(7,.I (c0.Rows.length:Int)),(8,.I 0)] [(421,.box [.arr 431 c1.length]),(431,.arr 3 1 (c1.map LV.I))] R (sN (aC mR lh wg R R R (sN (bj R lh u1 (sN (bW (f:=aq.lv) lU R (aZ R zS))))))) (LH.block (LH.loop (fun n e m=>∃ (n1:Int),Dc c0 c1 n n1=some r∧e=Env.of [(1,.ptr 421 0),(6,.lst 3 (c0.Rows.map aq.lv)),(7,.I (c0.Rows.length:Int)),(8,.I n1)]∧m=Mem.of [(421,.box [.arr 431 c1.length]),(431,.arr 3 1 (c1.map LV.I))]) F ⟨0,h,R,R⟩ ?_)))))
  clear h
  rintro n e m ⟨n1,h,rfl,rfl⟩
  rcases n with _ | n
  · cases (show Option.none=some _ from h)
  obtain ⟨aH,aI⟩:∃ f,f=Dc c0 c1 n:=⟨_,rfl⟩
  replace h:Al c0 c1 aH n1=some r:=aI ▸ h
  unfold Al at h
  refine LH.aj R (sN (eG R R zQ)) (LH.seq (LH.cond (t:=(decide (n1<(c0.Rows.length:Int)))) R (fun dI=>?_) (fun dI=>?_)))
  ·replace h:=aB h dI
   refine LH.skip (ai (LH.seq (LH.block ?_)))
   obtain ⟨x3,fj,h⟩:=ae h
   refine LH.ax [(1,.ptr 421 0),(3,.I n1),(4,.sptr [.L x3.cu,.I x3.bQ,.I x3.cO]),(6,.lst 3 (c0.Rows.map aq.lv)),(7,.I (c0.Rows.length:Int)),(8,.I n1)] [(421,.box [.arr 431 c1.length]),(431,.arr 3 1 (c1.map LV.I))] R (aZ R (sN (eF (f:=aq.lv) lU iL fF R R aq.ok fj R (sN (bw R iL uZ fF R R (sN (hD (id:=104) R qD R R (br R (s_ (cM R R R iL fF R R R (s0 ((Wk.trans (bM [(1,.ptr 421 0),(3,.I n1),(4,.ptr 104 0),(6,.lst 3 (c0.Rows.map aq.lv)),(7,.I (c0.Rows.length:Int)),(8,.I n1)] [(104,.box [.L x3.cu,.I x3.bQ,.I x3.cO]),(421,.box [.arr 431 c1.length]),(431,.arr 3 1 (c1.map LV.I))]) (Wk.trans (Wk.bD 104 [.L x3.cu,.I x3.bQ,.I x3.cO] R R R (cc R)) (Wk.eq R R R R))))))))))))))) ?_
   obtain ⟨w5,hv,h⟩:=ae h
   refine LH.du mixed [] [1421,0,1431,1431,0,0,0,0,1,0,1,1,0,0,0,0] [(1,.ptr 421 0),(6,.lst 3 (c0.Rows.map aq.lv)),(7,.I (c0.Rows.length:Int)),(8,.I n1),(28,.bool w5)] [(421,.box [.arr 431 c1.length]),(431,.arr 3 1 (c1.map LV.I))] R R (by kernel_rfl) ?_ ?_
   ·refine mD R R R (fun _ b _ d=>dv R b R R cm eu d) (iT R ?_)
    obtain ⟨x6,wF,hv⟩:=ae hv
    refine mD R R R (fun _ b _ d=>fP (f:=LV.I) bU aD aW R b R wF d) (mD R R R (fun _ b _ d=>sx (f:=LV.I) R b (dp wF).2 R R R aD b5 d) (aX (aC mO aD aW R R R ⟨R,aX (bj R aD b5 ⟨R,aX (eG R R ⟨R,zW R ?_⟩)⟩)⟩)))
    by_cases cI:(decide (x6<x3.bQ))=true
    ·replace hv:=aB hv cI
     refine mF R R cI (mF R R cI (mF R R cI (mF R R cI (mF R R cI (mF R R cI (mF R R cI (aX (aY (cB cI) (v:=(.bool _)) R ⟨R,?_⟩))))))))
     obtain rfl:=oI hv
     exact zM
    ·replace cI:=bF cI
     replace hv:=aA hv cI
     refine mT R (cB cI) (KU (dv R R R R cm eu ⟨R,mT R (cB cI) (iT R ?_)⟩))
     obtain ⟨x8,G2,hv⟩:=ae hv
     refine mT R (cB cI) (KU (fP (f:=LV.I) bU aD aW R R R G2 ⟨R,mT R (cB cI) (KU (sx (f:=LV.I) R R (dp G2).2 R R R aD b5 ⟨R,mT R (cB cI) (aX (aC mP aD aW R R R ⟨R,mT R (cB cI) (aX (bj R aD b5 ⟨R,mT R (cB cI) (aX (jf R R ⟨R,aX (bc (cB cI) (v:=(.bool _)) R ⟨R,?_⟩)⟩))⟩))⟩))⟩))⟩))
     obtain rfl:=oI hv
     exact zM
   clear hv
   refine LH.cond (t:=w5) R (fun ng=>?_) (fun ng=>?_)
   ·replace h:=aB h ng
    refine LH.aj R (cr R zQ) (LH.ret (bH (aO (dg (bH (aO ?_))))))
    obtain rfl:=oI h
    exact aJ (aT Tryz.results132) (bT R (bP ⟨aG (mC R (mC R mN)),R,aN R,Sub.rfl⟩))
   replace h:=aA h ng
   refine LH.skip (aQ (ai (LH.bd R (sN (b8 R R (aZ R zQ))) ?_)))
   exact a7 ⟨(i64 (n1+1)),aI ▸ h,R,R⟩ (Wk.eq R R R R)
  replace h:=aA h dI
  refine LH.exit (cg (bO (bK (ai (LH.aj R (cr R zQ) (LH.ret ?_))))))
  obtain rfl:=oI h
  exact aJ (aT Tryz.results132) (bT R (bP ⟨aG (mC R (mC R mN)),R,aN R,Sub.rfl⟩))
set_option maxHeartbeats 4000000 in
theorem UB {F:Nat} {p0:Int} {p1:Int} {c2:List Int} {c3:eX} {KX:List Int} {B6:bk} {r:List Int × List Int × bk} (h:wa F p0 p1 c2 c3 KX B6=some r):hU Tryz.prog 133 [.I p0,.I p1,.ptr 427 0,.ptr 103 0,.ptr 422 0,.sptr [.L c3.al,.lst 3 (c3.Rows.map aq.lv)],.ptr 425 0,.ptr 426 0] (Mem.of [(103,.box [.fn 70 [.ptr 423 0]]),(421,.box [.arr 431 KX.length]),(422,.box [.arr 432 c2.length]),(423,.box (bk.lv B6).cells),(425,.box [.fn 131 [.sptr [.L c3.al,.lst 3 (c3.Rows.map aq.lv)],.ptr 421 0]]),(426,.box [.fn 133 [.ptr 427 0,.ptr 103 0,.ptr 422 0,.sptr [.L c3.al,.lst 3 (c3.Rows.map aq.lv)],.ptr 425 0,.ptr 426 0]]),(427,.box [.fn 132 [.sptr [.L c3.al,.lst 3 (c3.Rows.map aq.lv)],.ptr 421 0]]),(431,.arr 3 1 (KX.map LV.I)),(432,.arr 3 1 (c2.map LV.I))]) (.tup []) (Mem.of [(103,.box [.fn 70 [.ptr 423 0]]),(421,.box [.arr 431 r.2.1.length]),(422,.box [.arr 432 r.1.length]),(423,.box (bk.lv r.2.2).cells),(425,.box [.fn 131 [.sptr [.L c3.al,.lst 3 (c3.Rows.map aq.lv)],.ptr 421 0]]),(426,.box [.fn 133 [.ptr 427 0,.ptr 103 0,.ptr 422 0,.sptr [.L c3.al,.lst 3 (c3.Rows.map aq.lv)],.ptr 425 0,.ptr 426 0]]),(427,.box [.fn 132 [.sptr [.L c3.al,.lst 3 (c3.Rows.map aq.lv)],.ptr 421 0]]),(431,.arr 3 1 (r.2.1.map LV.I)),(432,.arr 3 1 (r.1.map LV.I))]) (fun id=>Mem.of [(103,.dead),(421,.dead),(422,.dead),(423,.dead),(425,.dead),(426,.dead),(427,.dead),(431,.dead)] id ≠ .none):=by
  induction F generalizing p0 p1 c2 c3 KX B6 r with
  | zero=>cases (show Option.none=some _ from h)
  | succ F ih =>
    unfold wa at h
    obtain ⟨self,Ir⟩:∃ f,f=wa F:=⟨_,rfl⟩
    rw [← Ir] at h ih
    refine RY [(103,.dead),(421,.dead),(422,.dead),(423,.dead),(425,.dead),(426,.dead),(427,.dead),(431,.dead)] Tryz.func133 R (nT Tryz.ntmps133 R) (LH.wk (bM [(0,.I p0),(1,.I p1),(2,.ptr 427 0),(3,.ptr 103 0),(4,.ptr 422 0),(5,.sptr [.L c3.al,.lst 3 (c3.Rows.map aq.lv)]),(6,.ptr 425 0),(7,.ptr 426 0)] [(103,.box [.fn 70 [.ptr 423 0]]),(421,.box [.arr 431 KX.length]),(422,.box [.arr 432 c2.length]),(423,.box (bk.lv B6).cells),(425,.box [.fn 131 [.sptr [.L c3.al,.lst 3 (c3.Rows.map aq.lv)],.ptr 421 0]]),(426,.box [.fn 133 [.ptr 427 0,.ptr 103 0,.ptr 422 0,.sptr [.L c3.al,.lst 3 (c3.Rows.map aq.lv)],.ptr 425 0,.ptr 426 0]]),(427,.box [.fn 132 [.sptr [.L c3.al,.lst 3 (c3.Rows.map aq.lv)],.ptr 421 0]]),(431,.arr 3 1 (KX.map LV.I)),(432,.arr 3 1 (c2.map LV.I))]) (LH.mid (fun e m=>∃ (b1:Bool) (l2:List Int) (n3:Int) (l4:List aM) (l5:List Int),Gu F self p0 p1 c2 c3 b1 l2 n3 l4 l5=some r∧Wk (fun id=>Mem.of [(103,.dead),(421,.dead),(422,.dead),(423,.dead),(425,.dead),(426,.dead),(427,.dead),(431,.dead)] id ≠ .none) e m (Env.of [(0,.I p0),(1,.I p1),(4,.ptr 422 0),(5,.sptr [.L c3.al,.lst 3 (c3.Rows.map aq.lv)]),(6,.ptr 425 0),(7,.ptr 426 0)]) (Mem.of [(103,.box [.fn 70 [.ptr 423 0]]),(421,.box [.arr 431 l5.length]),(422,.box [.arr 432 c2.length]),(423,.box [.bool b1,.L l2,.I n3,.lst 7 (l4.map aM.lv)]),(425,.box [.fn 131 [.sptr [.L c3.al,.lst 3 (c3.Rows.map aq.lv)],.ptr 421 0]]),(426,.box [.fn 133 [.ptr 427 0,.ptr 103 0,.ptr 422 0,.sptr [.L c3.al,.lst 3 (c3.Rows.map aq.lv)],.ptr 425 0,.ptr 426 0]]),(427,.box [.fn 132 [.sptr [.L c3.al,.lst 3 (c3.Rows.map aq.lv)],.ptr 421 0]]),(431,.arr 3 1 (l5.map LV.I)),(432,.arr 3 1 (c2.map LV.I))])) ?_ ?_))
    ·obtain ⟨pH,yo,h⟩:=ae h
     refine LH.aj R (sN (dv R R R R Vn Yx (sX (((eO (args:=[.sptr [.L c3.al,.lst 3 (c3.Rows.map aq.lv)],.ptr 421 0]) (ml:=[(421,.box [.arr 431 KX.length]),(431,.arr 3 1 (KX.map LV.I))]) (cS:=[(421,.box [.arr 431 pH.2.length]),(431,.arr 3 1 (pH.2.map LV.I))]) R PL R (aw (aw bl)) (UA yo) (mC R (mC R mN)) (bu R (bu R bX)) R)).ok) zQ))) (LH.cond (t:=pH.1) R (fun pq=>?_) (fun pq=>?_))
     ·replace h:=aB h pq
      obtain ⟨xE,Ik,h⟩:=ae h
      exact LH.df [(0,.I p0),(1,.I p1),(4,.ptr 422 0),(5,.sptr [.L c3.al,.lst 3 (c3.Rows.map aq.lv)]),(6,.ptr 425 0),(7,.ptr 426 0)] [(103,.box [.fn 70 [.ptr 423 0]]),(421,.box [.arr 431 pH.2.length]),(422,.box [.arr 432 c2.length]),(423,.box (bk.lv xE).cells),(425,.box [.fn 131 [.sptr [.L c3.al,.lst 3 (c3.Rows.map aq.lv)],.ptr 421 0]]),(426,.box [.fn 133 [.ptr 427 0,.ptr 103 0,.ptr 422 0,.sptr [.L c3.al,.lst 3 (c3.Rows.map aq.lv)],.ptr 425 0,.ptr 426 0]]),(427,.box [.fn 132 [.sptr [.L c3.al,.lst 3 (c3.Rows.map aq.lv)],.ptr 421 0]]),(431,.arr 3 1 (pH.2.map LV.I)),(432,.arr 3 1 (c2.map LV.I))] R (sN (dv R R R R Vl Vg (sN (dv R R R R cm eu (aZ R (cJ.wk (bM [(0,.I p0),(1,.I p1),(4,.ptr 422 0),(5,.sptr [.L c3.al,.lst 3 (c3.Rows.map aq.lv)]),(6,.ptr 425 0),(7,.ptr 426 0),(13,.fn 70 [.ptr 423 0]),(14,.arr 432 c2.length),(15,.I p1)] [(103,.box [.fn 70 [.ptr 423 0]]),(421,.box [.arr 431 pH.2.length]),(422,.box [.arr 432 c2.length]),(423,.box (bk.lv B6).cells),(425,.box [.fn 131 [.sptr [.L c3.al,.lst 3 (c3.Rows.map aq.lv)],.ptr 421 0]]),(426,.box [.fn 133 [.ptr 427 0,.ptr 103 0,.ptr 422 0,.sptr [.L c3.al,.lst 3 (c3.Rows.map aq.lv)],.ptr 425 0,.ptr 426 0]]),(427,.box [.fn 132 [.sptr [.L c3.al,.lst 3 (c3.Rows.map aq.lv)],.ptr 421 0]]),(431,.arr 3 1 (pH.2.map LV.I)),(432,.arr 3 1 (c2.map LV.I))]) (sX (((eO (args:=[.arr 432 c2.length,.I p1,.ptr 423 0]) (ml:=[(423,.box (bk.lv B6).cells),(432,.arr 3 1 (c2.map LV.I))]) (cS:=[(423,.box (bk.lv xE).cells),(432,.arr 3 1 (c2.map LV.I))]) R TA R (aw (aw (aw bl))) (Ur Ik) (mC R (mC R mN)) (bu R (bu R bX)) R)).ok) zS))))))) (ai ⟨xE.Found,xE.cN,xE.iy,xE.jt,pH.2,h,Wk.eq R R R R⟩)
     replace h:=aA h pq
     exact LH.skip (ai ⟨B6.Found,B6.cN,B6.iy,B6.jt,pH.2,h,Wk.eq R R R R⟩)
    clear h
    rintro e m ⟨b1,l2,n3,l4,l5,h,hw⟩
    refine LH.wk hw ?_
    clear hw
    unfold Gu at h
    refine LH.ax [(1,.I p1),(4,.ptr 422 0),(5,.sptr [.L c3.al,.lst 3 (c3.Rows.map aq.lv)]),(6,.ptr 425 0),(7,.ptr 426 0),(10,.I p0)] [(103,.box [.fn 70 [.ptr 423 0]]),(421,.box [.arr 431 l5.length]),(422,.box [.arr 432 c2.length]),(423,.box [.bool b1,.L l2,.I n3,.lst 7 (l4.map aM.lv)]),(425,.box [.fn 131 [.sptr [.L c3.al,.lst 3 (c3.Rows.map aq.lv)],.ptr 421 0]]),(426,.box [.fn 133 [.ptr 427 0,.ptr 103 0,.ptr 422 0,.sptr [.L c3.al,.lst 3 (c3.Rows.map aq.lv)],.ptr 425 0,.ptr 426 0]]),(427,.box [.fn 132 [.sptr [.L c3.al,.lst 3 (c3.Rows.map aq.lv)],.ptr 421 0]]),(431,.arr 3 1 (l5.map LV.I)),(432,.arr 3 1 (c2.map LV.I))] R (aZ R (br R zS)) (LH.block (LH.loop (fun n e m=>∃ (n6:Int) (b7:Bool) (l8:List Int) (n9:Int) (iW:List aM) (jk:List Int) (wR:List Int),Dd F self p1 c3 n n6 b7 l8 n9 iW jk wR=some r∧e=Env.of [(1,.I p1),(4,.ptr 422 0),(5,.sptr [.L c3.al,.lst 3 (c3.Rows.map aq.lv)]),(6,.ptr 425 0),(7,.ptr 426 0),(10,.I n6)]∧m=Mem.of [(103,.box [.fn 70 [.ptr 423 0]]),(421,.box [.arr 431 jk.length]),(422,.box [.arr 432 wR.length]),(423,.box [.bool b7,.L l8,.I n9,.lst 7 (iW.map aM.lv)]),(425,.box [.fn 131 [.sptr [.L c3.al,.lst 3 (c3.Rows.map aq.lv)],.ptr 421 0]]),(426,.box [.fn 133 [.ptr 427 0,.ptr 103 0,.ptr 422 0,.sptr [.L c3.al,.lst 3 (c3.Rows.map aq.lv)],.ptr 425 0,.ptr 426 0]]),(427,.box [.fn 132 [.sptr [.L c3.al,.lst 3 (c3.Rows.map aq.lv)],.ptr 421 0]]),(431,.arr 3 1 (jk.map LV.I)),(432,.arr 3 1 (wR.map LV.I))]) F ⟨p0,b1,l2,n3,l4,l5,c2,h,R,R⟩ ?_))
    clear h
    rintro n e m ⟨n6,b7,l8,n9,iW,jk,wR,h,rfl,rfl⟩
    rcases n with _ | n
    · cases (show Option.none=some _ from h)
    obtain ⟨fH,eU⟩:∃ f,f=Dd F self p1 c3 n:=⟨_,rfl⟩
    replace h:Am F self p1 c3 fH n6 b7 l8 n9 iW jk wR=some r:=eU ▸ h
    unfold Am at h
    refine LH.seq (LH.aj R (aZ R (sN (aC kz cm dQ R R R (sN (bj R cm eu (sN (bW (f:=LV.I) bU R (sN (eG R R zQ))))))))) (LH.cond (t:=(decide (n6<(c3.al.length:Int)))) R (fun jc=>?_) (fun jc=>?_)))
    ·replace h:=aB h jc
     refine LH.skip (ai (LH.seq (LH.block ?_)))
     obtain ⟨DS,Pj,h⟩:=ae h
     refine LH.aj R (sN (dv R R R R cm eu (aZ R (sN (jU (f:=LV.I) (ys:=[n6]) bU qL aW R R R jB (sX (uy (f:=LV.I) bU qL aW R R R Pj) (s_ (cM R R R cm dQ R R R zQ)))))))) ?_
     obtain ⟨kC,ym,h⟩:=ae h
     refine LH.aj R (sN (dv R R R R xL E2 (aZ R (sX (((eO (args:=[.I n6,.I 1,.sptr [.L c3.al,.lst 3 (c3.Rows.map aq.lv)],.ptr 421 0]) (ml:=[(421,.box [.arr 431 jk.length]),(431,.arr 3 1 (jk.map LV.I))]) (cS:=[(421,.box [.arr 431 kC.length]),(431,.arr 3 1 (kC.map LV.I))]) R IE R (aw (aw (aw (aw bl)))) (Nl ym) (mC R (mC R mN)) (bu R (bu R bX)) R)).ok) zQ)))) ?_
     obtain ⟨mY,CN,h⟩:=ae h
     obtain ⟨fp,CG,h⟩:=ae h
     refine LH.Yv (n:=10) mixed [] [1426,0,0,0,0,0,0,0,0,0] [(1,.I p1),(4,.ptr 422 0),(5,.sptr [.L c3.al,.lst 3 (c3.Rows.map aq.lv)]),(6,.ptr 425 0),(7,.ptr 426 0),(10,.I n6),(32,.fn 133 [.ptr 427 0,.ptr 103 0,.ptr 422 0,.sptr [.L c3.al,.lst 3 (c3.Rows.map aq.lv)],.ptr 425 0,.ptr 426 0]),(34,.I (i64 (n6+1))),(41,.I (i64 (p1+mY)))] [(103,.box [.fn 70 [.ptr 423 0]]),(421,.box [.arr 431 kC.length]),(422,.box [.arr 432 DS.length]),(423,.box [.bool b7,.L l8,.I n9,.lst 7 (iW.map aM.lv)]),(425,.box [.fn 131 [.sptr [.L c3.al,.lst 3 (c3.Rows.map aq.lv)],.ptr 421 0]]),(426,.box [.fn 133 [.ptr 427 0,.ptr 103 0,.ptr 422 0,.sptr [.L c3.al,.lst 3 (c3.Rows.map aq.lv)],.ptr 425 0,.ptr 426 0]]),(427,.box [.fn 132 [.sptr [.L c3.al,.lst 3 (c3.Rows.map aq.lv)],.ptr 421 0]]),(431,.arr 3 1 (kC.map LV.I)),(432,.arr 3 1 (DS.map LV.I))] [(1,.I p1),(4,.ptr 422 0),(5,.sptr [.L c3.al,.lst 3 (c3.Rows.map aq.lv)]),(6,.ptr 425 0),(7,.ptr 426 0),(10,.I n6)] [(103,.box [.fn 70 [.ptr 423 0]]),(421,.box [.arr 431 fp.2.1.length]),(422,.box [.arr 432 fp.1.length]),(423,.box (bk.lv fp.2.2).cells),(425,.box [.fn 131 [.sptr [.L c3.al,.lst 3 (c3.Rows.map aq.lv)],.ptr 421 0]]),(426,.box [.fn 133 [.ptr 427 0,.ptr 103 0,.ptr 422 0,.sptr [.L c3.al,.lst 3 (c3.Rows.map aq.lv)],.ptr 425 0,.ptr 426 0]]),(427,.box [.fn 132 [.sptr [.L c3.al,.lst 3 (c3.Rows.map aq.lv)],.ptr 421 0]]),(431,.arr 3 1 (fp.2.1.map LV.I)),(432,.arr 3 1 (fp.1.map LV.I))] R (Nat.le_of_ble_eq_true R) R (by kernel_rfl) ?_ ?_ ?_
     ·exact mD R R R (fun _ b _ d=>dv R b R R xL E2 d) (iT R (aX (b8 R R ⟨R,iT R (aX (aC kz cm dQ R R R ⟨R,aX (bj R cm eu ⟨R,iT R (aX (eF (f:=LV.I) bU aD aW R R jB CN R ⟨R,aX (bj R aD b5 ⟨R,aX (b8 R R ⟨R,zM⟩)⟩)⟩))⟩)⟩))⟩)))
     ·exact Kj (Ab (q:=432) (args:=[.I (i64 (n6+1)),.I (i64 (p1+mY)),.ptr 427 0,.ptr 103 0,.ptr 422 0,.sptr [.L c3.al,.lst 3 (c3.Rows.map aq.lv)],.ptr 425 0,.ptr 426 0]) (ml:=[(103,.box [.fn 70 [.ptr 423 0]]),(421,.box [.arr 431 kC.length]),(422,.box [.arr 432 DS.length]),(423,.box [.bool b7,.L l8,.I n9,.lst 7 (iW.map aM.lv)]),(425,.box [.fn 131 [.sptr [.L c3.al,.lst 3 (c3.Rows.map aq.lv)],.ptr 421 0]]),(426,.box [.fn 133 [.ptr 427 0,.ptr 103 0,.ptr 422 0,.sptr [.L c3.al,.lst 3 (c3.Rows.map aq.lv)],.ptr 425 0,.ptr 426 0]]),(427,.box [.fn 132 [.sptr [.L c3.al,.lst 3 (c3.Rows.map aq.lv)],.ptr 421 0]]),(431,.arr 3 1 (kC.map LV.I)),(432,.arr 3 1 (DS.map LV.I))]) (cS:=[(103,.box [.fn 70 [.ptr 423 0]]),(421,.box [.arr 431 fp.2.1.length]),(422,.box [.arr 432 fp.1.length]),(423,.box (bk.lv fp.2.2).cells),(425,.box [.fn 131 [.sptr [.L c3.al,.lst 3 (c3.Rows.map aq.lv)],.ptr 421 0]]),(426,.box [.fn 133 [.ptr 427 0,.ptr 103 0,.ptr 422 0,.sptr [.L c3.al,.lst 3 (c3.Rows.map aq.lv)],.ptr 425 0,.ptr 426 0]]),(427,.box [.fn 132 [.sptr [.L c3.al,.lst 3 (c3.Rows.map aq.lv)],.ptr 421 0]]),(431,.arr 3 1 (fp.2.1.map LV.I)),(432,.arr 3 1 (fp.1.map LV.I))]) R IF R (aw (aw (aw (aw (aw (aw (aw (aw bl)))))))) (ih CG) (mC R (mC R (mC R (mC R (mC R (mC R (mC R (mC R (mC R mN))))))))) (bu R (bu R (bu R (bu R (bu R (bu R (bu R (bu R (bu R bX))))))))) R R R (cc R) (M8 R)) zS
     obtain ⟨xD,Ii,h⟩:=ae h
     refine LH.aj R (sN (dv R R R R xL E2 (aZ R (sX (((eO (args:=[.I n6,.I (-1),.sptr [.L c3.al,.lst 3 (c3.Rows.map aq.lv)],.ptr 421 0]) (ml:=[(421,.box [.arr 431 fp.2.1.length]),(431,.arr 3 1 (fp.2.1.map LV.I))]) (cS:=[(421,.box [.arr 431 xD.length]),(431,.arr 3 1 (xD.map LV.I))]) R IE R (aw (aw (aw (aw bl)))) (Nl Ii) (mC R (mC R mN)) (bu R (bu R bX)) R)).ok) zQ)))) ?_
     obtain ⟨Vu,XF,h⟩:=ae h
     refine LH.df [(1,.I p1),(4,.ptr 422 0),(5,.sptr [.L c3.al,.lst 3 (c3.Rows.map aq.lv)]),(6,.ptr 425 0),(7,.ptr 426 0),(10,.I n6)] [(103,.box [.fn 70 [.ptr 423 0]]),(421,.box [.arr 431 xD.length]),(422,.box [.arr 432 Vu.length]),(423,.box (bk.lv fp.2.2).cells),(425,.box [.fn 131 [.sptr [.L c3.al,.lst 3 (c3.Rows.map aq.lv)],.ptr 421 0]]),(426,.box [.fn 133 [.ptr 427 0,.ptr 103 0,.ptr 422 0,.sptr [.L c3.al,.lst 3 (c3.Rows.map aq.lv)],.ptr 425 0,.ptr 426 0]]),(427,.box [.fn 132 [.sptr [.L c3.al,.lst 3 (c3.Rows.map aq.lv)],.ptr 421 0]]),(431,.arr 3 1 (xD.map LV.I)),(432,.arr 3 1 (Vu.map LV.I))] R (sN (dv R R R R cm eu (sN (dv R R R R cm eu (sN (z6 (f:=LV.I) bU R R (sN (kq R R (cJ.wk (Wk.trans (bM [(1,.I p1),(4,.ptr 422 0),(5,.sptr [.L c3.al,.lst 3 (c3.Rows.map aq.lv)]),(6,.ptr 425 0),(7,.ptr 426 0),(10,.I n6),(46,.arr 432 fp.1.length),(47,.arr 432 fp.1.length),(48,.I (fp.1.length:Int)),(49,.I (i64 ((fp.1.length:Int) - 1)))] [(103,.box [.fn 70 [.ptr 423 0]]),(421,.box [.arr 431 xD.length]),(422,.box [.arr 432 fp.1.length]),(423,.box (bk.lv fp.2.2).cells),(425,.box [.fn 131 [.sptr [.L c3.al,.lst 3 (c3.Rows.map aq.lv)],.ptr 421 0]]),(426,.box [.fn 133 [.ptr 427 0,.ptr 103 0,.ptr 422 0,.sptr [.L c3.al,.lst 3 (c3.Rows.map aq.lv)],.ptr 425 0,.ptr 426 0]]),(427,.box [.fn 132 [.sptr [.L c3.al,.lst 3 (c3.Rows.map aq.lv)],.ptr 421 0]]),(431,.arr 3 1 (xD.map LV.I)),(432,.arr 3 1 (fp.1.map LV.I))]) (Wk.trans (Wk.Vs 422 0 R R) (bM [(1,.I p1),(4,.ptr 422 0),(5,.sptr [.L c3.al,.lst 3 (c3.Rows.map aq.lv)]),(6,.ptr 425 0),(7,.ptr 426 0),(10,.I n6),(46,.arr 432 fp.1.length),(47,.arr 432 fp.1.length),(48,.I (fp.1.length:Int)),(49,.I (i64 ((fp.1.length:Int) - 1)))] [(103,.box [.fn 70 [.ptr 423 0]]),(421,.box [.arr 431 xD.length]),(422,.box [.fg]),(423,.box (bk.lv fp.2.2).cells),(425,.box [.fn 131 [.sptr [.L c3.al,.lst 3 (c3.Rows.map aq.lv)],.ptr 421 0]]),(426,.box [.fn 133 [.ptr 427 0,.ptr 103 0,.ptr 422 0,.sptr [.L c3.al,.lst 3 (c3.Rows.map aq.lv)],.ptr 425 0,.ptr 426 0]]),(427,.box [.fn 132 [.sptr [.L c3.al,.lst 3 (c3.Rows.map aq.lv)],.ptr 421 0]]),(431,.arr 3 1 (xD.map LV.I)),(432,.arr 3 1 (fp.1.map LV.I))]))) (Kj (QC (g:=LV.I) (xs:=fp.1) bU aD R R R (cc R) (HB.of R) XF) (s_ (cM R R R cm dQ R R R zS)))))))))))) (aQ (ai (LH.bd R (aZ R (sN (b8 R R (br R zQ)))) ?_)))
     exact a7 ⟨(i64 (n6+1)),fp.2.2.Found,fp.2.2.cN,fp.2.2.iy,fp.2.2.jt,xD,Vu,eU ▸ h,R,R⟩ (Wk.eq R R R R)
    replace h:=aA h jc
    refine LH.exit (cg (bO (bK ?_)))
    obtain rfl:=oI h
    exact uR (aT Tryz.results133) (bP ⟨aG (mC R (mC R (mC R (mC R (mC R (mC R (mC R (mC R (mC R mN))))))))),R,aN R,(Sub.tup bl)⟩)
theorem UP {F:Nat} {p0:eX} {E0:bk} {r:bk} (h:Bf F p0 E0=some r):aF Tryz.prog 69 [.agg [.L p0.al,.lst 3 (p0.Rows.map aq.lv)],.fn 70 [.ptr 423 0]] (Mem.of [(423,.box (bk.lv E0).cells)]) (.tup []) (Mem.of [(423,.box (bk.lv r).cells)]):=by
  unfold Bf at h
  refine bh Tryz.func69 R (nT Tryz.ntmps69 R) (LH.ax [(2,.sptr [.L p0.al,.lst 3 (p0.Rows.map aq.lv)]),(3,.ptr 103 0)] [(103,.box [.fn 70 [.ptr 423 0]]),(423,.box (bk.lv E0).cells)] R (sB (dm R R R R (sN (TS (id:=103) R R R R R R zS)))) ?_)
  obtain ⟨v1,iR,h⟩:=ae h
  refine LH.ax [(2,.sptr [.L p0.al,.lst 3 (p0.Rows.map aq.lv)]),(3,.ptr 103 0),(4,.ptr 421 0)] [(103,.box [.fn 70 [.ptr 423 0]]),(421,.box [.arr 431 v1.length]),(423,.box (bk.lv E0).cells),(431,.arr 3 1 (v1.map LV.I))] R (sN (aC mR lh wg R R R (sN (bj R lh u1 (sN (bW (f:=aq.lv) lU R (sX ((QG (f:=LV.I) (z:=0) (id:=431) bU NZ qL aW R R R iR R R).ok) (sX (gp 321 R Rh R R) (s_ (cM R R R cm dQ R R R zS)))))))))) (LH.ax [(2,.sptr [.L p0.al,.lst 3 (p0.Rows.map aq.lv)]),(3,.ptr 103 0),(4,.ptr 421 0),(5,.ptr 425 0)] [(103,.box [.fn 70 [.ptr 423 0]]),(421,.box [.arr 431 v1.length]),(423,.box (bk.lv E0).cells),(425,.box [.fn 131 [.sptr [.L p0.al,.lst 3 (p0.Rows.map aq.lv)],.ptr 421 0]]),(431,.arr 3 1 (v1.map LV.I))] R (sN (z7 (vs:=[.sptr [.L p0.al,.lst 3 (p0.Rows.map aq.lv)],.ptr 421 0]) R (sX (gp 325 R NX R R) (s_ (cM R R R xL NS R R R zS))))) (LH.ax [(2,.sptr [.L p0.al,.lst 3 (p0.Rows.map aq.lv)]),(3,.ptr 103 0),(5,.ptr 425 0),(6,.ptr 427 0)] [(103,.box [.fn 70 [.ptr 423 0]]),(421,.box [.arr 431 v1.length]),(423,.box (bk.lv E0).cells),(425,.box [.fn 131 [.sptr [.L p0.al,.lst 3 (p0.Rows.map aq.lv)],.ptr 421 0]]),(427,.box [.fn 132 [.sptr [.L p0.al,.lst 3 (p0.Rows.map aq.lv)],.ptr 421 0]]),(431,.arr 3 1 (v1.map LV.I))] R (sN (z7 (vs:=[.sptr [.L p0.al,.lst 3 (p0.Rows.map aq.lv)],.ptr 421 0]) R (sX (gp 327 R YG R R) (s_ (cM R R R Vn YC R R R zS))))) (LH.ax [(2,.sptr [.L p0.al,.lst 3 (p0.Rows.map aq.lv)]),(3,.ptr 103 0),(5,.ptr 425 0),(6,.ptr 427 0),(7,.ptr 422 0)] [(103,.box [.fn 70 [.ptr 423 0]]),(421,.box [.arr 431 v1.length]),(422,.box [.arr 432 (List.length ([]:List Int))]),(423,.box (bk.lv E0).cells),(425,.box [.fn 131 [.sptr [.L p0.al,.lst 3 (p0.Rows.map aq.lv)],.ptr 421 0]]),(427,.box [.fn 132 [.sptr [.L p0.al,.lst 3 (p0.Rows.map aq.lv)],.ptr 421 0]]),(431,.arr 3 1 (v1.map LV.I)),(432,.arr 3 1 (List.map LV.I ([]:List Int)))] R (sX (gp 322 R Rh R R) (s0 ((Wk.trans (bM [(2,.sptr [.L p0.al,.lst 3 (p0.Rows.map aq.lv)]),(3,.ptr 103 0),(5,.ptr 425 0),(6,.ptr 427 0),(7,.ptr 422 0)] [(103,.box [.fn 70 [.ptr 423 0]]),(421,.box [.arr 431 v1.length]),(422,.box [.nil]),(423,.box (bk.lv E0).cells),(425,.box [.fn 131 [.sptr [.L p0.al,.lst 3 (p0.Rows.map aq.lv)],.ptr 421 0]]),(427,.box [.fn 132 [.sptr [.L p0.al,.lst 3 (p0.Rows.map aq.lv)],.ptr 421 0]]),(431,.arr 3 1 (v1.map LV.I))]) (Wk.trans (bM [(2,.sptr [.L p0.al,.lst 3 (p0.Rows.map aq.lv)]),(3,.ptr 103 0),(5,.ptr 425 0),(6,.ptr 427 0),(7,.ptr 422 0)] [(103,.box [.fn 70 [.ptr 423 0]]),(421,.box [.arr 431 v1.length]),(422,.box [.nil]),(423,.box (bk.lv E0).cells),(425,.box [.fn 131 [.sptr [.L p0.al,.lst 3 (p0.Rows.map aq.lv)],.ptr 421 0]]),(427,.box [.fn 132 [.sptr [.L p0.al,.lst 3 (p0.Rows.map aq.lv)],.ptr 421 0]]),(431,.arr 3 1 (v1.map LV.I))]) (Wk.trans (Wk.oa 432 3 1 422 0 R R R R R (cc R)) (Wk.eq R R R R))))))) (LH.ax [(2,.sptr [.L p0.al,.lst 3 (p0.Rows.map aq.lv)]),(3,.ptr 103 0),(5,.ptr 425 0),(6,.ptr 427 0),(7,.ptr 422 0),(8,.ptr 426 0)] [(103,.box [.fn 70 [.ptr 423 0]]),(421,.box [.arr 431 v1.length]),(422,.box [.arr 432 (List.length ([]:List Int))]),(423,.box (bk.lv E0).cells),(425,.box [.fn 131 [.sptr [.L p0.al,.lst 3 (p0.Rows.map aq.lv)],.ptr 421 0]]),(426,.box [.nilf]),(427,.box [.fn 132 [.sptr [.L p0.al,.lst 3 (p0.Rows.map aq.lv)],.ptr 421 0]]),(431,.arr 3 1 (v1.map LV.I)),(432,.arr 3 1 (List.map LV.I ([]:List Int)))] R (sX (gp 326 R NX R R) zS) (LH.ax [(8,.ptr 426 0)] [(103,.box [.fn 70 [.ptr 423 0]]),(421,.box [.arr 431 v1.length]),(422,.box [.arr 432 (List.length ([]:List Int))]),(423,.box (bk.lv E0).cells),(425,.box [.fn 131 [.sptr [.L p0.al,.lst 3 (p0.Rows.map aq.lv)],.ptr 421 0]]),(426,.box [.fn 133 [.ptr 427 0,.ptr 103 0,.ptr 422 0,.sptr [.L p0.al,.lst 3 (p0.Rows.map aq.lv)],.ptr 425 0,.ptr 426 0]]),(427,.box [.fn 132 [.sptr [.L p0.al,.lst 3 (p0.Rows.map aq.lv)],.ptr 421 0]]),(431,.arr 3 1 (v1.map LV.I)),(432,.arr 3 1 (List.map LV.I ([]:List Int)))] R (sN (z7 (vs:=[.ptr 427 0,.ptr 103 0,.ptr 422 0,.sptr [.L p0.al,.lst 3 (p0.Rows.map aq.lv)],.ptr 425 0,.ptr 426 0]) R (s_ (cM R R R xL NS R R R zS)))) ?_)))))
  obtain ⟨r2,hr2,h⟩:=ae h
  refine LH.df [] [(423,.box (bk.lv r2.2.2).cells)] R (sN (dv R R R R xL E2 (Kj (Ab (q:=432) (args:=[.I 0,.I 0,.ptr 427 0,.ptr 103 0,.ptr 422 0,.sptr [.L p0.al,.lst 3 (p0.Rows.map aq.lv)],.ptr 425 0,.ptr 426 0]) (ml:=[(103,.box [.fn 70 [.ptr 423 0]]),(421,.box [.arr 431 v1.length]),(422,.box [.arr 432 (List.length ([]:List Int))]),(423,.box (bk.lv E0).cells),(425,.box [.fn 131 [.sptr [.L p0.al,.lst 3 (p0.Rows.map aq.lv)],.ptr 421 0]]),(426,.box [.fn 133 [.ptr 427 0,.ptr 103 0,.ptr 422 0,.sptr [.L p0.al,.lst 3 (p0.Rows.map aq.lv)],.ptr 425 0,.ptr 426 0]]),(427,.box [.fn 132 [.sptr [.L p0.al,.lst 3 (p0.Rows.map aq.lv)],.ptr 421 0]]),(431,.arr 3 1 (v1.map LV.I)),(432,.arr 3 1 (List.map LV.I ([]:List Int)))]) (cS:=[(103,.box [.fn 70 [.ptr 423 0]]),(421,.box [.arr 431 r2.2.1.length]),(422,.box [.arr 432 r2.1.length]),(423,.box (bk.lv r2.2.2).cells),(425,.box [.fn 131 [.sptr [.L p0.al,.lst 3 (p0.Rows.map aq.lv)],.ptr 421 0]]),(426,.box [.fn 133 [.ptr 427 0,.ptr 103 0,.ptr 422 0,.sptr [.L p0.al,.lst 3 (p0.Rows.map aq.lv)],.ptr 425 0,.ptr 426 0]]),(427,.box [.fn 132 [.sptr [.L p0.al,.lst 3 (p0.Rows.map aq.lv)],.ptr 421 0]]),(431,.arr 3 1 (r2.2.1.map LV.I)),(432,.arr 3 1 (r2.1.map LV.I))]) R IF R (aw (aw (aw (aw (aw (aw (aw (aw bl)))))))) (UB hr2) (mC R (mC R (mC R (mC R (mC R (mC R (mC R (mC R (mC R mN))))))))) (bu R (bu R (bu R (bu R (bu R (bu R (bu R (bu R (bu R bX))))))))) R R R (cc R) (M8 R)) zS))) ?_
  obtain rfl:=oI h
  exact uR (aT Tryz.results69) (bP ⟨aG (mC R mN),R,aN R,(Sub.tup bl)⟩)
theorem Nh {F:Nat} {p0:List Int} {p1:Int} {r:Bool} (h:xe F p0 p1=some r):aF Tryz.prog 183 [.L p0,.I p1] (Mem.of []) (.bool r) (Mem.of []):=by
  unfold xe at h
  refine bh Tryz.func183 R (nT Tryz.ntmps183 R) (LH.aj R (cr R zQ) (LH.seq (LH.ax [(0,.L p0),(14,.bool (((p0.length:Int) != p1) || (decide (p1 > 12))))] [] R ?_ ?_)))
  ·refine dY R (sN (bW (f:=LV.I) bU R (aZ R (sN (iC R R (bZ R ?_))))))
   by_cases hb2:((p0.length:Int) != p1)=true
   ·exact sF R R hb2 (sF R R hb2 (sN (aY (cB hb2) (v:=(.bool _)) R (s0 (Wk.to (eC R (eC (cB (mq hb2)) eN)) mN R (aN R))))))
   ·replace hb2:=bF hb2
    exact sT R (cB hb2) (oM (v:=(.int _ _)) R (sT R (cB hb2) (jf R R (sN (bc (cB hb2) (v:=(.bool _)) R (s0 (Wk.to (eC R (eC (cB (gN hb2)) eN)) mN R (aN R))))))))
  refine LH.cond (t:=(((p0.length:Int) != p1) || (decide (p1 > 12)))) R (fun fT=>?_) (fun fT=>?_)
  ·replace h:=aB h fT
   refine LH.aj R (cr R zQ) (LH.ret (aO ?_))
   obtain rfl:=oI h
   exact aJ (aT Tryz.results183) (bT R (bP ⟨aG mN,R,aN R,Sub.rfl⟩))
  replace h:=aA h fT
  refine LH.skip (ai (LH.seq (LH.ax [(15,.L p0),(16,.I (p0.length:Int)),(17,.I 0)] [] R (dY R (sN (bW (f:=LV.I) bU R (aZ R zS)))) (LH.block (LH.loop (fun n e m=>∃ (n4:Int),C7 p0 n n4=some r∧e=Env.of [(15,.L p0),(16,.I (p0.length:Int)),(17,.I n4)]∧m=Mem.of []) F ⟨0,h,R,R⟩ ?_)))))
  clear h
  rintro n e m ⟨n4,h,rfl,rfl⟩
  rcases n with _ | n
  · cases (show Option.none=some _ from h)
  obtain ⟨aH,aI⟩:∃ f,f=C7 p0 n:=⟨_,rfl⟩
  replace h:J2 p0 aH n4=some r:=aI ▸ h
  unfold J2 at h
  refine LH.aj R (sN (eG R R zQ)) (LH.seq (LH.cond (t:=(decide (n4<(p0.length:Int)))) R (fun gZ=>?_) (fun gZ=>?_)))
  ·replace h:=aB h gZ
   refine LH.skip (ai (LH.seq (LH.block ?_)))
   obtain ⟨x6,wF,h⟩:=ae h
   refine LH.aj R (sN (eF (f:=LV.I) bU aD aW R R jB wF R (sN (bj R aD b5 (br R zQ))))) (LH.ax [(15,.L p0),(16,.I (p0.length:Int)),(17,.I n4),(26,.bool ((decide (x6<(-1))) || (decide (x6 > 1))))] [] R ?_ ?_)
   ·refine aZ R (sN (eG R R (bZ R ?_)))
    by_cases cA:(decide (x6<(-1)))=true
    ·exact sF R R cA (sF R R cA (sN (aY (cB cA) (v:=(.bool _)) R (s0 (Wk.to (eC R (eC R (eC R (eC (cB (mq cA)) eN)))) mN R (aN R))))))
    ·replace cA:=bF cA
     exact sT R (cB cA) (oM (v:=(.int _ _)) R (sT R (cB cA) (jf R R (sN (bc (cB cA) (v:=(.bool _)) R (s0 (Wk.to (eC R (eC R (eC R (eC (cB (gN cA)) eN)))) mN R (aN R))))))))
   refine LH.cond (t:=((decide (x6<(-1))) || (decide (x6 > 1)))) R (fun ng=>?_) (fun ng=>?_)
   ·replace h:=aB h ng
    refine LH.aj R (cr R zQ) (LH.ret (bH (aO (dg (bH (aO ?_))))))
    obtain rfl:=oI h
    exact aJ (aT Tryz.results183) (bT R (bP ⟨aG mN,R,aN R,Sub.rfl⟩))
   replace h:=aA h ng
   refine LH.skip (aQ (ai (LH.bd R (sN (b8 R R (aZ R zQ))) ?_)))
   exact a7 ⟨(i64 (n4+1)),aI ▸ h,R,R⟩ (Wk.eq R R R R)
  replace h:=aA h gZ
  refine LH.exit (cg (bO (bK (ai (LH.aj R (cr R zQ) (LH.ret ?_))))))
  obtain rfl:=oI h
  exact aJ (aT Tryz.results183) (bT R (bP ⟨aG mN,R,aN R,Sub.rfl⟩))
theorem UK {F:Nat} {p0:aq} {p1:List Int} {r:Int × Int × Bool} (h:Bb F p0 p1=some r):aF Tryz.prog 153 [.agg [.L p0.cu,.I p0.bQ,.I p0.cO],.L p1] (Mem.of []) (.tup [.I r.1,.I r.2.1,.bool r.2.2]) (Mem.of []):=by
  unfold Bb at h
  refine bh Tryz.func153 R (nT Tryz.ntmps153 R) (LH.aj R (sB (dm R R R R (br R (br R (cr R zQ))))) (LH.seq ?_))
  obtain ⟨w2,hv,h⟩:=ae h
  refine LH.ax [(1,.L p1),(2,.sptr [.L p0.cu,.I p0.bQ,.I p0.cO]),(4,.I 0),(5,.I 0),(20,.bool w2)] [] R ?_ ?_
  ·refine dY R (sN (aC jr cm dQ R R R (sN (bj R cm eu (sN (bW (f:=LV.I) bU R ?_))))))
   obtain ⟨r3,hr3,hv⟩:=ae hv
   refine sN (dq (args:=[.L p1,.I (p0.cu.length:Int)]) R IQ R (aw (aw bl)) (Nh hr3) R (sN (eM R (bZ R ?_))))
   by_cases bY:(!r3)=true
   ·replace hv:=aB hv bY
    refine sF R R bY (sF R R bY (sF R R bY (sF R R bY (sN (aY (cB bY) (v:=(.bool _)) R ?_)))))
    obtain rfl:=oI hv
    exact zS
   ·replace bY:=bF bY
    replace hv:=aA hv bY
    refine sT R (cB bY) (aC jr cm dQ R R R (sT R (cB bY) (bj R cm eu ?_)))
    obtain ⟨r5,vR,hv⟩:=ae hv
    refine sT R (cB bY) (dq (args:=[.L p0.cu]) R IB R (aw bl) (Nd vR) R (sT R (cB bY) (eM R (sN (bc (cB bY) (v:=(.bool _)) R ?_)))))
    obtain rfl:=oI hv
    exact zS
  clear hv
  refine LH.cond (t:=w2) R (fun fY=>?_) (fun fY=>?_)
  ·replace h:=aB h fY
   refine LH.aj R (br R (br R (cr R zQ))) (LH.ret (aO ?_))
   obtain rfl:=oI h
   exact aJ (aT Tryz.results153) (bT R (bT R (bT R (bP ⟨aG mN,R,aN R,(Sub.tup (aw (aw (aw bl))))⟩))))
  replace h:=aA h fY
  refine LH.skip (ai (LH.seq (LH.ax [(1,.L p1),(4,.I 0),(5,.I 0),(22,.L p0.cu),(23,.I (p0.cu.length:Int)),(24,.I 0)] [] R (sN (aC jr cm dQ R R R (sN (bj R cm eu (sN (bW (f:=LV.I) bU R (aZ R zS))))))) (LH.block (LH.loop (fun n e m=>∃ (n7:Int) (n8:Int) (n9:Int),Dk p0 p1 n n7 n8 n9=some r∧e=Env.of [(1,.L p1),(4,.I n7),(5,.I n8),(22,.L p0.cu),(23,.I (p0.cu.length:Int)),(24,.I n9)]∧m=Mem.of []) F ⟨0,0,0,h,R,R⟩ ?_)))))
  clear h
  rintro n e m ⟨n7,n8,n9,h,rfl,rfl⟩
  rcases n with _ | n
  · cases (show Option.none=some _ from h)
  obtain ⟨aH,aI⟩:∃ f,f=Dk p0 p1 n:=⟨_,rfl⟩
  replace h:Ax p0 p1 aH n7 n8 n9=some r:=aI ▸ h
  unfold Ax at h
  refine LH.aj R (sN (eG R R zQ)) (LH.seq (LH.cond (t:=(decide (n9<(p0.cu.length:Int)))) R (fun gD=>?_) (fun gD=>?_)))
  ·replace h:=aB h gD
   refine LH.skip (ai (LH.seq (LH.block ?_)))
   obtain ⟨lu,pA,h⟩:=ae h
   refine LH.aj R (aZ R (sN (eF (f:=LV.I) bU aD aW R R jB pA R (sN (bj R aD b5 (br R (br R zQ))))))) ?_
   obtain ⟨iB,vT,h⟩:=ae h
   refine LH.aj R (dY R (aZ R (sN (eF (f:=LV.I) bU aD aW R R jB vT R (sN (bj R aD b5 zQ)))))) (LH.block (LH.aj R (sN (iX R R (cr R zQ))) (LH.cond (t:=(iB == 1)) R (fun jc=>?_) (fun jc=>?_))))
   ·replace h:=aB h jc
    refine LH.bd R (aZ R (aZ R (sN (b8 R R (aZ R (aZ R (sN (b8 R R (br R (br R zQ)))))))))) (aQ (aQ (ai (LH.bd R (sN (b8 R R (aZ R zQ))) ?_))))
    exact a7 ⟨(i64 (n7+lu)),(i64 (n8+lu)),(i64 (n9+1)),aI ▸ h,R,R⟩ (Wk.eq R R R R)
   replace h:=aA h jc
   refine LH.aj R (sN (iX R R (cr R zQ))) (LH.cond (t:=(iB == (-1))) R (fun jy=>?_) (fun jy=>?_))
   ·replace h:=aB h jy
    refine LH.bd R (aZ R (aZ R (sX ((CX R R).ok) (sN (b8 R R (aZ R (aZ R (sX ((Jk R R).ok) (sN (b8 R R (br R (br R zQ)))))))))))) (aQ (aQ (ai (LH.bd R (sN (b8 R R (aZ R zQ))) ?_))))
    exact a7 ⟨(i64 (n7+(min lu 0))),(i64 (n8+(max lu 0))),(i64 (n9+1)),aI ▸ h,R,R⟩ (Wk.eq R R R R)
   replace h:=aA h jy
   refine LH.skip (aQ (aQ (ai (LH.bd R (sN (b8 R R (aZ R zQ))) ?_))))
   exact a7 ⟨n7,n8,(i64 (n9+1)),aI ▸ h,R,R⟩ (Wk.eq R R R R)
  replace h:=aA h gD
  refine LH.exit (cg (bO (bK (ai (LH.aj R (aZ R (aZ R (br R (br R (cr R zQ))))) (LH.ret ?_))))))
  obtain rfl:=oI h
  exact aJ (aT Tryz.results153) (bT R (bT R (bT R (bP ⟨aG mN,R,aN R,(Sub.tup (aw (aw (aw bl))))⟩))))
theorem UI {F:Nat} {p0:eX} {p1:List Int} {r:Int} (h:A9 F p0 p1=some r):aF Tryz.prog 135 [.agg [.L p0.al,.lst 3 (p0.Rows.map aq.lv)],.L p1] (Mem.of []) (.I r) (Mem.of []):=by
  unfold A9 at h
  refine bh Tryz.func135 R (nT Tryz.ntmps135 R) (LH.aj R (sB (dm R R R R (br R zQ))) (LH.seq ?_))
  obtain ⟨w2,hv,h⟩:=ae h
  refine LH.ax [(1,.L p1),(2,.sptr [.L p0.al,.lst 3 (p0.Rows.map aq.lv)]),(20,.bool w2)] [] R ?_ ?_
  ·refine sN (bw R lj pM lk R R ?_)
   obtain ⟨r3,hr3,hv⟩:=ae hv
   refine sN (dq (args:=[.agg [.L p0.al,.lst 3 (p0.Rows.map aq.lv)]]) R IY R (aw bl) (JF hr3) R (sN (eM R (bZ R ?_))))
   by_cases bY:(!r3)=true
   ·replace hv:=aB hv bY
    refine sF R R bY (sF R R bY (sF R R bY (sF R R bY (sF R R bY (sF R R bY (sN (aY (cB bY) (v:=(.bool _)) R ?_)))))))
    obtain rfl:=oI hv
    exact zS
   ·replace bY:=bF bY
    replace hv:=aA hv bY
    refine sT R (cB bY) (oM (v:=(.lst _ _)) R (sT R (cB bY) (aC kz cm dQ R R R (sT R (cB bY) (bj R cm eu (sT R (cB bY) (bW (f:=LV.I) bU R ?_)))))))
    obtain ⟨r5,vR,hv⟩:=ae hv
    refine sT R (cB bY) (dq (args:=[.L p1,.I (p0.al.length:Int)]) R IQ R (aw (aw bl)) (Nh vR) R (sT R (cB bY) (eM R (sN (bc (cB bY) (v:=(.bool _)) R ?_)))))
    obtain rfl:=oI hv
    exact zS
  clear hv
  refine LH.cond (t:=w2) R (fun fY=>?_) (fun fY=>?_)
  ·replace h:=aB h fY
   refine LH.aj R (br R zQ) (LH.ret (aO ?_))
   obtain rfl:=oI h
   exact aJ (aT Tryz.results135) (bT R (bP ⟨aG mN,R,aN R,Sub.rfl⟩))
  replace h:=aA h fY
  refine LH.skip (ai (LH.seq (LH.ax [(1,.L p1),(22,.lst 3 (p0.Rows.map aq.lv)),(23,.I (p0.Rows.length:Int)),(24,.I 0)] [] R (sN (aC mR lh wg R R R (sN (bj R lh u1 (sN (bW (f:=aq.lv) lU R (aZ R zS))))))) (LH.block (LH.loop (fun n e m=>∃ (n7:Int),Dh F p0 p1 n n7=some r∧e=Env.of [(1,.L p1),(22,.lst 3 (p0.Rows.map aq.lv)),(23,.I (p0.Rows.length:Int)),(24,.I n7)]∧m=Mem.of []) F ⟨0,h,R,R⟩ ?_)))))
  clear h
  rintro n e m ⟨n7,h,rfl,rfl⟩
  rcases n with _ | n
  · cases (show Option.none=some _ from h)
  obtain ⟨aH,aI⟩:∃ f,f=Dh F p0 p1 n:=⟨_,rfl⟩
  replace h:Au F p0 p1 aH n7=some r:=aI ▸ h
  unfold Au at h
  refine LH.aj R (sN (eG R R zQ)) (LH.seq (LH.cond (t:=(decide (n7<(p0.Rows.length:Int)))) R (fun kf=>?_) (fun kf=>?_)))
  ·replace h:=aB h kf
   refine LH.skip (ai (LH.seq (LH.block ?_)))
   obtain ⟨x9,yZ,h⟩:=ae h
   refine LH.ax [(1,.L p1),(5,.I n7),(6,.sptr [.L x9.cu,.I x9.bQ,.I x9.cO]),(22,.lst 3 (p0.Rows.map aq.lv)),(23,.I (p0.Rows.length:Int)),(24,.I n7)] [] R (aZ R (sN (eF (f:=aq.lv) lU iL fF R R aq.ok yZ R (sN (bw R iL uZ fF R R (sN (hD (id:=106) R qD R R (br R (s_ (cM R R R iL fF R R R (s0 ((Wk.trans (bM [(1,.L p1),(5,.I n7),(6,.ptr 106 0),(22,.lst 3 (p0.Rows.map aq.lv)),(23,.I (p0.Rows.length:Int)),(24,.I n7)] [(106,.box [.L x9.cu,.I x9.bQ,.I x9.cO])]) (Wk.trans (Wk.bD 106 [.L x9.cu,.I x9.bQ,.I x9.cO] R R R (cc R)) (Wk.eq R R R R))))))))))))))) ?_
   obtain ⟨ea,pz,h⟩:=ae h
   refine LH.aj R (sN (bw R iL uZ fF R R (dY R (sN (dq (args:=[.agg [.L x9.cu,.I x9.bQ,.I x9.cO],.L p1]) R PT R (aw (aw bl)) (UK pz) R (sE R (sN (fL R R (sN (fL R R (sN (fL R R (br R (br R (cr R zQ))))))))))))))) (LH.ax [(1,.L p1),(5,.I n7),(22,.lst 3 (p0.Rows.map aq.lv)),(23,.I (p0.Rows.length:Int)),(24,.I n7),(55,.bool (ea.2.2 && ((decide (ea.1 > x9.cO)) || ((decide (ea.2.1<x9.bQ)) || (decide (x9.bQ > x9.cO))))))] [] R ?_ ?_)
   ·refine bZ R (bZ R ?_)
    by_cases cR:ea.2.2=true
    ·refine sT R (cB cR) (oM (v:=(.int _ _)) R (sT R (cB cR) (aC mP aD aW R R R (sT R (cB cR) (bj R aD b5 (sT R (cB cR) (jf R R (sT R (cB cR) (oM (v:=(.bool _)) R ?_)))))))))
     by_cases dz:(decide (ea.1 > x9.cO))=true
     ·exact sF R R dz (sF R R dz (sF R R dz (sF R R dz (sT R (cB cR) (aY (cB dz) (v:=(.bool _)) R (sT R (cB cR) (oM (v:=(.bool _)) R (sF R R R (sF R R R (sF R R R (sF R R R (sF R R R (sT R (cB cR) (aY R (v:=(.bool _)) R (sN (aY (cB cR) (v:=(.bool _)) R (s0 (Wk.to (eC R (eC R (eC R (eC R (eC R (eC (cB (Eq.trans (mq dz) (eV cR))) eN)))))) mN R (aN R)))))))))))))))))))
     ·replace dz:=bF dz
      refine sT R (cB dz) (oM (v:=(.int _ _)) R (sT R (cB dz) (aC mO aD aW R R R (sT R (cB dz) (bj R aD b5 (sT R (cB dz) (eG R R (sT R (cB cR) (bc (cB dz) (v:=(.bool _)) R (sT R (cB cR) (oM (v:=(.bool _)) R ?_)))))))))))
      by_cases c9:(decide (ea.2.1<x9.bQ))=true
      ·exact sF R R c9 (sF R R c9 (sF R R c9 (sF R R c9 (sF R R c9 (sT R (cB cR) (aY (cB c9) (v:=(.bool _)) R (sN (aY (cB cR) (v:=(.bool _)) R (s0 (Wk.to (eC R (eC R (eC R (eC R (eC R (eC (cB (Eq.trans (Eq.trans (mq c9) (gN dz)) (eV cR))) eN)))))) mN R (aN R)))))))))))
      ·replace c9:=bF c9
       exact sT R (cB c9) (aC mO aD aW R R R (sT R (cB c9) (bj R aD b5 (sT R (cB c9) (aC mP aD aW R R R (sT R (cB c9) (bj R aD b5 (sT R (cB c9) (jf R R (sT R (cB cR) (bc (cB c9) (v:=(.bool _)) R (sN (aY (cB cR) (v:=(.bool _)) R (s0 (Wk.to (eC R (eC R (eC R (eC R (eC R (eC (cB (Eq.trans (Eq.trans (gN c9) (gN dz)) (eV cR))) eN)))))) mN R (aN R))))))))))))))))
    ·replace cR:=bF cR
     exact sF R R cR (sF R R cR (sF R R cR (sF R R cR (sF R R cR (sU R R (sU R R (sU R R (sU R R (sF R R cR (sF R R cR (sU R R (sU R R (sU R R (sU R R (sU R R (sF R R cR (sN (bc (cB cR) (v:=(.bool _)) R (s0 (Wk.to (eC R (eC R (eC R (eC R (eC R (eC (cB (lB cR)) eN)))))) mN R (aN R)))))))))))))))))))))
   refine LH.cond (t:=(ea.2.2 && ((decide (ea.1 > x9.cO)) || ((decide (ea.2.1<x9.bQ)) || (decide (x9.bQ > x9.cO)))))) R (fun kD=>?_) (fun kD=>?_)
   ·replace h:=aB h kD
    refine LH.aj R (aZ R (br R zQ)) (LH.ret (bH (aO (dg (bH (aO ?_))))))
    obtain rfl:=oI h
    exact aJ (aT Tryz.results135) (bT R (bP ⟨aG mN,R,aN R,Sub.rfl⟩))
   replace h:=aA h kD
   refine LH.skip (aQ (ai (LH.bd R (sN (b8 R R (aZ R zQ))) ?_)))
   exact a7 ⟨(i64 (n7+1)),aI ▸ h,R,R⟩ (Wk.eq R R R R)
  replace h:=aA h kf
  refine LH.exit (cg (bO (bK (ai (LH.aj R (br R zQ) (LH.ret ?_))))))
  obtain rfl:=oI h
  exact aJ (aT Tryz.results135) (bT R (bP ⟨aG mN,R,aN R,Sub.rfl⟩))
theorem Ul {F:Nat} {p0:List Int} {p1:Int} {r:Bool} (h:AJ F p0 p1=some r):aF Tryz.prog 184 [.L p0,.I p1] (Mem.of []) (.bool r) (Mem.of []):=by
  unfold AJ at h
  refine bh Tryz.func184 R (nT Tryz.ntmps184 R) (LH.aj R (cr R zQ) (LH.seq (LH.aj R (dY R (sN (bW (f:=LV.I) bU R (aZ R (sN (iC R R zQ)))))) (LH.cond (t:=((p0.length:Int) != p1)) R (fun hc1=>?_) (fun hc1=>?_)))))
  ·replace h:=aB h hc1
   refine LH.aj R (cr R zQ) (LH.ret (aO ?_))
   obtain rfl:=oI h
   exact aJ (aT Tryz.results184) (bT R (bP ⟨aG mN,R,aN R,Sub.rfl⟩))
  replace h:=aA h hc1
  refine LH.skip (ai (LH.seq (LH.ax [(11,.L p0),(12,.I (p0.length:Int)),(13,.I 0)] [] R (dY R (sN (bW (f:=LV.I) bU R (aZ R zS)))) (LH.block (LH.loop (fun n e m=>∃ (n2:Int),C5 p0 n n2=some r∧e=Env.of [(11,.L p0),(12,.I (p0.length:Int)),(13,.I n2)]∧m=Mem.of []) F ⟨0,h,R,R⟩ ?_)))))
  clear h
  rintro n e m ⟨n2,h,rfl,rfl⟩
  rcases n with _ | n
  · cases (show Option.none=some _ from h)
  obtain ⟨aH,aI⟩:∃ f,f=C5 p0 n:=⟨_,rfl⟩
  replace h:JX p0 aH n2=some r:=aI ▸ h
  unfold JX at h
  refine LH.aj R (sN (eG R R zQ)) (LH.seq (LH.cond (t:=(decide (n2<(p0.length:Int)))) R (fun fT=>?_) (fun fT=>?_)))
  ·replace h:=aB h fT
   refine LH.skip (ai (LH.seq (LH.block ?_)))
   obtain ⟨x4,zL,h⟩:=ae h
   refine LH.aj R (sN (eF (f:=LV.I) bU aD aW R R jB zL R (sN (bj R aD b5 (br R zQ))))) (LH.ax [(11,.L p0),(12,.I (p0.length:Int)),(13,.I n2),(22,.bool ((decide (x4<(-1))) || (decide (x4 > 1))))] [] R ?_ ?_)
   ·refine aZ R (sN (eG R R (bZ R ?_)))
    by_cases bV:(decide (x4<(-1)))=true
    ·exact sF R R bV (sF R R bV (sN (aY (cB bV) (v:=(.bool _)) R (s0 (Wk.to (eC R (eC R (eC R (eC (cB (mq bV)) eN)))) mN R (aN R))))))
    ·replace bV:=bF bV
     exact sT R (cB bV) (oM (v:=(.int _ _)) R (sT R (cB bV) (jf R R (sN (bc (cB bV) (v:=(.bool _)) R (s0 (Wk.to (eC R (eC R (eC R (eC (cB (gN bV)) eN)))) mN R (aN R))))))))
   refine LH.cond (t:=((decide (x4<(-1))) || (decide (x4 > 1)))) R (fun ln=>?_) (fun ln=>?_)
   ·replace h:=aB h ln
    refine LH.aj R (cr R zQ) (LH.ret (bH (aO (dg (bH (aO ?_))))))
    obtain rfl:=oI h
    exact aJ (aT Tryz.results184) (bT R (bP ⟨aG mN,R,aN R,Sub.rfl⟩))
   replace h:=aA h ln
   refine LH.skip (aQ (ai (LH.bd R (sN (b8 R R (aZ R zQ))) ?_)))
   exact a7 ⟨(i64 (n2+1)),aI ▸ h,R,R⟩ (Wk.eq R R R R)
  replace h:=aA h fT
  refine LH.exit (cg (bO (bK (ai (LH.aj R (cr R zQ) (LH.ret ?_))))))
  obtain rfl:=oI h
  exact aJ (aT Tryz.results184) (bT R (bP ⟨aG mN,R,aN R,Sub.rfl⟩))
theorem Uk {p0:eX} {p1:aM} {r:Bool} (h:AI p0 p1=some r):aF Tryz.prog 185 [.agg [.L p0.al,.lst 3 (p0.Rows.map aq.lv)],aM.lv p1] (Mem.of []) (.bool r) (Mem.of []):=by
  unfold AI at h
  refine bh Tryz.func185 R (nT Tryz.ntmps185 R) (LH.aj R (sB (dm R R R R (sB (dm R R R R (cr R zQ))))) (LH.seq (LH.aj R (sN (aC tb aD aW R R R (sN (bj R aD b5 (sN (iC R R zQ)))))) (LH.cond (t:=(p1.Kind != 3)) R (fun hc1=>?_) (fun hc1=>?_)))))
  ·replace h:=aB h hc1
   refine LH.aj R (cr R zQ) (LH.ret (aO ?_))
   obtain rfl:=oI h
   exact aJ (aT Tryz.results185) (bT R (bP ⟨aG mN,R,aN R,Sub.rfl⟩))
  replace h:=aA h hc1
  refine LH.skip (ai (LH.seq (LH.aj R (sN (aC mQ aD aW R R R (sN (bj R aD b5 (sN (iX R R zQ)))))) (LH.cond (t:=(p1.Row == (-1))) R (fun dI=>?_) (fun dI=>?_)))))
  ·replace h:=aB h dI
   refine LH.ax [(4,.bool ((p1.pa == 0) && (p1.Den == 1)))] [] R ?_ ?_
   ·refine sN (aC kP aD aW R R R (sN (bj R aD b5 (sN (iX R R (bZ R ?_))))))
    by_cases bY:(p1.pa == 0)=true
    ·exact sT R (cB bY) (aC oO aD aW R R R (sT R (cB bY) (bj R aD b5 (sT R (cB bY) (iX R R (sN (aY (cB bY) (v:=(.bool _)) R (cr R (s0 (Wk.to (eC (cB (eV bY)) eN) mN R (aN R)))))))))))
    ·replace bY:=bF bY
     exact sF R R bY (sF R R bY (sF R R bY (sN (bc (cB bY) (v:=(.bool _)) R (cr R (s0 (Wk.to (eC (cB (lB bY)) eN) mN R (aN R))))))))
   refine LH.ret (aO ?_)
   obtain rfl:=oI h
   exact aJ (aT Tryz.results185) (bT R (bP ⟨aG mN,R,aN R,Sub.rfl⟩))
  replace h:=aA h dI
  refine LH.skip (ai (LH.ax [(4,.bool ((decide (p1.Row ≥ 0)) && ((decide (p1.Row<(p0.Rows.length:Int))) && ((decide (p1.pa ≥ (-10000))) && ((decide (p1.pa≤10000)) && ((decide (p1.Den ≥ 1)) && (decide (p1.Den≤10000))))))))] [] R ?_ ?_))
  ·refine sN (aC mQ aD aW R R R (sN (bj R aD b5 (sN (oY R R (bZ R ?_))))))
   by_cases bV:(decide (p1.Row ≥ 0))=true
   ·refine sT R (cB bV) (aC mQ aD aW R R R (sT R (cB bV) (bj R aD b5 (sT R (cB bV) (aC mR lh wg R R R (sT R (cB bV) (bj R lh u1 (sT R (cB bV) (bW (f:=aq.lv) lU R (sT R (cB bV) (eG R R (sN (aY (cB bV) (v:=(.bool _)) R (bZ R ?_))))))))))))))
    by_cases cI:(decide (p1.Row<(p0.Rows.length:Int)))=true
    ·refine sT R (cB cI) (aC kP aD aW R R R (sT R (cB cI) (bj R aD b5 (sT R (cB cI) (oY R R (sN (aY (cB cI) (v:=(.bool _)) R (bZ R ?_))))))))
     by_cases cA:(decide (p1.pa ≥ (-10000)))=true
     ·refine sT R (cB cA) (aC kP aD aW R R R (sT R (cB cA) (bj R aD b5 (sT R (cB cA) (KV R R (sN (aY (cB cA) (v:=(.bool _)) R (bZ R ?_))))))))
      by_cases dy:(decide (p1.pa≤10000))=true
      ·refine sT R (cB dy) (aC oO aD aW R R R (sT R (cB dy) (bj R aD b5 (sT R (cB dy) (oY R R (sN (aY (cB dy) (v:=(.bool _)) R (bZ R ?_))))))))
       by_cases dC:(decide (p1.Den ≥ 1))=true
       ·exact sT R (cB dC) (aC oO aD aW R R R (sT R (cB dC) (bj R aD b5 (sT R (cB dC) (KV R R (sN (aY (cB dC) (v:=(.bool _)) R (cr R (s0 (Wk.to (eC (cB (Eq.trans (Eq.trans (Eq.trans (Eq.trans (eV dC) (eV dy)) (eV cA)) (eV cI)) (eV bV))) eN) mN R (aN R)))))))))))
       ·replace dC:=bF dC
        exact sF R R dC (sF R R dC (sF R R dC (sN (bc (cB dC) (v:=(.bool _)) R (cr R (s0 (Wk.to (eC (cB (Eq.trans (Eq.trans (Eq.trans (Eq.trans (lB dC) (eV dy)) (eV cA)) (eV cI)) (eV bV))) eN) mN R (aN R))))))))
      ·replace dy:=bF dy
       exact sF R R dy (sF R R dy (sF R R dy (sN (bc (cB dy) (v:=(.bool _)) R (bZ R (sF R R R (sF R R R (sF R R R (sN (bc R (v:=(.bool _)) R (cr R (s0 (Wk.to (eC (cB (Eq.trans (Eq.trans (Eq.trans (lB dy) (eV cA)) (eV cI)) (eV bV))) eN) mN R (aN R))))))))))))))
     ·replace cA:=bF cA
      exact sF R R cA (sF R R cA (sF R R cA (sN (bc (cB cA) (v:=(.bool _)) R (bZ R (sF R R R (sF R R R (sF R R R (sN (bc R (v:=(.bool _)) R (bZ R (sF R R R (sF R R R (sF R R R (sN (bc R (v:=(.bool _)) R (cr R (s0 (Wk.to (eC (cB (Eq.trans (Eq.trans (lB cA) (eV cI)) (eV bV))) eN) mN R (aN R))))))))))))))))))))
    ·replace cI:=bF cI
     exact sF R R cI (sF R R cI (sF R R cI (sN (bc (cB cI) (v:=(.bool _)) R (bZ R (sF R R R (sF R R R (sF R R R (sN (bc R (v:=(.bool _)) R (bZ R (sF R R R (sF R R R (sF R R R (sN (bc R (v:=(.bool _)) R (bZ R (sF R R R (sF R R R (sF R R R (sN (bc R (v:=(.bool _)) R (cr R (s0 (Wk.to (eC (cB (Eq.trans (lB cI) (eV bV))) eN) mN R (aN R))))))))))))))))))))))))))
   ·replace bV:=bF bV
    exact sF R R bV (sF R R bV (sF R R bV (sF R R bV (sF R R bV (sF R R bV (sN (bc (cB bV) (v:=(.bool _)) R (bZ R (sF R R R (sF R R R (sF R R R (sN (bc R (v:=(.bool _)) R (bZ R (sF R R R (sF R R R (sF R R R (sN (bc R (v:=(.bool _)) R (bZ R (sF R R R (sF R R R (sF R R R (sN (bc R (v:=(.bool _)) R (bZ R (sF R R R (sF R R R (sF R R R (sN (bc R (v:=(.bool _)) R (cr R (s0 (Wk.to (eC (cB (lB bV)) eN) mN R (aN R)))))))))))))))))))))))))))))))))))
  refine LH.ret ?_
  obtain rfl:=oI h
  exact aJ (aT Tryz.results185) (bT R (bP ⟨aG mN,R,aN R,Sub.rfl⟩))
theorem UF {p0:Int} {p1:Int} {r:Int} (h:EN p0 p1=some r):aF Tryz.prog 198 [.I p0,.I p1] (Mem.of []) (.I r) (Mem.of []):=by
  unfold EN at h
  refine bh Tryz.func198 R (nT Tryz.ntmps198 R) (LH.aj R (br R zQ) ?_)
  obtain ⟨v1,iR,h⟩:=ae h
  refine LH.aj R (aZ R (aZ R (sN (Yj R R iR (br R zQ))))) (LH.seq ?_)
  obtain ⟨v2,hv2,h⟩:=ae h
  refine LH.aj R (aZ R (aZ R (sN (TV R R hv2 (sN (jf R R zQ)))))) (LH.cond (t:=(decide (v2 > 0))) R (fun fT=>?_) (fun fT=>?_))
  ·replace h:=aB h fT
   refine LH.bd R (aZ R (sN (b8 R R (br R zQ)))) (ai (LH.aj R (aZ R (br R zQ)) (LH.ret ?_)))
   obtain rfl:=oI h
   exact aJ (aT Tryz.results198) (bT R (bP ⟨aG mN,R,aN R,Sub.rfl⟩))
  replace h:=aA h fT
  refine LH.skip (ai (LH.aj R (aZ R (br R zQ)) (LH.ret ?_)))
  obtain rfl:=oI h
  exact aJ (aT Tryz.results198) (bT R (bP ⟨aG mN,R,aN R,Sub.rfl⟩))
theorem Uj {F:Nat} {p0:eX} {p1:List Int} {p2:aM} {r:Int} (h:EF F p0 p1 p2=some r):aF Tryz.prog 154 [.agg [.L p0.al,.lst 3 (p0.Rows.map aq.lv)],.L p1,aM.lv p2] (Mem.of []) (.I r) (Mem.of []):=by
  unfold EF at h
  refine bh Tryz.func154 R (nT Tryz.ntmps154 R) (LH.aj R (sB (dm R R R R (sB (dm R R R R (br R zQ))))) ?_)
  obtain ⟨v1,iR,h⟩:=ae h
  refine LH.ax [(1,.L p1),(3,.sptr [.L p0.al,.lst 3 (p0.Rows.map aq.lv)]),(5,.sptr (aM.lv p2).cells),(7,.ptr 107 0)] [(107,.box [.arr 115 v1.length,.I 0,.I 0]),(115,.arr 3 1 (v1.map LV.I))] R (sN (aC kz cm dQ R R R (sN (bj R cm eu (sN (bW (f:=LV.I) bU R (sN (Qw (f:=LV.I) (z:=0) (id:=115) R bU NZ qL aW R R R iR R (sN (gJ (vs:=[(0,.arr 115 v1.length)]) Ky qD R (lf jr dQ cm R R R gI) (sN (hD (id:=107) R qD R R (s_ (cM R R R iL fF R R R zS)))))))))))))) (LH.mid (fun e m=>∃ (l2:List Int) (n3:Int) (n4:Int),Ah F p0 p1 p2 l2 n3 n4=some r∧Wk (fun id=>Mem.of [] id ≠ .none) e m (Env.of [(1,.L p1),(3,.sptr [.L p0.al,.lst 3 (p0.Rows.map aq.lv)]),(5,.sptr (aM.lv p2).cells),(7,.sptr [.L l2,.I n3,.I n4])]) (Mem.of [])) ?_ ?_)
  ·refine LH.aj R (sN (aC mQ aD aW R R R (sN (bj R aD b5 (sN (oY R R zQ)))))) (LH.cond (t:=(decide (p2.Row ≥ 0))) R (fun ke=>?_) (fun ke=>?_))
   ·replace h:=aB h ke
    obtain ⟨gA,qh,h⟩:=ae h
    exact LH.df [(1,.L p1),(3,.sptr [.L p0.al,.lst 3 (p0.Rows.map aq.lv)]),(5,.sptr (aM.lv p2).cells),(7,.sptr [.L gA.cu,.I gA.bQ,.I gA.cO])] [] R (sN (aC mR lh wg R R R (sN (bj R lh u1 (sN (aC mQ aD aW R R R (sN (bj R aD b5 (sN (eF (f:=aq.lv) lU iL fF R R aq.ok qh R (sN (bw R iL uZ fF R R (s_ (cM R R R iL fF R R R (s0 ((Wk.trans (bM [(1,.L p1),(3,.sptr [.L p0.al,.lst 3 (p0.Rows.map aq.lv)]),(5,.sptr (aM.lv p2).cells),(7,.ptr 107 0)] [(107,.box [.L gA.cu,.I gA.bQ,.I gA.cO])]) (Wk.trans (Wk.bD 107 [.L gA.cu,.I gA.bQ,.I gA.cO] R R R (cc R)) (Wk.eq R R R R))))))))))))))))))) (ai ⟨gA.cu,gA.bQ,gA.cO,h,Wk.eq R R R R⟩)
   replace h:=aA h ke
   exact LH.skip (ai ⟨v1,0,0,h,(Wk.trans (bM [(1,.L p1),(3,.sptr [.L p0.al,.lst 3 (p0.Rows.map aq.lv)]),(5,.sptr (aM.lv p2).cells),(7,.ptr 107 0)] [(107,.box [.arr 115 v1.length,.I 0,.I 0]),(115,.arr 3 1 (v1.map LV.I))]) (Wk.trans (bM [(1,.L p1),(3,.sptr [.L p0.al,.lst 3 (p0.Rows.map aq.lv)]),(5,.sptr (aM.lv p2).cells),(7,.ptr 107 0)] [(107,.box [.arr 115 v1.length,.I 0,.I 0]),(115,.arr 3 1 (v1.map LV.I))]) (Wk.trans (Wk.trans (Wk.ez (f:=LV.I) 115 3 1 v1 107 R R R (gS (cC R (cC R gR))) R R (cc R)) (bM [(1,.L p1),(3,.sptr [.L p0.al,.lst 3 (p0.Rows.map aq.lv)]),(5,.sptr (aM.lv p2).cells),(7,.ptr 107 0)] [(107,.box [.L v1,.I 0,.I 0])])) (Wk.trans (Wk.bD 107 [.L v1,.I 0,.I 0] R R R (cc R)) (Wk.eq R R R R)))))⟩)
  clear h
  rintro e m ⟨l2,n3,n4,h,hw⟩
  refine LH.wk hw ?_
  clear hw
  unfold Ah at h
  refine LH.ax [(1,.L p1),(3,.sptr [.L p0.al,.lst 3 (p0.Rows.map aq.lv)]),(5,.sptr (aM.lv p2).cells),(7,.sptr [.L l2,.I n3,.I n4]),(8,.I (i64 (p2.pa * n3)))] [] R (sN (aC kP aD aW R R R (sN (bj R aD b5 (sN (aC mO aD aW R R R (sN (bj R aD b5 (sN (Jd R R (br R zS))))))))))) (LH.mid (fun e m=>∃ (n5:Int),Ai F p0 p1 p2 l2 n5=some r∧Wk (fun id=>Mem.of [] id ≠ .none) e m (Env.of [(1,.L p1),(3,.sptr [.L p0.al,.lst 3 (p0.Rows.map aq.lv)]),(5,.sptr (aM.lv p2).cells),(7,.sptr [.L l2,.I n3,.I n4]),(8,.I n5)]) (Mem.of [])) ?_ ?_)
  ·refine LH.aj R (sN (aC kP aD aW R R R (sN (bj R aD b5 (sN (eG R R zQ)))))) (LH.cond (t:=(decide (p2.pa<0))) R (fun kD=>?_) (fun kD=>?_))
   ·replace h:=aB h kD
    exact LH.bd R (sN (aC kP aD aW R R R (sN (bj R aD b5 (sN (aC mP aD aW R R R (sN (bj R aD b5 (sN (Jd R R (br R zQ))))))))))) (ai ⟨(i64 (p2.pa * n4)),h,Wk.eq R R R R⟩)
   replace h:=aA h kD
   exact LH.skip (ai ⟨(i64 (p2.pa * n3)),h,Wk.eq R R R R⟩)
  clear h
  rintro e m ⟨n5,h,hw⟩
  refine LH.wk hw ?_
  clear hw
  unfold Ai at h
  refine LH.seq (LH.ax [(1,.L p1),(5,.sptr (aM.lv p2).cells),(7,.sptr [.L l2,.I n3,.I n4]),(8,.I n5),(40,.L p0.al),(41,.I (p0.al.length:Int)),(42,.I 0)] [] R (sN (aC kz cm dQ R R R (sN (bj R cm eu (sN (bW (f:=LV.I) bU R (aZ R zS))))))) (LH.block (LH.loop (fun n e m=>∃ (n6:Int) (n7:Int),C4 p0 p1 p2 l2 n n6 n7=some r∧e=Env.of [(1,.L p1),(5,.sptr (aM.lv p2).cells),(7,.sptr [.L l2,.I n3,.I n4]),(8,.I n6),(40,.L p0.al),(41,.I (p0.al.length:Int)),(42,.I n7)]∧m=Mem.of []) F ⟨n5,0,h,R,R⟩ ?_)))
  clear h
  rintro n e m ⟨n6,n7,h,rfl,rfl⟩
  rcases n with _ | n
  · cases (show Option.none=some _ from h)
  obtain ⟨rv,o4⟩:∃ f,f=C4 p0 p1 p2 l2 n:=⟨_,rfl⟩
  replace h:JW p0 p1 p2 l2 rv n6 n7=some r:=o4 ▸ h
  unfold JW at h
  refine LH.aj R (sN (eG R R zQ)) (LH.seq (LH.cond (t:=(decide (n7<(p0.al.length:Int)))) R (fun kf=>?_) (fun kf=>?_)))
  ·replace h:=aB h kf
   refine LH.skip (ai (LH.seq (LH.block ?_)))
   obtain ⟨x9,yZ,h⟩:=ae h
   refine LH.aj R (aZ R (sN (eF (f:=LV.I) bU aD aW R R jB yZ R (sN (bj R aD b5 (br R (br R zQ))))))) ?_
   obtain ⟨lr,oV,h⟩:=ae h
   refine LH.du mixed [] [0,0,0,0,0,0,0,0,0,0,0,0,0,0] [(1,.L p1),(5,.sptr (aM.lv p2).cells),(7,.sptr [.L l2,.I n3,.I n4]),(8,.I n6),(9,.I n7),(11,.I (i64 ((i64 (p2.Den * x9)) - (i64 (p2.pa * lr))))),(40,.L p0.al),(41,.I (p0.al.length:Int)),(42,.I n7)] [] R R (by kernel_rfl) ?_ ?_
   ·exact aX (aC oO aD aW R R R ⟨R,aX (bj R aD b5 ⟨R,iT R (aX (Jd R R ⟨R,aX (aC kP aD aW R R R ⟨R,aX (bj R aD b5 ⟨R,aX (aC jr cm dQ R R R ⟨R,aX (bj R cm eu ⟨R,iT R (aX (eF (f:=LV.I) bU aD aW R R jB oV R ⟨R,aX (bj R aD b5 ⟨R,aX (Jd R R ⟨R,aX (kq R R ⟨R,Qr R zM⟩)⟩)⟩)⟩))⟩)⟩)⟩)⟩)⟩))⟩)⟩)
   obtain ⟨lu,pA,h⟩:=ae h
   refine LH.aj R (dY R (aZ R (sN (eF (f:=LV.I) bU aD aW R R jB pA R (sN (bj R aD b5 zQ)))))) (LH.block (LH.aj R (sN (iX R R (cr R zQ))) (LH.cond (t:=(lu == 1)) R (fun gl=>?_) (fun gl=>?_))))
   ·replace h:=aB h gl
    refine LH.bd R (aZ R (aZ R (sN (b8 R R (br R zQ))))) (aQ (aQ (ai (LH.bd R (sN (b8 R R (aZ R zQ))) ?_))))
    exact a7 ⟨(i64 (n6+(i64 ((i64 (p2.Den * x9)) - (i64 (p2.pa * lr)))))),(i64 (n7+1)),o4 ▸ h,R,R⟩ (Wk.eq R R R R)
   replace h:=aA h gl
   refine LH.aj R (sN (iX R R (cr R zQ))) (LH.cond (t:=(lu == (-1))) R (fun jc=>?_) (fun jc=>?_))
   ·replace h:=aB h jc
    refine LH.bd R (aZ R (aZ R (sX ((CX R R).ok) (sN (b8 R R (br R zQ)))))) (aQ (aQ (ai (LH.bd R (sN (b8 R R (aZ R zQ))) ?_))))
    exact a7 ⟨(i64 (n6+(min (i64 ((i64 (p2.Den * x9)) - (i64 (p2.pa * lr)))) 0))),(i64 (n7+1)),o4 ▸ h,R,R⟩ (Wk.eq R R R R)
   replace h:=aA h jc
   refine LH.skip (aQ (aQ (ai (LH.bd R (sN (b8 R R (aZ R zQ))) ?_))))
   exact a7 ⟨n6,(i64 (n7+1)),o4 ▸ h,R,R⟩ (Wk.eq R R R R)
  replace h:=aA h kf
  refine LH.exit (cg (bO (bK (ai ?_))))
  obtain ⟨ct,q9,h⟩:=ae h
  refine LH.aj R (aZ R (sN (aC oO aD aW R R R (sN (bj R aD b5 (sN (dq (args:=[.I n6,.I p2.Den]) R P8 R (aw (aw bl)) (UF q9) R (br R zQ)))))))) (LH.ret ?_)
  obtain rfl:=oI h
  exact aJ (aT Tryz.results154) (bT R (bP ⟨aG mN,R,aN R,Sub.rfl⟩))
theorem Uz {F:Nat} {p0:eX} {p1:List Int} {p2:aM} {r:Int × Bool} (h:A0 F p0 p1 p2=some r):aF Tryz.prog 136 [.agg [.L p0.al,.lst 3 (p0.Rows.map aq.lv)],.L p1,aM.lv p2] (Mem.of []) (.tup [.I r.1,.bool r.2]) (Mem.of []):=by
  unfold A0 at h
  refine bh Tryz.func136 R (nT Tryz.ntmps136 R) (LH.aj R (sB (dm R R R R (sB (dm R R R R (br R (cr R zQ)))))) (LH.seq ?_))
  obtain ⟨w2,hv,h⟩:=ae h
  refine LH.ax [(1,.L p1),(3,.sptr [.L p0.al,.lst 3 (p0.Rows.map aq.lv)]),(5,.sptr (aM.lv p2).cells),(24,.bool w2)] [] R ?_ ?_
  ·refine sN (bw R lj pM lk R R ?_)
   obtain ⟨r3,hr3,hv⟩:=ae hv
   refine sN (dq (args:=[.agg [.L p0.al,.lst 3 (p0.Rows.map aq.lv)]]) R IY R (aw bl) (JF hr3) R (sN (eM R (bZ R ?_))))
   by_cases bY:(!r3)=true
   ·replace hv:=aB hv bY
    refine sF R R bY (sF R R bY (sF R R bY (sF R R bY (sF R R bY (sF R R bY (sN (aY (cB bY) (v:=(.bool _)) R (bZ R (sF R R R (sF R R R (sF R R R (sF R R R (sN (aY R (v:=(.bool _)) R ?_))))))))))))))
    obtain rfl:=oI hv
    exact zS
   ·replace bY:=bF bY
    replace hv:=aA hv bY
    refine sT R (cB bY) (oM (v:=(.lst _ _)) R (sT R (cB bY) (aC kz cm dQ R R R (sT R (cB bY) (bj R cm eu (sT R (cB bY) (bW (f:=LV.I) bU R ?_)))))))
    obtain ⟨r5,vR,hv⟩:=ae hv
    refine sT R (cB bY) (dq (args:=[.L p1,.I (p0.al.length:Int)]) R P1 R (aw (aw bl)) (Ul vR) R (sT R (cB bY) (eM R (sN (bc (cB bY) (v:=(.bool _)) R (bZ R ?_))))))
    by_cases bV:(!r5)=true
    ·replace hv:=aB hv bV
     refine sF R R bV (sF R R bV (sF R R bV (sF R R bV (sN (aY (cB bV) (v:=(.bool _)) R ?_)))))
     obtain rfl:=oI hv
     exact zS
    ·replace bV:=bF bV
     replace hv:=aA hv bV
     refine sT R (cB bV) (bw R lj pM lk R R (sT R (cB bV) (bw R u7 E3 lW R R ?_)))
     obtain ⟨r7,CJ,hv⟩:=ae hv
     refine sT R (cB bV) (dq (args:=[.agg [.L p0.al,.lst 3 (p0.Rows.map aq.lv)],aM.lv p2]) R P2 R (aw (aw bl)) (Uk CJ) R (sT R (cB bV) (eM R (sN (bc (cB bV) (v:=(.bool _)) R ?_)))))
     obtain rfl:=oI hv
     exact zS
  clear hv
  refine LH.cond (t:=w2) R (fun kf=>?_) (fun kf=>?_)
  ·replace h:=aB h kf
   refine LH.aj R (br R (cr R zQ)) (LH.ret (aO ?_))
   obtain rfl:=oI h
   exact aJ (aT Tryz.results136) (bT R (bT R (bP ⟨aG mN,R,aN R,(Sub.tup (aw (aw bl)))⟩)))
  replace h:=aA h kf
  refine LH.skip (ai ?_)
  obtain ⟨r9,CK,h⟩:=ae h
  refine LH.aj R (sN (bw R lj pM lk R R (dY R (sN (bw R u7 E3 lW R R (sN (dq (args:=[.agg [.L p0.al,.lst 3 (p0.Rows.map aq.lv)],.L p1,aM.lv p2]) R PU R (aw (aw (aw bl))) (Uj CK) R (br R (cr R zQ))))))))) (LH.ret ?_)
  obtain rfl:=oI h
  exact aJ (aT Tryz.results136) (bT R (bT R (bP ⟨aG mN,R,aN R,(Sub.tup (aw (aw bl)))⟩)))
end Go.Proofs.YtiinmaihgmfniaaGreat
