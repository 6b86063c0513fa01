import Derived.Test.YtmollikhdbaikaaGreatZW4
set_option linter.unusedVariables false
set_option linter.unusedSimpArgs false
set_option maxRecDepth 100000
set_option maxHeartbeats 1000000
namespace Go.Proofs.YtmollikhdbaikaaGreat
open Go.L Go.Sh
set_option maxHeartbeats 4000000 in
theorem PD {F:Nat} {p0:al} {p1:al} {r:Bool} (h:xY F p0 p1=some r):aM Tryz.prog 23 [al.lv p0,al.lv p1] (Mem.of []) (.bool r) (Mem.of []):=by
  unfold xY at h
  refine br Tryz.func23 R (nT Tryz.ntmps23 R) (LH.wk (aS [(0,al.lv p0),(1,al.lv p1)] []) (LH.aj [(2,.ag (al.lv p0).cells),(3,.ag (al.lv p1).cells)] [] R (sB (c7 R R R R (sB (c7 R R R R (b4 R zS))))) (LH.seq (LH.aj [(2,.ag (al.lv p0).cells),(3,.ag (al.lv p1).cells),(46,.bool ((p0.ID != p1.ID) || ((!(p0.ae == p1.ae)) || (((p0.ab.length:Int) != (p1.ab.length:Int)) || (((p0.ah.length:Int) != (p1.ah.length:Int)) || ((p0.Uses.length:Int) != (p1.Uses.length:Int)))))))] [] R ?_ ?_))))
  ·refine sN (aw e8 aD ba R R R (sN (bb R aD bQ (sN (aw e8 aD ba R R R (sN (bb R aD bQ (sN (jR R R (bD R ?_))))))))))
   by_cases cA:(p0.ID != p1.ID)=true
   ·exact sF R R cA (sF R R cA (sF R R cA (sF R R cA (sF R R cA (sN (aX (cB cA) (v:=(.bool _)) R (bD R (sF R R R (sF R R R (sF R R R (sF R R R (sF R R R (sF R R R (sF R R R (sN (aX R (v:=(.bool _)) R (bD R (sF R R R (sF R R R (sF R R R (sF R R R (sF R R R (sF R R R (sF R R R (sN (aX R (v:=(.bool _)) R (bD R (sF R R R (sF R R R (sF R R R (sF R R R (sF R R R (sF R R R (sF R R R (sN (aX R (v:=(.bool _)) R (s0 (Wk.to (eC R (eC R (eC (cB (nL cA)) eN))) mN R (aZ R)))))))))))))))))))))))))))))))))))))))
   ·replace cA:=bF cA
    refine sT R (cB cA) (aw iW jC lC R R R (sT R (cB cA) (bb R jC uC (sT R (cB cA) (aw iW jC lC R R R (sT R (cB cA) (bb R jC uC (sT R (cB cA) (Pr R R L8 (sN (aQ (cB cA) (v:=(.bool _)) R (bD R ?_))))))))))))
    by_cases bP:(!(p0.ae == p1.ae))=true
    ·exact sF R R bP (sF R R bP (sF R R bP (sF R R bP (sF R R bP (sF R R bP (sF R R bP (sN (aX (cB bP) (v:=(.bool _)) R (bD R (sF R R R (sF R R R (sF R R R (sF R R R (sF R R R (sF R R R (sF R R R (sN (aX R (v:=(.bool _)) R (bD R (sF R R R (sF R R R (sF R R R (sF R R R (sF R R R (sF R R R (sF R R R (sN (aX R (v:=(.bool _)) R (s0 (Wk.to (eC R (eC R (eC (cB (Eq.trans (nL bP) (gz cA))) eN))) mN R (aZ R)))))))))))))))))))))))))))))))
    ·replace bP:=bF bP
     refine sT R (cB bP) (aw cH cL eY R R R (sT R (cB bP) (bb R cL gr (sT R (cB bP) (bW (f:=ai.lv) eU R (sT R (cB bP) (aw cH cL eY R R R (sT R (cB bP) (bb R cL gr (sT R (cB bP) (bW (f:=ai.lv) eU R (sT R (cB bP) (jR R R (sN (aQ (cB bP) (v:=(.bool _)) R (bD R ?_))))))))))))))))
     by_cases bu:((p0.ab.length:Int) != (p1.ab.length:Int))=true
     ·exact sF R R bu (sF R R bu (sF R R bu (sF R R bu (sF R R bu (sF R R bu (sF R R bu (sN (aX (cB bu) (v:=(.bool _)) R (bD R (sF R R R (sF R R R (sF R R R (sF R R R (sF R R R (sF R R R (sF R R R (sN (aX R (v:=(.bool _)) R (s0 (Wk.to (eC R (eC R (eC (cB (Eq.trans (Eq.trans (nL bu) (gz bP)) (gz cA))) eN))) mN R (aZ R)))))))))))))))))))))
     ·replace bu:=bF bu
      refine sT R (cB bu) (aw dG dX gJ R R R (sT R (cB bu) (bb R dX lu (sT R (cB bu) (bW (f:=LV.bool) jo R (sT R (cB bu) (aw dG dX gJ R R R (sT R (cB bu) (bb R dX lu (sT R (cB bu) (bW (f:=LV.bool) jo R (sT R (cB bu) (jR R R (sN (aQ (cB bu) (v:=(.bool _)) R (bD R ?_))))))))))))))))
      by_cases bH:((p0.ah.length:Int) != (p1.ah.length:Int))=true
      ·exact sF R R bH (sF R R bH (sF R R bH (sF R R bH (sF R R bH (sF R R bH (sF R R bH (sN (aX (cB bH) (v:=(.bool _)) R (s0 (Wk.to (eC R (eC R (eC (cB (Eq.trans (Eq.trans (Eq.trans (nL bH) (gz bu)) (gz bP)) (gz cA))) eN))) mN R (aZ R)))))))))))
      ·replace bH:=bF bH
       exact sT R (cB bH) (aw dH dP gW R R R (sT R (cB bH) (bb R dP km (sT R (cB bH) (bW (f:=ay.lv) iV R (sT R (cB bH) (aw dH dP gW R R R (sT R (cB bH) (bb R dP km (sT R (cB bH) (bW (f:=ay.lv) iV R (sT R (cB bH) (jR R R (sN (aQ (cB bH) (v:=(.bool _)) R (s0 (Wk.to (eC R (eC R (eC (cB (Eq.trans (Eq.trans (Eq.trans (gz bH) (gz bu)) (gz bP)) (gz cA))) eN))) mN R (aZ R))))))))))))))))))
  refine LH.cond (t:=((p0.ID != p1.ID) || ((!(p0.ae == p1.ae)) || (((p0.ab.length:Int) != (p1.ab.length:Int)) || (((p0.ah.length:Int) != (p1.ah.length:Int)) || ((p0.Uses.length:Int) != (p1.Uses.length:Int))))))) R (fun fP=>?_) (fun fP=>?_)
  ·replace h:=aB h fP
   refine LH.aj [(4,.bool false)] [] R (b4 R zS) (LH.ret (aW ?_))
   obtain rfl:=oI h
   exact aO (aT Tryz.results23) (bU R (bS ⟨aN mN,R,aZ R,Sub.rfl⟩))
  replace h:=aA h fP
  refine LH.skip (au (LH.wk (aS [(2,.ag (al.lv p0).cells),(3,.ag (al.lv p1).cells)] []) (LH.seq (LH.aj [(2,.ag (al.lv p0).cells),(3,.ag (al.lv p1).cells),(5,.I 0)] [] R (bo R zS) (LH.block (LH.loop (fun n e m=>∃ (n7:Int),AY F p0 p1 n n7=some r∧e=Env.of [(2,.ag (al.lv p0).cells),(3,.ag (al.lv p1).cells),(5,.I n7)]∧m=Mem.of []) F ⟨0,h,R,R⟩ ?_))))))
  clear h
  rintro n e m ⟨n7,h,rfl,rfl⟩
  rcases n with _ | n
  · cases (show Option.none=some _ from h)
  obtain ⟨aJ,a7⟩:∃ f,f=AY F p0 p1 n:=⟨_,rfl⟩
  replace h:Gr F p0 p1 aJ n7=some r:=a7 ▸ h
  unfold Gr at h
  refine LH.seq (LH.aj [(2,.ag (al.lv p0).cells),(3,.ag (al.lv p1).cells),(5,.I n7),(51,.bool (decide (n7<(p0.ab.length:Int))))] [] R (bj R (sN (aw cH cL eY R R R (sN (bb R cL gr (sN (bW (f:=ai.lv) eU R (sN (fi R R zS))))))))) (LH.cond (t:=(decide (n7<(p0.ab.length:Int)))) R (fun kS=>?_) (fun kS=>?_)))
  ·replace h:=aB h kS
   refine LH.skip (au (LH.wk (aS [(2,.ag (al.lv p0).cells),(3,.ag (al.lv p1).cells),(5,.I n7)] []) (LH.seq (LH.block ?_))))
   obtain ⟨x9,wZ,h⟩:=ao h
   obtain ⟨o9,ru,h⟩:=ao h
   obtain ⟨cM,lH,h⟩:=ao h
   refine LH.di mixed [] [0,0,0,0,0,0,0,0,0,0,0,0] [(2,.ag (al.lv p0).cells),(3,.ag (al.lv p1).cells),(5,.I n7),(65,.bool (!cM))] [] R R (by kernel_rfl) (aF (aw cH cL eY R R R ⟨R,aF (bb R cL gr ⟨R,fF R (aF (eG (f:=ai.lv) eU bT bN R R ai.ok wZ R ⟨R,aF (bd R bT dO bN R R ⟨R,aF (aw cH cL eY R R R ⟨R,aF (bb R cL gr ⟨R,fF R (aF (eG (f:=ai.lv) eU bT bN R R ai.ok ru R ⟨R,aF (bd R bT dO bN R R ⟨R,aF (dQ (args:=[ai.lv x9,ai.lv o9]) R BU R (aH (aH bn)) (Cd lH) R ⟨R,aF (kB R ⟨R,zM⟩)⟩)⟩)⟩))⟩)⟩)⟩)⟩))⟩)⟩)) (LH.cond (t:=(!cM)) R (fun gP=>?_) (fun gP=>?_))
   ·replace h:=aB h gP
    refine LH.aj [(4,.bool false)] [] R (b4 R zS) (LH.ret (bB (aW (dF (bB (aW ?_))))))
    obtain rfl:=oI h
    exact aO (aT Tryz.results23) (bU R (bS ⟨aN mN,R,aZ R,Sub.rfl⟩))
   replace h:=aA h gP
   refine LH.skip (aY (au (LH.aU [(2,.ag (al.lv p0).cells),(3,.ag (al.lv p1).cells),(5,.I (i64 (n7+1)))] [] R (bj R (sN (cD R R (bo R zS)))) ?_)))
   exact bh ⟨(i64 (n7+1)),a7 ▸ h,R,R⟩ (Wk.eq R R R R)
  replace h:=aA h kS
  refine LH.exit (cw (bY (bO (au (LH.wk (aS [(2,.ag (al.lv p0).cells),(3,.ag (al.lv p1).cells)] []) (LH.seq (LH.aj [(2,.ag (al.lv p0).cells),(3,.ag (al.lv p1).cells),(6,.I 0)] [] R (bo R zS) (LH.block (LH.loop (fun n e m=>∃ (n13:Int),yK F p0 p1 n n13=some r∧e=Env.of [(2,.ag (al.lv p0).cells),(3,.ag (al.lv p1).cells),(6,.I n13)]∧m=Mem.of []) F ⟨0,h,R,R⟩ ?_)))))))))
  clear h
  rintro n e m ⟨n13,h,rfl,rfl⟩
  rcases n with _ | n
  · cases (show Option.none=some _ from h)
  obtain ⟨fo,eB⟩:∃ f,f=yK F p0 p1 n:=⟨_,rfl⟩
  replace h:Gs F p0 p1 fo n13=some r:=eB ▸ h
  unfold Gs at h
  refine LH.seq (LH.aj [(2,.ag (al.lv p0).cells),(3,.ag (al.lv p1).cells),(6,.I n13),(70,.bool (decide (n13<(p0.ah.length:Int))))] [] R (bj R (sN (aw dG dX gJ R R R (sN (bb R dX lu (sN (bW (f:=LV.bool) jo R (sN (fi R R zS))))))))) (LH.cond (t:=(decide (n13<(p0.ah.length:Int)))) R (fun sJ=>?_) (fun sJ=>?_)))
  ·replace h:=aB h sJ
   refine LH.skip (au (LH.wk (aS [(2,.ag (al.lv p0).cells),(3,.ag (al.lv p1).cells),(6,.I n13)] []) (LH.seq (LH.block ?_))))
   obtain ⟨J0,Li,h⟩:=ao h
   obtain ⟨Cn,wb,h⟩:=ao h
   refine LH.di mixed [] [0,0,0,0,0,0,0,0,0,0,0] [(2,.ag (al.lv p0).cells),(3,.ag (al.lv p1).cells),(6,.I n13),(83,.bool (!(J0 == Cn)))] [] R R (by kernel_rfl) (aF (aw dG dX gJ R R R ⟨R,aF (bb R dX lu ⟨R,fF R (aF (eG (f:=LV.bool) jo jC lC R R okB Li R ⟨R,aF (bb R jC uC ⟨R,aF (aw dG dX gJ R R R ⟨R,aF (bb R dX lu ⟨R,fF R (aF (eG (f:=LV.bool) jo jC lC R R okB wb R ⟨R,aF (bb R jC uC ⟨R,aF (Pr R R L8 ⟨R,zM⟩)⟩)⟩))⟩)⟩)⟩)⟩))⟩)⟩)) (LH.cond (t:=(!(J0 == Cn))) R (fun lF=>?_) (fun lF=>?_))
   ·replace h:=aB h lF
    refine LH.aj [(4,.bool false)] [] R (b4 R zS) (LH.ret (bB (aW (dF (bB (aW ?_))))))
    obtain rfl:=oI h
    exact aO (aT Tryz.results23) (bU R (bS ⟨aN mN,R,aZ R,Sub.rfl⟩))
   replace h:=aA h lF
   refine LH.skip (aY (au (LH.aU [(2,.ag (al.lv p0).cells),(3,.ag (al.lv p1).cells),(6,.I (i64 (n13+1)))] [] R (bj R (sN (cD R R (bo R zS)))) ?_)))
   exact bh ⟨(i64 (n13+1)),eB ▸ h,R,R⟩ (Wk.eq R R R R)
  replace h:=aA h sJ
  refine LH.exit (cw (bY (bO (au (LH.wk (aS [(2,.ag (al.lv p0).cells),(3,.ag (al.lv p1).cells)] []) (LH.seq (LH.aj [(2,.ag (al.lv p0).cells),(3,.ag (al.lv p1).cells),(7,.I 0)] [] R (bo R zS) (LH.block (LH.loop (fun n e m=>∃ (n18:Int),AZ p0 p1 n n18=some r∧e=Env.of [(2,.ag (al.lv p0).cells),(3,.ag (al.lv p1).cells),(7,.I n18)]∧m=Mem.of []) F ⟨0,h,R,R⟩ ?_)))))))))
  clear h
  rintro n e m ⟨n18,h,rfl,rfl⟩
  rcases n with _ | n
  · cases (show Option.none=some _ from h)
  obtain ⟨oS,mG⟩:∃ f,f=AZ p0 p1 n:=⟨_,rfl⟩
  replace h:Gt p0 p1 oS n18=some r:=mG ▸ h
  unfold Gt at h
  refine LH.seq (LH.aj [(2,.ag (al.lv p0).cells),(3,.ag (al.lv p1).cells),(7,.I n18),(88,.bool (decide (n18<(p0.Uses.length:Int))))] [] R (bj R (sN (aw dH dP gW R R R (sN (bb R dP km (sN (bW (f:=ay.lv) iV R (sN (fi R R zS))))))))) (LH.cond (t:=(decide (n18<(p0.Uses.length:Int)))) R (fun sK=>?_) (fun sK=>?_)))
  ·replace h:=aB h sK
   refine LH.skip (au (LH.wk (aS [(2,.ag (al.lv p0).cells),(3,.ag (al.lv p1).cells),(7,.I n18)] []) (LH.seq (LH.block ?_))))
   obtain ⟨Hx,C1,h⟩:=ao h
   obtain ⟨xd,AE,h⟩:=ao h
   refine LH.di mixed [] [0,0,0,0,0,0,0,0,0,0,0] [(2,.ag (al.lv p0).cells),(3,.ag (al.lv p1).cells),(7,.I n18),(101,.bool (!(decide (Hx=xd))))] [] R R (by kernel_rfl) (aF (aw dH dP gW R R R ⟨R,aF (bb R dP km ⟨R,fF R (aF (eG (f:=ay.lv) iV rF lN R R ay.ok C1 R ⟨R,aF (bd R rF Iz lN R R ⟨R,aF (aw dH dP gW R R R ⟨R,aF (bb R dP km ⟨R,fF R (aF (eG (f:=ay.lv) iV rF lN R R ay.ok AE R ⟨R,aF (bd R rF Iz lN R R ⟨R,aF (Ic R R (Rv Hx xd) ⟨R,zM⟩)⟩)⟩))⟩)⟩)⟩)⟩))⟩)⟩)) (LH.cond (t:=(!(decide (Hx=xd)))) R (fun lG=>?_) (fun lG=>?_))
   ·replace h:=aB h lG
    refine LH.aj [(4,.bool false)] [] R (b4 R zS) (LH.ret (bB (aW (dF (bB (aW ?_))))))
    obtain rfl:=oI h
    exact aO (aT Tryz.results23) (bU R (bS ⟨aN mN,R,aZ R,Sub.rfl⟩))
   replace h:=aA h lG
   refine LH.skip (aY (au (LH.aU [(2,.ag (al.lv p0).cells),(3,.ag (al.lv p1).cells),(7,.I (i64 (n18+1)))] [] R (bj R (sN (cD R R (bo R zS)))) ?_)))
   exact bh ⟨(i64 (n18+1)),mG ▸ h,R,R⟩ (Wk.eq R R R R)
  replace h:=aA h sK
  refine LH.exit (cw (bY (bO (au (LH.aj [(4,.bool true)] [] R (b4 R zS) (LH.ret ?_))))))
  obtain rfl:=oI h
  exact aO (aT Tryz.results23) (bU R (bS ⟨aN mN,R,aZ R,Sub.rfl⟩))
set_option maxHeartbeats 4000000 in
theorem Rq {F:Nat} {p0:aP} {p1:Int} {r:aK × aP} (h:Mi F p0 p1=some r):aM Tryz.prog 15 [.ptr 7 0,.I p1] (Mem.of [(1,.dead),(7,.box [.L p0.L,.I p0.At])]) (.agg [.ak 5 (r.1.aa.map al.lv)]) (Mem.of [(1,.dead),(7,.box [.L r.2.L,.I r.2.At])]):=by
  unfold Mi at h
  refine br Tryz.func15 R (nT Tryz.ntmps15 R) (LH.wk (aS [(0,.ptr 7 0),(1,.I p1)] [(1,.dead),(7,.box [.L p0.L,.I p0.At])]) (LH.aj [(0,.ptr 7 0),(1,.I p1),(4,.ptr 104 0)] [(1,.dead),(7,.box [.L p0.L,.I p0.At]),(104,.box [.nil])] R (sN (iE (id:=104) R fM R R zS)) ?_))
  obtain ⟨r1,ee,h⟩:=ao h
  obtain ⟨r2,fD,h⟩:=ao h
  refine LH.aj [(0,.ptr 7 0),(1,.I p1),(4,.ptr 104 0),(5,.ptr 105 0)] [(1,.dead),(7,.box [.L r1.2.L,.I r1.2.At]),(104,.box [.nil]),(105,.box [.aI true 49 5 (List.map (al.lt true) r2.1.aa)])] R (hZ R (sN (eX (args:=[.ptr 7 0,.I 14,.I 0]) (ml:=[(7,.box [.L p0.L,.I p0.At])]) (de:=[(7,.box [.L r1.2.L,.I r1.2.At])]) R Tq R (aH (aH (aH bn))) (Ro ee) (mC R mN) (cn R cz) R (sN (dQ (args:=[.ak 12 (r1.1.map ax.lv),.I 1000000]) R Of R (aH (aH bn)) (P4 (T:=true) fD) R (rR R (sN (gy R R (sN (gy R R (sN (gy R R (sN (iE (id:=105) R fM R R (s_ (cG R R R bw bx R R R (qR R (bo R zS)))))))))))))))))) (LH.seq ?_)
  obtain ⟨w6,hv,h⟩:=ao h
  refine LH.aj [(0,.ptr 7 0),(4,.ptr 104 0),(5,.ptr 105 0),(29,.bool w6.1)] [(1,.dead),(7,.box [.L w6.2.1,.I w6.2.2]),(104,.box [.nil]),(105,.box [.aI true 49 5 (List.map (al.lt true) r2.1.aa)])] R ?_ ?_
  ·refine bj R (sN (iP R R (bD R ?_)))
   by_cases cc:(decide (p1 > 0))=true
   ·replace hv:=aB hv cc
    refine sT R (cB cc) (oM (v:=(.ptr _ _)) R (sT R (cB cc) (oM (v:=(.int _ _)) R ?_)))
    obtain ⟨r8,K3,hv⟩:=ao hv
    refine sT R (cB cc) (eX (args:=[.ptr 7 0,.I p1]) (ml:=[(7,.box [.L r1.2.L,.I r1.2.At])]) (de:=[(7,.box [.L r8.2.L,.I r8.2.At])]) R s7 R (aH (aH bn)) (zO K3) (mC R mN) (cn R cz) R (sN (aX (cB cc) (v:=(.bool _)) R (bD R ?_))))
    by_cases cS:r8.1=true
    ·replace hv:=aB hv cS
     refine sT R (cB cS) (dD cd cm dC R R (sT R (cB cS) (dM R R R R cm fA (L4 R (cB cS) ((tk (f:=(al.lt true)) dW R).ok) (sT R (cB cS) (iP R R (sN (aX (cB cS) (v:=(.bool _)) R ?_))))))))
     obtain rfl:=oI hv
     exact zS
    ·replace cS:=bF cS
     replace hv:=aA hv cS
     refine sF R R cS (sF R R cS (sF R R cS (sF R R cS (sN (aQ (cB cS) (v:=(.bool _)) R ?_)))))
     obtain rfl:=oI hv
     exact zS
   ·replace cc:=bF cc
    replace hv:=aA hv cc
    refine sF R R cc (sF R R cc (sF R R cc (sN (aQ (cB cc) (v:=(.bool _)) R (bD R (sF R R R (sF R R R (sF R R R (sF R R R (sN (aQ R (v:=(.bool _)) R ?_)))))))))))
    obtain rfl:=oI hv
    exact zS
  clear hv
  refine LH.cond (t:=w6.1) R (fun hY=>?_) (fun hY=>?_)
  ·replace h:=aB h hY
   obtain ⟨bc,xI,h⟩:=ao h
   refine LH.aj [(0,.ptr 7 0),(4,.ptr 104 0),(5,.ptr 105 0),(8,.ptr 108 0)] [(1,.dead),(7,.box [.L w6.2.1,.I w6.2.2]),(104,.box [.nil]),(105,.box [.aI true 49 5 (List.map (al.lt true) r2.1.aa)]),(108,.box [.I bc.ID,.ak 5 (bc.ab.map ai.lv),.aI true 4 1 (bc.ah.map LV.bool),.aI true 88 3 (bc.Uses.map ay.lv),.bool bc.ae])] R ?_ ?_
   ·refine sN (dD cd cm dC R R (sN (dM R R R R cm fA (sX ((iQ (f:=(al.lt true)) dW cC b8 R R al.B3 xI R).ok) (sX ((nz R cC fR b8 R R).ok) ?_)))))
    exact sN (iE (id:=108) R lz R R (s_ (cG R R R cC b8 R R R zS)))
   refine LH.seq ?_
   obtain ⟨dz,Ff,h⟩:=ao h
   refine LH.aj [(0,.ptr 7 0),(4,.ptr 104 0),(5,.ptr 105 0),(8,.ptr 108 0),(35,.I dz.1)] [(1,.dead),(7,.box [.L dz.2.L,.I dz.2.At]),(104,.box [.nil]),(105,.box [.aI true 49 5 (List.map (al.lt true) r2.1.aa)]),(108,.box [.I bc.ID,.ak 5 (bc.ab.map ai.lv),.aI true 4 1 (bc.ah.map LV.bool),.aI true 88 3 (bc.Uses.map ay.lv),.bool bc.ae])] R (hZ R (sN (eX (args:=[.ptr 7 0,.I 4]) (ml:=[(7,.box [.L w6.2.1,.I w6.2.2])]) (de:=[(7,.box [.L dz.2.L,.I dz.2.At])]) R gG R (aH (aH bn)) (kN Ff) (mC R mN) (cn R cz) R zS))) (LH.block (LH.aj [(0,.ptr 7 0),(4,.ptr 104 0),(5,.ptr 105 0),(8,.ptr 108 0),(35,.I dz.1),(42,.bool (dz.1 == 0))] [(1,.dead),(7,.box [.L dz.2.L,.I dz.2.At]),(104,.box [.nil]),(105,.box [.aI true 49 5 (List.map (al.lt true) r2.1.aa)]),(108,.box [.I bc.ID,.ak 5 (bc.ab.map ai.lv),.aI true 4 1 (bc.ah.map LV.bool),.aI true 88 3 (bc.Uses.map ay.lv),.bool bc.ae])] R (sN (gp R R (b4 R zS))) (LH.cond (t:=(dz.1 == 0)) R (fun ou=>?_) (fun ou=>?_))))
   ·replace h:=aB h ou
    obtain ⟨kL,AB,h⟩:=ao h
    refine LH.aU [(4,.ptr 104 0),(5,.ptr 105 0),(8,.ag [.I bc.ID,.ak 5 (bc.ab.map ai.lv),.ak 1 (kL.map LV.bool),.ak 3 (bc.Uses.map ay.lv),.bool bc.ae])] [(1,.dead),(7,.box [.L dz.2.L,.I dz.2.At]),(104,.box [.nil]),(105,.box [.ak 5 (r2.1.aa.map al.lv)])] R (sN (dD dG dX gJ R R (sN (dM R R R R dX lu (sN (jZ (f:=LV.bool) (ys:=[true]) jo Hv lC R R R okB (cV.wk (aS [(4,.ptr 104 0),(5,.ptr 105 0),(8,.ptr 108 0),(45,.aI true 4 1 (bc.ah.map LV.bool)),(46,.ak 1 (List.map LV.bool [true]))] [(1,.dead),(7,.box [.L dz.2.L,.I dz.2.At]),(104,.box [.nil]),(105,.box [.aI true 49 5 (List.map (al.lt true) r2.1.aa)]),(108,.box [.I bc.ID,.ak 5 (bc.ab.map ai.lv),.aI true 4 1 (bc.ah.map LV.bool),.aI true 88 3 (bc.Uses.map ay.lv),.bool bc.ae])]) (Bc (f:=LV.bool) (g:=LV.bool) (es:=[(4,.ptr 104 0),(5,.ptr 105 0),(8,.ptr 108 0),(45,.aI true 4 1 (bc.ah.map LV.bool)),(46,.ak 1 (List.map LV.bool [true]))]) (ml:=[(1,.dead),(7,.box [.L dz.2.L,.I dz.2.At]),(104,.box [.nil]),(105,.box [.aI true 49 5 (List.map (al.lt true) r2.1.aa)]),(108,.box [.I bc.ID,.ak 5 (bc.ab.map ai.lv),.aI true 4 1 (bc.ah.map LV.bool),.aI true 88 3 (bc.Uses.map ay.lv),.bool bc.ae])]) (jw:=[(4,.ptr 104 0),(5,.ptr 105 0),(8,.ptr 108 0),(45,.ak 1 (bc.ah.map LV.bool)),(46,.ak 1 (List.map LV.bool [true]))]) (de:=[(1,.dead),(7,.box [.L dz.2.L,.I dz.2.At]),(104,.box [.nil]),(105,.box [.ak 5 (r2.1.aa.map al.lv)]),(108,.box (al.lv bc).cells)]) Ps jo Hv lC R R AB (fun _=>Rel.bool) (fun _=>R) (wB (Rel.ptr R) (wB (Rel.ptr R) (wB (Rel.ptr R) (wB (Rel.aI (fun _=>Rel.bool) (fun _=>R)) (wB (Rel.ak (fun _=>Rel.bool) (fun _=>R)) Ql))))) (uh ib.dead (uh (ib.box (eT (Rel.ak (fun _=>Rel.int) (fun _=>R)) (eT Rel.int lK))) (uh (ib.box (eT Rel.nil lK)) (uh (ib.box (eT (Rel.aI al.pP (fun _=>R)) lK)) (uh (ib.box (eT Rel.int (eT (Rel.ak ai.rel (fun _=>R)) (eT (Rel.aI (fun _=>Rel.bool) (fun _=>R)) (eT (Rel.aI ay.rel (fun _=>R)) (eT Rel.bool lK)))))) L1))))) (sN (dD dG dX gJ R R (s_ (cG R R R dX gJ R R R (s0 ((Wk.trans (aS [(4,.ptr 104 0),(5,.ptr 105 0),(8,.ptr 108 0)] [(1,.dead),(7,.box [.L dz.2.L,.I dz.2.At]),(104,.box [.nil]),(105,.box [.ak 5 (r2.1.aa.map al.lv)]),(108,.box [.I bc.ID,.ak 5 (bc.ab.map ai.lv),.ak 1 (kL.map LV.bool),.ak 3 (bc.Uses.map ay.lv),.bool bc.ae])]) (Wk.trans (Wk.bg 108 [.I bc.ID,.ak 5 (bc.ab.map ai.lv),.ak 1 (kL.map LV.bool),.ak 3 (bc.Uses.map ay.lv),.bool bc.ae] R R R (bM R)) (Wk.eq R R R R))))))))))))))))) (aY (au (LH.aj [(4,.ptr 104 0),(5,.ptr 105 0),(8,.ag [.I bc.ID,.ak 5 (bc.ab.map ai.lv),.ak 1 (kL.map LV.bool),.ak 3 (bc.Uses.map ay.lv),.bool bc.ae]),(9,.nil)] [(1,.dead),(7,.box [.L dz.2.L,.I dz.2.At]),(104,.box [.nil]),(105,.box [.ak 5 (r2.1.aa.map al.lv)])] R (kX R zS) ?_)))
    obtain ⟨zJ,SQ,h⟩:=ao h
    refine LH.aj [(4,.ptr 104 0),(5,.ptr 105 0),(8,.ag [.I bc.ID,.ak 5 (bc.ab.map ai.lv),.ak 1 (kL.map LV.bool),.ak 3 (bc.Uses.map ay.lv),.bool bc.ae]),(9,.arr 167 zJ.length)] [(1,.dead),(7,.box [.L dz.2.L,.I dz.2.At]),(104,.box [.nil]),(105,.box [.ak 5 (r2.1.aa.map al.lv)]),(167,.arr 49 5 (zJ.map al.lv))] R (Iv R (sN (dD cd cm dC R R (sN (dM R R R R cm fA (sN (C9 (f:=al.lv) (id:=167) R dW qq b8 R R SQ R (nM R zS)))))))) ?_
    obtain ⟨Cn,wb,h⟩:=ao h
    refine LH.aj [(4,.ptr 104 0),(5,.ptr 105 0),(9,.ak 5 (List.map al.lv (zJ.set ((0:Int).toNat) (al.mk bc.ID bc.ab kL bc.Uses bc.ae))))] [(1,.dead),(7,.box [.L dz.2.L,.I dz.2.At]),(104,.box [.nil]),(105,.box [.ak 5 (r2.1.aa.map al.lv)])] R (j0 R (sN (bd R cC fR b8 R R (sN (gS (f:=al.lv) dW cC b8 R R R wb (s_ (qd (f:=al.lv) (z':=(al.mk bc.ID bc.ab kL bc.Uses bc.ae)) R R R R cC b8 R (dB wb).2 R (s0 ((Wk.trans (Wk.to (el:=[(4,.ptr 104 0),(5,.ptr 105 0),(9,.arr 167 (List.length (zJ.set ((0:Int).toNat) (al.mk bc.ID bc.ab kL bc.Uses bc.ae))))]) (ml:=[(1,.dead),(7,.box [.L dz.2.L,.I dz.2.At]),(104,.box [.nil]),(105,.box [.ak 5 (r2.1.aa.map al.lv)]),(167,.arr 49 5 (List.map al.lv (zJ.set ((0:Int).toNat) (al.mk bc.ID bc.ab kL bc.Uses bc.ae))))]) (eC R (eC R (eC (congrArg (LV.arr 167) (by simp)) eN))) ⟨R,R,R,R,R,trivial⟩ R (aZ R)) (Wk.trans (Wk.lk (f:=al.lv) (fy:=[(4,.ptr 104 0),(5,.ptr 105 0),(9,.ak 5 (List.map al.lv (zJ.set ((0:Int).toNat) (al.mk bc.ID bc.ab kL bc.Uses bc.ae))))]) 167 49 5 (zJ.set ((0:Int).toNat) (al.mk bc.ID bc.ab kL bc.Uses bc.ae)) R R (bM R) (fK R (fK R (fZ fN)))) (Wk.eq R R R R)))))))))))) (LH.aU [(4,.ptr 104 0),(5,.ag [.ak 5 (List.map al.lv (zJ.set ((0:Int).toNat) (al.mk bc.ID bc.ab kL bc.Uses bc.ae)))])] [(1,.dead),(7,.box [.L dz.2.L,.I dz.2.At]),(104,.box [.nil])] R (fp R (sN (dD cd cm dC R R (s_ (cG R R R cm dC R R R (s0 ((Wk.trans (aS [(4,.ptr 104 0),(5,.ptr 105 0)] [(1,.dead),(7,.box [.L dz.2.L,.I dz.2.At]),(104,.box [.nil]),(105,.box [.ak 5 (List.map al.lv (zJ.set ((0:Int).toNat) (al.mk bc.ID bc.ab kL bc.Uses bc.ae)))])]) (Wk.trans (Wk.bg 105 [.ak 5 (List.map al.lv (zJ.set ((0:Int).toNat) (al.mk bc.ID bc.ab kL bc.Uses bc.ae)))] R R R (bM R)) (Wk.eq R R R R)))))))))) (au (LH.aj [(4,.ag [.ak 5 (List.map al.lv (zJ.set ((0:Int).toNat) (al.mk bc.ID bc.ab kL bc.Uses bc.ae)))])] [(1,.dead),(7,.box [.L dz.2.L,.I dz.2.At])] R (sN (bd R bw cF bx R R (s_ (cG R R R bw bx R R R (s0 ((Wk.trans (aS [(4,.ptr 104 0)] [(1,.dead),(7,.box [.L dz.2.L,.I dz.2.At]),(104,.box [.ak 5 (List.map al.lv (zJ.set ((0:Int).toNat) (al.mk bc.ID bc.ab kL bc.Uses bc.ae)))])]) (Wk.trans (Wk.bg 104 [.ak 5 (List.map al.lv (zJ.set ((0:Int).toNat) (al.mk bc.ID bc.ab kL bc.Uses bc.ae)))] R R R (bM R)) (Wk.eq R R R R))))))))) (LH.ret ?_))))
    obtain rfl:=oI h
    exact aO (aT Tryz.results15) (cT R bw cF bx R R (bS ⟨aN (mC R (mC R mN)),R,aZ R,Sub.rfl⟩))
   replace h:=aA h ou
   refine LH.aj [(0,.ptr 7 0),(4,.ptr 104 0),(5,.ptr 105 0),(8,.ptr 108 0),(35,.I dz.1),(49,.bool (dz.1 == 1))] [(1,.dead),(7,.box [.L dz.2.L,.I dz.2.At]),(104,.box [.nil]),(105,.box [.aI true 49 5 (List.map (al.lt true) r2.1.aa)]),(108,.box [.I bc.ID,.ak 5 (bc.ab.map ai.lv),.aI true 4 1 (bc.ah.map LV.bool),.aI true 88 3 (bc.Uses.map ay.lv),.bool bc.ae])] R (sN (gp R R (b4 R zS))) (LH.cond (t:=(dz.1 == 1)) R (fun lF=>?_) (fun lF=>?_))
   ·replace h:=aB h lF
    obtain ⟨jU,Sp,h⟩:=ao h
    refine LH.aU [(4,.ptr 104 0),(5,.ptr 105 0),(8,.ag [.I jU.1,.ak 5 (bc.ab.map ai.lv),.aI true 4 1 (bc.ah.map LV.bool),.aI true 88 3 (bc.Uses.map ay.lv),.bool bc.ae])] [(1,.dead),(7,.box [.L jU.2.L,.I jU.2.At]),(104,.box [.nil]),(105,.box [.aI true 49 5 (List.map (al.lt true) r2.1.aa)])] R (hZ R (sN (eX (args:=[.ptr 7 0,.I 5]) (ml:=[(7,.box [.L dz.2.L,.I dz.2.At])]) (de:=[(7,.box [.L jU.2.L,.I jU.2.At])]) R gG R (aH (aH bn)) (kN Sp) (mC R mN) (cn R cz) R (sN (dD e8 aD ba R R (s_ (cG R R R aD ba R R R (s0 ((Wk.trans (aS [(4,.ptr 104 0),(5,.ptr 105 0),(8,.ptr 108 0)] [(1,.dead),(7,.box [.L jU.2.L,.I jU.2.At]),(104,.box [.nil]),(105,.box [.aI true 49 5 (List.map (al.lt true) r2.1.aa)]),(108,.box [.I jU.1,.ak 5 (bc.ab.map ai.lv),.aI true 4 1 (bc.ah.map LV.bool),.aI true 88 3 (bc.Uses.map ay.lv),.bool bc.ae])]) (Wk.trans (Wk.bg 108 [.I jU.1,.ak 5 (bc.ab.map ai.lv),.aI true 4 1 (bc.ah.map LV.bool),.aI true 88 3 (bc.Uses.map ay.lv),.bool bc.ae] R R R (bM R)) (Wk.eq R R R R)))))))))))) (aY (au (LH.wk (Wk.loose (el:=[(4,.ptr 104 0),(5,.ptr 105 0),(8,.ag [.I jU.1,.ak 5 (bc.ab.map ai.lv),.aI true 4 1 (bc.ah.map LV.bool),.aI true 88 3 (bc.Uses.map ay.lv),.bool bc.ae])]) (ml:=[(1,.dead),(7,.box [.L jU.2.L,.I jU.2.At]),(104,.box [.nil]),(105,.box [.aI true 49 5 (List.map (al.lt true) r2.1.aa)])]) (fy:=[(4,.ptr 104 0),(5,.ptr 105 0),(8,.ag [.I jU.1,.ak 5 (bc.ab.map ai.lv),.ak 1 (bc.ah.map LV.bool),.ak 3 (bc.Uses.map ay.lv),.bool bc.ae])]) (de:=[(1,.dead),(7,.box [.L jU.2.L,.I jU.2.At]),(104,.box [.nil]),(105,.box [.ak 5 (r2.1.aa.map al.lv)])]) Ps (wB (Rel.ptr R) (wB (Rel.ptr R) (wB (Rel.ag (eT Rel.int (eT (Rel.ak ai.rel (fun _=>R)) (eT (Rel.aI (fun _=>Rel.bool) (fun _=>R)) (eT (Rel.aI ay.rel (fun _=>R)) (eT Rel.bool lK)))))) Ql))) (uh ib.dead (uh (ib.box (eT (Rel.ak (fun _=>Rel.int) (fun _=>R)) (eT Rel.int lK))) (uh (ib.box (eT Rel.nil lK)) (uh (ib.box (eT (Rel.aI al.pP (fun _=>R)) lK)) L1))))) (LH.aj [(4,.ptr 104 0),(5,.ptr 105 0),(8,.ag [.I jU.1,.ak 5 (bc.ab.map ai.lv),.ak 1 (bc.ah.map LV.bool),.ak 3 (bc.Uses.map ay.lv),.bool bc.ae]),(9,.nil)] [(1,.dead),(7,.box [.L jU.2.L,.I jU.2.At]),(104,.box [.nil]),(105,.box [.ak 5 (r2.1.aa.map al.lv)])] R (kX R zS) ?_))))
    obtain ⟨qY,Fw,h⟩:=ao h
    refine LH.aj [(4,.ptr 104 0),(5,.ptr 105 0),(8,.ag [.I jU.1,.ak 5 (bc.ab.map ai.lv),.ak 1 (bc.ah.map LV.bool),.ak 3 (bc.Uses.map ay.lv),.bool bc.ae]),(9,.arr 167 qY.length)] [(1,.dead),(7,.box [.L jU.2.L,.I jU.2.At]),(104,.box [.nil]),(105,.box [.ak 5 (r2.1.aa.map al.lv)]),(167,.arr 49 5 (qY.map al.lv))] R (Iv R (sN (dD cd cm dC R R (sN (dM R R R R cm fA (sN (C9 (f:=al.lv) (id:=167) R dW qq b8 R R Fw R (nM R zS)))))))) ?_
    obtain ⟨Hx,C1,h⟩:=ao h
    refine LH.aj [(4,.ptr 104 0),(5,.ptr 105 0),(9,.ak 5 (List.map al.lv (qY.set ((0:Int).toNat) (al.mk jU.1 bc.ab bc.ah bc.Uses bc.ae))))] [(1,.dead),(7,.box [.L jU.2.L,.I jU.2.At]),(104,.box [.nil]),(105,.box [.ak 5 (r2.1.aa.map al.lv)])] R (j0 R (sN (bd R cC fR b8 R R (sN (gS (f:=al.lv) dW cC b8 R R R C1 (s_ (qd (f:=al.lv) (z':=(al.mk jU.1 bc.ab bc.ah bc.Uses bc.ae)) R R R R cC b8 R (dB C1).2 R (s0 ((Wk.trans (Wk.to (el:=[(4,.ptr 104 0),(5,.ptr 105 0),(9,.arr 167 (List.length (qY.set ((0:Int).toNat) (al.mk jU.1 bc.ab bc.ah bc.Uses bc.ae))))]) (ml:=[(1,.dead),(7,.box [.L jU.2.L,.I jU.2.At]),(104,.box [.nil]),(105,.box [.ak 5 (r2.1.aa.map al.lv)]),(167,.arr 49 5 (List.map al.lv (qY.set ((0:Int).toNat) (al.mk jU.1 bc.ab bc.ah bc.Uses bc.ae))))]) (eC R (eC R (eC (congrArg (LV.arr 167) (by simp)) eN))) ⟨R,R,R,R,R,trivial⟩ R (aZ R)) (Wk.trans (Wk.lk (f:=al.lv) (fy:=[(4,.ptr 104 0),(5,.ptr 105 0),(9,.ak 5 (List.map al.lv (qY.set ((0:Int).toNat) (al.mk jU.1 bc.ab bc.ah bc.Uses bc.ae))))]) 167 49 5 (qY.set ((0:Int).toNat) (al.mk jU.1 bc.ab bc.ah bc.Uses bc.ae)) R R (bM R) (fK R (fK R (fZ fN)))) (Wk.eq R R R R)))))))))))) (LH.aU [(4,.ptr 104 0),(5,.ag [.ak 5 (List.map al.lv (qY.set ((0:Int).toNat) (al.mk jU.1 bc.ab bc.ah bc.Uses bc.ae)))])] [(1,.dead),(7,.box [.L jU.2.L,.I jU.2.At]),(104,.box [.nil])] R (fp R (sN (dD cd cm dC R R (s_ (cG R R R cm dC R R R (s0 ((Wk.trans (aS [(4,.ptr 104 0),(5,.ptr 105 0)] [(1,.dead),(7,.box [.L jU.2.L,.I jU.2.At]),(104,.box [.nil]),(105,.box [.ak 5 (List.map al.lv (qY.set ((0:Int).toNat) (al.mk jU.1 bc.ab bc.ah bc.Uses bc.ae)))])]) (Wk.trans (Wk.bg 105 [.ak 5 (List.map al.lv (qY.set ((0:Int).toNat) (al.mk jU.1 bc.ab bc.ah bc.Uses bc.ae)))] R R R (bM R)) (Wk.eq R R R R)))))))))) (au (LH.aj [(4,.ag [.ak 5 (List.map al.lv (qY.set ((0:Int).toNat) (al.mk jU.1 bc.ab bc.ah bc.Uses bc.ae)))])] [(1,.dead),(7,.box [.L jU.2.L,.I jU.2.At])] R (sN (bd R bw cF bx R R (s_ (cG R R R bw bx R R R (s0 ((Wk.trans (aS [(4,.ptr 104 0)] [(1,.dead),(7,.box [.L jU.2.L,.I jU.2.At]),(104,.box [.ak 5 (List.map al.lv (qY.set ((0:Int).toNat) (al.mk jU.1 bc.ab bc.ah bc.Uses bc.ae)))])]) (Wk.trans (Wk.bg 104 [.ak 5 (List.map al.lv (qY.set ((0:Int).toNat) (al.mk jU.1 bc.ab bc.ah bc.Uses bc.ae)))] R R R (bM R)) (Wk.eq R R R R))))))))) (LH.ret ?_))))
    obtain rfl:=oI h
    exact aO (aT Tryz.results15) (cT R bw cF bx R R (bS ⟨aN (mC R (mC R mN)),R,aZ R,Sub.rfl⟩))
   replace h:=aA h lF
   refine LH.aj [(0,.ptr 7 0),(4,.ptr 104 0),(5,.ptr 105 0),(8,.ptr 108 0),(54,.bool (dz.1 == 2))] [(1,.dead),(7,.box [.L dz.2.L,.I dz.2.At]),(104,.box [.nil]),(105,.box [.aI true 49 5 (List.map (al.lt true) r2.1.aa)]),(108,.box [.I bc.ID,.ak 5 (bc.ab.map ai.lv),.aI true 4 1 (bc.ah.map LV.bool),.aI true 88 3 (bc.Uses.map ay.lv),.bool bc.ae])] R (sN (gp R R (b4 R zS))) (LH.cond (t:=(dz.1 == 2)) R (fun ov=>?_) (fun ov=>?_))
   ·replace h:=aB h ov
    obtain ⟨jr,Ax,h⟩:=ao h
    obtain ⟨v23,AD,h⟩:=ao h
    refine LH.Ph (n:=6) mixed [] [0,1108,0,100007,0,0] [(4,.ptr 104 0),(5,.ptr 105 0),(8,.ptr 108 0),(57,.aI true 88 3 (bc.Uses.map ay.lv)),(61,.ak 3 (List.map ay.lv [(ay.mk jr.1 0 0)]))] [(1,.dead),(7,.box [.L jr.2.L,.I jr.2.At]),(104,.box [.nil]),(105,.box [.aI true 49 5 (List.map (al.lt true) r2.1.aa)]),(108,.box [.I bc.ID,.ak 5 (bc.ab.map ai.lv),.aI true 4 1 (bc.ah.map LV.bool),.aI true 88 3 (bc.Uses.map ay.lv),.bool bc.ae])] [(4,.ptr 104 0),(5,.ptr 105 0),(8,.ag [.I bc.ID,.ak 5 (bc.ab.map ai.lv),.ak 1 (bc.ah.map LV.bool),.ak 3 (v23.map ay.lv),.bool bc.ae])] [(1,.dead),(7,.box [.L jr.2.L,.I jr.2.At]),(104,.box [.nil]),(105,.box [.ak 5 (r2.1.aa.map al.lv)])] R (Nat.le_of_ble_eq_true R) R (by kernel_rfl) ?_ ?_ ?_
    ·exact aF (dD dH dP gW R R ⟨R,mD R R R (fun _ b _ d=>dM R b R R dP km d) (BX R (mW R R R (fun _ b _ d=>eX (args:=[.ptr 7 0,.I 0,.I 9]) (ml:=[(7,.box [.L dz.2.L,.I dz.2.At])]) (de:=[(7,.box [.L jr.2.L,.I jr.2.At])]) R nK R (aH (aH (aH bn))) (nF Ax) (mC b mN) (cn R cz) R d) (aF (fU (vs:=[(0,.I jr.1)]) Mb IE R (lf oZ ba aD R R R fT) ⟨R,aF (jZ (f:=ay.lv) (ys:=[(ay.mk jr.1 0 0)]) iV Bm lN R R R ay.ok ⟨R,zM⟩)⟩))))⟩)
    ·exact cV.wk (aS [(4,.ptr 104 0),(5,.ptr 105 0),(8,.ptr 108 0),(57,.aI true 88 3 (bc.Uses.map ay.lv)),(61,.ak 3 (List.map ay.lv [(ay.mk jr.1 0 0)]))] [(1,.dead),(7,.box [.L jr.2.L,.I jr.2.At]),(104,.box [.nil]),(105,.box [.aI true 49 5 (List.map (al.lt true) r2.1.aa)]),(108,.box [.I bc.ID,.ak 5 (bc.ab.map ai.lv),.aI true 4 1 (bc.ah.map LV.bool),.aI true 88 3 (bc.Uses.map ay.lv),.bool bc.ae])]) (Bc (f:=ay.lv) (g:=ay.lv) (es:=[(4,.ptr 104 0),(5,.ptr 105 0),(8,.ptr 108 0),(57,.aI true 88 3 (bc.Uses.map ay.lv)),(61,.ak 3 (List.map ay.lv [(ay.mk jr.1 0 0)]))]) (ml:=[(1,.dead),(7,.box [.L jr.2.L,.I jr.2.At]),(104,.box [.nil]),(105,.box [.aI true 49 5 (List.map (al.lt true) r2.1.aa)]),(108,.box [.I bc.ID,.ak 5 (bc.ab.map ai.lv),.aI true 4 1 (bc.ah.map LV.bool),.aI true 88 3 (bc.Uses.map ay.lv),.bool bc.ae])]) (jw:=[(4,.ptr 104 0),(5,.ptr 105 0),(8,.ptr 108 0),(57,.ak 3 (bc.Uses.map ay.lv)),(61,.ak 3 (List.map ay.lv [(ay.mk jr.1 0 0)]))]) (de:=[(1,.dead),(7,.box [.L jr.2.L,.I jr.2.At]),(104,.box [.nil]),(105,.box [.ak 5 (r2.1.aa.map al.lv)]),(108,.box (al.lv bc).cells)]) Ps iV Bm lN R R AD ay.rel (fun _=>R) (wB (Rel.ptr R) (wB (Rel.ptr R) (wB (Rel.ptr R) (wB (Rel.aI ay.rel (fun _=>R)) (wB (Rel.ak ay.rel (fun _=>R)) Ql))))) (uh ib.dead (uh (ib.box (eT (Rel.ak (fun _=>Rel.int) (fun _=>R)) (eT Rel.int lK))) (uh (ib.box (eT Rel.nil lK)) (uh (ib.box (eT (Rel.aI al.pP (fun _=>R)) lK)) (uh (ib.box (eT Rel.int (eT (Rel.ak ai.rel (fun _=>R)) (eT (Rel.aI (fun _=>Rel.bool) (fun _=>R)) (eT (Rel.aI ay.rel (fun _=>R)) (eT Rel.bool lK)))))) L1))))) (sN (dD dH dP gW R R (s_ (cG R R R dP gW R R R (s0 ((Wk.trans (aS [(4,.ptr 104 0),(5,.ptr 105 0),(8,.ptr 108 0)] [(1,.dead),(7,.box [.L jr.2.L,.I jr.2.At]),(104,.box [.nil]),(105,.box [.ak 5 (r2.1.aa.map al.lv)]),(108,.box [.I bc.ID,.ak 5 (bc.ab.map ai.lv),.ak 1 (bc.ah.map LV.bool),.ak 3 (v23.map ay.lv),.bool bc.ae])]) (Wk.trans (Wk.bg 108 [.I bc.ID,.ak 5 (bc.ab.map ai.lv),.ak 1 (bc.ah.map LV.bool),.ak 3 (v23.map ay.lv),.bool bc.ae] R R R (bM R)) (Wk.eq R R R R))))))))))
    refine aY (au (LH.aj [(4,.ptr 104 0),(5,.ptr 105 0),(8,.ag [.I bc.ID,.ak 5 (bc.ab.map ai.lv),.ak 1 (bc.ah.map LV.bool),.ak 3 (v23.map ay.lv),.bool bc.ae]),(9,.nil)] [(1,.dead),(7,.box [.L jr.2.L,.I jr.2.At]),(104,.box [.nil]),(105,.box [.ak 5 (r2.1.aa.map al.lv)])] R (kX R zS) ?_))
    obtain ⟨v24,SV,h⟩:=ao h
    refine LH.aj [(4,.ptr 104 0),(5,.ptr 105 0),(8,.ag [.I bc.ID,.ak 5 (bc.ab.map ai.lv),.ak 1 (bc.ah.map LV.bool),.ak 3 (v23.map ay.lv),.bool bc.ae]),(9,.arr 167 v24.length)] [(1,.dead),(7,.box [.L jr.2.L,.I jr.2.At]),(104,.box [.nil]),(105,.box [.ak 5 (r2.1.aa.map al.lv)]),(167,.arr 49 5 (v24.map al.lv))] R (Iv R (sN (dD cd cm dC R R (sN (dM R R R R cm fA (sN (C9 (f:=al.lv) (id:=167) R dW qq b8 R R SV R (nM R zS)))))))) ?_
    obtain ⟨MF,H0,h⟩:=ao h
    refine LH.aj [(4,.ptr 104 0),(5,.ptr 105 0),(9,.ak 5 (List.map al.lv (v24.set ((0:Int).toNat) (al.mk bc.ID bc.ab bc.ah v23 bc.ae))))] [(1,.dead),(7,.box [.L jr.2.L,.I jr.2.At]),(104,.box [.nil]),(105,.box [.ak 5 (r2.1.aa.map al.lv)])] R (j0 R (sN (bd R cC fR b8 R R (sN (gS (f:=al.lv) dW cC b8 R R R H0 (s_ (qd (f:=al.lv) (z':=(al.mk bc.ID bc.ab bc.ah v23 bc.ae)) R R R R cC b8 R (dB H0).2 R (s0 ((Wk.trans (Wk.to (el:=[(4,.ptr 104 0),(5,.ptr 105 0),(9,.arr 167 (List.length (v24.set ((0:Int).toNat) (al.mk bc.ID bc.ab bc.ah v23 bc.ae))))]) (ml:=[(1,.dead),(7,.box [.L jr.2.L,.I jr.2.At]),(104,.box [.nil]),(105,.box [.ak 5 (r2.1.aa.map al.lv)]),(167,.arr 49 5 (List.map al.lv (v24.set ((0:Int).toNat) (al.mk bc.ID bc.ab bc.ah v23 bc.ae))))]) (eC R (eC R (eC (congrArg (LV.arr 167) (by simp)) eN))) ⟨R,R,R,R,R,trivial⟩ R (aZ R)) (Wk.trans (Wk.lk (f:=al.lv) (fy:=[(4,.ptr 104 0),(5,.ptr 105 0),(9,.ak 5 (List.map al.lv (v24.set ((0:Int).toNat) (al.mk bc.ID bc.ab bc.ah v23 bc.ae))))]) 167 49 5 (v24.set ((0:Int).toNat) (al.mk bc.ID bc.ab bc.ah v23 bc.ae)) R R (bM R) (fK R (fK R (fZ fN)))) (Wk.eq R R R R)))))))))))) (LH.aU [(4,.ptr 104 0),(5,.ag [.ak 5 (List.map al.lv (v24.set ((0:Int).toNat) (al.mk bc.ID bc.ab bc.ah v23 bc.ae)))])] [(1,.dead),(7,.box [.L jr.2.L,.I jr.2.At]),(104,.box [.nil])] R (fp R (sN (dD cd cm dC R R (s_ (cG R R R cm dC R R R (s0 ((Wk.trans (aS [(4,.ptr 104 0),(5,.ptr 105 0)] [(1,.dead),(7,.box [.L jr.2.L,.I jr.2.At]),(104,.box [.nil]),(105,.box [.ak 5 (List.map al.lv (v24.set ((0:Int).toNat) (al.mk bc.ID bc.ab bc.ah v23 bc.ae)))])]) (Wk.trans (Wk.bg 105 [.ak 5 (List.map al.lv (v24.set ((0:Int).toNat) (al.mk bc.ID bc.ab bc.ah v23 bc.ae)))] R R R (bM R)) (Wk.eq R R R R)))))))))) (au (LH.aj [(4,.ag [.ak 5 (List.map al.lv (v24.set ((0:Int).toNat) (al.mk bc.ID bc.ab bc.ah v23 bc.ae)))])] [(1,.dead),(7,.box [.L jr.2.L,.I jr.2.At])] R (sN (bd R bw cF bx R R (s_ (cG R R R bw bx R R R (s0 ((Wk.trans (aS [(4,.ptr 104 0)] [(1,.dead),(7,.box [.L jr.2.L,.I jr.2.At]),(104,.box [.ak 5 (List.map al.lv (v24.set ((0:Int).toNat) (al.mk bc.ID bc.ab bc.ah v23 bc.ae)))])]) (Wk.trans (Wk.bg 104 [.ak 5 (List.map al.lv (v24.set ((0:Int).toNat) (al.mk bc.ID bc.ab bc.ah v23 bc.ae)))] R R R (bM R)) (Wk.eq R R R R))))))))) (LH.ret ?_))))
    obtain rfl:=oI h
    exact aO (aT Tryz.results15) (cT R bw cF bx R R (bS ⟨aN (mC R (mC R mN)),R,aZ R,Sub.rfl⟩))
   replace h:=aA h ov
   obtain ⟨v26,SX,h⟩:=ao h
   refine LH.aU [(4,.ptr 104 0),(5,.ptr 105 0),(8,.ag (al.lv bc).cells)] [(1,.dead),(7,.box [.L dz.2.L,.I dz.2.At]),(104,.box [.nil]),(105,.box [.ak 5 (v26.map al.lv)])] R (sN (dD cd cm dC R R (sN (dM R R R R cm fA (sN (tg R R R cC fR b8 R R (sN (jZ (f:=(al.lt true)) (ys:=[bc]) dW qq b8 R R R al.B3 (cV.wk ((Wk.trans (aS [(4,.ptr 104 0),(5,.ptr 105 0),(8,.ptr 108 0),(37,.aI true 49 5 (List.map (al.lt true) r2.1.aa)),(39,.ak 5 (List.map (al.lt true) [bc]))] [(1,.dead),(7,.box [.L dz.2.L,.I dz.2.At]),(104,.box [.nil]),(105,.box [.aI true 49 5 (List.map (al.lt true) r2.1.aa)]),(108,.box [.I bc.ID,.ak 5 (bc.ab.map ai.lv),.aI true 4 1 (bc.ah.map LV.bool),.aI true 88 3 (bc.Uses.map ay.lv),.bool bc.ae])]) (Wk.trans (Wk.bg 108 [.I bc.ID,.ak 5 (bc.ab.map ai.lv),.aI true 4 1 (bc.ah.map LV.bool),.aI true 88 3 (bc.Uses.map ay.lv),.bool bc.ae] R R R (bM R)) (aS [(4,.ptr 104 0),(5,.ptr 105 0),(8,.ag [.I bc.ID,.ak 5 (bc.ab.map ai.lv),.aI true 4 1 (bc.ah.map LV.bool),.aI true 88 3 (bc.Uses.map ay.lv),.bool bc.ae]),(37,.aI true 49 5 (List.map (al.lt true) r2.1.aa)),(39,.ak 5 (List.map (al.lt true) [bc]))] [(1,.dead),(7,.box [.L dz.2.L,.I dz.2.At]),(104,.box [.nil]),(105,.box [.aI true 49 5 (List.map (al.lt true) r2.1.aa)])])))) (Bc (f:=(al.lt true)) (g:=al.lv) (es:=[(4,.ptr 104 0),(5,.ptr 105 0),(8,.ag [.I bc.ID,.ak 5 (bc.ab.map ai.lv),.aI true 4 1 (bc.ah.map LV.bool),.aI true 88 3 (bc.Uses.map ay.lv),.bool bc.ae]),(37,.aI true 49 5 (List.map (al.lt true) r2.1.aa)),(39,.ak 5 (List.map (al.lt true) [bc]))]) (ml:=[(1,.dead),(7,.box [.L dz.2.L,.I dz.2.At]),(104,.box [.nil]),(105,.box [.aI true 49 5 (List.map (al.lt true) r2.1.aa)])]) (jw:=[(4,.ptr 104 0),(5,.ptr 105 0),(8,.ag (al.lv bc).cells),(37,.ak 5 (r2.1.aa.map al.lv)),(39,.ak 5 (List.map al.lv [bc]))]) (de:=[(1,.dead),(7,.box [.L dz.2.L,.I dz.2.At]),(104,.box [.nil]),(105,.box [.ak 5 (r2.1.aa.map al.lv)])]) Ps dW qq b8 R R SX al.pP (fun _=>R) (wB (Rel.ptr R) (wB (Rel.ptr R) (wB (Rel.ag (eT Rel.int (eT (Rel.ak ai.rel (fun _=>R)) (eT (Rel.aI (fun _=>Rel.bool) (fun _=>R)) (eT (Rel.aI ay.rel (fun _=>R)) (eT Rel.bool lK)))))) (wB (Rel.aI al.pP (fun _=>R)) (wB (Rel.ak al.pP (fun _=>R)) Ql))))) (uh ib.dead (uh (ib.box (eT (Rel.ak (fun _=>Rel.int) (fun _=>R)) (eT Rel.int lK))) (uh (ib.box (eT Rel.nil lK)) (uh (ib.box (eT (Rel.aI al.pP (fun _=>R)) lK)) L1)))) (sN (dD cd cm dC R R (s_ (cG R R R cm dC R R R zS)))))))))))))) (aY (au (LH.aj [(4,.ptr 104 0),(5,.ptr 105 0),(8,.ag (al.lv bc).cells),(9,.nil)] [(1,.dead),(7,.box [.L dz.2.L,.I dz.2.At]),(104,.box [.nil]),(105,.box [.ak 5 (v26.map al.lv)])] R (kX R zS) ?_)))
   obtain ⟨zK,SY,h⟩:=ao h
   refine LH.aj [(4,.ptr 104 0),(5,.ptr 105 0),(8,.ag (al.lv bc).cells),(9,.arr 167 zK.length)] [(1,.dead),(7,.box [.L dz.2.L,.I dz.2.At]),(104,.box [.nil]),(105,.box [.ak 5 (v26.map al.lv)]),(167,.arr 49 5 (zK.map al.lv))] R (Iv R (sN (dD cd cm dC R R (sN (dM R R R R cm fA (sN (C9 (f:=al.lv) (id:=167) R dW qq b8 R R SY R (nM R zS)))))))) ?_
   obtain ⟨Rm,H2,h⟩:=ao h
   refine LH.aj [(4,.ptr 104 0),(5,.ptr 105 0),(9,.ak 5 (List.map al.lv (zK.set ((0:Int).toNat) bc)))] [(1,.dead),(7,.box [.L dz.2.L,.I dz.2.At]),(104,.box [.nil]),(105,.box [.ak 5 (v26.map al.lv)])] R (j0 R (sN (bd R cC fR b8 R R (sN (gS (f:=al.lv) dW cC b8 R R R H2 (s_ (qd (f:=al.lv) (z':=bc) R R R R cC b8 R (dB H2).2 R (s0 ((Wk.trans (Wk.to (el:=[(4,.ptr 104 0),(5,.ptr 105 0),(9,.arr 167 (List.length (zK.set ((0:Int).toNat) bc)))]) (ml:=[(1,.dead),(7,.box [.L dz.2.L,.I dz.2.At]),(104,.box [.nil]),(105,.box [.ak 5 (v26.map al.lv)]),(167,.arr 49 5 (List.map al.lv (zK.set ((0:Int).toNat) bc)))]) (eC R (eC R (eC (congrArg (LV.arr 167) (by simp)) eN))) ⟨R,R,R,R,R,trivial⟩ R (aZ R)) (Wk.trans (Wk.lk (f:=al.lv) (fy:=[(4,.ptr 104 0),(5,.ptr 105 0),(9,.ak 5 (List.map al.lv (zK.set ((0:Int).toNat) bc)))]) 167 49 5 (zK.set ((0:Int).toNat) bc) R R (bM R) (fK R (fK R (fZ fN)))) (Wk.eq R R R R)))))))))))) (LH.aU [(4,.ptr 104 0),(5,.ag [.ak 5 (List.map al.lv (zK.set ((0:Int).toNat) bc))])] [(1,.dead),(7,.box [.L dz.2.L,.I dz.2.At]),(104,.box [.nil])] R (fp R (sN (dD cd cm dC R R (s_ (cG R R R cm dC R R R (s0 ((Wk.trans (aS [(4,.ptr 104 0),(5,.ptr 105 0)] [(1,.dead),(7,.box [.L dz.2.L,.I dz.2.At]),(104,.box [.nil]),(105,.box [.ak 5 (List.map al.lv (zK.set ((0:Int).toNat) bc))])]) (Wk.trans (Wk.bg 105 [.ak 5 (List.map al.lv (zK.set ((0:Int).toNat) bc))] R R R (bM R)) (Wk.eq R R R R)))))))))) (au (LH.aj [(4,.ag [.ak 5 (List.map al.lv (zK.set ((0:Int).toNat) bc))])] [(1,.dead),(7,.box [.L dz.2.L,.I dz.2.At])] R (sN (bd R bw cF bx R R (s_ (cG R R R bw bx R R R (s0 ((Wk.trans (aS [(4,.ptr 104 0)] [(1,.dead),(7,.box [.L dz.2.L,.I dz.2.At]),(104,.box [.ak 5 (List.map al.lv (zK.set ((0:Int).toNat) bc))])]) (Wk.trans (Wk.bg 104 [.ak 5 (List.map al.lv (zK.set ((0:Int).toNat) bc))] R R R (bM R)) (Wk.eq R R R R))))))))) (LH.ret ?_))))
   obtain rfl:=oI h
   exact aO (aT Tryz.results15) (cT R bw cF bx R R (bS ⟨aN (mC R (mC R mN)),R,aZ R,Sub.rfl⟩))
  replace h:=aA h hY
  refine LH.skip (au (LH.wk ((Wk.trans (aS [(4,.ptr 104 0),(5,.ptr 105 0)] [(1,.dead),(7,.box [.L w6.2.1,.I w6.2.2]),(104,.box [.nil]),(105,.box [.aI true 49 5 (List.map (al.lt true) r2.1.aa)])]) (Wk.trans (Wk.bg 105 [.aI true 49 5 (List.map (al.lt true) r2.1.aa)] R R R (bM R)) (aS [(4,.ptr 104 0),(5,.ag [.aI true 49 5 (List.map (al.lt true) r2.1.aa)])] [(1,.dead),(7,.box [.L w6.2.1,.I w6.2.2]),(104,.box [.nil])])))) (LH.aj [(4,.ag [.aI true 49 5 (List.map (al.lt true) r2.1.aa)])] [(1,.dead),(7,.box [.L w6.2.1,.I w6.2.2])] R (sN (bd R bw cF bx R R (s_ (cG R R R bw bx R R R (s0 ((Wk.trans (aS [(4,.ptr 104 0)] [(1,.dead),(7,.box [.L w6.2.1,.I w6.2.2]),(104,.box [.aI true 49 5 (List.map (al.lt true) r2.1.aa)])]) (Wk.trans (Wk.bg 104 [.aI true 49 5 (List.map (al.lt true) r2.1.aa)] R R R (bM R)) (Wk.eq R R R R))))))))) (LH.wk (Wk.loose (el:=[(4,.ag [.aI true 49 5 (List.map (al.lt true) r2.1.aa)])]) (ml:=[(1,.dead),(7,.box [.L w6.2.1,.I w6.2.2])]) (fy:=[(4,.ag [.ak 5 (r2.1.aa.map al.lv)])]) (de:=[(1,.dead),(7,.box [.L w6.2.1,.I w6.2.2])]) Ps (wB (Rel.ag (eT (Rel.aI al.pP (fun _=>R)) lK)) Ql) (uh ib.dead (uh (ib.box (eT (Rel.ak (fun _=>Rel.int) (fun _=>R)) (eT Rel.int lK))) L1))) (LH.wk (aS [(4,.ag [.ak 5 (r2.1.aa.map al.lv)])] [(1,.dead),(7,.box [.L w6.2.1,.I w6.2.2])]) (LH.ret ?_))))))
  obtain rfl:=oI h
  exact aO (aT Tryz.results15) (cT R bw cF bx R R (bS ⟨aN (mC R (mC R mN)),R,aZ R,Sub.rfl⟩))
theorem Rp {F:Nat} {p0:aP} {p1:Int} {r:aK × aP} (h:Mi F p0 p1=some r):aM Tryz.prog 15 [.ptr 7 0,.I p1] (Mem.of [(7,.box [.L p0.L,.I p0.At])]) (.agg [.ak 5 (r.1.aa.map al.lv)]) (Mem.of [(7,.box [.L r.2.L,.I r.2.At])]):=aM.IG (Rq h) rfl rfl (eT (Rel.ptr rfl) (eT Rel.int lK)) (uh (ib.box (eT (Rel.ak (fun _=>Rel.int) (fun _=>rfl)) (eT Rel.int lK))) L1) (uh (ib.box (eT (Rel.ak (fun _=>Rel.int) (fun _=>rfl)) (eT Rel.int lK))) L1) (Rel.agg (eT (Rel.ak al.rel (fun _=>rfl)) lK))
theorem PC {F:Nat} {p0:al} {r:al} (h:xX F p0=some r):aM Tryz.prog 39 [al.lv p0] (Mem.of []) (.agg [.I r.ID,.arr 109 r.ab.length,.arr 128 r.ah.length,.arr 132 r.Uses.length,.bool r.ae]) (Mem.of [(109,.arr 54 5 (r.ab.map ai.lv)),(128,.arr 4 1 (r.ah.map LV.bool)),(132,.arr 88 3 (r.Uses.map ay.lv))]):=by
  unfold xX at h
  refine br Tryz.func39 R (nT Tryz.ntmps39 R) (LH.wk (aS [(0,al.lv p0)] []) (LH.aj [(1,.ptr 101 0),(2,.ptr 102 0)] [(101,.box (al.lv p0).cells),(102,.box [.I 0,.nil,.nil,.nil,.bool false])] R (sN (Rb (id:=101) R R R R R R (sN (iE (id:=102) R lz R R zS)))) ?_))
  obtain ⟨v1,kr,h⟩:=ao h
  refine LH.aj [(1,.ptr 101 0),(2,.ptr 102 0),(3,.arr 109 v1.length)] [(101,.box (al.lv p0).cells),(102,.box [.I 0,.nil,.nil,.nil,.bool false]),(109,.arr 54 5 (v1.map ai.lv))] R (sN (dD cH cL eY R R (sN (dM R R R R cL gr (sN (bW (f:=ai.lv) eU R (sX (F3 (f:=ai.lv) (z:=(ai.mk 0 0 (ByteArray.mk #[]) [] [])) (id:=109) R eU mr zh bN R R R (Sub.agg (aH (aH (aH (oV (oV bn)))))) ai.ok kr R) (nM R zS)))))))) (LH.seq (LH.aj [(1,.ptr 101 0),(2,.ptr 102 0),(3,.arr 109 v1.length),(11,.ak 5 (p0.ab.map ai.lv)),(12,.I (p0.ab.length:Int)),(13,.I 0)] [(101,.box (al.lv p0).cells),(102,.box [.I 0,.nil,.nil,.nil,.bool false]),(109,.arr 54 5 (v1.map ai.lv))] R (sN (dD cH cL eY R R (sN (dM R R R R cL gr (sN (bW (f:=ai.lv) eU R (bj R zS))))))) (LH.block (LH.loop (fun n e m=>∃ (n2:Int) (l3:List ai),AW p0 n n2 l3=some r∧e=Env.of [(1,.ptr 101 0),(2,.ptr 102 0),(3,.arr 109 l3.length),(11,.ak 5 (p0.ab.map ai.lv)),(12,.I (p0.ab.length:Int)),(13,.I n2)]∧m=Mem.of [(101,.box (al.lv p0).cells),(102,.box [.I 0,.nil,.nil,.nil,.bool false]),(109,.arr 54 5 (l3.map ai.lv))]) F ⟨0,v1,h,R,R⟩ ?_))))
  clear h
  rintro n e m ⟨n2,l3,h,rfl,rfl⟩
  rcases n with _ | n
  · cases (show Option.none=some _ from h)
  obtain ⟨aJ,a7⟩:∃ f,f=AW p0 n:=⟨_,rfl⟩
  replace h:Gn p0 aJ n2 l3=some r:=a7 ▸ h
  unfold Gn at h
  refine LH.aj [(1,.ptr 101 0),(2,.ptr 102 0),(3,.arr 109 l3.length),(11,.ak 5 (p0.ab.map ai.lv)),(12,.I (p0.ab.length:Int)),(13,.I n2),(14,.bool (decide (n2<(p0.ab.length:Int))))] [(101,.box (al.lv p0).cells),(102,.box [.I 0,.nil,.nil,.nil,.bool false]),(109,.arr 54 5 (l3.map ai.lv))] R (sN (fi R R zS)) (LH.seq (LH.cond (t:=(decide (n2<(p0.ab.length:Int)))) R (fun im=>?_) (fun im=>?_)))
  ·replace h:=aB h im
   refine LH.skip (au (LH.wk (aS [(1,.ptr 101 0),(2,.ptr 102 0),(3,.arr 109 l3.length),(11,.ak 5 (p0.ab.map ai.lv)),(12,.I (p0.ab.length:Int)),(13,.I n2)] [(101,.box (al.lv p0).cells),(102,.box [.I 0,.nil,.nil,.nil,.bool false]),(109,.arr 54 5 (l3.map ai.lv))]) (LH.seq (LH.block ?_))))
   obtain ⟨x5,nJ,h⟩:=ao h
   refine LH.aj [(1,.ptr 101 0),(2,.ptr 102 0),(3,.arr 109 l3.length),(4,.I n2),(5,.ag (ai.lv x5).cells),(11,.ak 5 (p0.ab.map ai.lv)),(12,.I (p0.ab.length:Int)),(13,.I n2)] [(101,.box (al.lv p0).cells),(102,.box [.I 0,.nil,.nil,.nil,.bool false]),(109,.arr 54 5 (l3.map ai.lv))] R (bj R (sN (eG (f:=ai.lv) eU bT bN R R ai.ok nJ R (sN (bd R bT dO bN R R (sN (iE (id:=105) R mr R R (bo R (s_ (cG R R R bT bN R R R (s0 ((Wk.trans (aS [(1,.ptr 101 0),(2,.ptr 102 0),(3,.arr 109 l3.length),(4,.I n2),(5,.ptr 105 0),(11,.ak 5 (p0.ab.map ai.lv)),(12,.I (p0.ab.length:Int)),(13,.I n2)] [(101,.box (al.lv p0).cells),(102,.box [.I 0,.nil,.nil,.nil,.bool false]),(105,.box (ai.lv x5).cells),(109,.arr 54 5 (l3.map ai.lv))]) (Wk.trans (Wk.bg 105 (ai.lv x5).cells R R R (bM R)) (Wk.eq R R R R))))))))))))))) ?_
   obtain ⟨r6,HY,h⟩:=ao h
   obtain ⟨x7,AF,h⟩:=ao h
   refine LH.aU [(1,.ptr 101 0),(2,.ptr 102 0),(3,.arr 109 (List.length (l3.set n2.toNat r6))),(11,.ak 5 (p0.ab.map ai.lv)),(12,.I (p0.ab.length:Int)),(13,.I n2)] [(101,.box (al.lv p0).cells),(102,.box [.I 0,.nil,.nil,.nil,.bool false]),(109,.arr 54 5 (List.map ai.lv (l3.set n2.toNat r6)))] R (j0 R (bj R (sN (bd R bT dO bN R R (sN (dQ (args:=[ai.lv x5]) R xL R (aH bn) (GH HY) R (sN (gS (f:=ai.lv) eU bT bN R R R AF (s_ (qd (f:=ai.lv) (z':=r6) R R R R bT bN R (dB AF).2 R (s0 (Wk.to (eC R (eC R (eC (congrArg (LV.arr 109) (by simp)) (eC R (eC R (eC R eN)))))) ⟨R,R,R,trivial⟩ R (aZ R))))))))))))) (aY (au (LH.aU [(1,.ptr 101 0),(2,.ptr 102 0),(3,.arr 109 (List.length (l3.set n2.toNat r6))),(11,.ak 5 (p0.ab.map ai.lv)),(12,.I (p0.ab.length:Int)),(13,.I (i64 (n2+1)))] [(101,.box (al.lv p0).cells),(102,.box [.I 0,.nil,.nil,.nil,.bool false]),(109,.arr 54 5 (List.map ai.lv (l3.set n2.toNat r6)))] R (sN (cD R R (bj R zS))) ?_)))
   exact bh ⟨(i64 (n2+1)),(l3.set n2.toNat r6),a7 ▸ h,R,R⟩ (Wk.eq R R R R)
  replace h:=aA h im
  refine LH.exit (cw (bY (bO (au (LH.aj [(1,.ptr 101 0),(2,.ptr 102 0)] [(101,.box [.I p0.ID,.arr 109 l3.length,.ak 1 (p0.ah.map LV.bool),.ak 3 (p0.Uses.map ay.lv),.bool p0.ae]),(102,.box [.I 0,.nil,.nil,.nil,.bool false]),(109,.arr 54 5 (l3.map ai.lv))] R (j0 R (sN (dD cH cL eY R R (s_ (cG R R R cL eY R R R zS))))) ?_)))))
  obtain ⟨v8,NU,h⟩:=ao h
  refine LH.aj [(1,.ptr 101 0),(2,.ptr 102 0)] [(101,.box [.I p0.ID,.arr 109 l3.length,.arr 128 v8.length,.ak 3 (p0.Uses.map ay.lv),.bool p0.ae]),(102,.box [.I 0,.nil,.nil,.nil,.bool false]),(109,.arr 54 5 (l3.map ai.lv)),(128,.arr 4 1 (v8.map LV.bool))] R (sN (dD dG dX gJ R R (sN (dM R R R R dX lu (sN (eX (args:=[.ak 1 (p0.ah.map LV.bool)]) (ml:=[]) (de:=[(128,.arr 4 1 (v8.map LV.bool))]) R OR R (aH bn) (pf (g:=LV.bool) Ex R 128 NU) mN (AK R cz) R (sN (dD dG dX gJ R R (s_ (cG R R R dX gJ R R R zS)))))))))) ?_
  obtain ⟨v9,S8,h⟩:=ao h
  refine LH.aj [(1,.ptr 101 0),(2,.ptr 102 0)] [(101,.box [.I p0.ID,.arr 109 l3.length,.arr 128 v8.length,.arr 132 v9.length,.bool p0.ae]),(102,.box [.I 0,.nil,.nil,.nil,.bool false]),(109,.arr 54 5 (l3.map ai.lv)),(128,.arr 4 1 (v8.map LV.bool)),(132,.arr 88 3 (v9.map ay.lv))] R (sN (dD dH dP gW R R (sN (dM R R R R dP km (sN (eX (args:=[.ak 3 (p0.Uses.map ay.lv)]) (ml:=[]) (de:=[(132,.arr 88 3 (v9.map ay.lv))]) R OS R (aH bn) (pf (g:=ay.lv) Ey R 132 S8) mN (AK R cz) R (sN (dD dH dP gW R R (s_ (cG R R R dP gW R R R zS)))))))))) (LH.aj [(2,.ptr 102 0)] [(102,.box [.I p0.ID,.arr 109 l3.length,.arr 128 v8.length,.arr 132 v9.length,.bool p0.ae]),(109,.arr 54 5 (l3.map ai.lv)),(128,.arr 4 1 (v8.map LV.bool)),(132,.arr 88 3 (v9.map ay.lv))] R (sN (tg R R R cC fR b8 R R (s_ (cG R R R cC b8 R R R zS)))) (LH.ret ?_))
  obtain rfl:=oI h
  exact aO (aT Tryz.results39) (Tw R R R cC fR b8 R R (bS ⟨aN (mC R (mC R (mC R mN))),R,aZ R,Sub.rfl⟩))
theorem Qd {F:Nat} {p0:aK} {p1:Int} {r:al × Bool} (h:k6 F p0 p1=some r):aM Tryz.prog 19 [.agg [.ak 5 (p0.aa.map al.lv)],.I p1] (Mem.of []) (.cX [al.lv r.1,.bool r.2]) (Mem.of []):=by
  unfold k6 at h
  refine br Tryz.func19 R (nT Tryz.ntmps19 R) (LH.wk (aS [(0,.agg [.ak 5 (p0.aa.map al.lv)]),(1,.I p1)] []) (LH.aj [(1,.I p1),(2,.ag [.ak 5 (p0.aa.map al.lv)]),(4,.ptr 104 0)] [(104,.box [.I 0,.nil,.nil,.nil,.bool false])] R (sB (c7 R R R R (sN (iE (id:=104) R lz R R (b4 R zS))))) (LH.seq (LH.aj [(1,.I p1),(4,.ptr 104 0),(9,.ak 5 (p0.aa.map al.lv)),(10,.I (p0.aa.length:Int)),(11,.I 0)] [(104,.box [.I 0,.nil,.nil,.nil,.bool false])] R (sN (aw cd cm dC R R R (sN (bb R cm fA (sN (bW (f:=al.lv) dW R (bj R zS))))))) (LH.block (LH.loop (fun n e m=>∃ (n1:Int),vi F p0 p1 n n1=some r∧e=Env.of [(1,.I p1),(4,.ptr 104 0),(9,.ak 5 (p0.aa.map al.lv)),(10,.I (p0.aa.length:Int)),(11,.I n1)]∧m=Mem.of [(104,.box [.I 0,.nil,.nil,.nil,.bool false])]) F ⟨0,h,R,R⟩ ?_))))))
  clear h
  rintro n e m ⟨n1,h,rfl,rfl⟩
  rcases n with _ | n
  · cases (show Option.none=some _ from h)
  obtain ⟨aJ,a7⟩:∃ f,f=vi F p0 p1 n:=⟨_,rfl⟩
  replace h:yq F p0 p1 aJ n1=some r:=a7 ▸ h
  unfold yq at h
  refine LH.aj [(1,.I p1),(4,.ptr 104 0),(9,.ak 5 (p0.aa.map al.lv)),(10,.I (p0.aa.length:Int)),(11,.I n1),(12,.bool (decide (n1<(p0.aa.length:Int))))] [(104,.box [.I 0,.nil,.nil,.nil,.bool false])] R (sN (fi R R zS)) (LH.seq (LH.cond (t:=(decide (n1<(p0.aa.length:Int)))) R (fun eZ=>?_) (fun eZ=>?_)))
  ·replace h:=aB h eZ
   refine LH.skip (au (LH.wk (aS [(1,.I p1),(4,.ptr 104 0),(9,.ak 5 (p0.aa.map al.lv)),(10,.I (p0.aa.length:Int)),(11,.I n1)] [(104,.box [.I 0,.nil,.nil,.nil,.bool false])]) (LH.seq (LH.block ?_))))
   obtain ⟨x3,fz,h⟩:=ao h
   refine LH.aj [(1,.I p1),(4,.ptr 104 0),(7,.ag (al.lv x3).cells),(9,.ak 5 (p0.aa.map al.lv)),(10,.I (p0.aa.length:Int)),(11,.I n1)] [(104,.box [.I 0,.nil,.nil,.nil,.bool false])] R (sN (eG (f:=al.lv) dW cC b8 R R al.ok fz R (sN (bd R cC fR b8 R R (sN (iE (id:=107) R lz R R (s_ (cG R R R cC b8 R R R (s0 ((Wk.trans (aS [(1,.I p1),(4,.ptr 104 0),(7,.ptr 107 0),(9,.ak 5 (p0.aa.map al.lv)),(10,.I (p0.aa.length:Int)),(11,.I n1)] [(104,.box [.I 0,.nil,.nil,.nil,.bool false]),(107,.box (al.lv x3).cells)]) (Wk.trans (Wk.bg 107 (al.lv x3).cells R R R (bM R)) (Wk.eq R R R R))))))))))))) (LH.aj [(1,.I p1),(4,.ptr 104 0),(7,.ag (al.lv x3).cells),(9,.ak 5 (p0.aa.map al.lv)),(10,.I (p0.aa.length:Int)),(11,.I n1),(18,.bool (x3.ID == p1))] [(104,.box [.I 0,.nil,.nil,.nil,.bool false])] R (sN (aw e8 aD ba R R R (sN (bb R aD bQ (bj R (sN (gp R R zS))))))) (LH.cond (t:=(x3.ID == p1)) R (fun im=>?_) (fun im=>?_)))
   ·replace h:=aB h im
    obtain ⟨r5,Ay,h⟩:=ao h
    refine LH.aj [(4,.ag (al.lv r5).cells),(5,.bool true)] [] R (sN (bd R cC fR b8 R R (sN (eX (args:=[al.lv x3]) (ml:=[]) (de:=[(109,.arr 54 5 (r5.ab.map ai.lv)),(128,.arr 4 1 (r5.ah.map LV.bool)),(132,.arr 88 3 (r5.Uses.map ay.lv))]) R Ox R (aH bn) (PC Ay) mN (AK R (AK R (AK R cz))) R (s_ (cG R R R cC b8 R R R (b4 R (s0 ((Wk.trans (aS [(4,.ptr 104 0),(5,.bool true)] [(104,.box [.I r5.ID,.arr 109 r5.ab.length,.arr 128 r5.ah.length,.arr 132 r5.Uses.length,.bool r5.ae]),(109,.arr 54 5 (r5.ab.map ai.lv)),(128,.arr 4 1 (r5.ah.map LV.bool)),(132,.arr 88 3 (r5.Uses.map ay.lv))]) (Wk.trans (aS [(4,.ptr 104 0),(5,.bool true)] [(104,.box [.I r5.ID,.arr 109 r5.ab.length,.arr 128 r5.ah.length,.arr 132 r5.Uses.length,.bool r5.ae]),(109,.arr 54 5 (r5.ab.map ai.lv)),(128,.arr 4 1 (r5.ah.map LV.bool)),(132,.arr 88 3 (r5.Uses.map ay.lv))]) (Wk.trans (Wk.trans (Wk.fY (f:=ai.lv) 109 54 5 r5.ab 104 R R R (b6 R (kb (b6 R (b6 R (b6 R ka))))) R R (bM R)) (aS [(4,.ptr 104 0),(5,.bool true)] [(104,.box [.I r5.ID,.ak 5 (r5.ab.map ai.lv),.arr 128 r5.ah.length,.arr 132 r5.Uses.length,.bool r5.ae]),(128,.arr 4 1 (r5.ah.map LV.bool)),(132,.arr 88 3 (r5.Uses.map ay.lv))])) (Wk.trans (aS [(4,.ptr 104 0),(5,.bool true)] [(104,.box [.I r5.ID,.ak 5 (r5.ab.map ai.lv),.arr 128 r5.ah.length,.arr 132 r5.Uses.length,.bool r5.ae]),(128,.arr 4 1 (r5.ah.map LV.bool)),(132,.arr 88 3 (r5.Uses.map ay.lv))]) (Wk.trans (Wk.trans (Wk.fY (f:=LV.bool) 128 4 1 r5.ah 104 R R R (b6 R (b6 R (kb (b6 R (b6 R ka))))) R R (bM R)) (aS [(4,.ptr 104 0),(5,.bool true)] [(104,.box [.I r5.ID,.ak 5 (r5.ab.map ai.lv),.ak 1 (r5.ah.map LV.bool),.arr 132 r5.Uses.length,.bool r5.ae]),(132,.arr 88 3 (r5.Uses.map ay.lv))])) (Wk.trans (aS [(4,.ptr 104 0),(5,.bool true)] [(104,.box [.I r5.ID,.ak 5 (r5.ab.map ai.lv),.ak 1 (r5.ah.map LV.bool),.arr 132 r5.Uses.length,.bool r5.ae]),(132,.arr 88 3 (r5.Uses.map ay.lv))]) (Wk.trans (Wk.trans (Wk.fY (f:=ay.lv) 132 88 3 r5.Uses 104 R R R (b6 R (b6 R (b6 R (kb (b6 R ka))))) R R (bM R)) (aS [(4,.ptr 104 0),(5,.bool true)] [(104,.box (al.lv r5).cells)])) (Wk.trans (Wk.bg 104 (al.lv r5).cells R R R (bM R)) (Wk.eq R R R R)))))))))))))))))) (LH.ret (bB (aW (dF (bB (aW ?_))))))
    obtain rfl:=oI h
    exact aO (aT Tryz.results19) (cT R cC fR b8 R R (bU R (bS ⟨aN mN,R,aZ R,(Sub.cX (aH (aH bn)))⟩)))
   replace h:=aA h im
   refine LH.skip (aY (au (LH.aU [(1,.I p1),(4,.ptr 104 0),(9,.ak 5 (p0.aa.map al.lv)),(10,.I (p0.aa.length:Int)),(11,.I (i64 (n1+1)))] [(104,.box [.I 0,.nil,.nil,.nil,.bool false])] R (sN (cD R R (bj R zS))) ?_)))
   exact bh ⟨(i64 (n1+1)),a7 ▸ h,R,R⟩ (Wk.eq R R R R)
  replace h:=aA h eZ
  refine LH.exit (cw (bY (bO (au (LH.aj [(4,.ag [.I 0,.nil,.nil,.nil,.bool false]),(5,.bool false)] [] R (sN (fU (vs:=[]) IB lz R fT (s_ (cG R R R cC b8 R R R (b4 R (s0 ((Wk.trans (aS [(4,.ptr 104 0),(5,.bool false)] [(104,.box [.I 0,.nil,.nil,.nil,.bool false])]) (Wk.trans (Wk.bg 104 [.I 0,.nil,.nil,.nil,.bool false] R R R (bM R)) (Wk.eq R R R R)))))))))) (LH.ret ?_))))))
  obtain rfl:=oI h
  exact aO (aT Tryz.results19) (cT R cC fR b8 R R (bU R (bS ⟨aN mN,R,aZ R,(Sub.cX (o7 (Sub.agg (aH (oV (oV (oV (aH bn)))))) (aH bn)))⟩)))
theorem JQ {F:Nat} {p0:aK} {p1:Int} {r:al × Bool} (h:vp F p0 p1=some r):aM Tryz.prog 20 [.agg [.ak 5 (p0.aa.map al.lv)],.I p1] (Mem.of []) (.cX [al.lv r.1,.bool r.2]) (Mem.of []):=by
  unfold vp at h
  refine br Tryz.func20 R (nT Tryz.ntmps20 R) (LH.wk (aS [(0,.agg [.ak 5 (p0.aa.map al.lv)]),(1,.I p1)] []) (LH.aj [(1,.I p1),(2,.ag [.ak 5 (p0.aa.map al.lv)]),(4,.ptr 104 0)] [(104,.box [.I 0,.nil,.nil,.nil,.bool false])] R (sB (c7 R R R R (sN (iE (id:=104) R lz R R (b4 R zS))))) ?_))
  obtain ⟨r1,ee,h⟩:=ao h
  refine LH.aj [(2,.ag [.ak 5 (p0.aa.map al.lv)]),(4,.ptr 104 0),(6,.I r1)] [(104,.box [.I 0,.nil,.nil,.nil,.bool false])] R (sN (bd R bw cF bx R R (bj R (sN (dQ (args:=[.agg [.ak 5 (p0.aa.map al.lv)],.I p1]) R uW R (aH (aH bn)) (DC ee) R (bo R zS)))))) (LH.seq (LH.aj [(2,.ag [.ak 5 (p0.aa.map al.lv)]),(4,.ptr 104 0),(6,.I r1),(11,.bool (decide (r1<0)))] [(104,.box [.I 0,.nil,.nil,.nil,.bool false])] R (bj R (sN (fi R R zS))) (LH.cond (t:=(decide (r1<0))) R (fun eZ=>?_) (fun eZ=>?_))))
  ·replace h:=aB h eZ
   refine LH.aj [(4,.ag [.I 0,.nil,.nil,.nil,.bool false]),(5,.bool false)] [] R (sN (fU (vs:=[]) IB lz R fT (s_ (cG R R R cC b8 R R R (b4 R (s0 ((Wk.trans (aS [(4,.ptr 104 0),(5,.bool false)] [(104,.box [.I 0,.nil,.nil,.nil,.bool false])]) (Wk.trans (Wk.bg 104 [.I 0,.nil,.nil,.nil,.bool false] R R R (bM R)) (Wk.eq R R R R)))))))))) (LH.ret (aW ?_))
   obtain rfl:=oI h
   exact aO (aT Tryz.results20) (cT R cC fR b8 R R (bU R (bS ⟨aN mN,R,aZ R,(Sub.cX (o7 (Sub.agg (aH (oV (oV (oV (aH bn)))))) (aH bn)))⟩)))
  replace h:=aA h eZ
  refine LH.skip (au ?_)
  obtain ⟨x3,fz,h⟩:=ao h
  refine LH.aj [(4,.ag (al.lv x3).cells),(5,.bool true)] [] R (sN (aw cd cm dC R R R (sN (bb R cm fA (bj R (sN (eG (f:=al.lv) dW cC b8 R R al.ok fz R (sN (bd R cC fR b8 R R (s_ (cG R R R cC b8 R R R (b4 R (s0 ((Wk.trans (aS [(4,.ptr 104 0),(5,.bool true)] [(104,.box (al.lv x3).cells)]) (Wk.trans (Wk.bg 104 (al.lv x3).cells R R R (bM R)) (Wk.eq R R R R))))))))))))))))) (LH.ret ?_)
  obtain rfl:=oI h
  exact aO (aT Tryz.results20) (cT R cC fR b8 R R (bU R (bS ⟨aN mN,R,aZ R,(Sub.cX (aH (aH bn)))⟩)))
theorem JL {F:Nat} {p0:aK} {p1:bG} {r:ai × Bool} (h:vj F p0 p1=some r):aM Tryz.prog 21 [.agg [.ak 5 (p0.aa.map al.lv)],.agg [.I p1.ID,.I p1.Version]] (Mem.of []) (.cX [ai.lv r.1,.bool r.2]) (Mem.of []):=by
  unfold vj at h
  refine br Tryz.func21 R (nT Tryz.ntmps21 R) (LH.wk (aS [(0,.agg [.ak 5 (p0.aa.map al.lv)]),(1,.agg [.I p1.ID,.I p1.Version])] []) (LH.aj [(2,.ag [.ak 5 (p0.aa.map al.lv)]),(3,.ag [.I p1.ID,.I p1.Version]),(4,.ptr 104 0)] [(104,.box eh)] R (sB (c7 R R R R (sB (c7 R R R R (sN (iE (id:=104) R mr R R (b4 R zS))))))) (LH.seq (LH.aj [(3,.ag [.I p1.ID,.I p1.Version]),(4,.ptr 104 0),(9,.ak 5 (p0.aa.map al.lv)),(10,.I (p0.aa.length:Int)),(11,.I 0)] [(104,.box eh)] R (sN (aw cd cm dC R R R (sN (bb R cm fA (sN (bW (f:=al.lv) dW R (bj R zS))))))) (LH.block (LH.loop (fun n e m=>∃ (n1:Int),Dv p0 p1 n n1=some r∧e=Env.of [(3,.ag [.I p1.ID,.I p1.Version]),(4,.ptr 104 0),(9,.ak 5 (p0.aa.map al.lv)),(10,.I (p0.aa.length:Int)),(11,.I n1)]∧m=Mem.of [(104,.box eh)]) F ⟨0,h,R,R⟩ ?_))))))
  clear h
  rintro n e m ⟨n1,h,rfl,rfl⟩
  rcases n with _ | n
  · cases (show Option.none=some _ from h)
  obtain ⟨aJ,a7⟩:∃ f,f=Dv p0 p1 n:=⟨_,rfl⟩
  replace h:GG p0 p1 aJ n1=some r:=a7 ▸ h
  unfold GG at h
  refine LH.aj [(3,.ag [.I p1.ID,.I p1.Version]),(4,.ptr 104 0),(9,.ak 5 (p0.aa.map al.lv)),(10,.I (p0.aa.length:Int)),(11,.I n1),(12,.bool (decide (n1<(p0.aa.length:Int))))] [(104,.box eh)] R (sN (fi R R zS)) (LH.seq (LH.cond (t:=(decide (n1<(p0.aa.length:Int)))) R (fun eZ=>?_) (fun eZ=>?_)))
  ·replace h:=aB h eZ
   refine LH.skip (au (LH.wk (aS [(3,.ag [.I p1.ID,.I p1.Version]),(4,.ptr 104 0),(9,.ak 5 (p0.aa.map al.lv)),(10,.I (p0.aa.length:Int)),(11,.I n1)] [(104,.box eh)]) (LH.seq (LH.block ?_))))
   obtain ⟨x3,fz,h⟩:=ao h
   refine LH.aj [(3,.ag [.I p1.ID,.I p1.Version]),(4,.ptr 104 0),(7,.ag (al.lv x3).cells),(9,.ak 5 (p0.aa.map al.lv)),(10,.I (p0.aa.length:Int)),(11,.I n1)] [(104,.box eh)] R (sN (eG (f:=al.lv) dW cC b8 R R al.ok fz R (sN (bd R cC fR b8 R R (sN (iE (id:=107) R lz R R (s_ (cG R R R cC b8 R R R (s0 ((Wk.trans (aS [(3,.ag [.I p1.ID,.I p1.Version]),(4,.ptr 104 0),(7,.ptr 107 0),(9,.ak 5 (p0.aa.map al.lv)),(10,.I (p0.aa.length:Int)),(11,.I n1)] [(104,.box eh),(107,.box (al.lv x3).cells)]) (Wk.trans (Wk.bg 107 (al.lv x3).cells R R R (bM R)) (Wk.eq R R R R))))))))))))) (LH.seq (LH.aj [(3,.ag [.I p1.ID,.I p1.Version]),(4,.ptr 104 0),(7,.ag (al.lv x3).cells),(9,.ak 5 (p0.aa.map al.lv)),(10,.I (p0.aa.length:Int)),(11,.I n1),(19,.bool (x3.ID != p1.ID))] [(104,.box eh)] R (sN (aw e8 aD ba R R R (sN (bb R aD bQ (sN (aw fJ aD ba R R R (sN (bb R aD bQ (sN (jR R R zS)))))))))) (LH.cond (t:=(x3.ID != p1.ID)) R (fun im=>?_) (fun im=>?_))))
   ·replace h:=aB h im
    refine LH.exit (cw (bO (au (LH.aU [(3,.ag [.I p1.ID,.I p1.Version]),(4,.ptr 104 0),(9,.ak 5 (p0.aa.map al.lv)),(10,.I (p0.aa.length:Int)),(11,.I (i64 (n1+1)))] [(104,.box eh)] R (sN (cD R R (bj R zS))) ?_))))
    exact bh ⟨(i64 (n1+1)),a7 ▸ h,R,R⟩ (Wk.eq R R R R)
   replace h:=aA h im
   refine LH.skip (au (LH.wk (aS [(3,.ag [.I p1.ID,.I p1.Version]),(4,.ptr 104 0),(7,.ag (al.lv x3).cells)] [(104,.box eh)]) (LH.seq (LH.aj [(3,.ag [.I p1.ID,.I p1.Version]),(4,.ptr 104 0),(7,.ag (al.lv x3).cells),(30,.bool ((decide (p1.Version<1)) || (decide (p1.Version > (x3.ab.length:Int)))))] [(104,.box eh)] R ?_ ?_))))
   ·refine sN (aw dm aD ba R R R (sN (bb R aD bQ (sN (fi R R (bD R ?_))))))
    by_cases b3:(decide (p1.Version<1))=true
    ·exact sF R R b3 (sF R R b3 (sF R R b3 (sF R R b3 (sF R R b3 (sF R R b3 (sN (aX (cB b3) (v:=(.bool _)) R (s0 (Wk.to (eC R (eC R (eC R (eC (cB (nL b3)) eN)))) ⟨R,trivial⟩ R (aZ R))))))))))
    ·replace b3:=bF b3
     exact sT R (cB b3) (aw dm aD ba R R R (sT R (cB b3) (bb R aD bQ (sT R (cB b3) (aw cH cL eY R R R (sT R (cB b3) (bb R cL gr (sT R (cB b3) (bW (f:=ai.lv) eU R (sT R (cB b3) (iP R R (sN (aQ (cB b3) (v:=(.bool _)) R (s0 (Wk.to (eC R (eC R (eC R (eC (cB (gz b3)) eN)))) ⟨R,trivial⟩ R (aZ R))))))))))))))))
   refine LH.cond (t:=((decide (p1.Version<1)) || (decide (p1.Version > (x3.ab.length:Int))))) R (fun jG=>?_) (fun jG=>?_)
   ·replace h:=aB h jG
    refine LH.exit (cw (zU R (cw (bY (bO (au (LH.aj [(4,.ag [.I 0,.I 0,.str (ByteArray.mk #[]),.nil,.nil]),(5,.bool false)] [] R (sN (fU (vs:=[]) G7 mr R fT (s_ (cG R R R bT bN R R R (b4 R (s0 ((Wk.trans (aS [(4,.ptr 104 0),(5,.bool false)] [(104,.box eh)]) (Wk.trans (Wk.bg 104 [.I 0,.I 0,.str (ByteArray.mk #[]),.nil,.nil] R R R (bM R)) (Wk.eq R R R R)))))))))) (LH.ret ?_))))))))
    obtain rfl:=oI h
    exact aO (aT Tryz.results21) (cT R bT dO bN R R (bU R (bS ⟨aN mN,R,aZ R,(Sub.cX (o7 (Sub.agg (aH (aH (aH (oV (oV bn)))))) (aH bn)))⟩)))
   replace h:=aA h jG
   refine LH.skip (au ?_)
   obtain ⟨x8,s6,h⟩:=ao h
   obtain ⟨r9,AA,h⟩:=ao h
   refine LH.aj [(4,.ag (ai.lv r9).cells),(5,.bool true)] [] R (sN (aw cH cL eY R R R (sN (bb R cL gr (sN (aw dm aD ba R R R (sN (bb R aD bQ (sN (iA R R (sN (eG (f:=ai.lv) eU bT bN R R ai.ok s6 R (sN (bd R bT dO bN R R (sN (dQ (args:=[ai.lv x8]) R xL R (aH bn) (GH AA) R (s_ (cG R R R bT bN R R R (b4 R (s0 ((Wk.trans (aS [(4,.ptr 104 0),(5,.bool true)] [(104,.box (ai.lv r9).cells)]) (Wk.trans (Wk.bg 104 (ai.lv r9).cells R R R (bM R)) (Wk.eq R R R R)))))))))))))))))))))))) (LH.ret (bB (aW (dF (bB (aW ?_))))))
   obtain rfl:=oI h
   exact aO (aT Tryz.results21) (cT R bT dO bN R R (bU R (bS ⟨aN mN,R,aZ R,(Sub.cX (aH (aH bn)))⟩)))
  replace h:=aA h eZ
  refine LH.exit (cw (bY (bO (au (LH.aj [(4,.ag [.I 0,.I 0,.str (ByteArray.mk #[]),.nil,.nil]),(5,.bool false)] [] R (sN (fU (vs:=[]) G7 mr R fT (s_ (cG R R R bT bN R R R (b4 R (s0 ((Wk.trans (aS [(4,.ptr 104 0),(5,.bool false)] [(104,.box eh)]) (Wk.trans (Wk.bg 104 [.I 0,.I 0,.str (ByteArray.mk #[]),.nil,.nil] R R R (bM R)) (Wk.eq R R R R)))))))))) (LH.ret ?_))))))
  obtain rfl:=oI h
  exact aO (aT Tryz.results21) (cT R bT dO bN R R (bU R (bS ⟨aN mN,R,aZ R,(Sub.cX (o7 (Sub.agg (aH (aH (aH (oV (oV bn)))))) (aH bn)))⟩)))
theorem JK {F:Nat} {p0:aK} {p1:bG} {r:ai × Bool} (h:vf F p0 p1=some r):aM Tryz.prog 22 [.agg [.ak 5 (p0.aa.map al.lv)],.agg [.I p1.ID,.I p1.Version]] (Mem.of []) (.cX [ai.lv r.1,.bool r.2]) (Mem.of []):=by
  unfold vf at h
  refine br Tryz.func22 R (nT Tryz.ntmps22 R) (LH.wk (aS [(0,.agg [.ak 5 (p0.aa.map al.lv)]),(1,.agg [.I p1.ID,.I p1.Version])] []) (LH.aj [(2,.ag [.ak 5 (p0.aa.map al.lv)]),(3,.ag [.I p1.ID,.I p1.Version]),(4,.ptr 104 0)] [(104,.box eh)] R (sB (c7 R R R R (sB (c7 R R R R (sN (iE (id:=104) R mr R R (b4 R zS))))))) ?_))
  obtain ⟨r1,ee,h⟩:=ao h
  refine LH.aj [(3,.ag [.I p1.ID,.I p1.Version]),(4,.ptr 104 0),(6,.ag (al.lv r1.1).cells),(7,.bool r1.2)] [(104,.box eh)] R (sN (bd R bw cF bx R R (sN (aw fJ aD ba R R R (sN (bb R aD bQ (sN (dQ (args:=[.agg [.ak 5 (p0.aa.map al.lv)],.I p1.ID]) R Jg R (aH (aH bn)) (JQ ee) R (rR R (sN (gy R R (sN (gy R R (sN (iE (id:=106) R lz R R (s_ (cG R R R cC b8 R R R (b4 R (s0 ((Wk.trans (aS [(3,.ag [.I p1.ID,.I p1.Version]),(4,.ptr 104 0),(6,.ptr 106 0),(7,.bool r1.2)] [(104,.box eh),(106,.box (al.lv r1.1).cells)]) (Wk.trans (Wk.bg 106 (al.lv r1.1).cells R R R (bM R)) (Wk.eq R R R R))))))))))))))))))))))) (LH.seq (LH.aj [(3,.ag [.I p1.ID,.I p1.Version]),(4,.ptr 104 0),(6,.ag (al.lv r1.1).cells),(29,.bool ((!r1.2) || ((decide (p1.Version<1)) || (decide (p1.Version > (r1.1.ab.length:Int))))))] [(104,.box eh)] R ?_ ?_))
  ·refine bD R (sN (kB R (bD R ?_)))
   by_cases bP:(!r1.2)=true
   ·exact sF R R bP (sF R R bP (sF R R bP (sN (aX (cB bP) (v:=(.bool _)) R (bD R (sF R R R (sF R R R (sF R R R (sF R R R (sF R R R (sF R R R (sN (aX R (v:=(.bool _)) R (s0 (Wk.to (eC R (eC R (eC R (eC (cB (nL bP)) eN)))) ⟨R,trivial⟩ R (aZ R))))))))))))))))
   ·replace bP:=bF bP
    refine sT R (cB bP) (aw dm aD ba R R R (sT R (cB bP) (bb R aD bQ (sT R (cB bP) (fi R R (sN (aQ (cB bP) (v:=(.bool _)) R (bD R ?_))))))))
    by_cases bu:(decide (p1.Version<1))=true
    ·exact sF R R bu (sF R R bu (sF R R bu (sF R R bu (sF R R bu (sF R R bu (sN (aX (cB bu) (v:=(.bool _)) R (s0 (Wk.to (eC R (eC R (eC R (eC (cB (Eq.trans (nL bu) (gz bP))) eN)))) ⟨R,trivial⟩ R (aZ R))))))))))
    ·replace bu:=bF bu
     exact sT R (cB bu) (aw dm aD ba R R R (sT R (cB bu) (bb R aD bQ (sT R (cB bu) (aw cH cL eY R R R (sT R (cB bu) (bb R cL gr (sT R (cB bu) (bW (f:=ai.lv) eU R (sT R (cB bu) (iP R R (sN (aQ (cB bu) (v:=(.bool _)) R (s0 (Wk.to (eC R (eC R (eC R (eC (cB (Eq.trans (gz bu) (gz bP))) eN)))) ⟨R,trivial⟩ R (aZ R))))))))))))))))
  refine LH.cond (t:=((!r1.2) || ((decide (p1.Version<1)) || (decide (p1.Version > (r1.1.ab.length:Int)))))) R (fun jY=>?_) (fun jY=>?_)
  ·replace h:=aB h jY
   refine LH.aj [(4,.ag [.I 0,.I 0,.str (ByteArray.mk #[]),.nil,.nil]),(5,.bool false)] [] R (sN (fU (vs:=[]) G7 mr R fT (s_ (cG R R R bT bN R R R (b4 R (s0 ((Wk.trans (aS [(4,.ptr 104 0),(5,.bool false)] [(104,.box eh)]) (Wk.trans (Wk.bg 104 [.I 0,.I 0,.str (ByteArray.mk #[]),.nil,.nil] R R R (bM R)) (Wk.eq R R R R)))))))))) (LH.ret (aW ?_))
   obtain rfl:=oI h
   exact aO (aT Tryz.results22) (cT R bT dO bN R R (bU R (bS ⟨aN mN,R,aZ R,(Sub.cX (o7 (Sub.agg (aH (aH (aH (oV (oV bn)))))) (aH bn)))⟩)))
  replace h:=aA h jY
  refine LH.skip (au ?_)
  obtain ⟨x6,Lo,h⟩:=ao h
  refine LH.aj [(4,.ag (ai.lv x6).cells),(5,.bool true)] [] R (sN (aw cH cL eY R R R (sN (bb R cL gr (sN (aw dm aD ba R R R (sN (bb R aD bQ (sN (iA R R (sN (eG (f:=ai.lv) eU bT bN R R ai.ok Lo R (sN (bd R bT dO bN R R (s_ (cG R R R bT bN R R R (b4 R (s0 ((Wk.trans (aS [(4,.ptr 104 0),(5,.bool true)] [(104,.box (ai.lv x6).cells)]) (Wk.trans (Wk.bg 104 (ai.lv x6).cells R R R (bM R)) (Wk.eq R R R R)))))))))))))))))))))) (LH.ret ?_)
  obtain rfl:=oI h
  exact aO (aT Tryz.results22) (cT R bT dO bN R R (bU R (bS ⟨aN mN,R,aZ R,(Sub.cX (aH (aH bn)))⟩)))
theorem UR {F:Nat} {p0:List Int} {p1:Int} {p2:Int} {r:Bool} (h:B7 F p0 p1 p2=some r):aM Tryz.prog 5 [.L p0,.I p1,.I p2] (Mem.of []) (.bool r) (Mem.of []):=by
  unfold B7 at h
  refine br Tryz.func5 R (nT Tryz.ntmps5 R) (LH.wk (aS [(0,.L p0),(1,.I p1),(2,.I p2)] []) (LH.aj [(0,.L p0),(1,.I p1),(2,.I p2)] [] R (b4 R zS) ?_))
  obtain ⟨r1,ee,h⟩:=ao h
  refine LH.aj [(1,.I p1),(2,.I p2),(7,.ptr 7 0)] [(7,.box [.L r1.L,.I r1.At])] R (fp R (sN (eX (args:=[.L p0]) (ml:=[]) (de:=[(7,.box [.L r1.L,.I r1.At])]) R To R (aH bn) (Qi ee) mN (AK R cz) R (TL R zS)))) ?_
  obtain ⟨r2,fD,h⟩:=ao h
  refine LH.aj [(1,.I p1),(2,.I p2),(8,.ag [.ak 5 (r2.1.aa.map al.lv)])] [] R (hZ R (sN (eX (args:=[.ptr 7 0,.I 6]) (ml:=[(7,.box [.L r1.L,.I r1.At])]) (de:=[(7,.box [.L r2.2.L,.I r2.2.At])]) R Oh R (aH (aH bn)) (Rp fD) (mC R mN) (cn R cz) R (sN (iE (id:=108) R fM R R (s_ (cG R R R bw bx R R R (s0 ((Wk.trans (aS [(1,.I p1),(2,.I p2),(8,.ptr 108 0)] [(108,.box [.ak 5 (r2.1.aa.map al.lv)])]) (Wk.trans (Wk.bg 108 [.ak 5 (r2.1.aa.map al.lv)] R R R (bM R)) (Wk.eq R R R R)))))))))))) ?_
  obtain ⟨r3,nW,h⟩:=ao h
  obtain ⟨r4,C0,h⟩:=ao h
  refine LH.aj [(1,.I p1),(2,.I p2),(8,.ag [.ak 5 (r2.1.aa.map al.lv)]),(9,.I r3),(10,.I r4)] [] R (bj R (sN (dQ (args:=[.I p1,.I 6]) R FE R (aH (aH bn)) (Gh nW) R (bj R (sN (dQ (args:=[.I p2,.I 5]) R FE R (aH (aH bn)) (Gh C0) R (bo R (bo R zS)))))))) ?_
  obtain ⟨r5,Ay,h⟩:=ao h
  refine LH.aj [(1,.I p1),(2,.I p2),(8,.ag [.ak 5 (r2.1.aa.map al.lv)]),(9,.I r3),(10,.I r4),(11,.ag (al.lv r5.1).cells),(12,.bool r5.2)] [] R (sN (bd R bw cF bx R R (bj R (sN (dQ (args:=[.agg [.ak 5 (r2.1.aa.map al.lv)],.I r3]) R Oi R (aH (aH bn)) (Qd Ay) R (rR R (sN (gy R R (sN (gy R R (sN (iE (id:=111) R lz R R (s_ (cG R R R cC b8 R R R (b4 R (s0 ((Wk.trans (aS [(1,.I p1),(2,.I p2),(8,.ag [.ak 5 (r2.1.aa.map al.lv)]),(9,.I r3),(10,.I r4),(11,.ptr 111 0),(12,.bool r5.2)] [(111,.box (al.lv r5.1).cells)]) (Wk.trans (Wk.bg 111 (al.lv r5.1).cells R R R (bM R)) (Wk.eq R R R R)))))))))))))))))))) ?_
  obtain ⟨r6,HY,h⟩:=ao h
  refine LH.aj [(1,.I p1),(2,.I p2),(8,.ag [.ak 5 (r2.1.aa.map al.lv)]),(9,.I r3),(10,.I r4),(11,.ag (al.lv r5.1).cells),(12,.bool r5.2),(13,.ag (al.lv r6.1).cells),(14,.bool r6.2)] [] R (sN (bd R bw cF bx R R (bj R (sN (dQ (args:=[.agg [.ak 5 (r2.1.aa.map al.lv)],.I r3]) R Jg R (aH (aH bn)) (JQ HY) R (rR R (sN (gy R R (sN (gy R R (sN (iE (id:=113) R lz R R (s_ (cG R R R cC b8 R R R (b4 R (s0 ((Wk.trans (aS [(1,.I p1),(2,.I p2),(8,.ag [.ak 5 (r2.1.aa.map al.lv)]),(9,.I r3),(10,.I r4),(11,.ag (al.lv r5.1).cells),(12,.bool r5.2),(13,.ptr 113 0),(14,.bool r6.2)] [(113,.box (al.lv r6.1).cells)]) (Wk.trans (Wk.bg 113 (al.lv r6.1).cells R R R (bM R)) (Wk.eq R R R R)))))))))))))))))))) ?_
  obtain ⟨r7,Az,h⟩:=ao h
  refine LH.aj [(1,.I p1),(2,.I p2),(8,.ag [.ak 5 (r2.1.aa.map al.lv)]),(9,.I r3),(10,.I r4),(11,.ag (al.lv r5.1).cells),(12,.bool r5.2),(13,.ag (al.lv r6.1).cells),(14,.bool r6.2),(15,.ag (ai.lv r7.1).cells),(16,.bool r7.2)] [] R (sN (bd R bw cF bx R R (bj R (bj R (sN (fU (vs:=[(0,.I r3),(1,.I r4)]) uD uE R (lf fJ ba aD R R R (lf dm ba aD R R R fT)) (sN (dQ (args:=[.agg [.ak 5 (r2.1.aa.map al.lv)],.agg [.I r3,.I r4]]) R Jh R (aH (aH bn)) (JL Az) R (rR R (sN (gy R R (sN (gy R R (sN (iE (id:=115) R mr R R (s_ (cG R R R bT bN R R R (b4 R (s0 ((Wk.trans (aS [(1,.I p1),(2,.I p2),(8,.ag [.ak 5 (r2.1.aa.map al.lv)]),(9,.I r3),(10,.I r4),(11,.ag (al.lv r5.1).cells),(12,.bool r5.2),(13,.ag (al.lv r6.1).cells),(14,.bool r6.2),(15,.ptr 115 0),(16,.bool r7.2)] [(115,.box (ai.lv r7.1).cells)]) (Wk.trans (Wk.bg 115 (ai.lv r7.1).cells R R R (bM R)) (Wk.eq R R R R))))))))))))))))))))))) ?_
  obtain ⟨r8,K3,h⟩:=ao h
  refine LH.aj [(1,.I p1),(2,.I p2),(8,.ag [.ak 5 (r2.1.aa.map al.lv)]),(11,.ag (al.lv r5.1).cells),(12,.bool r5.2),(13,.ag (al.lv r6.1).cells),(14,.bool r6.2),(15,.ag (ai.lv r7.1).cells),(16,.bool r7.2),(17,.ag (ai.lv r8.1).cells),(18,.bool r8.2)] [] R (sN (bd R bw cF bx R R (bj R (bj R (sN (fU (vs:=[(0,.I r3),(1,.I r4)]) uD uE R (lf fJ ba aD R R R (lf dm ba aD R R R fT)) (sN (dQ (args:=[.agg [.ak 5 (r2.1.aa.map al.lv)],.agg [.I r3,.I r4]]) R Ji R (aH (aH bn)) (JK K3) R (rR R (sN (gy R R (sN (gy R R (sN (iE (id:=117) R mr R R (s_ (cG R R R bT bN R R R (b4 R (s0 ((Wk.trans (aS [(1,.I p1),(2,.I p2),(8,.ag [.ak 5 (r2.1.aa.map al.lv)]),(11,.ag (al.lv r5.1).cells),(12,.bool r5.2),(13,.ag (al.lv r6.1).cells),(14,.bool r6.2),(15,.ag (ai.lv r7.1).cells),(16,.bool r7.2),(17,.ptr 117 0),(18,.bool r8.2)] [(117,.box (ai.lv r8.1).cells)]) (Wk.trans (Wk.bg 117 (ai.lv r8.1).cells R R R (bM R)) (Wk.eq R R R R))))))))))))))))))))))) ?_
  obtain ⟨r9,AA,h⟩:=ao h
  refine LH.aj [(1,.I p1),(2,.I p2),(8,.ag [.ak 5 (r2.1.aa.map al.lv)]),(11,.ag (al.lv r5.1).cells),(12,.bool r5.2),(13,.ag (al.lv r6.1).cells),(14,.bool r6.2),(15,.ag (ai.lv r7.1).cells),(16,.bool r7.2),(17,.ag (ai.lv r8.1).cells),(18,.bool r8.2),(19,.ag (ai.lv r9.1).cells),(20,.bool r9.2)] [] R (sN (bd R bw cF bx R R (bj R (bj R (sN (fU (vs:=[(0,.I p1),(1,.I p2)]) uD uE R (lf fJ ba aD R R R (lf dm ba aD R R R fT)) (sN (dQ (args:=[.agg [.ak 5 (r2.1.aa.map al.lv)],.agg [.I p1,.I p2]]) R Jh R (aH (aH bn)) (JL AA) R (rR R (sN (gy R R (sN (gy R R (sN (iE (id:=119) R mr R R (s_ (cG R R R bT bN R R R (b4 R (s0 ((Wk.trans (aS [(1,.I p1),(2,.I p2),(8,.ag [.ak 5 (r2.1.aa.map al.lv)]),(11,.ag (al.lv r5.1).cells),(12,.bool r5.2),(13,.ag (al.lv r6.1).cells),(14,.bool r6.2),(15,.ag (ai.lv r7.1).cells),(16,.bool r7.2),(17,.ag (ai.lv r8.1).cells),(18,.bool r8.2),(19,.ptr 119 0),(20,.bool r9.2)] [(119,.box (ai.lv r9.1).cells)]) (Wk.trans (Wk.bg 119 (ai.lv r9.1).cells R R R (bM R)) (Wk.eq R R R R))))))))))))))))))))))) ?_
  obtain ⟨dy,qb,h⟩:=ao h
  refine LH.aj [(11,.ag (al.lv r5.1).cells),(12,.bool r5.2),(13,.ag (al.lv r6.1).cells),(14,.bool r6.2),(15,.ag (ai.lv r7.1).cells),(16,.bool r7.2),(17,.ag (ai.lv r8.1).cells),(18,.bool r8.2),(19,.ag (ai.lv r9.1).cells),(20,.bool r9.2),(21,.ag (ai.lv dy.1).cells),(22,.bool dy.2)] [] R (sN (bd R bw cF bx R R (bj R (bj R (sN (fU (vs:=[(0,.I p1),(1,.I p2)]) uD uE R (lf fJ ba aD R R R (lf dm ba aD R R R fT)) (sN (dQ (args:=[.agg [.ak 5 (r2.1.aa.map al.lv)],.agg [.I p1,.I p2]]) R Ji R (aH (aH bn)) (JK qb) R (rR R (sN (gy R R (sN (gy R R (sN (iE (id:=121) R mr R R (s_ (cG R R R bT bN R R R (b4 R (s0 ((Wk.trans (aS [(11,.ag (al.lv r5.1).cells),(12,.bool r5.2),(13,.ag (al.lv r6.1).cells),(14,.bool r6.2),(15,.ag (ai.lv r7.1).cells),(16,.bool r7.2),(17,.ag (ai.lv r8.1).cells),(18,.bool r8.2),(19,.ag (ai.lv r9.1).cells),(20,.bool r9.2),(21,.ptr 121 0),(22,.bool dy.2)] [(121,.box (ai.lv dy.1).cells)]) (Wk.trans (Wk.bg 121 (ai.lv dy.1).cells R R R (bM R)) (Wk.eq R R R R))))))))))))))))))))))) ?_
  obtain ⟨DT,hv,h⟩:=ao h
  refine LH.aj [(6,.bool DT)] [] R ?_ ?_
  ·refine sN (bd R cC fR b8 R R (sN (bd R cC fR b8 R R ?_)))
   obtain ⟨pN,Fg,hv⟩:=ao hv
   refine sN (dQ (args:=[al.lv r5.1,al.lv r6.1]) R Oj R (aH (aH bn)) (PD Fg) R (bD R ?_))
   by_cases cN:pN=true
   ·replace hv:=aB hv cN
    refine sT R (cB cN) (oM (v:=(.bool _)) R (sT R (cB cN) (oM (v:=(.bool _)) R (sT R (cB cN) (FV R R L8 (sN (aX (cB cN) (v:=(.bool _)) R (bD R ?_))))))))
    by_cases bR:(r5.2 == r6.2)=true
    ·replace hv:=aB hv bR
     refine sT R (cB bR) (bd R bT dO bN R R (sT R (cB bR) (bd R bT dO bN R R ?_)))
     obtain ⟨jT,Fh,hv⟩:=ao hv
     refine sT R (cB bR) (dQ (args:=[ai.lv r7.1,ai.lv r8.1]) R BU R (aH (aH bn)) (Cd Fh) R (sN (aX (cB bR) (v:=(.bool _)) R (bD R ?_))))
     by_cases fE:jT=true
     ·replace hv:=aB hv fE
      refine sT R (cB fE) (oM (v:=(.bool _)) R (sT R (cB fE) (oM (v:=(.bool _)) R (sT R (cB fE) (FV R R L8 (sN (aX (cB fE) (v:=(.bool _)) R (bD R ?_))))))))
      by_cases ri:(r7.2 == r8.2)=true
      ·replace hv:=aB hv ri
       refine sT R (cB ri) (bd R bT dO bN R R (sT R (cB ri) (bd R bT dO bN R R ?_)))
       obtain ⟨qN,Fi,hv⟩:=ao hv
       refine sT R (cB ri) (dQ (args:=[ai.lv r9.1,ai.lv dy.1]) R BU R (aH (aH bn)) (Cd Fi) R (sN (aX (cB ri) (v:=(.bool _)) R (bD R ?_))))
       by_cases kc:qN=true
       ·replace hv:=aB hv kc
        refine sT R (cB kc) (oM (v:=(.bool _)) R (sT R (cB kc) (oM (v:=(.bool _)) R (sT R (cB kc) (FV R R L8 (sN (aX (cB kc) (v:=(.bool _)) R (bD R ?_))))))))
        by_cases xt:(r9.2 == dy.2)=true
        ·replace hv:=aB hv xt
         obtain ⟨jr,Ax,hv⟩:=ao hv
         refine sT R (cB xt) (dQ (args:=[]) R Og R bn (P3 Ax) R (sN (aX (cB xt) (v:=(.bool _)) R (b4 R ?_))))
         obtain rfl:=oI hv
         exact zS
        ·replace xt:=bF xt
         replace hv:=aA hv xt
         refine sF R R xt (sN (aQ (cB xt) (v:=(.bool _)) R (b4 R ?_)))
         obtain rfl:=oI hv
         exact zS
       ·replace kc:=bF kc
        replace hv:=aA hv kc
        refine sF R R kc (sF R R kc (sF R R kc (sN (aQ (cB kc) (v:=(.bool _)) R (bD R (sF R R R (sN (aQ R (v:=(.bool _)) R (b4 R ?_)))))))))
        obtain rfl:=oI hv
        exact zS
      ·replace ri:=bF ri
       replace hv:=aA hv ri
       refine sF R R ri (sF R R ri (sF R R ri (sN (aQ (cB ri) (v:=(.bool _)) R (bD R (sF R R R (sF R R R (sF R R R (sN (aQ R (v:=(.bool _)) R (bD R (sF R R R (sN (aQ R (v:=(.bool _)) R (b4 R ?_)))))))))))))))
       obtain rfl:=oI hv
       exact zS
     ·replace fE:=bF fE
      replace hv:=aA hv fE
      refine sF R R fE (sF R R fE (sF R R fE (sN (aQ (cB fE) (v:=(.bool _)) R (bD R (sF R R R (sF R R R (sF R R R (sN (aQ R (v:=(.bool _)) R (bD R (sF R R R (sF R R R (sF R R R (sN (aQ R (v:=(.bool _)) R (bD R (sF R R R (sN (aQ R (v:=(.bool _)) R (b4 R ?_)))))))))))))))))))))
      obtain rfl:=oI hv
      exact zS
    ·replace bR:=bF bR
     replace hv:=aA hv bR
     refine sF R R bR (sF R R bR (sF R R bR (sN (aQ (cB bR) (v:=(.bool _)) R (bD R (sF R R R (sF R R R (sF R R R (sN (aQ R (v:=(.bool _)) R (bD R (sF R R R (sF R R R (sF R R R (sN (aQ R (v:=(.bool _)) R (bD R (sF R R R (sF R R R (sF R R R (sN (aQ R (v:=(.bool _)) R (bD R (sF R R R (sN (aQ R (v:=(.bool _)) R (b4 R ?_)))))))))))))))))))))))))))
     obtain rfl:=oI hv
     exact zS
   ·replace cN:=bF cN
    replace hv:=aA hv cN
    refine sF R R cN (sF R R cN (sF R R cN (sN (aQ (cB cN) (v:=(.bool _)) R (bD R (sF R R R (sF R R R (sF R R R (sN (aQ R (v:=(.bool _)) R (bD R (sF R R R (sF R R R (sF R R R (sN (aQ R (v:=(.bool _)) R (bD R (sF R R R (sF R R R (sF R R R (sN (aQ R (v:=(.bool _)) R (bD R (sF R R R (sF R R R (sF R R R (sN (aQ R (v:=(.bool _)) R (bD R (sF R R R (sN (aQ R (v:=(.bool _)) R (b4 R ?_)))))))))))))))))))))))))))))))))
    obtain rfl:=oI hv
    exact zS
  clear hv
  refine LH.ret ?_
  obtain rfl:=oI h
  exact aO (aT Tryz.results5) (bU R (bS ⟨aN mN,R,aZ R,Sub.rfl⟩))
end Go.Proofs.YtmollikhdbaikaaGreat
