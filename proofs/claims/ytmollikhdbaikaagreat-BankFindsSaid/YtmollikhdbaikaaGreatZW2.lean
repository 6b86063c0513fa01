import Derived.Test.YtmollikhdbaikaaGreatZW1
set_option linter.unusedVariables false
set_option linter.unusedSimpArgs false
set_option maxRecDepth 100000
set_option maxHeartbeats 1000000
namespace Go.Proofs.YtmollikhdbaikaaGreat
open Go.L Go.Sh
theorem Py {F:Nat} {p0:List Int} {p1:List Int} {r:Bool} (h:AV F p0 p1=some r):aM Tryz.prog 90 [.L p0,.L p1] (Mem.of []) (.bool r) (Mem.of []):=by
  unfold AV at h
  refine br Tryz.func90 R (nT Tryz.ntmps90 R) (LH.wk (aS [(0,.L p0),(1,.L p1)] []) (LH.aj [(0,.L p0),(1,.L p1)] [] R (b4 R zS) (LH.seq (LH.aj [(0,.L p0),(1,.L p1),(10,.bool ((p0.length:Int) != (p1.length:Int)))] [] R (fp R (sN (bW (f:=LV.I) cE R (fp R (sN (bW (f:=LV.I) cE R (sN (jR R R zS)))))))) (LH.cond (t:=((p0.length:Int) != (p1.length:Int))) R (fun jF=>?_) (fun jF=>?_))))))
  ·replace h:=aB h jF
   refine LH.aj [(4,.bool false)] [] R (b4 R zS) (LH.ret (aW ?_))
   obtain rfl:=oI h
   exact aO (aT Tryz.results90) (bU R (bS ⟨aN mN,R,aZ R,Sub.rfl⟩))
  replace h:=aA h jF
  refine LH.skip (au (LH.wk (aS [(0,.L p0),(1,.L p1)] []) (LH.seq (LH.aj [(0,.L p0),(1,.L p1),(12,.I (p0.length:Int)),(13,.I 0)] [] R (fp R (sN (bW (f:=LV.I) cE R (bj R zS)))) (LH.block (LH.loop (fun n e m=>∃ (n2:Int),yh p0 p1 n n2=some r∧e=Env.of [(0,.L p0),(1,.L p1),(12,.I (p0.length:Int)),(13,.I n2)]∧m=Mem.of []) F ⟨0,h,R,R⟩ ?_))))))
  clear h
  rintro n e m ⟨n2,h,rfl,rfl⟩
  rcases n with _ | n
  · cases (show Option.none=some _ from h)
  obtain ⟨aJ,a7⟩:∃ f,f=yh p0 p1 n:=⟨_,rfl⟩
  replace h:Dj p0 p1 aJ n2=some r:=a7 ▸ h
  unfold Dj at h
  refine LH.aj [(0,.L p0),(1,.L p1),(12,.I (p0.length:Int)),(13,.I n2),(14,.bool (decide (n2<(p0.length:Int))))] [] R (sN (fi R R zS)) (LH.seq (LH.cond (t:=(decide (n2<(p0.length:Int)))) R (fun iK=>?_) (fun iK=>?_)))
  ·replace h:=aB h iK
   refine LH.skip (au (LH.wk (aS [(0,.L p0),(1,.L p1),(12,.I (p0.length:Int)),(13,.I n2)] []) (LH.seq (LH.block (LH.aj [(0,.L p0),(1,.L p1),(5,.I n2),(12,.I (p0.length:Int)),(13,.I n2)] [] R (bj R (bo R zS)) ?_)))))
   obtain ⟨x4,C2,h⟩:=ao h
   obtain ⟨x5,nJ,h⟩:=ao h
   refine LH.di mixed [] [0,0,0,0,0,0,0,0,0] [(0,.L p0),(1,.L p1),(12,.I (p0.length:Int)),(13,.I n2),(24,.bool (x4 != x5))] [] R R (by kernel_rfl) (rM R (fF R (aF (eG (f:=LV.I) cE aD ba R R lY C2 R ⟨R,aF (bb R aD bQ ⟨R,rM R (fF R (aF (eG (f:=LV.I) cE aD ba R R lY nJ R ⟨R,aF (bb R aD bQ ⟨R,aF (jR R R ⟨R,zM⟩)⟩)⟩)))⟩)⟩)))) (LH.cond (t:=(x4 != x5)) R (fun fP=>?_) (fun fP=>?_))
   ·replace h:=aB h fP
    refine LH.aj [(4,.bool false)] [] R (b4 R zS) (LH.ret (bB (aW (dF (bB (aW ?_))))))
    obtain rfl:=oI h
    exact aO (aT Tryz.results90) (bU R (bS ⟨aN mN,R,aZ R,Sub.rfl⟩))
   replace h:=aA h fP
   refine LH.skip (aY (au (LH.aU [(0,.L p0),(1,.L p1),(12,.I (p0.length:Int)),(13,.I (i64 (n2+1)))] [] R (sN (cD R R (bj R zS))) ?_)))
   exact bh ⟨(i64 (n2+1)),a7 ▸ h,R,R⟩ (Wk.eq R R R R)
  replace h:=aA h iK
  refine LH.exit (cw (bY (bO (au (LH.aj [(4,.bool true)] [] R (b4 R zS) (LH.ret ?_))))))
  obtain rfl:=oI h
  exact aO (aT Tryz.results90) (bU R (bS ⟨aN mN,R,aZ R,Sub.rfl⟩))
theorem PS {F:Nat} {p0:ai} {p1:ai} {r:Bool} (h:yx F p0 p1=some r):aM Tryz.prog 74 [ai.lv p0,ai.lv p1] (Mem.of []) (.bool r) (Mem.of []):=by
  unfold yx at h
  refine br Tryz.func74 R (nT Tryz.ntmps74 R) (LH.wk (aS [(0,ai.lv p0),(1,ai.lv p1)] []) (LH.aj [(2,.ag (ai.lv p0).cells),(3,.ag (ai.lv p1).cells)] [] R (sB (c7 R R R R (sB (c7 R R R R (b4 R zS))))) ?_))
  obtain ⟨w2,hv,h⟩:=ao h
  refine LH.aj [(4,.bool w2)] [] R ?_ ?_
  ·refine sN (aw e9 aD ba R R R (sN (bb R aD bQ (sN (aw e9 aD ba R R R (sN (bb R aD bQ (sN (gp R R (bD R ?_))))))))))
   by_cases bP:(p0.ID == p1.ID)=true
   ·replace hv:=aB hv bP
    refine sT R (cB bP) (aw fL aD ba R R R (sT R (cB bP) (bb R aD bQ (sT R (cB bP) (aw fL aD ba R R R (sT R (cB bP) (bb R aD bQ (sT R (cB bP) (gp R R (sN (aX (cB bP) (v:=(.bool _)) R (bD R ?_))))))))))))
    by_cases bu:(p0.Version == p1.Version)=true
    ·replace hv:=aB hv bu
     refine sT R (cB bu) (aw gV o8 xc R R R (sT R (cB bu) (bb R o8 DP (sT R (cB bu) (aw gV o8 xc R R R (sT R (cB bu) (bb R o8 DP (L4 R (cB bu) ((wm R R).ok) (sN (aX (cB bu) (v:=(.bool _)) R (bD R ?_)))))))))))
     by_cases bH:(decide (p0.bI=p1.bI))=true
     ·replace hv:=aB hv bH
      refine sT R (cB bH) (aw cZ c8 fC R R R (sT R (cB bH) (bb R c8 iT (sT R (cB bH) (aw cZ c8 fC R R R (sT R (cB bH) (bb R c8 iT ?_)))))))
      obtain ⟨r6,HY,hv⟩:=ao hv
      refine sT R (cB bH) (dQ (args:=[.ak 6 (p0.aG.map aq.lv),.ak 6 (p1.aG.map aq.lv)]) R O6 R (aH (aH bn)) (Px HY) R (sN (aX (cB bH) (v:=(.bool _)) R (bD R ?_))))
      by_cases cc:r6=true
      ·replace hv:=aB hv cc
       refine sT R (cB cc) (aw fq eM jq R R R (sT R (cB cc) (bb R eM mo (sT R (cB cc) (aw fq eM jq R R R (sT R (cB cc) (bb R eM mo ?_)))))))
       obtain ⟨r8,K3,hv⟩:=ao hv
       refine sT R (cB cc) (dQ (args:=[.L p0.aE,.L p1.aE]) R O7 R (aH (aH bn)) (Py K3) R (sN (aX (cB cc) (v:=(.bool _)) R (b4 R ?_))))
       obtain rfl:=oI hv
       exact zS
      ·replace cc:=bF cc
       replace hv:=aA hv cc
       refine sF R R cc (sF R R cc (sF R R cc (sF R R cc (sF R R cc (sN (aQ (cB cc) (v:=(.bool _)) R (b4 R ?_)))))))
       obtain rfl:=oI hv
       exact zS
     ·replace bH:=bF bH
      replace hv:=aA hv bH
      refine sF R R bH (sF R R bH (sF R R bH (sF R R bH (sF R R bH (sN (aQ (cB bH) (v:=(.bool _)) R (bD R (sF R R R (sF R R R (sF R R R (sF R R R (sF R R R (sN (aQ R (v:=(.bool _)) R (b4 R ?_)))))))))))))))
      obtain rfl:=oI hv
      exact zS
    ·replace bu:=bF bu
     replace hv:=aA hv bu
     refine sF R R bu (sF R R bu (sF R R bu (sF R R bu (sF R R bu (sN (aQ (cB bu) (v:=(.bool _)) R (bD R (sF R R R (sF R R R (sF R R R (sF R R R (sF R R R (sN (aQ R (v:=(.bool _)) R (bD R (sF R R R (sF R R R (sF R R R (sF R R R (sF R R R (sN (aQ R (v:=(.bool _)) R (b4 R ?_)))))))))))))))))))))))
     obtain rfl:=oI hv
     exact zS
   ·replace bP:=bF bP
    replace hv:=aA hv bP
    refine sF R R bP (sF R R bP (sF R R bP (sF R R bP (sF R R bP (sN (aQ (cB bP) (v:=(.bool _)) R (bD R (sF R R R (sF R R R (sF R R R (sF R R R (sF R R R (sN (aQ R (v:=(.bool _)) R (bD R (sF R R R (sF R R R (sF R R R (sF R R R (sF R R R (sN (aQ R (v:=(.bool _)) R (bD R (sF R R R (sF R R R (sF R R R (sF R R R (sF R R R (sN (aQ R (v:=(.bool _)) R (b4 R ?_)))))))))))))))))))))))))))))))
    obtain rfl:=oI hv
    exact zS
  clear hv
  refine LH.ret ?_
  obtain rfl:=oI h
  exact aO (aT Tryz.results74) (bU R (bS ⟨aN mN,R,aZ R,Sub.rfl⟩))
theorem Qf {F:Nat} {p0:ax} {p1:ax} {r:Bool} (h:iG F p0 p1=some r):aM Tryz.prog 56 [ax.lv p0,ax.lv p1] (Mem.of []) (.bool r) (Mem.of []):=by
  unfold iG at h
  refine br Tryz.func56 R (nT Tryz.ntmps56 R) (LH.wk (aS [(0,ax.lv p0),(1,ax.lv p1)] []) (LH.aj [(2,.ag (ax.lv p0).cells),(3,.ag (ax.lv p1).cells)] [] R (sB (c7 R R R R (sB (c7 R R R R (b4 R zS))))) ?_))
  obtain ⟨w2,hv,h⟩:=ao h
  refine LH.aj [(4,.bool w2)] [] R ?_ ?_
  ·refine sN (aw dh cg b7 R R R (sN (bd R cg gj b7 R R (sN (aw dh cg b7 R R R (sN (bd R cg gj b7 R R (sN (Da R R (Et p0.ar p1.ar) (bD R ?_))))))))))
   by_cases bP:(decide (p0.ar=p1.ar))=true
   ·replace hv:=aB hv bP
    refine sT R (cB bP) (aw fb aD ba R R R (sT R (cB bP) (bb R aD bQ (sT R (cB bP) (aw fb aD ba R R R (sT R (cB bP) (bb R aD bQ (sT R (cB bP) (gp R R (sN (aX (cB bP) (v:=(.bool _)) R (bD R ?_))))))))))))
    by_cases bu:(p0.Kind == p1.Kind)=true
    ·replace hv:=aB hv bu
     refine sT R (cB bu) (aw eV gH gv R R R (sT R (cB bu) (bd R gH wL gv R R (sT R (cB bu) (aw eV gH gv R R R (sT R (cB bu) (bd R gH wL gv R R (sT R (cB bu) (Da R R (J6 p0.Ref p1.Ref) (sN (aX (cB bu) (v:=(.bool _)) R (bD R ?_))))))))))))
     by_cases bH:(decide (p0.Ref=p1.Ref))=true
     ·replace hv:=aB hv bH
      refine sT R (cB bH) (aw kY aD ba R R R (sT R (cB bH) (bb R aD bQ (sT R (cB bH) (aw kY aD ba R R R (sT R (cB bH) (bb R aD bQ (sT R (cB bH) (gp R R (sN (aX (cB bH) (v:=(.bool _)) R (bD R ?_))))))))))))
      by_cases b3:(p0.Form == p1.Form)=true
      ·replace hv:=aB hv b3
       refine sT R (cB b3) (aw fc bT bN R R R (sT R (cB b3) (bd R bT dO bN R R (sT R (cB b3) (aw fc bT bN R R R (sT R (cB b3) (bd R bT dO bN R R ?_)))))))
       obtain ⟨r7,Az,hv⟩:=ao hv
       refine sT R (cB b3) (dQ (args:=[ai.lv p0.Item,ai.lv p1.Item]) R OX R (aH (aH bn)) (PS Az) R (sN (aX (cB b3) (v:=(.bool _)) R (b4 R ?_))))
       obtain rfl:=oI hv
       exact zS
      ·replace b3:=bF b3
       replace hv:=aA hv b3
       refine sF R R b3 (sF R R b3 (sF R R b3 (sF R R b3 (sF R R b3 (sN (aQ (cB b3) (v:=(.bool _)) R (b4 R ?_)))))))
       obtain rfl:=oI hv
       exact zS
     ·replace bH:=bF bH
      replace hv:=aA hv bH
      refine sF R R bH (sF R R bH (sF R R bH (sF R R bH (sF R R bH (sN (aQ (cB bH) (v:=(.bool _)) R (bD R (sF R R R (sF R R R (sF R R R (sF R R R (sF R R R (sN (aQ R (v:=(.bool _)) R (b4 R ?_)))))))))))))))
      obtain rfl:=oI hv
      exact zS
    ·replace bu:=bF bu
     replace hv:=aA hv bu
     refine sF R R bu (sF R R bu (sF R R bu (sF R R bu (sF R R bu (sN (aQ (cB bu) (v:=(.bool _)) R (bD R (sF R R R (sF R R R (sF R R R (sF R R R (sF R R R (sN (aQ R (v:=(.bool _)) R (bD R (sF R R R (sF R R R (sF R R R (sF R R R (sF R R R (sN (aQ R (v:=(.bool _)) R (b4 R ?_)))))))))))))))))))))))
     obtain rfl:=oI hv
     exact zS
   ·replace bP:=bF bP
    replace hv:=aA hv bP
    refine sF R R bP (sF R R bP (sF R R bP (sF R R bP (sF R R bP (sN (aQ (cB bP) (v:=(.bool _)) R (bD R (sF R R R (sF R R R (sF R R R (sF R R R (sF R R R (sN (aQ R (v:=(.bool _)) R (bD R (sF R R R (sF R R R (sF R R R (sF R R R (sF R R R (sN (aQ R (v:=(.bool _)) R (bD R (sF R R R (sF R R R (sF R R R (sF R R R (sF R R R (sN (aQ R (v:=(.bool _)) R (b4 R ?_)))))))))))))))))))))))))))))))
    obtain rfl:=oI hv
    exact zS
  clear hv
  refine LH.ret ?_
  obtain rfl:=oI h
  exact aO (aT Tryz.results56) (bU R (bS ⟨aN mN,R,aZ R,Sub.rfl⟩))
theorem GH {p0:ai} {r:ai} (h:wu p0=some r):aM Tryz.prog 41 [ai.lv p0] (Mem.of []) (ai.lv r) (Mem.of []):=by
  unfold wu at h
  refine br Tryz.func41 R (nT Tryz.ntmps41 R) (LH.wk (aS [(0,ai.lv p0)] []) (LH.aj [(1,.ptr 101 0),(2,.ptr 102 0)] [(101,.box (ai.lv p0).cells),(102,.box eh)] R (sN (Rb (id:=101) R R R R R R (sN (iE (id:=102) R mr R R zS)))) ?_))
  obtain ⟨v1,kr,h⟩:=ao h
  refine LH.aj [(1,.ptr 101 0),(2,.ptr 102 0)] [(101,.box [.I p0.ID,.I p0.Version,.str p0.bI,.ak 6 (v1.map aq.lv),.L p0.aE]),(102,.box eh)] R (sN (dD cZ c8 fC R R (sN (dM R R R R c8 iT (sN (dQ (args:=[.ak 6 (p0.aG.map aq.lv)]) R OT R (aH bn) (aM.Aa (pf (g:=aq.lv) Ez R 105 kr) R) R (sN (dD cZ c8 fC R R (s_ (cG R R R c8 fC R R R zS)))))))))) ?_
  obtain ⟨v2,wY,h⟩:=ao h
  refine LH.aj [(1,.ag [.I p0.ID,.I p0.Version,.str p0.bI,.ak 6 (v1.map aq.lv),.L v2]),(2,.ptr 102 0)] [(102,.box eh)] R (sN (dD fq eM jq R R (sN (dM R R R R eM mo (sN (dQ (args:=[.L p0.aE]) R OU R (aH bn) (aM.Aa (pf (g:=LV.I) EA R 109 wY) R) R (sN (dD fq eM jq R R (s_ (cG R R R eM jq R R R (s0 ((Wk.trans (aS [(1,.ptr 101 0),(2,.ptr 102 0)] [(101,.box [.I p0.ID,.I p0.Version,.str p0.bI,.ak 6 (v1.map aq.lv),.L v2]),(102,.box eh)]) (Wk.trans (Wk.bg 101 [.I p0.ID,.I p0.Version,.str p0.bI,.ak 6 (v1.map aq.lv),.L v2] R R R (bM R)) (Wk.eq R R R R))))))))))))))) (LH.aj [(2,.ag [.I p0.ID,.I p0.Version,.str p0.bI,.ak 6 (v1.map aq.lv),.L v2])] [] R (sN (bd R bT dO bN R R (s_ (cG R R R bT bN R R R (s0 ((Wk.trans (aS [(2,.ptr 102 0)] [(102,.box [.I p0.ID,.I p0.Version,.str p0.bI,.ak 6 (v1.map aq.lv),.L v2])]) (Wk.trans (Wk.bg 102 [.I p0.ID,.I p0.Version,.str p0.bI,.ak 6 (v1.map aq.lv),.L v2] R R R (bM R)) (Wk.eq R R R R))))))))) (LH.ret ?_))
  obtain rfl:=oI h
  exact aO (aT Tryz.results41) (cT R bT dO bN R R (bS ⟨aN mN,R,aZ R,Sub.rfl⟩))
theorem PJ {F:Nat} {p0:List ax} {r:List ax × Int} (h:yp F p0=some r):aM Tryz.prog 32 [.ak 12 (p0.map ax.lv)] (Mem.of []) (.cX [.ak 12 (r.1.map ax.lv),.I r.2]) (Mem.of []):=by
  unfold yp at h
  refine br Tryz.func32 R (nT Tryz.ntmps32 R) (LH.wk (aS [(0,.ak 12 (p0.map ax.lv))] []) (LH.aj [(0,.ak 12 (p0.map ax.lv))] [] R (kX R (bo R zS)) ?_))
  obtain ⟨r1,ee,h⟩:=ao h
  refine LH.aj [(0,.ak 12 (p0.map ax.lv)),(4,.L r1.1),(5,.I r1.2)] [] R (fp R (sN (dQ (args:=[.ak 12 (p0.map ax.lv),.fn 55 [],.fn 56 []]) R OG R (aH (aH (aH bn))) (Pu (dV:=55) (da:=[]) OH R (fun _ _ h=>PB h) (ez:=56) (dv:=[]) OI R (fun _ _ _ h=>Qf h) ee) R (rR R (sN (gy R R (sN (gy R R (qR R (bo R zS)))))))))) (LH.seq (LH.aj [(0,.ak 12 (p0.map ax.lv)),(4,.L r1.1),(5,.I r1.2),(15,.bool (r1.2 != 0))] [] R (bj R (sN (jR R R zS))) (LH.cond (t:=(r1.2 != 0)) R (fun eZ=>?_) (fun eZ=>?_))))
  ·replace h:=aB h eZ
   refine LH.aj [(2,.nil),(3,.I r1.2)] [] R (bj R (kX R (bo R zS))) (LH.ret (aW ?_))
   obtain rfl:=oI h
   exact aO (aT Tryz.results32) (bU R (bU R (bS ⟨aN mN,R,aZ R,(Sub.cX (oV (aH bn)))⟩)))
  replace h:=aA h eZ
  refine LH.skip (au ?_)
  obtain ⟨v3,NT,h⟩:=ao h
  refine LH.aj [(0,.ak 12 (p0.map ax.lv)),(4,.L r1.1),(6,.arr 119 v3.length)] [(119,.arr 63 12 (v3.map ax.lv))] R (fp R (sN (bW (f:=LV.I) cE R (sX (F3 (f:=ax.lv) (z:=(ax.mk (aL.mk 0 0 0) 0 (ai.mk 0 0 (ByteArray.mk #[]) [] []) (bG.mk 0 0) 0)) (id:=119) R gA zn zi eA R R R (Sub.agg (aH (aH (aH (aH (aH (aH (aH (oV (oV (aH (aH (aH bn))))))))))))) ax.ok NT R) (nM R zS))))) (LH.seq (LH.aj [(0,.ak 12 (p0.map ax.lv)),(6,.arr 119 v3.length),(20,.L r1.1),(21,.I (r1.1.length:Int)),(22,.I 0)] [(119,.arr 63 12 (v3.map ax.lv))] R (fp R (sN (bW (f:=LV.I) cE R (bj R zS)))) (LH.block (LH.loop (fun n e m=>∃ (n4:Int) (l5:List ax),A2 p0 r1 n n4 l5=some r∧e=Env.of [(0,.ak 12 (p0.map ax.lv)),(6,.arr 119 l5.length),(20,.L r1.1),(21,.I (r1.1.length:Int)),(22,.I n4)]∧m=Mem.of [(119,.arr 63 12 (l5.map ax.lv))]) F ⟨0,v3,h,R,R⟩ ?_))))
  clear h
  rintro n e m ⟨n4,l5,h,rfl,rfl⟩
  rcases n with _ | n
  · cases (show Option.none=some _ from h)
  obtain ⟨aJ,a7⟩:∃ f,f=A2 p0 r1 n:=⟨_,rfl⟩
  replace h:GA p0 r1 aJ n4 l5=some r:=a7 ▸ h
  unfold GA at h
  refine LH.aj [(0,.ak 12 (p0.map ax.lv)),(6,.arr 119 l5.length),(20,.L r1.1),(21,.I (r1.1.length:Int)),(22,.I n4),(23,.bool (decide (n4<(r1.1.length:Int))))] [(119,.arr 63 12 (l5.map ax.lv))] R (sN (fi R R zS)) (LH.seq (LH.cond (t:=(decide (n4<(r1.1.length:Int)))) R (fun fP=>?_) (fun fP=>?_)))
  ·replace h:=aB h fP
   refine LH.skip (au (LH.wk (aS [(0,.ak 12 (p0.map ax.lv)),(6,.arr 119 l5.length),(20,.L r1.1),(21,.I (r1.1.length:Int)),(22,.I n4)] [(119,.arr 63 12 (l5.map ax.lv))]) (LH.seq (LH.block ?_))))
   obtain ⟨x7,AF,h⟩:=ao h
   refine LH.aj [(0,.ak 12 (p0.map ax.lv)),(6,.arr 119 l5.length),(7,.I n4),(8,.I x7),(20,.L r1.1),(21,.I (r1.1.length:Int)),(22,.I n4)] [(119,.arr 63 12 (l5.map ax.lv))] R (bj R (sN (eG (f:=LV.I) cE aD ba R R lY AF R (sN (bb R aD bQ (bo R (bo R zS))))))) ?_
   obtain ⟨x8,s6,h⟩:=ao h
   obtain ⟨x9,wZ,h⟩:=ao h
   refine LH.aj [(0,.ak 12 (p0.map ax.lv)),(6,.arr 119 (List.length (l5.set n4.toNat x8))),(7,.I n4),(8,.I x7),(20,.L r1.1),(21,.I (r1.1.length:Int)),(22,.I n4)] [(119,.arr 63 12 (List.map ax.lv (l5.set n4.toNat x8)))] R (j0 R (bj R (fp R (bj R (sN (eG (f:=ax.lv) gA fB eA R R ax.ok s6 R (sN (bd R fB mq eA R R (sN (gS (f:=ax.lv) gA fB eA R R R wZ (s_ (qd (f:=ax.lv) (z':=x8) R R R R fB eA R (dB wZ).2 R (s0 (Wk.to (eC R (eC (congrArg (LV.arr 119) (by simp)) (eC R (eC R (eC R (eC R (eC R eN))))))) ⟨R,trivial⟩ R (aZ R))))))))))))))) ?_
   obtain ⟨o9,ru,h⟩:=ao h
   obtain ⟨cM,lH,h⟩:=ao h
   obtain ⟨gC,pF,h⟩:=ao h
   refine LH.aU [(0,.ak 12 (p0.map ax.lv)),(6,.arr 119 (List.length ((l5.set n4.toNat x8).set n4.toNat (ax.mk gC.ar gC.Kind cM gC.Ref gC.Form)))),(20,.L r1.1),(21,.I (r1.1.length:Int)),(22,.I n4)] [(119,.arr 63 12 (List.map ax.lv ((l5.set n4.toNat x8).set n4.toNat (ax.mk gC.ar gC.Kind cM gC.Ref gC.Form))))] R (j0 R (bj R (fp R (bj R (sN (eG (f:=ax.lv) gA fB eA R R ax.ok ru R (sN (aw fc bT bN R R R (sN (bd R bT dO bN R R (sN (dQ (args:=[ai.lv o9.Item]) R xL R (aH bn) (GH lH) R (sN (gS (f:=ax.lv) gA fB eA R R R pF (sN (Ia (f:=ax.lv) fc bT bN R R R (s_ (qd (f:=ax.lv) (z':=(ax.mk gC.ar gC.Kind cM gC.Ref gC.Form)) R R R R bT bN R (dB pF).2 R (s0 (Wk.to (eC R (eC (congrArg (LV.arr 119) (by simp)) (eC R (eC R (eC R eN))))) ⟨R,trivial⟩ R (aZ R))))))))))))))))))))) (aY (au (LH.aU [(0,.ak 12 (p0.map ax.lv)),(6,.arr 119 (List.length ((l5.set n4.toNat x8).set n4.toNat (ax.mk gC.ar gC.Kind cM gC.Ref gC.Form)))),(20,.L r1.1),(21,.I (r1.1.length:Int)),(22,.I (i64 (n4+1)))] [(119,.arr 63 12 (List.map ax.lv ((l5.set n4.toNat x8).set n4.toNat (ax.mk gC.ar gC.Kind cM gC.Ref gC.Form))))] R (sN (cD R R (bj R zS))) ?_)))
   exact bh ⟨(i64 (n4+1)),((l5.set n4.toNat x8).set n4.toNat (ax.mk gC.ar gC.Kind cM gC.Ref gC.Form)),a7 ▸ h,R,R⟩ (Wk.eq R R R R)
  replace h:=aA h fP
  refine LH.exit (cw (bY (bO (au (LH.wk ((Wk.trans (aS [(6,.arr 119 l5.length)] [(119,.arr 63 12 (l5.map ax.lv))]) (Wk.trans (Wk.lk (f:=ax.lv) (fy:=[(6,.ak 12 (l5.map ax.lv))]) 119 63 12 l5 R R (bM R) (fZ fN)) (aS [(6,.ak 12 (l5.map ax.lv))] [])))) (LH.aj [(2,.ak 12 (l5.map ax.lv)),(3,.I 0)] [] R (fp R (qR R (bo R zS))) (LH.ret ?_)))))))
  obtain rfl:=oI h
  exact aO (aT Tryz.results32) (bU R (bU R (bS ⟨aN mN,R,aZ R,(Sub.cX (aH (aH bn)))⟩)))
theorem JJ {p0:Int} {r:Bool} (h:vd p0=some r):aM Tryz.prog 91 [.I p0] (Mem.of []) (.bool r) (Mem.of []):=by
  unfold vd at h
  refine br Tryz.func91 R (nT Tryz.ntmps91 R) (LH.wk (aS [(0,.I p0)] []) (LH.aj [(0,.I p0)] [] R (b4 R zS) (LH.aj [(2,.bool ((decide (p0 ≥ 0)) && (decide (p0≤9999))))] [] R ?_ ?_)))
  ·refine bj R (sN (pJ R R (bD R ?_)))
   by_cases cA:(decide (p0 ≥ 0))=true
   ·exact sT R (cB cA) (oM (v:=(.int _ _)) R (sT R (cB cA) (Ib R R (sN (aX (cB cA) (v:=(.bool _)) R (b4 R (s0 (Wk.to (eC (cB (dK cA)) eN) mN R (aZ R)))))))))
   ·replace cA:=bF cA
    exact sF R R cA (sF R R cA (sN (aQ (cB cA) (v:=(.bool _)) R (b4 R (s0 (Wk.to (eC (cB (ks cA)) eN) mN R (aZ R)))))))
  refine LH.ret ?_
  obtain rfl:=oI h
  exact aO (aT Tryz.results91) (bU R (bS ⟨aN mN,R,aZ R,Sub.rfl⟩))
theorem PL {F:Nat} {p0:ByteArray} {r:Bool} (h:yu F p0=some r):aM Tryz.prog 92 [.str p0] (Mem.of []) (.bool r) (Mem.of []):=by
  unfold yu at h
  refine br Tryz.func92 R (nT Tryz.ntmps92 R) (LH.wk (aS [(0,.str p0)] []) (LH.aj [(0,.str p0)] [] R (b4 R zS) (LH.seq (LH.aj [(0,.str p0),(3,.I 0)] [] R (bo R zS) (LH.block (LH.loop (fun n e m=>∃ (n1:Int),A3 p0 n n1=some r∧e=Env.of [(0,.str p0),(3,.I n1)]∧m=Mem.of []) F ⟨0,h,R,R⟩ ?_))))))
  clear h
  rintro n e m ⟨n1,h,rfl,rfl⟩
  rcases n with _ | n
  · cases (show Option.none=some _ from h)
  obtain ⟨aJ,a7⟩:∃ f,f=A3 p0 n:=⟨_,rfl⟩
  replace h:GB p0 aJ n1=some r:=a7 ▸ h
  unfold GB at h
  refine LH.seq (LH.aj [(0,.str p0),(3,.I n1),(7,.bool (decide (n1<(p0.size:Int))))] [] R (bj R (sN (oM (v:=(.str _)) R (sX ((rN Iy R).ok) (sN (fi R R zS)))))) (LH.cond (t:=(decide (n1<(p0.size:Int)))) R (fun eZ=>?_) (fun eZ=>?_)))
  ·replace h:=aB h eZ
   refine LH.skip (au (LH.wk (aS [(0,.str p0),(3,.I n1)] []) (LH.seq (LH.block ?_))))
   obtain ⟨w4,hv,h⟩:=ao h
   refine LH.aj [(0,.str p0),(3,.I n1),(19,.bool w4)] [] R ?_ ?_
   ·refine sN (oM (v:=(.str _)) R (bj R ?_))
    obtain ⟨x5,nJ,hv⟩:=ao hv
    refine sX ((wo Iy R R nJ).ok) (sN (fi R R (bD R ?_)))
    by_cases b3:(decide (x5<32))=true
    ·replace hv:=aB hv b3
     refine sF R R b3 (sF R R b3 (sF R R b3 (sF R R b3 (sN (aX (cB b3) (v:=(.bool _)) R ?_)))))
     obtain rfl:=oI hv
     exact zS
    ·replace b3:=bF b3
     replace hv:=aA hv b3
     refine sT R (cB b3) (oM (v:=(.str _)) R (sT R (cB b3) (oM (v:=(.int _ _)) R ?_)))
     obtain ⟨x7,AF,hv⟩:=ao hv
     refine L4 R (cB b3) ((wo Iy R R AF).ok) (sT R (cB b3) (iP R R (sN (aQ (cB b3) (v:=(.bool _)) R ?_))))
     obtain rfl:=oI hv
     exact zS
   clear hv
   refine LH.cond (t:=w4) R (fun kS=>?_) (fun kS=>?_)
   ·replace h:=aB h kS
    refine LH.aj [(2,.bool false)] [] R (b4 R zS) (LH.ret (bB (aW (dF (bB (aW ?_))))))
    obtain rfl:=oI h
    exact aO (aT Tryz.results92) (bU R (bS ⟨aN mN,R,aZ R,Sub.rfl⟩))
   replace h:=aA h kS
   refine LH.skip (aY (au (LH.aU [(0,.str p0),(3,.I (i64 (n1+1)))] [] R (bj R (sN (cD R R (bo R zS)))) ?_)))
   exact bh ⟨(i64 (n1+1)),a7 ▸ h,R,R⟩ (Wk.eq R R R R)
  replace h:=aA h eZ
  refine LH.exit (cw (bY (bO (au (LH.aj [(2,.bool true)] [] R (b4 R zS) (LH.ret ?_))))))
  obtain rfl:=oI h
  exact aO (aT Tryz.results92) (bU R (bS ⟨aN mN,R,aZ R,Sub.rfl⟩))
theorem PK {p0:aq} {r:Bool} (h:yt p0=some r):aM Tryz.prog 93 [aq.lv p0] (Mem.of []) (.bool r) (Mem.of []):=by
  unfold yt at h
  refine br Tryz.func93 R (nT Tryz.ntmps93 R) (LH.wk (aS [(0,aq.lv p0)] []) (LH.aj [(1,.ag (aq.lv p0).cells)] [] R (sB (c7 R R R R (b4 R zS))) (LH.seq (LH.aj [(1,.ag (aq.lv p0).cells),(30,.bool ((decide (p0.Max<1)) || ((decide (p0.Max > 40)) || ((decide (p0.e6<0)) || ((decide (p0.e6 ≥ 16)) || ((decide (p0.ct<0)) || (decide (p0.ct ≥ 6))))))))] [] R ?_ ?_))))
  ·refine sN (aw mY aD ba R R R (sN (bb R aD bQ (sN (fi R R (bD R ?_))))))
   by_cases cA:(decide (p0.Max<1))=true
   ·exact sF R R cA (sF R R cA (sF R R cA (sN (aX (cB cA) (v:=(.bool _)) R (bD R (sF R R R (sF R R R (sF R R R (sN (aX R (v:=(.bool _)) R (bD R (sF R R R (sF R R R (sF R R R (sN (aX R (v:=(.bool _)) R (bD R (sF R R R (sF R R R (sF R R R (sN (aX R (v:=(.bool _)) R (bD R (sF R R R (sF R R R (sF R R R (sN (aX R (v:=(.bool _)) R (s0 (Wk.to (eC R (eC (cB (nL cA)) eN)) mN R (aZ R)))))))))))))))))))))))))))))))
   ·replace cA:=bF cA
    refine sT R (cB cA) (aw mY aD ba R R R (sT R (cB cA) (bb R aD bQ (sT R (cB cA) (iP R R (sN (aQ (cB cA) (v:=(.bool _)) R (bD R ?_))))))))
    by_cases bP:(decide (p0.Max > 40))=true
    ·exact sF R R bP (sF R R bP (sF R R bP (sN (aX (cB bP) (v:=(.bool _)) R (bD R (sF R R R (sF R R R (sF R R R (sN (aX R (v:=(.bool _)) R (bD R (sF R R R (sF R R R (sF R R R (sN (aX R (v:=(.bool _)) R (bD R (sF R R R (sF R R R (sF R R R (sN (aX R (v:=(.bool _)) R (s0 (Wk.to (eC R (eC (cB (Eq.trans (nL bP) (gz cA))) eN)) mN R (aZ R)))))))))))))))))))))))))
    ·replace bP:=bF bP
     refine sT R (cB bP) (aw qm aD ba R R R (sT R (cB bP) (bb R aD bQ (sT R (cB bP) (fi R R (sN (aQ (cB bP) (v:=(.bool _)) R (bD R ?_))))))))
     by_cases bu:(decide (p0.e6<0))=true
     ·exact sF R R bu (sF R R bu (sF R R bu (sN (aX (cB bu) (v:=(.bool _)) R (bD R (sF R R R (sF R R R (sF R R R (sN (aX R (v:=(.bool _)) R (bD R (sF R R R (sF R R R (sF R R R (sN (aX R (v:=(.bool _)) R (s0 (Wk.to (eC R (eC (cB (Eq.trans (Eq.trans (nL bu) (gz bP)) (gz cA))) eN)) mN R (aZ R)))))))))))))))))))
     ·replace bu:=bF bu
      refine sT R (cB bu) (aw qm aD ba R R R (sT R (cB bu) (bb R aD bQ (sT R (cB bu) (pJ R R (sN (aQ (cB bu) (v:=(.bool _)) R (bD R ?_))))))))
      by_cases bH:(decide (p0.e6 ≥ 16))=true
      ·exact sF R R bH (sF R R bH (sF R R bH (sN (aX (cB bH) (v:=(.bool _)) R (bD R (sF R R R (sF R R R (sF R R R (sN (aX R (v:=(.bool _)) R (s0 (Wk.to (eC R (eC (cB (Eq.trans (Eq.trans (Eq.trans (nL bH) (gz bu)) (gz bP)) (gz cA))) eN)) mN R (aZ R)))))))))))))
      ·replace bH:=bF bH
       refine sT R (cB bH) (aw qo aD ba R R R (sT R (cB bH) (bb R aD bQ (sT R (cB bH) (fi R R (sN (aQ (cB bH) (v:=(.bool _)) R (bD R ?_))))))))
       by_cases b3:(decide (p0.ct<0))=true
       ·exact sF R R b3 (sF R R b3 (sF R R b3 (sN (aX (cB b3) (v:=(.bool _)) R (s0 (Wk.to (eC R (eC (cB (Eq.trans (Eq.trans (Eq.trans (Eq.trans (nL b3) (gz bH)) (gz bu)) (gz bP)) (gz cA))) eN)) mN R (aZ R)))))))
       ·replace b3:=bF b3
        exact sT R (cB b3) (aw qo aD ba R R R (sT R (cB b3) (bb R aD bQ (sT R (cB b3) (pJ R R (sN (aQ (cB b3) (v:=(.bool _)) R (s0 (Wk.to (eC R (eC (cB (Eq.trans (Eq.trans (Eq.trans (Eq.trans (gz b3) (gz bH)) (gz bu)) (gz bP)) (gz cA))) eN)) mN R (aZ R))))))))))
  refine LH.cond (t:=((decide (p0.Max<1)) || ((decide (p0.Max > 40)) || ((decide (p0.e6<0)) || ((decide (p0.e6 ≥ 16)) || ((decide (p0.ct<0)) || (decide (p0.ct ≥ 6)))))))) R (fun jG=>?_) (fun jG=>?_)
  ·replace h:=aB h jG
   refine LH.aj [(2,.bool false)] [] R (b4 R zS) (LH.ret (aW ?_))
   obtain rfl:=oI h
   exact aO (aT Tryz.results93) (bU R (bS ⟨aN mN,R,aZ R,Sub.rfl⟩))
  replace h:=aA h jG
  refine LH.skip (au (LH.wk (aS [(1,.ag (aq.lv p0).cells)] []) (LH.seq (LH.aj [(1,.ag (aq.lv p0).cells),(32,.I p0.Kind)] [] R (sN (aw oY aD ba R R R (sN (bb R aD bQ zS)))) (LH.block (LH.aj [(1,.ag (aq.lv p0).cells),(32,.I p0.Kind),(33,.bool (p0.Kind == 1))] [] R (sN (gp R R (b4 R zS))) (LH.cond (t:=(p0.Kind == 1)) R (fun kS=>?_) (fun kS=>?_))))))))
  ·replace h:=aB h kS
   refine LH.aj [(2,.bool ((p0.Options == 0) && (p0.Key == 0)))] [] R ?_ ?_
   ·refine sN (aw ko aD ba R R R (sN (bb R aD bQ (sN (gp R R (bD R ?_))))))
    by_cases bC:(p0.Options == 0)=true
    ·exact sT R (cB bC) (aw mZ aD ba R R R (sT R (cB bC) (bb R aD bQ (sT R (cB bC) (gp R R (sN (aX (cB bC) (v:=(.bool _)) R (b4 R (s0 (Wk.to (eC (cB (dK bC)) eN) mN R (aZ R)))))))))))
    ·replace bC:=bF bC
     exact sF R R bC (sF R R bC (sF R R bC (sN (aQ (cB bC) (v:=(.bool _)) R (b4 R (s0 (Wk.to (eC (cB (ks bC)) eN) mN R (aZ R))))))))
   refine LH.ret (bB (aW ?_))
   obtain rfl:=oI h
   exact aO (aT Tryz.results93) (bU R (bS ⟨aN mN,R,aZ R,Sub.rfl⟩))
  replace h:=aA h kS
  refine LH.aj [(1,.ag (aq.lv p0).cells),(43,.bool (p0.Kind == 2))] [] R (sN (gp R R (b4 R zS))) (LH.cond (t:=(p0.Kind == 2)) R (fun iI=>?_) (fun iI=>?_))
  ·replace h:=aB h iI
   refine LH.aj [(2,.bool ((decide (p0.Options ≥ 2)) && ((decide (p0.Options≤5)) && ((decide (p0.Key ≥ 0)) && (decide (p0.Key<p0.Options))))))] [] R ?_ ?_
   ·refine sN (aw ko aD ba R R R (sN (bb R aD bQ (sN (pJ R R (bD R ?_))))))
    by_cases bX:(decide (p0.Options ≥ 2))=true
    ·refine sT R (cB bX) (aw ko aD ba R R R (sT R (cB bX) (bb R aD bQ (sT R (cB bX) (Ib R R (sN (aX (cB bX) (v:=(.bool _)) R (bD R ?_))))))))
     by_cases cN:(decide (p0.Options≤5))=true
     ·refine sT R (cB cN) (aw mZ aD ba R R R (sT R (cB cN) (bb R aD bQ (sT R (cB cN) (pJ R R (sN (aX (cB cN) (v:=(.bool _)) R (bD R ?_))))))))
      by_cases bR:(decide (p0.Key ≥ 0))=true
      ·exact sT R (cB bR) (aw mZ aD ba R R R (sT R (cB bR) (bb R aD bQ (sT R (cB bR) (aw ko aD ba R R R (sT R (cB bR) (bb R aD bQ (sT R (cB bR) (fi R R (sN (aX (cB bR) (v:=(.bool _)) R (b4 R (s0 (Wk.to (eC (cB (Eq.trans (Eq.trans (dK bR) (dK cN)) (dK bX))) eN) mN R (aZ R)))))))))))))))
      ·replace bR:=bF bR
       exact sF R R bR (sF R R bR (sF R R bR (sF R R bR (sF R R bR (sN (aQ (cB bR) (v:=(.bool _)) R (b4 R (s0 (Wk.to (eC (cB (Eq.trans (Eq.trans (ks bR) (dK cN)) (dK bX))) eN) mN R (aZ R))))))))))
     ·replace cN:=bF cN
      exact sF R R cN (sF R R cN (sF R R cN (sN (aQ (cB cN) (v:=(.bool _)) R (bD R (sF R R R (sF R R R (sF R R R (sF R R R (sF R R R (sN (aQ R (v:=(.bool _)) R (b4 R (s0 (Wk.to (eC (cB (Eq.trans (ks cN) (dK bX))) eN) mN R (aZ R))))))))))))))))
    ·replace bX:=bF bX
     exact sF R R bX (sF R R bX (sF R R bX (sN (aQ (cB bX) (v:=(.bool _)) R (bD R (sF R R R (sF R R R (sF R R R (sN (aQ R (v:=(.bool _)) R (bD R (sF R R R (sF R R R (sF R R R (sF R R R (sF R R R (sN (aQ R (v:=(.bool _)) R (b4 R (s0 (Wk.to (eC (cB (ks bX)) eN) mN R (aZ R))))))))))))))))))))))
   refine LH.ret (bB (aW ?_))
   obtain rfl:=oI h
   exact aO (aT Tryz.results93) (bU R (bS ⟨aN mN,R,aZ R,Sub.rfl⟩))
  replace h:=aA h iI
  refine LH.skip (aY (au (LH.aj [(2,.bool false)] [] R (b4 R zS) (LH.ret ?_))))
  obtain rfl:=oI h
  exact aO (aT Tryz.results93) (bU R (bS ⟨aN mN,R,aZ R,Sub.rfl⟩))
theorem Pz {F:Nat} {p0:Int} {p1:List Int} {r:Bool} (h:GI F p0 p1=some r):aM Tryz.prog 94 [.I p0,.L p1] (Mem.of []) (.bool r) (Mem.of []):=by
  unfold GI at h
  refine br Tryz.func94 R (nT Tryz.ntmps94 R) (LH.wk (aS [(0,.I p0),(1,.L p1)] []) (LH.aj [(0,.I p0),(1,.L p1)] [] R (b4 R zS) (LH.seq (LH.aj [(0,.I p0),(1,.L p1),(7,.L p1),(8,.I (p1.length:Int)),(9,.I 0)] [] R (fp R (sN (bW (f:=LV.I) cE R (bj R zS)))) (LH.block (LH.loop (fun n e m=>∃ (n1:Int),Dl p0 p1 n n1=some r∧e=Env.of [(0,.I p0),(1,.L p1),(7,.L p1),(8,.I (p1.length:Int)),(9,.I n1)]∧m=Mem.of []) F ⟨0,h,R,R⟩ ?_))))))
  clear h
  rintro n e m ⟨n1,h,rfl,rfl⟩
  rcases n with _ | n
  · cases (show Option.none=some _ from h)
  obtain ⟨aJ,a7⟩:∃ f,f=Dl p0 p1 n:=⟨_,rfl⟩
  replace h:Gl p0 p1 aJ n1=some r:=a7 ▸ h
  unfold Gl at h
  refine LH.aj [(0,.I p0),(1,.L p1),(7,.L p1),(8,.I (p1.length:Int)),(9,.I n1),(10,.bool (decide (n1<(p1.length:Int))))] [] R (sN (fi R R zS)) (LH.seq (LH.cond (t:=(decide (n1<(p1.length:Int)))) R (fun eZ=>?_) (fun eZ=>?_)))
  ·replace h:=aB h eZ
   refine LH.skip (au (LH.wk (aS [(0,.I p0),(1,.L p1),(7,.L p1),(8,.I (p1.length:Int)),(9,.I n1)] []) (LH.seq (LH.block ?_))))
   obtain ⟨x3,fz,h⟩:=ao h
   refine LH.aj [(0,.I p0),(1,.L p1),(5,.I n1),(6,.I x3),(7,.L p1),(8,.I (p1.length:Int)),(9,.I n1)] [] R (bj R (sN (eG (f:=LV.I) cE aD ba R R lY fz R (sN (bb R aD bQ (bo R (bo R zS))))))) ?_
   obtain ⟨w5,hv,h⟩:=ao h
   refine LH.aj [(0,.I p0),(1,.L p1),(7,.L p1),(8,.I (p1.length:Int)),(9,.I n1),(34,.bool w5)] [] R ?_ ?_
   ·refine bj R ?_
    obtain ⟨r6,HY,hv⟩:=ao hv
    refine sN (dQ (args:=[.I x3]) R Js R (aH bn) (JJ HY) R (sN (kB R (bD R ?_))))
    by_cases cc:(!r6)=true
    ·replace hv:=aB hv cc
     refine sF R R cc (sF R R cc (sF R R cc (sN (aX (cB cc) (v:=(.bool _)) R (bD R (sF R R R (sF R R R (sF R R R (sU R R (sU R R (sU R R (sU R R (sU R R (sU R R (sU R R (sF R R R (sN (aX R (v:=(.bool _)) R ?_))))))))))))))))))
     obtain rfl:=oI hv
     exact zS
    ·replace cc:=bF cc
     replace hv:=aA hv cc
     refine sT R (cB cc) (oM (v:=(.int _ _)) R (sT R (cB cc) (oM (v:=(.int _ _)) R (sT R (cB cc) (gp R R (sN (aQ (cB cc) (v:=(.bool _)) R (bD R ?_))))))))
     by_cases dt:(x3 == p0)=true
     ·replace hv:=aB hv dt
      refine sF R R dt (sF R R dt (sF R R dt (sU R R (sU R R (sU R R (sU R R (sU R R (sU R R (sU R R (sF R R dt (sN (aX (cB dt) (v:=(.bool _)) R ?_))))))))))))
      obtain rfl:=oI hv
      exact zS
     ·replace dt:=bF dt
      replace hv:=aA hv dt
      refine sT R (cB dt) (oM (v:=(.int _ _)) R (sT R (cB dt) (iP R R (sT R (cB dt) (oM (v:=(.bool _)) R ?_)))))
      by_cases cS:(decide (n1 > 0))=true
      ·replace hv:=aB hv cS
       refine sT R (cB cS) (oM (v:=(.ak _ _)) R (sT R (cB cS) (oM (v:=(.int _ _)) R (sT R (cB cS) (iA R R ?_)))))
       obtain ⟨o9,ru,hv⟩:=ao hv
       refine sT R (cB cS) (eG (f:=LV.I) cE aD ba R R lY ru R (sT R (cB cS) (bb R aD bQ (sT R (cB cS) (oM (v:=(.int _ _)) R (sT R (cB cS) (pJ R R (sT R (cB dt) (aX (cB cS) (v:=(.bool _)) R (sN (aQ (cB dt) (v:=(.bool _)) R ?_)))))))))))
       obtain rfl:=oI hv
       exact zS
      ·replace cS:=bF cS
       replace hv:=aA hv cS
       refine sF R R cS (sF R R cS (sF R R cS (sF R R cS (sF R R cS (sF R R cS (sF R R cS (sT R (cB dt) (aQ (cB cS) (v:=(.bool _)) R (sN (aQ (cB dt) (v:=(.bool _)) R ?_))))))))))
       obtain rfl:=oI hv
       exact zS
   clear hv
   refine LH.cond (t:=w5) R (fun iI=>?_) (fun iI=>?_)
   ·replace h:=aB h iI
    refine LH.aj [(4,.bool false)] [] R (b4 R zS) (LH.ret (bB (aW (dF (bB (aW ?_))))))
    obtain rfl:=oI h
    exact aO (aT Tryz.results94) (bU R (bS ⟨aN mN,R,aZ R,Sub.rfl⟩))
   replace h:=aA h iI
   refine LH.skip (aY (au (LH.aU [(0,.I p0),(1,.L p1),(7,.L p1),(8,.I (p1.length:Int)),(9,.I (i64 (n1+1)))] [] R (sN (cD R R (bj R zS))) ?_)))
   exact bh ⟨(i64 (n1+1)),a7 ▸ h,R,R⟩ (Wk.eq R R R R)
  replace h:=aA h eZ
  refine LH.exit (cw (bY (bO (au (LH.aj [(4,.bool true)] [] R (b4 R zS) (LH.ret ?_))))))
  obtain rfl:=oI h
  exact aO (aT Tryz.results94) (bU R (bS ⟨aN mN,R,aZ R,Sub.rfl⟩))
theorem Gg {F:Nat} {p0:ai} {r:Int} (h:tE F p0=some r):aM Tryz.prog 75 [ai.lv p0] (Mem.of []) (.I r) (Mem.of []):=by
  unfold tE at h
  refine br Tryz.func75 R (nT Tryz.ntmps75 R) (LH.wk (aS [(0,ai.lv p0)] []) (LH.aj [(1,.ag (ai.lv p0).cells)] [] R (sB (c7 R R R R (bo R zS))) (LH.seq ?_)))
  obtain ⟨w2,hv,h⟩:=ao h
  refine LH.aj [(1,.ag (ai.lv p0).cells),(18,.bool w2)] [] R ?_ ?_
  ·refine sN (aw e9 aD ba R R R (sN (bb R aD bQ ?_)))
   obtain ⟨r3,nW,hv⟩:=ao hv
   refine sN (dQ (args:=[.I p0.ID]) R Js R (aH bn) (JJ nW) R (sN (kB R (bD R ?_))))
   by_cases bu:(!r3)=true
   ·replace hv:=aB hv bu
    refine sF R R bu (sF R R bu (sF R R bu (sN (aX (cB bu) (v:=(.bool _)) R (bD R (sF R R R (sF R R R (sF R R R (sN (aX R (v:=(.bool _)) R ?_))))))))))
    obtain rfl:=oI hv
    exact zS
   ·replace bu:=bF bu
    replace hv:=aA hv bu
    refine sT R (cB bu) (aw fL aD ba R R R (sT R (cB bu) (bb R aD bQ (sT R (cB bu) (fi R R (sN (aQ (cB bu) (v:=(.bool _)) R (bD R ?_))))))))
    by_cases bH:(decide (p0.Version<1))=true
    ·replace hv:=aB hv bH
     refine sF R R bH (sF R R bH (sF R R bH (sN (aX (cB bH) (v:=(.bool _)) R ?_))))
     obtain rfl:=oI hv
     exact zS
    ·replace bH:=bF bH
     replace hv:=aA hv bH
     refine sT R (cB bH) (aw fL aD ba R R R (sT R (cB bH) (bb R aD bQ (sT R (cB bH) (iP R R (sN (aQ (cB bH) (v:=(.bool _)) R ?_)))))))
     obtain rfl:=oI hv
     exact zS
  clear hv
  refine LH.cond (t:=w2) R (fun fP=>?_) (fun fP=>?_)
  ·replace h:=aB h fP
   refine LH.aj [(2,.I 2)] [] R (bo R zS) (LH.ret (aW ?_))
   obtain rfl:=oI h
   exact aO (aT Tryz.results75) (bU R (bS ⟨aN mN,R,aZ R,Sub.rfl⟩))
  replace h:=aA h fP
  refine LH.skip (au (LH.wk (aS [(1,.ag (ai.lv p0).cells)] []) (LH.seq (LH.aj [(1,.ag (ai.lv p0).cells),(34,.bool ((decide ((p0.bI.size:Int) > 40)) || ((decide ((p0.aG.length:Int) > 6)) || (decide ((p0.aE.length:Int) > 8)))))] [] R ?_ ?_))))
  ·refine sN (aw gV o8 xc R R R (sN (bb R o8 DP (sX ((rN Iy R).ok) (sN (iP R R (bD R ?_)))))))
   by_cases dt:(decide ((p0.bI.size:Int) > 40))=true
   ·exact sF R R dt (sF R R dt (sF R R dt (sF R R dt (sN (aX (cB dt) (v:=(.bool _)) R (bD R (sF R R R (sF R R R (sF R R R (sF R R R (sN (aX R (v:=(.bool _)) R (s0 (Wk.to (eC R (eC (cB (nL dt)) eN)) mN R (aZ R)))))))))))))))
   ·replace dt:=bF dt
    refine sT R (cB dt) (aw cZ c8 fC R R R (sT R (cB dt) (bb R c8 iT (sT R (cB dt) (bW (f:=aq.lv) gu R (sT R (cB dt) (iP R R (sN (aQ (cB dt) (v:=(.bool _)) R (bD R ?_))))))))))
    by_cases cS:(decide ((p0.aG.length:Int) > 6))=true
    ·exact sF R R cS (sF R R cS (sF R R cS (sF R R cS (sN (aX (cB cS) (v:=(.bool _)) R (s0 (Wk.to (eC R (eC (cB (Eq.trans (nL cS) (gz dt))) eN)) mN R (aZ R))))))))
    ·replace cS:=bF cS
     exact sT R (cB cS) (aw fq eM jq R R R (sT R (cB cS) (bb R eM mo (sT R (cB cS) (bW (f:=LV.I) cE R (sT R (cB cS) (iP R R (sN (aQ (cB cS) (v:=(.bool _)) R (s0 (Wk.to (eC R (eC (cB (Eq.trans (gz cS) (gz dt))) eN)) mN R (aZ R))))))))))))
  refine LH.cond (t:=((decide ((p0.bI.size:Int) > 40)) || ((decide ((p0.aG.length:Int) > 6)) || (decide ((p0.aE.length:Int) > 8))))) R (fun hY=>?_) (fun hY=>?_)
  ·replace h:=aB h hY
   refine LH.aj [(2,.I 3)] [] R (bo R zS) (LH.ret (aW ?_))
   obtain rfl:=oI h
   exact aO (aT Tryz.results75) (bU R (bS ⟨aN mN,R,aZ R,Sub.rfl⟩))
  replace h:=aA h hY
  refine LH.skip (au (LH.wk (aS [(1,.ag (ai.lv p0).cells)] []) (LH.seq ?_)))
  obtain ⟨DT,hv,h⟩:=ao h
  refine LH.aj [(1,.ag (ai.lv p0).cells),(43,.bool DT)] [] R ?_ ?_
  ·refine sN (aw gV o8 xc R R R (sN (bb R o8 DP (sX ((wm R R).ok) (bD R ?_)))))
   by_cases bX:(decide (p0.bI=(ByteArray.mk #[])))=true
   ·replace hv:=aB hv bX
    refine sF R R bX (sF R R bX (sF R R bX (sF R R bX (sN (aX (cB bX) (v:=(.bool _)) R ?_)))))
    obtain rfl:=oI hv
    exact zS
   ·replace bX:=bF bX
    replace hv:=aA hv bX
    refine sT R (cB bX) (aw gV o8 xc R R R (sT R (cB bX) (bb R o8 DP ?_)))
    obtain ⟨fg,vX,hv⟩:=ao hv
    refine sT R (cB bX) (dQ (args:=[.str p0.bI]) R O8 R (aH bn) (PL vX) R (sT R (cB bX) (kB R (sN (aQ (cB bX) (v:=(.bool _)) R ?_)))))
    obtain rfl:=oI hv
    exact zS
  clear hv
  refine LH.cond (t:=DT) R (fun kx=>?_) (fun kx=>?_)
  ·replace h:=aB h kx
   refine LH.aj [(2,.I 7)] [] R (bo R zS) (LH.ret (aW ?_))
   obtain rfl:=oI h
   exact aO (aT Tryz.results75) (bU R (bS ⟨aN mN,R,aZ R,Sub.rfl⟩))
  replace h:=aA h kx
  refine LH.skip (au (LH.wk (aS [(1,.ag (ai.lv p0).cells)] []) (LH.seq (LH.aj [(1,.ag (ai.lv p0).cells),(47,.bool ((p0.aG.length:Int) == 0))] [] R (sN (aw cZ c8 fC R R R (sN (bb R c8 iT (sN (bW (f:=aq.lv) gu R (sN (gp R R zS)))))))) (LH.cond (t:=((p0.aG.length:Int) == 0)) R (fun iJ=>?_) (fun iJ=>?_))))))
  ·replace h:=aB h iJ
   refine LH.aj [(2,.I 10)] [] R (bo R zS) (LH.ret (aW ?_))
   obtain rfl:=oI h
   exact aO (aT Tryz.results75) (bU R (bS ⟨aN mN,R,aZ R,Sub.rfl⟩))
  replace h:=aA h iJ
  refine LH.skip (au (LH.wk (aS [(1,.ag (ai.lv p0).cells)] []) (LH.seq (LH.aj [(1,.ag (ai.lv p0).cells),(49,.ak 6 (p0.aG.map aq.lv)),(50,.I (p0.aG.length:Int)),(51,.I 0)] [] R (sN (aw cZ c8 fC R R R (sN (bb R c8 iT (sN (bW (f:=aq.lv) gu R (bj R zS))))))) (LH.block (LH.loop (fun n e m=>∃ (n17:Int),va F p0 n n17=some r∧e=Env.of [(1,.ag (ai.lv p0).cells),(49,.ak 6 (p0.aG.map aq.lv)),(50,.I (p0.aG.length:Int)),(51,.I n17)]∧m=Mem.of []) F ⟨0,h,R,R⟩ ?_))))))
  clear h
  rintro n e m ⟨n17,h,rfl,rfl⟩
  rcases n with _ | n
  · cases (show Option.none=some _ from h)
  obtain ⟨aJ,a7⟩:∃ f,f=va F p0 n:=⟨_,rfl⟩
  replace h:yl F p0 aJ n17=some r:=a7 ▸ h
  unfold yl at h
  refine LH.aj [(1,.ag (ai.lv p0).cells),(49,.ak 6 (p0.aG.map aq.lv)),(50,.I (p0.aG.length:Int)),(51,.I n17),(52,.bool (decide (n17<(p0.aG.length:Int))))] [] R (sN (fi R R zS)) (LH.seq (LH.cond (t:=(decide (n17<(p0.aG.length:Int)))) R (fun ke=>?_) (fun ke=>?_)))
  ·replace h:=aB h ke
   refine LH.skip (au (LH.wk (aS [(1,.ag (ai.lv p0).cells),(49,.ak 6 (p0.aG.map aq.lv)),(50,.I (p0.aG.length:Int)),(51,.I n17)] []) (LH.seq (LH.block ?_))))
   obtain ⟨Hw,Lk,h⟩:=ao h
   refine LH.aj [(1,.ag (ai.lv p0).cells),(4,.ag (aq.lv Hw).cells),(49,.ak 6 (p0.aG.map aq.lv)),(50,.I (p0.aG.length:Int)),(51,.I n17)] [] R (sN (eG (f:=aq.lv) gu ek dJ R R aq.ok Lk R (sN (bd R ek iU dJ R R (sN (iE (id:=104) R G9 R R (s_ (cG R R R ek dJ R R R (s0 ((Wk.trans (aS [(1,.ag (ai.lv p0).cells),(4,.ptr 104 0),(49,.ak 6 (p0.aG.map aq.lv)),(50,.I (p0.aG.length:Int)),(51,.I n17)] [(104,.box (aq.lv Hw).cells)]) (Wk.trans (Wk.bg 104 (aq.lv Hw).cells R R R (bM R)) (Wk.eq R R R R))))))))))))) ?_
   obtain ⟨Rf,Sq,h⟩:=ao h
   refine LH.aj [(1,.ag (ai.lv p0).cells),(49,.ak 6 (p0.aG.map aq.lv)),(50,.I (p0.aG.length:Int)),(51,.I n17),(57,.bool (!Rf))] [] R (sN (bd R ek iU dJ R R (sN (dQ (args:=[aq.lv Hw]) R O9 R (aH bn) (PK Sq) R (sN (kB R zS)))))) (LH.cond (t:=(!Rf)) R (fun ov=>?_) (fun ov=>?_))
   ·replace h:=aB h ov
    refine LH.aj [(2,.I 1)] [] R (bo R zS) (LH.ret (bB (aW (dF (bB (aW ?_))))))
    obtain rfl:=oI h
    exact aO (aT Tryz.results75) (bU R (bS ⟨aN mN,R,aZ R,Sub.rfl⟩))
   replace h:=aA h ov
   refine LH.skip (aY (au (LH.aU [(1,.ag (ai.lv p0).cells),(49,.ak 6 (p0.aG.map aq.lv)),(50,.I (p0.aG.length:Int)),(51,.I (i64 (n17+1)))] [] R (sN (cD R R (bj R zS))) ?_)))
   exact bh ⟨(i64 (n17+1)),a7 ▸ h,R,R⟩ (Wk.eq R R R R)
  replace h:=aA h ke
  refine LH.exit (cw (bY (bO (au (LH.wk (aS [(1,.ag (ai.lv p0).cells)] []) (LH.seq ?_))))))
  obtain ⟨jr,Ax,h⟩:=ao h
  refine LH.aj [(64,.bool (!jr))] [] R (sN (aw e9 aD ba R R R (sN (bb R aD bQ (sN (aw fq eM jq R R R (sN (bb R eM mo (sN (dQ (args:=[.I p0.ID,.L p0.aE]) R Pa R (aH (aH bn)) (Pz Ax) R (sN (kB R zS)))))))))))) (LH.cond (t:=(!jr)) R (fun Kl=>?_) (fun Kl=>?_))
  ·replace h:=aB h Kl
   refine LH.aj [(2,.I 9)] [] R (bo R zS) (LH.ret (aW ?_))
   obtain rfl:=oI h
   exact aO (aT Tryz.results75) (bU R (bS ⟨aN mN,R,aZ R,Sub.rfl⟩))
  replace h:=aA h Kl
  refine LH.skip (au (LH.aj [(2,.I 0)] [] R (bo R zS) (LH.ret ?_)))
  obtain rfl:=oI h
  exact aO (aT Tryz.results75) (bU R (bS ⟨aN mN,R,aZ R,Sub.rfl⟩))
theorem Pt {F:Nat} {p0:List al} {p1:Int} {p2:(al→Int→Option Int)} {r:Int × Bool} {ez:Nat} {dv:List LV} (Dc:ef Tryz.prog ez) (uw:LV.bk dv=true) (Dd:∀ (x0:al) (x1:Int) (q:Int),p2 x0 x1=some q→aM Tryz.prog ez ([.agg [.I x0.ID,.ak 5 (x0.ab.map ai.lv),.ak 1 (x0.ah.map LV.bool),.ak 3 (x0.Uses.map ay.lv),.bool x0.ae],.I x1]++dv) (Mem.of []) (.I q) (Mem.of [])) (h:Qj F p0 p1 p2=some r):aM Tryz.prog 95 [.ak 5 (p0.map al.lv),.I p1,.fn ez dv] (Mem.of []) (.cX [.I r.1,.bool r.2]) (Mem.of []):=by
  have F9:∀ {l:List LV},LV.bk l=true→LV.bk (l++dv)=true:=LX uw
  have eK:LV.bK dv=[]:=gh uw
  unfold Qj at h
  refine br Tryz.func95 R (nT Tryz.ntmps95 R) (LH.wk (Wk.to (el:=[(0,.ak 5 (p0.map al.lv)),(1,.I p1),(2,.fn ez dv)]) (ml:=[]) (eQ ⟨R,R,R,trivial⟩) mN (by simp [aV,LV.refs,LV.bK,LV.cells,c9,Env.args,Env.of,Env.put,Env.drop,eK]) (aZ R)) (LH.aj [(0,.ak 5 (p0.map al.lv)),(1,.I p1),(2,.fn ez dv)] [] R (bo R (b4 R (s0 (Wk.to (eQ ⟨R,R,R,trivial⟩) mN (by simp [aV,LV.refs,LV.bK,LV.cells,c9,Env.args,Env.of,Env.put,Env.drop,eK]) (aZ R))))) (LH.aj [(0,.ak 5 (p0.map al.lv)),(1,.I p1),(2,.fn ez dv),(8,.I (p0.length:Int))] [] R (fp R (sN (bW (f:=al.lv) dW R (bo R (s0 (Wk.to (eQ ⟨R,R,R,R,trivial⟩) mN (by simp [aV,LV.refs,LV.bK,LV.cells,c9,Env.args,Env.of,Env.put,Env.drop,eK]) (aZ R))))))) (LH.aj [(0,.ak 5 (p0.map al.lv)),(1,.I p1),(2,.fn ez dv),(8,.I (p0.length:Int)),(9,.I 0),(10,.I (p0.length:Int))] [] R (bj R (bo R (bo R (s0 (Wk.to (eQ ⟨R,R,R,R,R,R,trivial⟩) mN (by simp [aV,LV.refs,LV.bK,LV.cells,c9,Env.args,Env.of,Env.put,Env.drop,eK]) (aZ R)))))) (LH.seq (LH.block (LH.loop (fun n e m=>∃ (n1:Int) (n2:Int),MD p0 p1 p2 n n1 n2=some r∧e=Env.of [(0,.ak 5 (p0.map al.lv)),(1,.I p1),(2,.fn ez dv),(8,.I (p0.length:Int)),(9,.I n1),(10,.I n2)]∧m=Mem.of []) F ⟨0,(p0.length:Int),h,R,R⟩ ?_)))))))
  clear h
  rintro n e m ⟨n1,n2,h,rfl,rfl⟩
  rcases n with _ | n
  · cases (show Option.none=some _ from h)
  obtain ⟨aJ,a7⟩:∃ f,f=MD p0 p1 p2 n:=⟨_,rfl⟩
  replace h:Re p0 p1 p2 aJ n1 n2=some r:=a7 ▸ h
  unfold Re at h
  refine LH.seq (LH.aj [(0,.ak 5 (p0.map al.lv)),(1,.I p1),(2,.fn ez dv),(8,.I (p0.length:Int)),(9,.I n1),(10,.I n2),(17,.bool (decide (n1<n2)))] [] R (bj R (bj R (sN (fi R R (s0 (Wk.to (eQ ⟨R,R,R,R,R,R,R,trivial⟩) mN (by simp [aV,LV.refs,LV.bK,LV.cells,c9,Env.args,Env.of,Env.put,Env.drop,eK]) (aZ R))))))) (LH.cond (t:=(decide (n1<n2))) R (fun iK=>?_) (fun iK=>?_)))
  ·replace h:=aB h iK
   refine LH.skip (au (LH.wk (Wk.to (el:=[(0,.ak 5 (p0.map al.lv)),(1,.I p1),(2,.fn ez dv),(8,.I (p0.length:Int)),(9,.I n1),(10,.I n2)]) (ml:=[]) (eQ ⟨R,R,R,R,R,R,trivial⟩) mN (by simp [aV,LV.refs,LV.bK,LV.cells,c9,Env.args,Env.of,Env.put,Env.drop,eK]) (aZ R)) (LH.block (LH.aj [(0,.ak 5 (p0.map al.lv)),(1,.I p1),(2,.fn ez dv),(8,.I (p0.length:Int)),(9,.I n1),(10,.I n2),(11,.I (i64 (oW .u64 (IntKind.u64.wrap (i64 (n1+n2))) 1)))] [] R (bj R (bj R (sN (cD R R (sN (TC aD Qx R (sX ((LS R R (by decide)).ok) (sN (TC Qy WA R (bo R (s0 (Wk.to (eQ ⟨R,R,R,R,R,R,R,trivial⟩) mN (by simp [aV,LV.refs,LV.bK,LV.cells,c9,Env.args,Env.of,Env.put,Env.drop,eK]) (aZ R))))))))))))) ?_))))
   obtain ⟨x4,C2,h⟩:=ao h
   obtain ⟨r5,Ay,h⟩:=ao h
   refine LH.aj [(0,.ak 5 (p0.map al.lv)),(1,.I p1),(2,.fn ez dv),(8,.I (p0.length:Int)),(9,.I n1),(10,.I n2),(11,.I (i64 (oW .u64 (IntKind.u64.wrap (i64 (n1+n2))) 1))),(31,.bool (decide (r5<0)))] [] R ?_ ?_
   ·refine sN (oM (v:=(.fn _ _)) R (fp R (bj R (sN (eG (f:=al.lv) dW cC b8 R R al.ok C2 R (sN (bd R cC fR b8 R R (bj R (sN (dQ (args:=[.agg [.I x4.ID,.ak 5 (x4.ab.map ai.lv),.ak 1 (x4.ah.map LV.bool),.ak 3 (x4.Uses.map ay.lv),.bool x4.ae],.I p1]++dv) (gw:=[.agg [.I x4.ID,.ak 5 (x4.ab.map ai.lv),.ak 1 (x4.ah.map LV.bool),.ak 3 (x4.Uses.map ay.lv),.bool x4.ae],.I p1]++dv) R Dc R fv.rfl (Dd _ _ _ Ay) (F9 R) ?_))))))))))
    exact sN (fi R R (s0 (Wk.to (eQ ⟨R,R,R,R,R,R,R,R,trivial⟩) mN (by simp [aV,LV.refs,LV.bK,LV.cells,c9,Env.args,Env.of,Env.put,Env.drop,eK]) (aZ R))))
   refine LH.cond (t:=(decide (r5<0))) R (fun fP=>?_) (fun fP=>?_)
   ·replace h:=aB h fP
    refine LH.aU [(0,.ak 5 (p0.map al.lv)),(1,.I p1),(2,.fn ez dv),(8,.I (p0.length:Int)),(9,.I (i64 ((i64 (oW .u64 (IntKind.u64.wrap (i64 (n1+n2))) 1))+1))),(10,.I n2)] [] R (bj R (sN (cD R R (bo R (s0 (Wk.to (eQ ⟨R,R,R,R,R,R,trivial⟩) mN (by simp [aV,LV.refs,LV.bK,LV.cells,c9,Env.args,Env.of,Env.put,Env.drop,eK]) (aZ R))))))) (aY ?_)
    exact bh ⟨(i64 ((i64 (oW .u64 (IntKind.u64.wrap (i64 (n1+n2))) 1))+1)),n2,a7 ▸ h,R,R⟩ (Wk.to (eQ ⟨R,R,R,R,R,R,trivial⟩) mN (by simp [aV,LV.refs,LV.bK,LV.cells,c9,Env.args,Env.of,Env.put,Env.drop,eK]) (aZ R))
   replace h:=aA h fP
   refine LH.aU [(0,.ak 5 (p0.map al.lv)),(1,.I p1),(2,.fn ez dv),(8,.I (p0.length:Int)),(9,.I n1),(10,.I (i64 (oW .u64 (IntKind.u64.wrap (i64 (n1+n2))) 1)))] [] R (bj R (bo R (s0 (Wk.to (eQ ⟨R,R,R,R,R,R,trivial⟩) mN (by simp [aV,LV.refs,LV.bK,LV.cells,c9,Env.args,Env.of,Env.put,Env.drop,eK]) (aZ R))))) (aY ?_)
   exact bh ⟨n1,(i64 (oW .u64 (IntKind.u64.wrap (i64 (n1+n2))) 1)),a7 ▸ h,R,R⟩ (Wk.to (eQ ⟨R,R,R,R,R,R,trivial⟩) mN (by simp [aV,LV.refs,LV.bK,LV.cells,c9,Env.args,Env.of,Env.put,Env.drop,eK]) (aZ R))
  replace h:=aA h iK
  refine LH.exit (cw (bY (bO (au ?_))))
  obtain ⟨w8,hv,h⟩:=ao h
  refine LH.aj [(6,.I n1),(7,.bool w8)] [] R ?_ ?_
  ·refine bj R (bj R (bj R (sN (fi R R (bD R ?_)))))
   by_cases cS:(decide (n1<(p0.length:Int)))=true
   ·replace hv:=aB hv cS
    refine sT R (cB cS) (oM (v:=(.fn _ _)) R (sT R (cB cS) (oM (v:=(.ak _ _)) R (sT R (cB cS) (oM (v:=(.int _ _)) R ?_)))))
    obtain ⟨o9,ru,hv⟩:=ao hv
    refine sT R (cB cS) (eG (f:=al.lv) dW cC b8 R R al.ok ru R (sT R (cB cS) (bd R cC fR b8 R R (sT R (cB cS) (oM (v:=(.int _ _)) R ?_)))))
    obtain ⟨cM,lH,hv⟩:=ao hv
    refine sT R (cB cS) (dQ (args:=[.agg [.I o9.ID,.ak 5 (o9.ab.map ai.lv),.ak 1 (o9.ah.map LV.bool),.ak 3 (o9.Uses.map ay.lv),.bool o9.ae],.I p1]++dv) (gw:=[.agg [.I o9.ID,.ak 5 (o9.ab.map ai.lv),.ak 1 (o9.ah.map LV.bool),.ak 3 (o9.Uses.map ay.lv),.bool o9.ae],.I p1]++dv) R Dc R fv.rfl (Dd _ _ _ lH) (F9 R) ?_)
    refine sT R (cB cS) (gp R R (sN (aX (cB cS) (v:=(.bool _)) R (bo R (b4 R ?_)))))
    obtain rfl:=oI hv
    exact s0 (Wk.to (eQ ⟨R,R,trivial⟩) mN (by simp [aV,LV.refs,LV.bK,LV.cells,c9,Env.args,Env.of,Env.put,Env.drop,eK]) (aZ R))
   ·replace cS:=bF cS
    replace hv:=aA hv cS
    refine sF R R cS (sF R R cS (sF R R cS (sF R R cS (sF R R cS (sF R R cS (sF R R cS (sF R R cS (sN (aQ (cB cS) (v:=(.bool _)) R (bo R (b4 R ?_)))))))))))
    obtain rfl:=oI hv
    exact s0 (Wk.to (eQ ⟨R,R,trivial⟩) mN (by simp [aV,LV.refs,LV.bK,LV.cells,c9,Env.args,Env.of,Env.put,Env.drop,eK]) (aZ R))
  clear hv
  refine LH.ret ?_
  obtain rfl:=oI h
  exact aO (aT Tryz.results95) (bU R (bU R (bS ⟨aN mN,R,aZ R,(Sub.cX (aH (aH bn)))⟩)))
theorem PX {p0:al} {p1:Int} {r:Int} (h:tA p0 p1=some r):aM Tryz.prog 96 [al.lv p0,.I p1] (Mem.of []) (.I r) (Mem.of []):=by
  unfold tA at h
  refine br Tryz.func96 R (nT Tryz.ntmps96 R) (LH.wk (aS [(0,al.lv p0),(1,.I p1)] []) (LH.aj [(1,.I p1),(2,.ag (al.lv p0).cells)] [] R (sB (c7 R R R R (bo R zS))) ?_))
  obtain ⟨r1,ee,h⟩:=ao h
  refine LH.aj [(4,.I r1)] [] R (sN (aw e8 aD ba R R R (sN (bb R aD bQ (bj R (sN (dQ (args:=[.I p0.ID,.I p1]) R s8 R (aH (aH bn)) (df ee) R (bo R zS)))))))) (LH.ret ?_)
  obtain rfl:=oI h
  exact aO (aT Tryz.results96) (bU R (bS ⟨aN mN,R,aZ R,Sub.rfl⟩))
theorem JP {F:Nat} {p0:aK} {p1:Int} {r:Int × Bool} (h:vn F p0 p1=some r):aM Tryz.prog 76 [.ptr 811 0,.I p1] (Mem.of [nS p0,(812,du (p0.aa.map al.lv))]) (.cX [.I r.1,.bool r.2]) (Mem.of [nS p0,(812,du (p0.aa.map al.lv))]):=by
  unfold vn at h
  refine br Tryz.func76 R (nT Tryz.ntmps76 R) (LH.wk (aS [(0,.ptr 811 0),(1,.I p1)] [nS p0,(812,du (p0.aa.map al.lv))]) (LH.aj [(0,.ptr 811 0),(1,.I p1)] [nS p0,(812,du (p0.aa.map al.lv))] R (bo R (b4 R zS)) ?_))
  obtain ⟨r1,ee,h⟩:=ao h
  refine LH.aj [(4,.I r1.1),(5,.bool r1.2)] [nS p0,(812,du (p0.aa.map al.lv))] R (hZ R (sN (FX R (sN (dD cd cm dC R R (sN (dM R R R R cm fA (bj R (sN (eX (args:=[.arr 812 p0.aa.length,.I p1,.fn 96 []]) (ml:=[(812,du (p0.aa.map al.lv))]) (de:=[(812,du (p0.aa.map al.lv))]) R Pb R (aH (aH (aH bn))) (aM.Pg 812 49 5 [(1,54,5),(2,4,1),(3,88,3)] (xs:=List.map al.lv p0.aa) (al.ok.bk _) (Pt (ez:=96) (dv:=[]) Pc R (fun _ _ _ h=>PX h) ee) (.row (by simp) (.jA R (.jA R .nil))) R R R R R UQ) ⟨R,trivial⟩ (cn R cz) R (sN (gy R R (sN (gy R R (bo R (b4 R zS)))))))))))))))) (LH.ret ?_)
  obtain rfl:=oI h
  exact aO (aT Tryz.results76) (bU R (bU R (bS ⟨aN (mC R (mC R mN)),R,aZ R,(Sub.cX (aH (aH bn)))⟩)))
theorem P7 {F:Nat} {p0:aK} {p1:ax} {r:Int × aK} (h:yL F p0 p1=some r):aM Tryz.prog 57 [.ptr 811 0,ax.lv p1] (Mem.of [nS p0,(812,du (p0.aa.map al.lv))]) (.I r.1) (Mem.of [(811,.box [.arr 812 r.2.aa.length]),(812,du (r.2.aa.map al.lv))]):=by
  unfold yL at h
  refine br Tryz.func57 R (nT Tryz.ntmps57 R) (LH.wk (aS [(0,.ptr 811 0),(1,ax.lv p1)] [nS p0,(812,du (p0.aa.map al.lv))]) (LH.aj [(0,.ptr 811 0),(3,.ag (ax.lv p1).cells)] [nS p0,(812,du (p0.aa.map al.lv))] R (sB (c7 R R R R (bo R zS))) (LH.seq ?_)))
  obtain ⟨r1,ee,h⟩:=ao h
  refine LH.aj [(0,.ptr 811 0),(3,.ag (ax.lv p1).cells),(5,.I r1)] [nS p0,(812,du (p0.aa.map al.lv))] R (sN (aw fc bT bN R R R (sN (bd R bT dO bN R R (sN (dQ (args:=[ai.lv p1.Item]) R FG R (aH bn) (Gg ee) R (bo R zS))))))) (LH.aj [(0,.ptr 811 0),(3,.ag (ax.lv p1).cells),(5,.I r1),(12,.bool (r1 != 0))] [nS p0,(812,du (p0.aa.map al.lv))] R (bj R (sN (jR R R zS))) (LH.cond (t:=(r1 != 0)) R (fun eZ=>?_) (fun eZ=>?_)))
  ·replace h:=aB h eZ
   refine LH.aj [(4,.I r1)] [nS p0,(812,du (p0.aa.map al.lv))] R (bj R (bo R zS)) (LH.ret (aW ?_))
   obtain rfl:=oI h
   exact aO (aT Tryz.results57) (bU R (bS ⟨aN (mC R (mC R mN)),R,aZ R,Sub.rfl⟩))
  replace h:=aA h eZ
  refine LH.skip (au (LH.wk (aS [(0,.ptr 811 0),(3,.ag (ax.lv p1).cells)] [nS p0,(812,du (p0.aa.map al.lv))]) (LH.seq (LH.aj [(0,.ptr 811 0),(3,.ag (ax.lv p1).cells),(17,.bool (p1.Item.Version != 1))] [nS p0,(812,du (p0.aa.map al.lv))] R (sN (aw fc bT bN R R R (sN (aw fL aD ba R R R (sN (bb R aD bQ (sN (jR R R zS)))))))) (LH.cond (t:=(p1.Item.Version != 1)) R (fun iK=>?_) (fun iK=>?_))))))
  ·replace h:=aB h iK
   refine LH.aj [(4,.I 8)] [nS p0,(812,du (p0.aa.map al.lv))] R (bo R zS) (LH.ret (aW ?_))
   obtain rfl:=oI h
   exact aO (aT Tryz.results57) (bU R (bS ⟨aN (mC R (mC R mN)),R,aZ R,Sub.rfl⟩))
  replace h:=aA h iK
  refine LH.skip (au ?_)
  obtain ⟨r4,C0,h⟩:=ao h
  refine LH.aj [(0,.ptr 811 0),(3,.ag (ax.lv p1).cells),(6,.I r4.1),(7,.bool r4.2)] [nS p0,(812,du (p0.aa.map al.lv))] R (hZ R (sN (aw fc bT bN R R R (sN (aw e9 aD ba R R R (sN (bb R aD bQ (sN (eX (args:=[.ptr 811 0,.I p1.Item.ID]) (ml:=[nS p0,(812,du (p0.aa.map al.lv))]) (de:=[nS p0,(812,du (p0.aa.map al.lv))]) R Jo R (aH (aH bn)) (JP C0) ⟨R,R,trivial⟩ (cn R (cn R cz)) R (rR R (sN (gy R R (sN (gy R R (bo R (b4 R zS)))))))))))))))) (LH.seq (LH.aj [(0,.ptr 811 0),(3,.ag (ax.lv p1).cells),(6,.I r4.1),(26,.bool r4.2)] [nS p0,(812,du (p0.aa.map al.lv))] R (bD R zS) (LH.cond (t:=r4.2) R (fun jY=>?_) (fun jY=>?_))))
  ·replace h:=aB h jY
   refine LH.aj [(4,.I 5)] [nS p0,(812,du (p0.aa.map al.lv))] R (bo R zS) (LH.ret (aW ?_))
   obtain rfl:=oI h
   exact aO (aT Tryz.results57) (bU R (bS ⟨aN (mC R (mC R mN)),R,aZ R,Sub.rfl⟩))
  replace h:=aA h jY
  refine LH.skip (au (LH.wk (aS [(0,.ptr 811 0),(3,.ag (ax.lv p1).cells),(6,.I r4.1)] [nS p0,(812,du (p0.aa.map al.lv))]) (LH.seq (LH.aj [(0,.ptr 811 0),(3,.ag (ax.lv p1).cells),(6,.I r4.1),(32,.bool (decide ((p0.aa.length:Int) ≥ 40)))] [nS p0,(812,du (p0.aa.map al.lv))] R (hZ R (sN (FX R (sN (dD cd cm dC R R (sN (dM R R R R cm fA (sX ((F1 (f:=al.lv) (xs:=p0.aa) dW R R R).ok) (sN (pJ R R zS)))))))))) (LH.cond (t:=(decide ((p0.aa.length:Int) ≥ 40))) R (fun fP=>?_) (fun fP=>?_))))))
  ·replace h:=aB h fP
   refine LH.aj [(4,.I 3)] [nS p0,(812,du (p0.aa.map al.lv))] R (bo R zS) (LH.ret (aW ?_))
   obtain rfl:=oI h
   exact aO (aT Tryz.results57) (bU R (bS ⟨aN (mC R (mC R mN)),R,aZ R,Sub.rfl⟩))
  replace h:=aA h fP
  refine LH.skip (au ?_)
  obtain ⟨r7,Az,h⟩:=ao h
  obtain ⟨v8,NU,h⟩:=ao h
  refine LH.di mixed [] [0,0,0,0,1811,0,0,0,0,0,0,0,1000000145,1000000146,0,1146145148,3,0,0,100811] [] [(811,.box [.arr 812 v8.length]),(812,du (v8.map al.lv))] R R (by kernel_rfl) ?_ ?_
  ·exact BX R (BX R (aF (FX R ⟨R,aF (dD cd cm dC R R ⟨R,mD R R R (fun _ b _ d=>dM R b R R cm fA d) (fF R (aF (aw fc bT bN R R R ⟨R,aF (aw e9 aD ba R R R ⟨R,aF (bb R aD bQ ⟨R,aF (aw fc bT bN R R R ⟨R,aF (bd R bT dO bN R R ⟨R,aF (dQ (args:=[ai.lv p1.Item]) R xL R (aH bn) (GH Az) R ⟨R,Ty R (ra.fresh R R (fun m0 h0=>cr.TP [44] (by simp [Op.operands]) (AO (g:=ai.lv) (ys:=[r7]) (id:=145) eU zh bN R R R ai.ok h0))) (Ty R (ra.fresh R R (fun m0 h0=>cr.TP [] (by simp [Op.operands]) (AO (g:=LV.bool) (ys:=[false]) (id:=146) jo Hv lC R R R okB h0))) (aF (fU (vs:=[(0,.I p1.Item.ID),(1,.arr 145 (List.length [r7])),(2,.arr 146 (List.length [false]))]) IB lz R (lf e8 ba aD R R R (lf cH eY cL R R R (lf dG gJ dX R R R fT))) ⟨R,Ty R (ra.gone (S:=[145,146]) R (fun m0 h0=>LK (id:=148) (os:=[(1,54,5),(2,4,1),(3,88,3)]) (S:=[145,146]) (cs:=[.I p1.Item.ID,.arr 145 (List.length [r7]),.arr 146 (List.length [false]),.nil,.bool false]) (dr:=[.I p1.Item.ID,.ak 5 (List.map ai.lv [r7]),.ak 1 (List.map LV.bool [false]),.ak 3 (List.map ay.lv ([]:List ay)),.bool false]) dW qq b8 R R R R ((h0 148 (by simp)).trans R) (T2 R R (T1 (g:=ai.lv) (ys:=[r7]) R ((h0 145 (by simp)).trans R) (T1 (g:=LV.bool) (ys:=[false]) R ((h0 146 (by simp)).trans R) (U5 R R (T2 R R U4))))) (by decide) (T5 (bM R) (T5 (bM R) Vb)))) (mX (Ih (f:=al.lv) (xs:=p0.aa) (z0:=(al.mk p1.Item.ID [r7] [false] ([]:List ay) false)) OY Lw R R R R R (by decide) (bM R) NU) (aF (FX R ⟨R,aF (dD cd cm dC R R ⟨R,mS R R R (fun _ b _ d=>cG R R R cm dC b R R d) zM⟩)⟩)))⟩)))⟩)⟩)⟩)⟩)⟩)⟩)))⟩)⟩)))
  refine LH.aj [(4,.I 0)] [(811,.box [.arr 812 v8.length]),(812,du (v8.map al.lv))] R (bo R zS) (LH.ret ?_)
  obtain rfl:=oI h
  exact aO (aT Tryz.results57) (bU R (bS ⟨aN (mC R (mC R mN)),R,aZ R,Sub.rfl⟩))
theorem Gd {F:Nat} {p0:aK} {p1:Int} {r:Option Int} (h:tC F p0 p1=some r):aM Tryz.prog 78 [.ptr 811 0,.I p1] (Mem.of [nS p0,(812,du (p0.aa.map al.lv))]) (ry 812 p0.aa.length r) (Mem.of [nS p0,(812,du (p0.aa.map al.lv))]):=by
  unfold tC at h
  refine br Tryz.func78 R (nT Tryz.ntmps78 R) (LH.wk (aS [(0,.ptr 811 0),(1,.I p1)] [nS p0,(812,du (p0.aa.map al.lv))]) (LH.aj [(0,.ptr 811 0),(1,.I p1)] [nS p0,(812,du (p0.aa.map al.lv))] R (sN (oA (v:=.fh) R zS)) ?_))
  obtain ⟨r1,ee,h⟩:=ao h
  refine LH.aj [(0,.ptr 811 0),(5,.I r1.1),(6,.bool r1.2)] [nS p0,(812,du (p0.aa.map al.lv))] R (hZ R (bj R (sN (eX (args:=[.ptr 811 0,.I p1]) (ml:=[nS p0,(812,du (p0.aa.map al.lv))]) (de:=[nS p0,(812,du (p0.aa.map al.lv))]) R Jo R (aH (aH bn)) (JP ee) ⟨R,R,trivial⟩ (cn R (cn R cz)) R (rR R (sN (gy R R (sN (gy R R (bo R (b4 R zS))))))))))) (LH.seq (LH.aj [(0,.ptr 811 0),(5,.I r1.1),(14,.bool (!r1.2))] [nS p0,(812,du (p0.aa.map al.lv))] R (bD R (sN (kB R zS))) (LH.cond (t:=(!r1.2)) R (fun eZ=>?_) (fun eZ=>?_))))
  ·replace h:=aB h eZ
   refine LH.aj [(4,.fh)] [nS p0,(812,du (p0.aa.map al.lv))] R (sN (oA (v:=.fh) R zS)) (LH.ret (aW ?_))
   obtain rfl:=oI h
   exact aO (aT Tryz.results78) (bU R (bS ⟨aN (mC R (mC R mN)),R,aZ R,Sub.rfl⟩))
  replace h:=aA h eZ
  refine LH.skip (au ?_)
  obtain ⟨x3,fz,h⟩:=ao h
  refine LH.aj [(4,.bJ 812 p0.aa.length (r1.1).toNat 0)] [nS p0,(812,du (p0.aa.map al.lv))] R (hZ R (sN (FX R (sN (dD cd cm dC R R (sN (dM R R R R cm fA (bj R (sX ((LM (f:=al.lv) (xs:=p0.aa) dW cC b8 R R R R fz).ok) (sN (oA (v:=(.bJ _ _ _ _)) R zS))))))))))) (LH.ret ?_)
  obtain rfl:=oI h
  exact aO (aT Tryz.results78) (bU R (bS ⟨aN (mC R (mC R mN)),R,aZ R,Sub.rfl⟩))
theorem P2 {F:Nat} {p0:aK} {p1:ax} {r:Int × aK} (h:yE F p0 p1=some r):aM Tryz.prog 58 [.ptr 811 0,.agg [.I p1.ar.Time,.I p1.ar.Source,.I p1.ar.Seq,.I p1.Kind,.I p1.Item.ID,.I p1.Item.Version,.str p1.Item.bI,.ak 6 (p1.Item.aG.map aq.lv),.L p1.Item.aE,.I p1.Ref.ID,.I p1.Ref.Version,.I p1.Form]] (Mem.of [(811,.box [.arr 812 p0.aa.length]),(812,.nest 49 5 [(1,54,5),(2,4,1),(3,88,3)] (p0.aa.map al.lv))]) (.I r.1) (Mem.of [(811,.box [.arr 812 r.2.aa.length]),(812,.nest 49 5 [(1,54,5),(2,4,1),(3,88,3)] (r.2.aa.map al.lv))]):=by
  unfold yE at h
  refine br Tryz.func58 R (nT Tryz.ntmps58 R) ?_
  refine LH.wk (Wk.eq (el:=[(0,.ptr 811 0),(1,.agg [.I p1.ar.Time,.I p1.ar.Source,.I p1.ar.Seq,.I p1.Kind,.I p1.Item.ID,.I p1.Item.Version,.str p1.Item.bI,.ak 6 (p1.Item.aG.map aq.lv),.L p1.Item.aE,.I p1.Ref.ID,.I p1.Ref.Version,.I p1.Form])]) (ml:=[(811,.box [.arr 812 p0.aa.length]),(812,.nest 49 5 [(1,54,5),(2,4,1),(3,88,3)] (p0.aa.map al.lv))]) R R R R) ?_
  refine LH.aj [(0,.ptr 811 0),(3,.ag [.I p1.ar.Time,.I p1.ar.Source,.I p1.ar.Seq,.I p1.Kind,.I p1.Item.ID,.I p1.Item.Version,.str p1.Item.bI,.ak 6 (p1.Item.aG.map aq.lv),.L p1.Item.aE,.I p1.Ref.ID,.I p1.Ref.Version,.I p1.Form])] [(811,.box [.arr 812 p0.aa.length]),(812,.nest 49 5 [(1,54,5),(2,4,1),(3,88,3)] (p0.aa.map al.lv))] R ?_ ?_
  ·refine sB (c7 R R R R ?_)
   refine bo R ?_
   exact zS
  refine LH.seq ?_
  obtain ⟨r1,ee,h⟩:=ao h
  refine LH.aj [(0,.ptr 811 0),(3,.ag [.I p1.ar.Time,.I p1.ar.Source,.I p1.ar.Seq,.I p1.Kind,.I p1.Item.ID,.I p1.Item.Version,.str p1.Item.bI,.ak 6 (p1.Item.aG.map aq.lv),.L p1.Item.aE,.I p1.Ref.ID,.I p1.Ref.Version,.I p1.Form]),(5,.I r1)] [(811,.box [.arr 812 p0.aa.length]),(812,.nest 49 5 [(1,54,5),(2,4,1),(3,88,3)] (p0.aa.map al.lv))] R ?_ ?_
  ·refine sN (aw fc bT bN R R R ?_)
   refine sN (bd R bT dO bN R R ?_)
   refine sN (dQ (args:=[.agg [.I p1.Item.ID,.I p1.Item.Version,.str p1.Item.bI,.ak 6 (p1.Item.aG.map aq.lv),.L p1.Item.aE]]) R FG R (aH bn) (Gg ee) R ?_)
   refine bo R ?_
   exact zS
  refine LH.aj [(0,.ptr 811 0),(3,.ag [.I p1.ar.Time,.I p1.ar.Source,.I p1.ar.Seq,.I p1.Kind,.I p1.Item.ID,.I p1.Item.Version,.str p1.Item.bI,.ak 6 (p1.Item.aG.map aq.lv),.L p1.Item.aE,.I p1.Ref.ID,.I p1.Ref.Version,.I p1.Form]),(5,.I r1),(11,.bool (r1 != 0))] [(811,.box [.arr 812 p0.aa.length]),(812,.nest 49 5 [(1,54,5),(2,4,1),(3,88,3)] (p0.aa.map al.lv))] R ?_ ?_
  ·refine bj R ?_
   refine sN (jR R R ?_)
   exact zS
  refine LH.cond (t:=(r1 != 0)) R (fun eZ=>?_) (fun eZ=>?_)
  ·replace h:=aB h eZ
   refine LH.aj [(4,.I r1)] [(811,.box [.arr 812 p0.aa.length]),(812,.nest 49 5 [(1,54,5),(2,4,1),(3,88,3)] (p0.aa.map al.lv))] R ?_ ?_
   ·refine bj R ?_
    refine bo R ?_
    exact zS
   refine LH.ret ?_
   refine aW ?_
   obtain rfl:=oI h
   exact aO (aT Tryz.results58) (bU R (bS ⟨aN (mC R (mC R mN)),R,aZ R,Sub.rfl⟩))
  replace h:=aA h eZ
  refine LH.skip ?_
  refine au ?_
  obtain ⟨r3,nW,h⟩:=ao h
  refine LH.aj [(3,.ag [.I p1.ar.Time,.I p1.ar.Source,.I p1.ar.Seq,.I p1.Kind,.I p1.Item.ID,.I p1.Item.Version,.str p1.Item.bI,.ak 6 (p1.Item.aG.map aq.lv),.L p1.Item.aE,.I p1.Ref.ID,.I p1.Ref.Version,.I p1.Form]),(6,ry 812 p0.aa.length r3)] [(811,.box [.arr 812 p0.aa.length]),(812,.nest 49 5 [(1,54,5),(2,4,1),(3,88,3)] (p0.aa.map al.lv))] R ?_ ?_
  ·refine hZ R ?_
   refine sN (aw fc bT bN R R R ?_)
   refine sN (aw e9 aD ba R R R ?_)
   refine sN (bb R aD bQ ?_)
   refine sN (eX (args:=[.ptr 811 0,.I p1.Item.ID]) (ml:=[(811,.box [.arr 812 p0.aa.length]),(812,.nest 49 5 [(1,54,5),(2,4,1),(3,88,3)] (p0.aa.map al.lv))]) (de:=[(811,.box [.arr 812 p0.aa.length]),(812,.nest 49 5 [(1,54,5),(2,4,1),(3,88,3)] (p0.aa.map al.lv))]) R FH R (aH (aH bn)) (Gd nW) ⟨R,R,trivial⟩ (cn R (cn R cz)) R ?_)
   refine sN (oA (v:=(ry _ _ _)) R ?_)
   exact s0 (Wk.to (eQ ⟨R,R,trivial⟩) ⟨R,R,trivial⟩ (by rcases r3 with _ | _ <;> exact R) (aZ R))
  rcases r3 with _ | j4
  ·replace h:=F6 h
   refine LH.wk (Wk.eq (el:=[(3,.ag [.I p1.ar.Time,.I p1.ar.Source,.I p1.ar.Seq,.I p1.Kind,.I p1.Item.ID,.I p1.Item.Version,.str p1.Item.bI,.ak 6 (p1.Item.aG.map aq.lv),.L p1.Item.aE,.I p1.Ref.ID,.I p1.Ref.Version,.I p1.Form]),(6,.fh)]) (ml:=[(811,.box [.arr 812 p0.aa.length]),(812,.nest 49 5 [(1,54,5),(2,4,1),(3,88,3)] (p0.aa.map al.lv))]) R R R R) ?_
   refine LH.seq ?_
   refine LH.aj [(3,.ag [.I p1.ar.Time,.I p1.ar.Source,.I p1.ar.Seq,.I p1.Kind,.I p1.Item.ID,.I p1.Item.Version,.str p1.Item.bI,.ak 6 (p1.Item.aG.map aq.lv),.L p1.Item.aE,.I p1.Ref.ID,.I p1.Ref.Version,.I p1.Form]),(6,.fh),(19,.bool true)] [(811,.box [.arr 812 p0.aa.length]),(812,.nest 49 5 [(1,54,5),(2,4,1),(3,88,3)] (p0.aa.map al.lv))] R ?_ ?_
   ·refine sN (oM (v:=.fh) R ?_)
    refine sX ((tq oa R R).ok) ?_
    exact zS
   refine LH.cond (t:=true) R (fun fP=>?_) (fun fP=>?_)
   ·refine LH.aj [(4,.I 4)] [(811,.box [.arr 812 p0.aa.length]),(812,.nest 49 5 [(1,54,5),(2,4,1),(3,88,3)] (p0.aa.map al.lv))] R ?_ ?_
    ·refine bo R ?_
     exact zS
    refine LH.ret ?_
    refine aW ?_
    obtain rfl:=oI h
    exact aO (aT Tryz.results58) (bU R (bS ⟨aN (mC R (mC R mN)),R,aZ R,Sub.rfl⟩))
   ·cases fP
  replace h:=F7 h
  obtain ⟨x5,nJ,h⟩:=ao h
  refine LH.wk (Wk.to (el:=[(3,.ag [.I p1.ar.Time,.I p1.ar.Source,.I p1.ar.Seq,.I p1.Kind,.I p1.Item.ID,.I p1.Item.Version,.str p1.Item.bI,.ak 6 (p1.Item.aG.map aq.lv),.L p1.Item.aE,.I p1.Ref.ID,.I p1.Ref.Version,.I p1.Form]),(6,.bJ 812 p0.aa.length (j4).toNat 0)]) (ml:=[(811,.box [.arr 812 p0.aa.length]),(812,.nest 49 5 [(1,54,5),(2,4,1),(3,88,3)] ((p0.aa.map al.lv).set (j4).toNat (.agg [.I x5.ID,.ak 5 (x5.ab.map ai.lv),.ak 1 (x5.ah.map LV.bool),.ak 3 (x5.Uses.map ay.lv),.bool x5.ae])))]) (eQ ⟨R,R,trivial⟩) (mC R (mC (pn nJ) mN)) R (aZ R)) ?_
  refine LH.seq ?_
  refine LH.aj [(3,.ag [.I p1.ar.Time,.I p1.ar.Source,.I p1.ar.Seq,.I p1.Kind,.I p1.Item.ID,.I p1.Item.Version,.str p1.Item.bI,.ak 6 (p1.Item.aG.map aq.lv),.L p1.Item.aE,.I p1.Ref.ID,.I p1.Ref.Version,.I p1.Form]),(6,.bJ 812 p0.aa.length (j4).toNat 0),(19,.bool false)] [(811,.box [.arr 812 p0.aa.length]),(812,.nest 49 5 [(1,54,5),(2,4,1),(3,88,3)] ((p0.aa.map al.lv).set (j4).toNat (.agg [.I x5.ID,.ak 5 (x5.ab.map ai.lv),.ak 1 (x5.ah.map LV.bool),.ak 3 (x5.Uses.map ay.lv),.bool x5.ae])))] R ?_ ?_
  ·refine sN (oM (v:=(.bJ _ _ _ _)) R ?_)
   refine sX ((tp oa R R R (by simp) (ca nJ)).ok) ?_
   exact zS
  refine LH.cond (t:=false) R (fun jG=>?_) (fun jG=>?_)
  ·cases jG
  refine LH.skip ?_
  refine au ?_
  refine LH.wk (Wk.eq (el:=[(3,.ag [.I p1.ar.Time,.I p1.ar.Source,.I p1.ar.Seq,.I p1.Kind,.I p1.Item.ID,.I p1.Item.Version,.str p1.Item.bI,.ak 6 (p1.Item.aG.map aq.lv),.L p1.Item.aE,.I p1.Ref.ID,.I p1.Ref.Version,.I p1.Form]),(6,.bJ 812 p0.aa.length (j4).toNat 0)]) (ml:=[(811,.box [.arr 812 p0.aa.length]),(812,.nest 49 5 [(1,54,5),(2,4,1),(3,88,3)] ((p0.aa.map al.lv).set (j4).toNat (.agg [.I x5.ID,.ak 5 (x5.ab.map ai.lv),.ak 1 (x5.ah.map LV.bool),.ak 3 (x5.Uses.map ay.lv),.bool x5.ae])))]) R R R R) ?_
  refine LH.seq ?_
  refine LH.di mixed [] [0,3,3,3,0,0,0,0,0,3,3,3,3,0,0,0] [(3,.ag [.I p1.ar.Time,.I p1.ar.Source,.I p1.ar.Seq,.I p1.Kind,.I p1.Item.ID,.I p1.Item.Version,.str p1.Item.bI,.ak 6 (p1.Item.aG.map aq.lv),.L p1.Item.aE,.I p1.Ref.ID,.I p1.Ref.Version,.I p1.Form]),(6,.bJ 812 p0.aa.length (j4).toNat 0),(35,.bool (x5.ae || (p1.Item.Version != (i64 ((x5.ab.length:Int)+1)))))] [(811,.box [.arr 812 p0.aa.length]),(812,.nest 49 5 [(1,54,5),(2,4,1),(3,88,3)] ((p0.aa.map al.lv).set (j4).toNat (.agg [.I x5.ID,.ak 5 (x5.ab.map ai.lv),.ak 1 (x5.ah.map LV.bool),.ak 3 (x5.Uses.map ay.lv),.bool x5.ae])))] R R (by kernel_rfl) ?_ ?_
  ·refine aF (oM (v:=(.bJ _ _ _ _)) R ⟨R,?_⟩)
   refine mX (fH R R (by simp) (ca nJ)) ?_
   refine mX (fG iW jC lC R R (by simp) (ca nJ)) ?_
   refine mX (wh (cs:=[.I x5.ID,.ak 5 (x5.ab.map ai.lv),.ak 1 (x5.ah.map LV.bool),.ak 3 (x5.Uses.map ay.lv),.bool x5.ae]) R R (by simp) (ca nJ) R R jC uC) ?_
   refine iO R ?_
   by_cases cS:x5.ae=true
   ·refine mF R R cS ?_
    refine mF R R cS ?_
    refine mF R R cS ?_
    refine mF R R cS ?_
    refine mF R R cS ?_
    refine mF R R cS ?_
    refine mF R R cS ?_
    refine mF R R cS ?_
    refine mF R R cS ?_
    refine mF R R cS ?_
    refine aF (aX (cB cS) (v:=(.bool _)) R ⟨R,?_⟩)
    exact m0 (Wk.to (eC R (eC R (eC (cB (nL cS)) eN))) ⟨R,R,trivial⟩ R (aZ R))
   ·replace cS:=bF cS
    refine mT R (cB cS) (aF (aw fc bT bN R R R ⟨R,?_⟩))
    refine mT R (cB cS) (aF (aw fL aD ba R R R ⟨R,?_⟩))
    refine mT R (cB cS) (aF (bb R aD bQ ⟨R,?_⟩))
    refine mT R (cB cS) (aF (oM (v:=(.bJ _ _ _ _)) R ⟨R,?_⟩))
    refine mT R (cB cS) (mX (fH R R (by simp) (ca nJ)) ?_)
    refine mT R (cB cS) (mX (fG cH cL eY R R (by simp) (ca nJ)) ?_)
    refine mT R (cB cS) (mX (AP (g:=ai.lv) (ys:=x5.ab) (cs:=[.I x5.ID,.ak 5 (x5.ab.map ai.lv),.ak 1 (x5.ah.map LV.bool),.ak 3 (x5.Uses.map ay.lv),.bool x5.ae]) R R (by simp) (ca nJ) R R cL gr) ?_)
    refine mT R (cB cS) (mX (wi eU R) ?_)
    refine mT R (cB cS) (aF (cD R R ⟨R,?_⟩))
    refine mT R (cB cS) (aF (jR R R ⟨R,?_⟩))
    refine aF (aQ (cB cS) (v:=(.bool _)) R ⟨R,?_⟩)
    exact m0 (Wk.to (eC R (eC R (eC (cB (gz cS)) eN))) ⟨R,R,trivial⟩ R (aZ R))
  refine LH.cond (t:=(x5.ae || (p1.Item.Version != (i64 ((x5.ab.length:Int)+1))))) R (fun hY=>?_) (fun hY=>?_)
  ·replace h:=aB h hY
   refine LH.aj [(4,.I 8)] [(811,.box [.arr 812 p0.aa.length]),(812,.nest 49 5 [(1,54,5),(2,4,1),(3,88,3)] (p0.aa.map al.lv))] R ?_ ?_
   ·refine bo R ?_
    exact s0 (Wk.to (eQ ⟨R,trivial⟩) (mC R (mC (pn nJ).symm mN)) R (aZ R))
   refine LH.ret ?_
   refine aW ?_
   obtain rfl:=oI h
   exact aO (aT Tryz.results58) (bU R (bS ⟨aN (mC R (mC R mN)),R,aZ R,Sub.rfl⟩))
  replace h:=aA h hY
  refine LH.skip ?_
  refine au ?_
  obtain ⟨cM,lH,h⟩:=ao h
  obtain ⟨v12,Ft,h⟩:=ao h
  refine LH.di mixed [] [0,0,3,3,3,0,0,0,0,2,3,3,3] [(6,.bJ 812 p0.aa.length (j4).toNat 0)] [(811,.box [.arr 812 p0.aa.length]),(812,.nest 49 5 [(1,54,5),(2,4,1),(3,88,3)] ((p0.aa.map al.lv).set (j4).toNat (.agg [.I x5.ID,.ak 5 (v12.map ai.lv),.ak 1 (x5.ah.map LV.bool),.ak 3 (x5.Uses.map ay.lv),.bool x5.ae])))] R R (by kernel_rfl) ?_ ?_
  ·refine aF (oM (v:=(.bJ _ _ _ _)) R ⟨R,?_⟩)
   refine aF (oM (v:=(.bJ _ _ _ _)) R ⟨R,?_⟩)
   refine mX (fH R R (by simp) (ca nJ)) ?_
   refine mX (fG cH cL eY R R (by simp) (ca nJ)) ?_
   refine mX (tr (g:=ai.lv) (ys:=x5.ab) (ls:=List.map al.lv p0.aa) (cs:=[.I x5.ID,.ak 5 (x5.ab.map ai.lv),.ak 1 (x5.ah.map LV.bool),.ak 3 (x5.Uses.map ay.lv),.bool x5.ae]) (id2:=140) (dr:=[.I x5.ID,.eF,.ak 1 (x5.ah.map LV.bool),.ak 3 (x5.Uses.map ay.lv),.bool x5.ae]) R R (by simp) (ca nJ) R R R cL gr R) ?_
   refine aF (aw fc bT bN R R R ⟨R,?_⟩)
   refine aF (bd R bT dO bN R R ⟨R,?_⟩)
   refine aF (dQ (args:=[.agg [.I p1.Item.ID,.I p1.Item.Version,.str p1.Item.bI,.ak 6 (p1.Item.aG.map aq.lv),.L p1.Item.aE]]) R xL R (aH bn) (GH lH) R ⟨R,?_⟩)
   refine aF (jZ (f:=ai.lv) (ys:=[cM]) eU zh bN R R R ai.ok ⟨R,?_⟩)
   refine Ht (nw (f:=ai.lv) eU zh bN R R (bM R) R Ft ?_)
   refine mX (fH R R (by simp) (ca nJ)) ?_
   refine mX (fG cH cL eY R R (by simp) (ca nJ)) ?_
   refine UM (wj (g:=ai.lv) (ys:=v12) (ls:=List.map al.lv p0.aa) (cs:=[.I x5.ID,.eF,.ak 1 (x5.ah.map LV.bool),.ak 3 (x5.Uses.map ay.lv),.bool x5.ae]) (dr:=[.I x5.ID,.ak 5 (v12.map ai.lv),.ak 1 (x5.ah.map LV.bool),.ak 3 (x5.Uses.map ay.lv),.bool x5.ae]) R R (by simp) (ca nJ) R R R R R (bM R) cL eY R) ?_
   exact zM
  obtain ⟨rU,Fu,h⟩:=ao h
  refine LH.aj [] [(811,.box [.arr 812 (List.length (p0.aa.set (j4).toNat (al.mk x5.ID v12 rU x5.Uses x5.ae)))]),(812,.nest 49 5 [(1,54,5),(2,4,1),(3,88,3)] (List.map al.lv (p0.aa.set (j4).toNat (al.mk x5.ID v12 rU x5.Uses x5.ae))))] R ?_ ?_
  ·refine sN (oM (v:=(.bJ _ _ _ _)) R ?_)
   refine sN (oM (v:=(.bJ _ _ _ _)) R ?_)
   refine sX ((fH R R (by simp) (ca nJ)).ok) ?_
   refine sX ((fG dG dX gJ R R (by simp) (ca nJ)).ok) ?_
   refine sX ((tr (g:=LV.bool) (ys:=x5.ah) (ls:=List.map al.lv p0.aa) (cs:=[.I x5.ID,.ak 5 (v12.map ai.lv),.ak 1 (x5.ah.map LV.bool),.ak 3 (x5.Uses.map ay.lv),.bool x5.ae]) (id2:=152) (dr:=[.I x5.ID,.ak 5 (v12.map ai.lv),.eF,.ak 3 (x5.Uses.map ay.lv),.bool x5.ae]) R R (by simp) (ca nJ) R R R dX lu R).ok) ?_
   refine sN (jZ (f:=LV.bool) (ys:=[false]) jo Hv lC R R R okB ?_)
   refine sN (nw (f:=LV.bool) jo Hv lC R R (bM R) R Fu ?_)
   refine sX ((fH R R (by simp) (ca nJ)).ok) ?_
   refine sX ((fG dG dX gJ R R (by simp) (ca nJ)).ok) ?_
   refine Iw ((wj (g:=LV.bool) (ys:=rU) (ls:=List.map al.lv p0.aa) (cs:=[.I x5.ID,.ak 5 (v12.map ai.lv),.eF,.ak 3 (x5.Uses.map ay.lv),.bool x5.ae]) (dr:=[.I x5.ID,.ak 5 (v12.map ai.lv),.ak 1 (rU.map LV.bool),.ak 3 (x5.Uses.map ay.lv),.bool x5.ae]) R R (by simp) (ca nJ) R R R R R (bM R) dX gJ R).ok) ?_
   exact s0 (Wk.to eN (mC ((show _=some (LE.box [.arr 812 p0.aa.length]) from R).trans (by simp)) (mC (IF R R) mN)) R (aZ R))
  refine LH.aj [(4,.I 0)] [(811,.box [.arr 812 (List.length (p0.aa.set (j4).toNat (al.mk x5.ID v12 rU x5.Uses x5.ae)))]),(812,.nest 49 5 [(1,54,5),(2,4,1),(3,88,3)] (List.map al.lv (p0.aa.set (j4).toNat (al.mk x5.ID v12 rU x5.Uses x5.ae))))] R ?_ ?_
  ·refine bo R ?_
   exact zS
  refine LH.ret ?_
  obtain rfl:=oI h
  exact aO (aT Tryz.results58) (bU R (bS ⟨aN (mC R (mC R mN)),R,aZ R,Sub.rfl⟩))
theorem JM {F:Nat} {p0:aK} {p1:bG} {r:Option Int} (h:vm F p0 p1=some r):aM Tryz.prog 79 [.ptr 811 0,.agg [.I p1.ID,.I p1.Version]] (Mem.of [(811,.box [.arr 812 p0.aa.length]),(812,.nest 49 5 [(1,54,5),(2,4,1),(3,88,3)] (p0.aa.map al.lv))]) (ry 812 p0.aa.length r) (Mem.of [(811,.box [.arr 812 p0.aa.length]),(812,.nest 49 5 [(1,54,5),(2,4,1),(3,88,3)] (p0.aa.map al.lv))]):=by
  unfold vm at h
  refine br Tryz.func79 R (nT Tryz.ntmps79 R) ?_
  refine LH.wk (Wk.eq (el:=[(0,.ptr 811 0),(1,.agg [.I p1.ID,.I p1.Version])]) (ml:=[(811,.box [.arr 812 p0.aa.length]),(812,.nest 49 5 [(1,54,5),(2,4,1),(3,88,3)] (p0.aa.map al.lv))]) R R R R) ?_
  refine LH.aj [(0,.ptr 811 0),(3,.ag [.I p1.ID,.I p1.Version])] [(811,.box [.arr 812 p0.aa.length]),(812,.nest 49 5 [(1,54,5),(2,4,1),(3,88,3)] (p0.aa.map al.lv))] R ?_ ?_
  ·refine sB (c7 R R R R ?_)
   refine sN (oA (v:=.fh) R ?_)
   exact zS
  obtain ⟨r1,ee,h⟩:=ao h
  refine LH.aj [(3,.ag [.I p1.ID,.I p1.Version]),(5,ry 812 p0.aa.length r1)] [(811,.box [.arr 812 p0.aa.length]),(812,.nest 49 5 [(1,54,5),(2,4,1),(3,88,3)] (p0.aa.map al.lv))] R ?_ ?_
  ·refine hZ R ?_
   refine sN (aw fJ aD ba R R R ?_)
   refine sN (bb R aD bQ ?_)
   refine sN (eX (args:=[.ptr 811 0,.I p1.ID]) (ml:=[(811,.box [.arr 812 p0.aa.length]),(812,.nest 49 5 [(1,54,5),(2,4,1),(3,88,3)] (p0.aa.map al.lv))]) (de:=[(811,.box [.arr 812 p0.aa.length]),(812,.nest 49 5 [(1,54,5),(2,4,1),(3,88,3)] (p0.aa.map al.lv))]) R FH R (aH (aH bn)) (Gd ee) ⟨R,R,trivial⟩ (cn R (cn R cz)) R ?_)
   refine sN (oA (v:=(ry _ _ _)) R ?_)
   exact s0 (Wk.to (eQ ⟨R,R,trivial⟩) ⟨R,R,trivial⟩ (by rcases r1 with _ | _ <;> exact R) (aZ R))
  rcases r1 with _ | j2
  ·replace h:=F6 h
   refine LH.wk (Wk.eq (el:=[(3,.ag [.I p1.ID,.I p1.Version]),(5,.fh)]) (ml:=[(811,.box [.arr 812 p0.aa.length]),(812,.nest 49 5 [(1,54,5),(2,4,1),(3,88,3)] (p0.aa.map al.lv))]) R R R R) ?_
   refine LH.seq ?_
   refine LH.di mixed [] [0,4,0,0,0,0,0,0,0,0,0,0,0,0,0,0,0] [(5,.fh),(26,.bool true)] [(811,.box [.arr 812 p0.aa.length]),(812,.nest 49 5 [(1,54,5),(2,4,1),(3,88,3)] (p0.aa.map al.lv))] R R (by kernel_rfl) ?_ ?_
   ·refine aF (oM (v:=.fh) R ⟨R,?_⟩)
    refine mM (fun _=>tq oa R R) ?_
    refine iO R ?_
    refine mF R R R ?_
    refine mF R R R ?_
    refine mF R R R ?_
    refine aF (aX R (v:=(.bool _)) R ⟨R,?_⟩)
    refine iO R ?_
    refine mF R R R ?_
    refine mF R R R ?_
    refine mF R R R ?_
    refine mF R R R ?_
    refine mF R R R ?_
    refine mF R R R ?_
    refine mF R R R ?_
    refine mF R R R ?_
    refine aF (aX R (v:=(.bool _)) R ⟨R,?_⟩)
    exact zM
   refine LH.cond (t:=true) R (fun im=>?_) (fun im=>?_)
   ·refine LH.aj [(4,.fh)] [(811,.box [.arr 812 p0.aa.length]),(812,.nest 49 5 [(1,54,5),(2,4,1),(3,88,3)] (p0.aa.map al.lv))] R ?_ ?_
    ·refine sN (oA (v:=.fh) R ?_)
     exact zS
    refine LH.ret ?_
    refine aW ?_
    obtain rfl:=oI h
    exact aO (aT Tryz.results79) (bU R (bS ⟨aN (mC R (mC R mN)),R,aZ R,Sub.rfl⟩))
   ·cases im
  replace h:=F7 h
  obtain ⟨x3,fz,h⟩:=ao h
  refine LH.wk (Wk.to (el:=[(3,.ag [.I p1.ID,.I p1.Version]),(5,.bJ 812 p0.aa.length (j2).toNat 0)]) (ml:=[(811,.box [.arr 812 p0.aa.length]),(812,.nest 49 5 [(1,54,5),(2,4,1),(3,88,3)] ((p0.aa.map al.lv).set (j2).toNat (.agg [.I x3.ID,.ak 5 (x3.ab.map ai.lv),.ak 1 (x3.ah.map LV.bool),.ak 3 (x3.Uses.map ay.lv),.bool x3.ae])))]) (eQ ⟨R,R,trivial⟩) (mC R (mC (pn fz) mN)) R (aZ R)) ?_
  refine LH.seq ?_
  refine LH.di mixed [] [0,3,0,0,0,0,0,0,0,0,0,3,3,3,3,0,0] [(5,.bJ 812 p0.aa.length (j2).toNat 0),(26,.bool ((decide (p1.Version<1)) || (decide (p1.Version > (x3.ab.length:Int)))))] [(811,.box [.arr 812 p0.aa.length]),(812,.nest 49 5 [(1,54,5),(2,4,1),(3,88,3)] ((p0.aa.map al.lv).set (j2).toNat (.agg [.I x3.ID,.ak 5 (x3.ab.map ai.lv),.ak 1 (x3.ah.map LV.bool),.ak 3 (x3.Uses.map ay.lv),.bool x3.ae])))] R R (by kernel_rfl) ?_ ?_
  ·refine aF (oM (v:=(.bJ _ _ _ _)) R ⟨R,?_⟩)
   refine mX (tp oa R R R (by simp) (ca fz)) ?_
   refine iO R ?_
   refine mT R R (aF (aw dm aD ba R R R ⟨R,?_⟩))
   refine mT R R (aF (bb R aD bQ ⟨R,?_⟩))
   refine mT R R (aF (fi R R ⟨R,?_⟩))
   refine aF (aQ R (v:=(.bool _)) R ⟨R,?_⟩)
   refine iO R ?_
   by_cases b3:(decide (p1.Version<1))=true
   ·refine mF R R b3 ?_
    refine mF R R b3 ?_
    refine mF R R b3 ?_
    refine mF R R b3 ?_
    refine mF R R b3 ?_
    refine mF R R b3 ?_
    refine mF R R b3 ?_
    refine mF R R b3 ?_
    refine aF (aX (cB b3) (v:=(.bool _)) R ⟨R,?_⟩)
    exact m0 (Wk.to (eC R (eC (cB (nL b3)) eN)) ⟨R,R,trivial⟩ R (aZ R))
   ·replace b3:=bF b3
    refine mT R (cB b3) (aF (aw dm aD ba R R R ⟨R,?_⟩))
    refine mT R (cB b3) (aF (bb R aD bQ ⟨R,?_⟩))
    refine mT R (cB b3) (aF (oM (v:=(.bJ _ _ _ _)) R ⟨R,?_⟩))
    refine mT R (cB b3) (mX (fH R R (by simp) (ca fz)) ?_)
    refine mT R (cB b3) (mX (fG cH cL eY R R (by simp) (ca fz)) ?_)
    refine mT R (cB b3) (mX (AP (g:=ai.lv) (ys:=x3.ab) (cs:=[.I x3.ID,.ak 5 (x3.ab.map ai.lv),.ak 1 (x3.ah.map LV.bool),.ak 3 (x3.Uses.map ay.lv),.bool x3.ae]) R R (by simp) (ca fz) R R cL gr) ?_)
    refine mT R (cB b3) (mX (wi eU R) ?_)
    refine mT R (cB b3) (aF (iP R R ⟨R,?_⟩))
    refine aF (aQ (cB b3) (v:=(.bool _)) R ⟨R,?_⟩)
    exact m0 (Wk.to (eC R (eC (cB (gz b3)) eN)) ⟨R,R,trivial⟩ R (aZ R))
  refine LH.cond (t:=((decide (p1.Version<1)) || (decide (p1.Version > (x3.ab.length:Int))))) R (fun jG=>?_) (fun jG=>?_)
  ·replace h:=aB h jG
   refine LH.aj [(4,.fh)] [(811,.box [.arr 812 p0.aa.length]),(812,.nest 49 5 [(1,54,5),(2,4,1),(3,88,3)] (p0.aa.map al.lv))] R ?_ ?_
   ·refine sN (oA (v:=.fh) R ?_)
    exact s0 (Wk.to (eQ ⟨R,trivial⟩) (mC R (mC (pn fz).symm mN)) R (aZ R))
   refine LH.ret ?_
   refine aW ?_
   obtain rfl:=oI h
   exact aO (aT Tryz.results79) (bU R (bS ⟨aN (mC R (mC R mN)),R,aZ R,Sub.rfl⟩))
  replace h:=aA h jG
  refine LH.skip ?_
  refine au ?_
  refine LH.aj [(4,.bJ 812 p0.aa.length (j2).toNat 0)] [(811,.box [.arr 812 p0.aa.length]),(812,.nest 49 5 [(1,54,5),(2,4,1),(3,88,3)] ((p0.aa.map al.lv).set (j2).toNat (.agg [.I x3.ID,.ak 5 (x3.ab.map ai.lv),.ak 1 (x3.ah.map LV.bool),.ak 3 (x3.Uses.map ay.lv),.bool x3.ae])))] R ?_ ?_
  ·refine sN (oM (v:=(.bJ _ _ _ _)) R ?_)
   refine sN (oA (v:=(.bJ _ _ _ _)) R ?_)
   exact zS
  refine LH.ret ?_
  obtain rfl:=oI h
  exact aO (aT Tryz.results79) (bU R (bS ⟨aN (mC R (mC (pn fz).symm mN)),R,aZ R,Sub.rfl⟩))
theorem PW {F:Nat} {p0:aK} {p1:ax} {r:Int × aK} (h:yB F p0 p1=some r):aM Tryz.prog 59 [.ptr 811 0,.agg [.I p1.ar.Time,.I p1.ar.Source,.I p1.ar.Seq,.I p1.Kind,.I p1.Item.ID,.I p1.Item.Version,.str p1.Item.bI,.ak 6 (p1.Item.aG.map aq.lv),.L p1.Item.aE,.I p1.Ref.ID,.I p1.Ref.Version,.I p1.Form]] (Mem.of [(811,.box [.arr 812 p0.aa.length]),(812,.nest 49 5 [(1,54,5),(2,4,1),(3,88,3)] (p0.aa.map al.lv))]) (.I r.1) (Mem.of [(811,.box [.arr 812 r.2.aa.length]),(812,.nest 49 5 [(1,54,5),(2,4,1),(3,88,3)] (r.2.aa.map al.lv))]):=by
  unfold yB at h
  refine br Tryz.func59 R (nT Tryz.ntmps59 R) ?_
  refine LH.wk (Wk.eq (el:=[(0,.ptr 811 0),(1,.agg [.I p1.ar.Time,.I p1.ar.Source,.I p1.ar.Seq,.I p1.Kind,.I p1.Item.ID,.I p1.Item.Version,.str p1.Item.bI,.ak 6 (p1.Item.aG.map aq.lv),.L p1.Item.aE,.I p1.Ref.ID,.I p1.Ref.Version,.I p1.Form])]) (ml:=[(811,.box [.arr 812 p0.aa.length]),(812,.nest 49 5 [(1,54,5),(2,4,1),(3,88,3)] (p0.aa.map al.lv))]) R R R R) ?_
  refine LH.aj [(0,.ptr 811 0),(3,.ag [.I p1.ar.Time,.I p1.ar.Source,.I p1.ar.Seq,.I p1.Kind,.I p1.Item.ID,.I p1.Item.Version,.str p1.Item.bI,.ak 6 (p1.Item.aG.map aq.lv),.L p1.Item.aE,.I p1.Ref.ID,.I p1.Ref.Version,.I p1.Form])] [(811,.box [.arr 812 p0.aa.length]),(812,.nest 49 5 [(1,54,5),(2,4,1),(3,88,3)] (p0.aa.map al.lv))] R ?_ ?_
  ·refine sB (c7 R R R R ?_)
   refine bo R ?_
   exact zS
  obtain ⟨r1,ee,h⟩:=ao h
  refine LH.aj [(3,.ag [.I p1.ar.Time,.I p1.ar.Source,.I p1.ar.Seq,.I p1.Kind,.I p1.Item.ID,.I p1.Item.Version,.str p1.Item.bI,.ak 6 (p1.Item.aG.map aq.lv),.L p1.Item.aE,.I p1.Ref.ID,.I p1.Ref.Version,.I p1.Form]),(5,ry 812 p0.aa.length r1)] [(811,.box [.arr 812 p0.aa.length]),(812,.nest 49 5 [(1,54,5),(2,4,1),(3,88,3)] (p0.aa.map al.lv))] R ?_ ?_
  ·refine hZ R ?_
   refine sN (aw eV gH gv R R R ?_)
   refine sN (bd R gH wL gv R R ?_)
   refine sN (eX (args:=[.ptr 811 0,.agg [.I p1.Ref.ID,.I p1.Ref.Version]]) (ml:=[(811,.box [.arr 812 p0.aa.length]),(812,.nest 49 5 [(1,54,5),(2,4,1),(3,88,3)] (p0.aa.map al.lv))]) (de:=[(811,.box [.arr 812 p0.aa.length]),(812,.nest 49 5 [(1,54,5),(2,4,1),(3,88,3)] (p0.aa.map al.lv))]) R Jp R (aH (aH bn)) (JM ee) ⟨R,R,trivial⟩ (cn R (cn R cz)) R ?_)
   refine sN (oA (v:=(ry _ _ _)) R ?_)
   exact s0 (Wk.to (eQ ⟨R,R,trivial⟩) ⟨R,R,trivial⟩ (by rcases r1 with _ | _ <;> exact R) (aZ R))
  rcases r1 with _ | j2
  ·replace h:=F6 h
   refine LH.wk (Wk.eq (el:=[(3,.ag [.I p1.ar.Time,.I p1.ar.Source,.I p1.ar.Seq,.I p1.Kind,.I p1.Item.ID,.I p1.Item.Version,.str p1.Item.bI,.ak 6 (p1.Item.aG.map aq.lv),.L p1.Item.aE,.I p1.Ref.ID,.I p1.Ref.Version,.I p1.Form]),(5,.fh)]) (ml:=[(811,.box [.arr 812 p0.aa.length]),(812,.nest 49 5 [(1,54,5),(2,4,1),(3,88,3)] (p0.aa.map al.lv))]) R R R R) ?_
   refine LH.seq ?_
   refine LH.aj [(3,.ag [.I p1.ar.Time,.I p1.ar.Source,.I p1.ar.Seq,.I p1.Kind,.I p1.Item.ID,.I p1.Item.Version,.str p1.Item.bI,.ak 6 (p1.Item.aG.map aq.lv),.L p1.Item.aE,.I p1.Ref.ID,.I p1.Ref.Version,.I p1.Form]),(5,.fh),(11,.bool true)] [(811,.box [.arr 812 p0.aa.length]),(812,.nest 49 5 [(1,54,5),(2,4,1),(3,88,3)] (p0.aa.map al.lv))] R ?_ ?_
   ·refine sN (oM (v:=.fh) R ?_)
    refine sX ((tq oa R R).ok) ?_
    exact zS
   refine LH.cond (t:=true) R (fun im=>?_) (fun im=>?_)
   ·refine LH.aj [(4,.I 4)] [(811,.box [.arr 812 p0.aa.length]),(812,.nest 49 5 [(1,54,5),(2,4,1),(3,88,3)] (p0.aa.map al.lv))] R ?_ ?_
    ·refine bo R ?_
     exact zS
    refine LH.ret ?_
    refine aW ?_
    obtain rfl:=oI h
    exact aO (aT Tryz.results59) (bU R (bS ⟨aN (mC R (mC R mN)),R,aZ R,Sub.rfl⟩))
   ·cases im
  replace h:=F7 h
  obtain ⟨x3,fz,h⟩:=ao h
  refine LH.wk (Wk.to (el:=[(3,.ag [.I p1.ar.Time,.I p1.ar.Source,.I p1.ar.Seq,.I p1.Kind,.I p1.Item.ID,.I p1.Item.Version,.str p1.Item.bI,.ak 6 (p1.Item.aG.map aq.lv),.L p1.Item.aE,.I p1.Ref.ID,.I p1.Ref.Version,.I p1.Form]),(5,.bJ 812 p0.aa.length (j2).toNat 0)]) (ml:=[(811,.box [.arr 812 p0.aa.length]),(812,.nest 49 5 [(1,54,5),(2,4,1),(3,88,3)] ((p0.aa.map al.lv).set (j2).toNat (.agg [.I x3.ID,.ak 5 (x3.ab.map ai.lv),.ak 1 (x3.ah.map LV.bool),.ak 3 (x3.Uses.map ay.lv),.bool x3.ae])))]) (eQ ⟨R,R,trivial⟩) (mC R (mC (pn fz) mN)) R (aZ R)) ?_
  refine LH.seq ?_
  refine LH.aj [(3,.ag [.I p1.ar.Time,.I p1.ar.Source,.I p1.ar.Seq,.I p1.Kind,.I p1.Item.ID,.I p1.Item.Version,.str p1.Item.bI,.ak 6 (p1.Item.aG.map aq.lv),.L p1.Item.aE,.I p1.Ref.ID,.I p1.Ref.Version,.I p1.Form]),(5,.bJ 812 p0.aa.length (j2).toNat 0),(11,.bool false)] [(811,.box [.arr 812 p0.aa.length]),(812,.nest 49 5 [(1,54,5),(2,4,1),(3,88,3)] ((p0.aa.map al.lv).set (j2).toNat (.agg [.I x3.ID,.ak 5 (x3.ab.map ai.lv),.ak 1 (x3.ah.map LV.bool),.ak 3 (x3.Uses.map ay.lv),.bool x3.ae])))] R ?_ ?_
  ·refine sN (oM (v:=(.bJ _ _ _ _)) R ?_)
   refine sX ((tp oa R R R (by simp) (ca fz)).ok) ?_
   exact zS
  refine LH.cond (t:=false) R (fun jY=>?_) (fun jY=>?_)
  ·cases jY
  refine LH.skip ?_
  refine au ?_
  refine LH.wk (Wk.eq (el:=[(3,.ag [.I p1.ar.Time,.I p1.ar.Source,.I p1.ar.Seq,.I p1.Kind,.I p1.Item.ID,.I p1.Item.Version,.str p1.Item.bI,.ak 6 (p1.Item.aG.map aq.lv),.L p1.Item.aE,.I p1.Ref.ID,.I p1.Ref.Version,.I p1.Form]),(5,.bJ 812 p0.aa.length (j2).toNat 0)]) (ml:=[(811,.box [.arr 812 p0.aa.length]),(812,.nest 49 5 [(1,54,5),(2,4,1),(3,88,3)] ((p0.aa.map al.lv).set (j2).toNat (.agg [.I x3.ID,.ak 5 (x3.ab.map ai.lv),.ak 1 (x3.ah.map LV.bool),.ak 3 (x3.Uses.map ay.lv),.bool x3.ae])))]) R R R R) ?_
  refine LH.seq ?_
  refine LH.aj [(3,.ag [.I p1.ar.Time,.I p1.ar.Source,.I p1.ar.Seq,.I p1.Kind,.I p1.Item.ID,.I p1.Item.Version,.str p1.Item.bI,.ak 6 (p1.Item.aG.map aq.lv),.L p1.Item.aE,.I p1.Ref.ID,.I p1.Ref.Version,.I p1.Form]),(5,.bJ 812 p0.aa.length (j2).toNat 0),(15,.bool x3.ae)] [(811,.box [.arr 812 p0.aa.length]),(812,.nest 49 5 [(1,54,5),(2,4,1),(3,88,3)] ((p0.aa.map al.lv).set (j2).toNat (.agg [.I x3.ID,.ak 5 (x3.ab.map ai.lv),.ak 1 (x3.ah.map LV.bool),.ak 3 (x3.Uses.map ay.lv),.bool x3.ae])))] R ?_ ?_
  ·refine sN (oM (v:=(.bJ _ _ _ _)) R ?_)
   refine sX ((fH R R (by simp) (ca fz)).ok) ?_
   refine sX ((fG iW jC lC R R (by simp) (ca fz)).ok) ?_
   refine sX ((wh (cs:=[.I x3.ID,.ak 5 (x3.ab.map ai.lv),.ak 1 (x3.ah.map LV.bool),.ak 3 (x3.Uses.map ay.lv),.bool x3.ae]) R R (by simp) (ca fz) R R jC uC).ok) ?_
   exact zS
  refine LH.cond (t:=x3.ae) R (fun fP=>?_) (fun fP=>?_)
  ·replace h:=aB h fP
   refine LH.aj [(4,.I 8)] [(811,.box [.arr 812 p0.aa.length]),(812,.nest 49 5 [(1,54,5),(2,4,1),(3,88,3)] (p0.aa.map al.lv))] R ?_ ?_
   ·refine bo R ?_
    exact s0 (Wk.to (eQ ⟨R,trivial⟩) (mC R (mC (pn fz).symm mN)) R (aZ R))
   refine LH.ret ?_
   refine aW ?_
   obtain rfl:=oI h
   exact aO (aT Tryz.results59) (bU R (bS ⟨aN (mC R (mC R mN)),R,aZ R,Sub.rfl⟩))
  replace h:=aA h fP
  refine LH.skip ?_
  refine au ?_
  refine LH.wk (Wk.eq (el:=[(3,.ag [.I p1.ar.Time,.I p1.ar.Source,.I p1.ar.Seq,.I p1.Kind,.I p1.Item.ID,.I p1.Item.Version,.str p1.Item.bI,.ak 6 (p1.Item.aG.map aq.lv),.L p1.Item.aE,.I p1.Ref.ID,.I p1.Ref.Version,.I p1.Form]),(5,.bJ 812 p0.aa.length (j2).toNat 0)]) (ml:=[(811,.box [.arr 812 p0.aa.length]),(812,.nest 49 5 [(1,54,5),(2,4,1),(3,88,3)] ((p0.aa.map al.lv).set (j2).toNat (.agg [.I x3.ID,.ak 5 (x3.ab.map ai.lv),.ak 1 (x3.ah.map LV.bool),.ak 3 (x3.Uses.map ay.lv),.bool x3.ae])))]) R R R R) ?_
  refine LH.seq ?_
  obtain ⟨x7,AF,h⟩:=ao h
  refine LH.di mixed [] [0,3,3,3,0,0,0,0,1119,1119] [(3,.ag [.I p1.ar.Time,.I p1.ar.Source,.I p1.ar.Seq,.I p1.Kind,.I p1.Item.ID,.I p1.Item.Version,.str p1.Item.bI,.ak 6 (p1.Item.aG.map aq.lv),.L p1.Item.aE,.I p1.Ref.ID,.I p1.Ref.Version,.I p1.Form]),(5,.bJ 812 p0.aa.length (j2).toNat 0),(25,.bool x7)] [(811,.box [.arr 812 p0.aa.length]),(812,.nest 49 5 [(1,54,5),(2,4,1),(3,88,3)] ((p0.aa.map al.lv).set (j2).toNat (.agg [.I x3.ID,.ak 5 (x3.ab.map ai.lv),.ak 1 (x3.ah.map LV.bool),.ak 3 (x3.Uses.map ay.lv),.bool x3.ae])))] R R (by kernel_rfl) ?_ ?_
  ·refine aF (oM (v:=(.bJ _ _ _ _)) R ⟨R,?_⟩)
   refine mX (fH R R (by simp) (ca fz)) ?_
   refine mX (fG dG dX gJ R R (by simp) (ca fz)) ?_
   refine mX (nA (g:=LV.bool) (ys:=x3.ah) (ls:=List.map al.lv p0.aa) (cs:=[.I x3.ID,.ak 5 (x3.ab.map ai.lv),.ak 1 (x3.ah.map LV.bool),.ak 3 (x3.Uses.map ay.lv),.bool x3.ae]) (id2:=119) (dr:=[.I x3.ID,.ak 5 (x3.ab.map ai.lv),.eF,.ak 3 (x3.Uses.map ay.lv),.bool x3.ae]) R R (by simp) (ca fz) R R R dX lu R) ?_
   refine aF (aw eV gH gv R R R ⟨R,?_⟩)
   refine aF (aw dm aD ba R R R ⟨R,?_⟩)
   refine aF (bb R aD bQ ⟨R,?_⟩)
   refine aF (iA R R ⟨R,?_⟩)
   refine mD R R R (fun _ b _ d=>gS (f:=LV.bool) jo jC lC R b R AF d) ?_
   refine mD R R R (fun _ b _ d=>we (f:=LV.bool) R b (dB AF).2 R R R jC uC d) ?_
   exact m0 (Wk.trans (Wk.rT (id:=812) (id2:=119) (o0:=2) (i:=(j2).toNat) (n2:=List.length x3.ah) (g:=LV.bool) (ys:=x3.ah) (ls:=List.map al.lv p0.aa) (cs:=[.I x3.ID,.ak 5 (x3.ab.map ai.lv),.eF,.ak 3 (x3.Uses.map ay.lv),.bool x3.ae]) (dr:=[.I x3.ID,.ak 5 (x3.ab.map ai.lv),.ak 1 (x3.ah.map LV.bool),.ak 3 (x3.Uses.map ay.lv),.bool x3.ae]) R (ca fz) R R R R (bM R) R) (Wk.eq R R R R))
  refine LH.cond (t:=x7) R (fun kS=>?_) (fun kS=>?_)
  ·replace h:=aB h kS
   refine LH.aj [(4,.I 5)] [(811,.box [.arr 812 p0.aa.length]),(812,.nest 49 5 [(1,54,5),(2,4,1),(3,88,3)] (p0.aa.map al.lv))] R ?_ ?_
   ·refine bo R ?_
    exact s0 (Wk.to (eQ ⟨R,trivial⟩) (mC R (mC (pn fz).symm mN)) R (aZ R))
   refine LH.ret ?_
   refine aW ?_
   obtain rfl:=oI h
   exact aO (aT Tryz.results59) (bU R (bS ⟨aN (mC R (mC R mN)),R,aZ R,Sub.rfl⟩))
  replace h:=aA h kS
  refine LH.skip ?_
  refine au ?_
  obtain ⟨x9,wZ,h⟩:=ao h
  refine LH.di mixed [] [0,3,3,3,0,0,0,0,1129,100129] [] [(811,.box [.arr 812 (List.length (p0.aa.set (j2).toNat (al.mk x3.ID x3.ab (x3.ah.set ((i64 (p1.Ref.Version - 1)).toNat) true) x3.Uses x3.ae)))]),(812,.nest 49 5 [(1,54,5),(2,4,1),(3,88,3)] (List.map al.lv (p0.aa.set (j2).toNat (al.mk x3.ID x3.ab (x3.ah.set ((i64 (p1.Ref.Version - 1)).toNat) true) x3.Uses x3.ae))))] R R (by kernel_rfl) ?_ ?_
  ·refine aF (oM (v:=(.bJ _ _ _ _)) R ⟨R,?_⟩)
   refine mX (fH R R (by simp) (ca fz)) ?_
   refine mX (fG dG dX gJ R R (by simp) (ca fz)) ?_
   refine mX (nA (g:=LV.bool) (ys:=x3.ah) (ls:=List.map al.lv p0.aa) (cs:=[.I x3.ID,.ak 5 (x3.ab.map ai.lv),.ak 1 (x3.ah.map LV.bool),.ak 3 (x3.Uses.map ay.lv),.bool x3.ae]) (id2:=129) (dr:=[.I x3.ID,.ak 5 (x3.ab.map ai.lv),.eF,.ak 3 (x3.Uses.map ay.lv),.bool x3.ae]) R R (by simp) (ca fz) R R R dX lu R) ?_
   refine aF (aw eV gH gv R R R ⟨R,?_⟩)
   refine aF (aw dm aD ba R R R ⟨R,?_⟩)
   refine aF (bb R aD bQ ⟨R,?_⟩)
   refine aF (iA R R ⟨R,?_⟩)
   refine mD R R R (fun _ b _ d=>gS (f:=LV.bool) jo jC lC R b R wZ d) ?_
   refine mS R R R (fun _ b _ d=>qd (f:=LV.bool) (z':=true) R R R R jC lC b (dB wZ).2 R d) ?_
   exact m0 (Wk.trans (Wk.rT (id:=812) (id2:=129) (o0:=2) (i:=(j2).toNat) (n2:=List.length x3.ah) (g:=LV.bool) (ys:=(x3.ah.set ((i64 (p1.Ref.Version - 1)).toNat) true)) (ls:=List.map al.lv p0.aa) (cs:=[.I x3.ID,.ak 5 (x3.ab.map ai.lv),.eF,.ak 3 (x3.Uses.map ay.lv),.bool x3.ae]) (dr:=[.I x3.ID,.ak 5 (x3.ab.map ai.lv),.ak 1 (List.map LV.bool (x3.ah.set ((i64 (p1.Ref.Version - 1)).toNat) true)),.ak 3 (x3.Uses.map ay.lv),.bool x3.ae]) R (ca fz) R R R (by simp) (bM R) R) (Wk.to eN (mC ((show _=some (LE.box [.arr 812 p0.aa.length]) from R).trans (by simp)) (mC (IF R R) mN)) R (aZ R)))
  refine LH.aj [(4,.I 0)] [(811,.box [.arr 812 (List.length (p0.aa.set (j2).toNat (al.mk x3.ID x3.ab (x3.ah.set ((i64 (p1.Ref.Version - 1)).toNat) true) x3.Uses x3.ae)))]),(812,.nest 49 5 [(1,54,5),(2,4,1),(3,88,3)] (List.map al.lv (p0.aa.set (j2).toNat (al.mk x3.ID x3.ab (x3.ah.set ((i64 (p1.Ref.Version - 1)).toNat) true) x3.Uses x3.ae))))] R ?_ ?_
  ·refine bo R ?_
   exact zS
  refine LH.ret ?_
  obtain rfl:=oI h
  exact aO (aT Tryz.results59) (bU R (bS ⟨aN (mC R (mC R mN)),R,aZ R,Sub.rfl⟩))
theorem P8 {p0:ay} {c0:ax} {r:Bool} (h:Cg p0 c0=some r):aM Tryz.prog 80 [.agg [.I p0.Version,.I p0.Form,.I p0.Time],.ag (ax.lv c0).cells] (Mem.of []) (.bool r) (Mem.of []):=by
  unfold Cg at h
  refine br Tryz.func80 R (nT Tryz.ntmps80 R) (LH.wk (aS [(0,.agg [.I p0.Version,.I p0.Form,.I p0.Time]),(1,.ag (ax.lv c0).cells)] []) (LH.aj [(1,.ag (ax.lv c0).cells),(2,.ag [.I p0.Version,.I p0.Form,.I p0.Time])] [] R (sB (c7 R R R R (b4 R zS))) (LH.aj [(3,.bool (p0.Form == c0.Form))] [] R (sN (aw wR aD ba R R R (sN (bb R aD bQ (sN (aw kY aD ba R R R (sN (bb R aD bQ (sN (gp R R (b4 R zS))))))))))) (LH.ret ?_))))
  obtain rfl:=oI h
  exact aO (aT Tryz.results80) (bU R (bS ⟨aN mN,R,aZ R,Sub.rfl⟩))
theorem Pv {F:Nat} {p0:List ay} {p1:(ay→Option Bool)} {r:Int} {dV:Nat} {da:List LV} (AQ:ef Tryz.prog dV) (oQ:LV.bk da=true) (AR:∀ (x0:ay) (q:Bool),p1 x0=some q→aM Tryz.prog dV ([.agg [.I x0.Version,.I x0.Form,.I x0.Time]]++da) (Mem.of []) (.bool q) (Mem.of [])) (h:Ip F p0 p1=some r):aM Tryz.prog 65 [.ak 3 (p0.map ay.lv),.fn dV da] (Mem.of []) (.I r) (Mem.of []):=by
  have F8:∀ {l:List LV},LV.bk l=true→LV.bk (l++da)=true:=LX oQ
  have eE:LV.bK da=[]:=gh oQ
  unfold Ip at h
  refine br Tryz.func65 R (nT Tryz.ntmps65 R) (LH.wk (Wk.to (el:=[(0,.ak 3 (p0.map ay.lv)),(1,.fn dV da)]) (ml:=[]) (eQ ⟨R,R,trivial⟩) mN (by simp [aV,LV.refs,LV.bK,LV.cells,c9,Env.args,Env.of,Env.put,Env.drop,eE]) (aZ R)) (LH.aj [(0,.ak 3 (p0.map ay.lv)),(1,.fn dV da)] [] R (bo R (s0 (Wk.to (eQ ⟨R,R,trivial⟩) mN (by simp [aV,LV.refs,LV.bK,LV.cells,c9,Env.args,Env.of,Env.put,Env.drop,eE]) (aZ R)))) (LH.seq (LH.aj [(0,.ak 3 (p0.map ay.lv)),(1,.fn dV da),(7,.I (p0.length:Int)),(8,.I 0)] [] R (fp R (sN (bW (f:=ay.lv) iV R (bj R (s0 (Wk.to (eQ ⟨R,R,R,R,trivial⟩) mN (by simp [aV,LV.refs,LV.bK,LV.cells,c9,Env.args,Env.of,Env.put,Env.drop,eE]) (aZ R))))))) (LH.block (LH.loop (fun n e m=>∃ (n1:Int),LY p0 p1 n n1=some r∧e=Env.of [(0,.ak 3 (p0.map ay.lv)),(1,.fn dV da),(7,.I (p0.length:Int)),(8,.I n1)]∧m=Mem.of []) F ⟨0,h,R,R⟩ ?_))))))
  clear h
  rintro n e m ⟨n1,h,rfl,rfl⟩
  rcases n with _ | n
  · cases (show Option.none=some _ from h)
  obtain ⟨aJ,a7⟩:∃ f,f=LY p0 p1 n:=⟨_,rfl⟩
  replace h:Gc p0 p1 aJ n1=some r:=a7 ▸ h
  unfold Gc at h
  refine LH.aj [(0,.ak 3 (p0.map ay.lv)),(1,.fn dV da),(7,.I (p0.length:Int)),(8,.I n1),(9,.bool (decide (n1<(p0.length:Int))))] [] R (sN (fi R R (s0 (Wk.to (eQ ⟨R,R,R,R,R,trivial⟩) mN (by simp [aV,LV.refs,LV.bK,LV.cells,c9,Env.args,Env.of,Env.put,Env.drop,eE]) (aZ R))))) (LH.seq (LH.cond (t:=(decide (n1<(p0.length:Int)))) R (fun eZ=>?_) (fun eZ=>?_)))
  ·replace h:=aB h eZ
   refine LH.skip (au (LH.wk (Wk.to (el:=[(0,.ak 3 (p0.map ay.lv)),(1,.fn dV da),(7,.I (p0.length:Int)),(8,.I n1)]) (ml:=[]) (eQ ⟨R,R,R,R,trivial⟩) mN (by simp [aV,LV.refs,LV.bK,LV.cells,c9,Env.args,Env.of,Env.put,Env.drop,eE]) (aZ R)) (LH.seq (LH.block (LH.aj [(0,.ak 3 (p0.map ay.lv)),(1,.fn dV da),(5,.I n1),(7,.I (p0.length:Int)),(8,.I n1)] [] R (bj R (bo R (s0 (Wk.to (eQ ⟨R,R,R,R,R,trivial⟩) mN (by simp [aV,LV.refs,LV.bK,LV.cells,c9,Env.args,Env.of,Env.put,Env.drop,eE]) (aZ R))))) ?_)))))
   obtain ⟨x3,fz,h⟩:=ao h
   obtain ⟨r4,C0,h⟩:=ao h
   refine LH.aj [(0,.ak 3 (p0.map ay.lv)),(1,.fn dV da),(5,.I n1),(7,.I (p0.length:Int)),(8,.I n1),(16,.bool r4)] [] R ?_ ?_
   ·refine sN (oM (v:=(.fn _ _)) R (fp R (bj R (sN (eG (f:=ay.lv) iV rF lN R R ay.ok fz R (sN (bd R rF Iz lN R R (sN (dQ (args:=[.agg [.I x3.Version,.I x3.Form,.I x3.Time]]++da) (gw:=[.agg [.I x3.Version,.I x3.Form,.I x3.Time]]++da) R AQ R fv.rfl (AR _ _ C0) (F8 R) ?_)))))))))
    exact s0 (Wk.to (eQ ⟨R,R,R,R,R,R,trivial⟩) mN (by simp [aV,LV.refs,LV.bK,LV.cells,c9,Env.args,Env.of,Env.put,Env.drop,eE]) (aZ R))
   refine LH.cond (t:=r4) R (fun jY=>?_) (fun jY=>?_)
   ·replace h:=aB h jY
    refine LH.aj [(4,.I n1)] [] R (bj R (bo R (s0 (Wk.to (eQ ⟨R,trivial⟩) mN (by simp [aV,LV.refs,LV.bK,LV.cells,c9,Env.args,Env.of,Env.put,Env.drop,eE]) (aZ R))))) (LH.ret (bB (aW (dF (bB (aW ?_))))))
    obtain rfl:=oI h
    exact aO (aT Tryz.results65) (bU R (bS ⟨aN mN,R,aZ R,Sub.rfl⟩))
   replace h:=aA h jY
   refine LH.skip (aY (au (LH.aU [(0,.ak 3 (p0.map ay.lv)),(1,.fn dV da),(7,.I (p0.length:Int)),(8,.I (i64 (n1+1)))] [] R (sN (cD R R (bj R (s0 (Wk.to (eQ ⟨R,R,R,R,trivial⟩) mN (by simp [aV,LV.refs,LV.bK,LV.cells,c9,Env.args,Env.of,Env.put,Env.drop,eE]) (aZ R)))))) ?_)))
   exact bh ⟨(i64 (n1+1)),a7 ▸ h,R,R⟩ (Wk.to (eQ ⟨R,R,R,R,trivial⟩) mN (by simp [aV,LV.refs,LV.bK,LV.cells,c9,Env.args,Env.of,Env.put,Env.drop,eE]) (aZ R))
  replace h:=aA h eZ
  refine LH.exit (cw (bY (bO (au (LH.aj [(4,.I (-1))] [] R (bo R (s0 (Wk.to (eQ ⟨R,trivial⟩) mN (by simp [aV,LV.refs,LV.bK,LV.cells,c9,Env.args,Env.of,Env.put,Env.drop,eE]) (aZ R)))) (LH.ret ?_))))))
  obtain rfl:=oI h
  exact aO (aT Tryz.results65) (bU R (bS ⟨aN mN,R,aZ R,Sub.rfl⟩))
theorem JB {F:Nat} {p0:List ay} {p1:(ay→Option Bool)} {r:Bool} {dV:Nat} {da:List LV} (AQ:ef Tryz.prog dV) (oQ:LV.bk da=true) (AR:∀ (x0:ay) (q:Bool),p1 x0=some q→aM Tryz.prog dV ([.agg [.I x0.Version,.I x0.Form,.I x0.Time]]++da) (Mem.of []) (.bool q) (Mem.of [])) (h:Dh F p0 p1=some r):aM Tryz.prog 36 [.ak 3 (p0.map ay.lv),.fn dV da] (Mem.of []) (.bool r) (Mem.of []):=by
  have F8:∀ {l:List LV},LV.bk l=true→LV.bk (l++da)=true:=LX oQ
  have eE:LV.bK da=[]:=gh oQ
  unfold Dh at h
  refine br Tryz.func36 R (nT Tryz.ntmps36 R) (LH.wk (Wk.to (el:=[(0,.ak 3 (p0.map ay.lv)),(1,.fn dV da)]) (ml:=[]) (eQ ⟨R,R,trivial⟩) mN (by simp [aV,LV.refs,LV.bK,LV.cells,c9,Env.args,Env.of,Env.put,Env.drop,eE]) (aZ R)) (LH.aj [(0,.ak 3 (p0.map ay.lv)),(1,.fn dV da)] [] R (b4 R (s0 (Wk.to (eQ ⟨R,R,trivial⟩) mN (by simp [aV,LV.refs,LV.bK,LV.cells,c9,Env.args,Env.of,Env.put,Env.drop,eE]) (aZ R)))) ?_))
  obtain ⟨r1,ee,h⟩:=ao h
  refine LH.aj [(4,.bool (decide (r1 ≥ 0)))] [] R (fp R (sN (oM (v:=(.fn _ _)) R (sN (dQ (args:=[.ak 3 (p0.map ay.lv),.fn dV da]) R OP R (aH (aH bn)) (Pv AQ oQ AR ee) (by simp [LV.pure,LV.bk,oQ]) (sN (pJ R R (b4 R (s0 (Wk.to (eQ ⟨R,trivial⟩) mN (by simp [aV,LV.refs,LV.bK,LV.cells,c9,Env.args,Env.of,Env.put,Env.drop,eE]) (aZ R))))))))))) (LH.ret ?_)
  obtain rfl:=oI h
  exact aO (aT Tryz.results36) (bU R (bS ⟨aN mN,R,aZ R,Sub.rfl⟩))
theorem Qh {F:Nat} {p0:aK} {p1:ax} {r:Int × aK} (h:mw F p0 p1=some r):aM Tryz.prog 60 [.ptr 811 0,.agg [.I p1.ar.Time,.I p1.ar.Source,.I p1.ar.Seq,.I p1.Kind,.I p1.Item.ID,.I p1.Item.Version,.str p1.Item.bI,.ak 6 (p1.Item.aG.map aq.lv),.L p1.Item.aE,.I p1.Ref.ID,.I p1.Ref.Version,.I p1.Form]] (Mem.of [(811,.box [.arr 812 p0.aa.length]),(812,.nest 49 5 [(1,54,5),(2,4,1),(3,88,3)] (p0.aa.map al.lv))]) (.I r.1) (Mem.of [(811,.box [.arr 812 r.2.aa.length]),(812,.nest 49 5 [(1,54,5),(2,4,1),(3,88,3)] (r.2.aa.map al.lv))]):=by
  unfold mw at h
  refine br Tryz.func60 R (nT Tryz.ntmps60 R) ?_
  refine LH.wk (Wk.eq (el:=[(0,.ptr 811 0),(1,.agg [.I p1.ar.Time,.I p1.ar.Source,.I p1.ar.Seq,.I p1.Kind,.I p1.Item.ID,.I p1.Item.Version,.str p1.Item.bI,.ak 6 (p1.Item.aG.map aq.lv),.L p1.Item.aE,.I p1.Ref.ID,.I p1.Ref.Version,.I p1.Form])]) (ml:=[(811,.box [.arr 812 p0.aa.length]),(812,.nest 49 5 [(1,54,5),(2,4,1),(3,88,3)] (p0.aa.map al.lv))]) R R R R) ?_
  refine LH.aj [(0,.ptr 811 0),(3,.ag [.I p1.ar.Time,.I p1.ar.Source,.I p1.ar.Seq,.I p1.Kind,.I p1.Item.ID,.I p1.Item.Version,.str p1.Item.bI,.ak 6 (p1.Item.aG.map aq.lv),.L p1.Item.aE,.I p1.Ref.ID,.I p1.Ref.Version,.I p1.Form])] [(811,.box [.arr 812 p0.aa.length]),(812,.nest 49 5 [(1,54,5),(2,4,1),(3,88,3)] (p0.aa.map al.lv))] R ?_ ?_
  ·refine sB (c7 R R R R ?_)
   refine bo R ?_
   exact zS
  obtain ⟨r1,ee,h⟩:=ao h
  refine LH.aj [(3,.ag [.I p1.ar.Time,.I p1.ar.Source,.I p1.ar.Seq,.I p1.Kind,.I p1.Item.ID,.I p1.Item.Version,.str p1.Item.bI,.ak 6 (p1.Item.aG.map aq.lv),.L p1.Item.aE,.I p1.Ref.ID,.I p1.Ref.Version,.I p1.Form]),(5,ry 812 p0.aa.length r1)] [(811,.box [.arr 812 p0.aa.length]),(812,.nest 49 5 [(1,54,5),(2,4,1),(3,88,3)] (p0.aa.map al.lv))] R ?_ ?_
  ·refine hZ R ?_
   refine sN (aw eV gH gv R R R ?_)
   refine sN (bd R gH wL gv R R ?_)
   refine sN (eX (args:=[.ptr 811 0,.agg [.I p1.Ref.ID,.I p1.Ref.Version]]) (ml:=[(811,.box [.arr 812 p0.aa.length]),(812,.nest 49 5 [(1,54,5),(2,4,1),(3,88,3)] (p0.aa.map al.lv))]) (de:=[(811,.box [.arr 812 p0.aa.length]),(812,.nest 49 5 [(1,54,5),(2,4,1),(3,88,3)] (p0.aa.map al.lv))]) R Jp R (aH (aH bn)) (JM ee) ⟨R,R,trivial⟩ (cn R (cn R cz)) R ?_)
   refine sN (oA (v:=(ry _ _ _)) R ?_)
   exact s0 (Wk.to (eQ ⟨R,R,trivial⟩) ⟨R,R,trivial⟩ (by rcases r1 with _ | _ <;> exact R) (aZ R))
  rcases r1 with _ | j2
  ·replace h:=F6 h
   refine LH.wk (Wk.eq (el:=[(3,.ag [.I p1.ar.Time,.I p1.ar.Source,.I p1.ar.Seq,.I p1.Kind,.I p1.Item.ID,.I p1.Item.Version,.str p1.Item.bI,.ak 6 (p1.Item.aG.map aq.lv),.L p1.Item.aE,.I p1.Ref.ID,.I p1.Ref.Version,.I p1.Form]),(5,.fh)]) (ml:=[(811,.box [.arr 812 p0.aa.length]),(812,.nest 49 5 [(1,54,5),(2,4,1),(3,88,3)] (p0.aa.map al.lv))]) R R R R) ?_
   refine LH.seq ?_
   refine LH.aj [(3,.ag [.I p1.ar.Time,.I p1.ar.Source,.I p1.ar.Seq,.I p1.Kind,.I p1.Item.ID,.I p1.Item.Version,.str p1.Item.bI,.ak 6 (p1.Item.aG.map aq.lv),.L p1.Item.aE,.I p1.Ref.ID,.I p1.Ref.Version,.I p1.Form]),(5,.fh),(11,.bool true)] [(811,.box [.arr 812 p0.aa.length]),(812,.nest 49 5 [(1,54,5),(2,4,1),(3,88,3)] (p0.aa.map al.lv))] R ?_ ?_
   ·refine sN (oM (v:=.fh) R ?_)
    refine sX ((tq oa R R).ok) ?_
    exact zS
   refine LH.cond (t:=true) R (fun im=>?_) (fun im=>?_)
   ·refine LH.aj [(4,.I 4)] [(811,.box [.arr 812 p0.aa.length]),(812,.nest 49 5 [(1,54,5),(2,4,1),(3,88,3)] (p0.aa.map al.lv))] R ?_ ?_
    ·refine bo R ?_
     exact zS
    refine LH.ret ?_
    refine aW ?_
    obtain rfl:=oI h
    exact aO (aT Tryz.results60) (bU R (bS ⟨aN (mC R (mC R mN)),R,aZ R,Sub.rfl⟩))
   ·cases im
  replace h:=F7 h
  obtain ⟨x3,fz,h⟩:=ao h
  refine LH.wk (Wk.to (el:=[(3,.ag [.I p1.ar.Time,.I p1.ar.Source,.I p1.ar.Seq,.I p1.Kind,.I p1.Item.ID,.I p1.Item.Version,.str p1.Item.bI,.ak 6 (p1.Item.aG.map aq.lv),.L p1.Item.aE,.I p1.Ref.ID,.I p1.Ref.Version,.I p1.Form]),(5,.bJ 812 p0.aa.length (j2).toNat 0)]) (ml:=[(811,.box [.arr 812 p0.aa.length]),(812,.nest 49 5 [(1,54,5),(2,4,1),(3,88,3)] ((p0.aa.map al.lv).set (j2).toNat (.agg [.I x3.ID,.ak 5 (x3.ab.map ai.lv),.ak 1 (x3.ah.map LV.bool),.ak 3 (x3.Uses.map ay.lv),.bool x3.ae])))]) (eQ ⟨R,R,trivial⟩) (mC R (mC (pn fz) mN)) R (aZ R)) ?_
  refine LH.seq ?_
  refine LH.aj [(3,.ag [.I p1.ar.Time,.I p1.ar.Source,.I p1.ar.Seq,.I p1.Kind,.I p1.Item.ID,.I p1.Item.Version,.str p1.Item.bI,.ak 6 (p1.Item.aG.map aq.lv),.L p1.Item.aE,.I p1.Ref.ID,.I p1.Ref.Version,.I p1.Form]),(5,.bJ 812 p0.aa.length (j2).toNat 0),(11,.bool false)] [(811,.box [.arr 812 p0.aa.length]),(812,.nest 49 5 [(1,54,5),(2,4,1),(3,88,3)] ((p0.aa.map al.lv).set (j2).toNat (.agg [.I x3.ID,.ak 5 (x3.ab.map ai.lv),.ak 1 (x3.ah.map LV.bool),.ak 3 (x3.Uses.map ay.lv),.bool x3.ae])))] R ?_ ?_
  ·refine sN (oM (v:=(.bJ _ _ _ _)) R ?_)
   refine sX ((tp oa R R R (by simp) (ca fz)).ok) ?_
   exact zS
  refine LH.cond (t:=false) R (fun jY=>?_) (fun jY=>?_)
  ·cases jY
  refine LH.skip ?_
  refine au ?_
  refine LH.wk (Wk.eq (el:=[(3,.ag [.I p1.ar.Time,.I p1.ar.Source,.I p1.ar.Seq,.I p1.Kind,.I p1.Item.ID,.I p1.Item.Version,.str p1.Item.bI,.ak 6 (p1.Item.aG.map aq.lv),.L p1.Item.aE,.I p1.Ref.ID,.I p1.Ref.Version,.I p1.Form]),(5,.bJ 812 p0.aa.length (j2).toNat 0)]) (ml:=[(811,.box [.arr 812 p0.aa.length]),(812,.nest 49 5 [(1,54,5),(2,4,1),(3,88,3)] ((p0.aa.map al.lv).set (j2).toNat (.agg [.I x3.ID,.ak 5 (x3.ab.map ai.lv),.ak 1 (x3.ah.map LV.bool),.ak 3 (x3.Uses.map ay.lv),.bool x3.ae])))]) R R R R) ?_
  refine LH.seq ?_
  obtain ⟨w7,hv,h⟩:=ao h
  refine LH.di mixed [] [0,3,3,3,0,0,3,3,3,0,0,0,0,1,1,0,0] [(3,.ag [.I p1.ar.Time,.I p1.ar.Source,.I p1.ar.Seq,.I p1.Kind,.I p1.Item.ID,.I p1.Item.Version,.str p1.Item.bI,.ak 6 (p1.Item.aG.map aq.lv),.L p1.Item.aE,.I p1.Ref.ID,.I p1.Ref.Version,.I p1.Form]),(5,.bJ 812 p0.aa.length (j2).toNat 0),(28,.bool w7)] [(811,.box [.arr 812 p0.aa.length]),(812,.nest 49 5 [(1,54,5),(2,4,1),(3,88,3)] ((p0.aa.map al.lv).set (j2).toNat (.agg [.I x3.ID,.ak 5 (x3.ab.map ai.lv),.ak 1 (x3.ah.map LV.bool),.ak 3 (x3.Uses.map ay.lv),.bool x3.ae])))] R R (by kernel_rfl) ?_ ?_
  ·refine aF (oM (v:=(.bJ _ _ _ _)) R ⟨R,?_⟩)
   refine mX (fH R R (by simp) (ca fz)) ?_
   refine mX (fG iW jC lC R R (by simp) (ca fz)) ?_
   refine mX (wh (cs:=[.I x3.ID,.ak 5 (x3.ab.map ai.lv),.ak 1 (x3.ah.map LV.bool),.ak 3 (x3.Uses.map ay.lv),.bool x3.ae]) R R (by simp) (ca fz) R R jC uC) ?_
   refine iO R ?_
   by_cases dt:x3.ae=true
   ·replace hv:=aB hv dt
    refine mF R R dt ?_
    refine mF R R dt ?_
    refine mF R R dt ?_
    refine mF R R dt ?_
    refine mF R R dt ?_
    refine mF R R dt ?_
    refine mF R R dt ?_
    refine mF R R dt ?_
    refine mF R R dt ?_
    refine mF R R dt ?_
    refine mF R R dt ?_
    refine aF (aX (cB dt) (v:=(.bool _)) R ⟨R,?_⟩)
    obtain rfl:=oI hv
    exact zM
   ·replace dt:=bF dt
    replace hv:=aA hv dt
    refine mT R (cB dt) (aF (oM (v:=(.bJ _ _ _ _)) R ⟨R,?_⟩))
    refine mT R (cB dt) (mX (fH R R (by simp) (ca fz)) ?_)
    refine mT R (cB dt) (mX (fG dG dX gJ R R (by simp) (ca fz)) ?_)
    refine mT R (cB dt) (mX (nA (g:=LV.bool) (ys:=x3.ah) (ls:=List.map al.lv p0.aa) (cs:=[.I x3.ID,.ak 5 (x3.ab.map ai.lv),.ak 1 (x3.ah.map LV.bool),.ak 3 (x3.Uses.map ay.lv),.bool x3.ae]) (id2:=120) (dr:=[.I x3.ID,.ak 5 (x3.ab.map ai.lv),.eF,.ak 3 (x3.Uses.map ay.lv),.bool x3.ae]) R R (by simp) (ca fz) R R R dX lu R) ?_)
    refine mT R (cB dt) (aF (aw eV gH gv R R R ⟨R,?_⟩))
    refine mT R (cB dt) (aF (aw dm aD ba R R R ⟨R,?_⟩))
    refine mT R (cB dt) (aF (bb R aD bQ ⟨R,?_⟩))
    refine mT R (cB dt) (aF (iA R R ⟨R,?_⟩))
    obtain ⟨x9,wZ,hv⟩:=ao hv
    refine mT R (cB dt) (Pl (gS (f:=LV.bool) jo jC lC R R R wZ ⟨R,?_⟩))
    refine mT R (cB dt) (Pl (we (f:=LV.bool) R R (dB wZ).2 R R R jC uC ⟨R,?_⟩))
    refine mT R (cB dt) (aF (kB R ⟨R,?_⟩))
    refine aF (aQ (cB dt) (v:=(.bool _)) R ⟨R,?_⟩)
    obtain rfl:=oI hv
    exact m0 (Wk.trans (Wk.rT (id:=812) (id2:=120) (o0:=2) (i:=(j2).toNat) (n2:=List.length x3.ah) (g:=LV.bool) (ys:=x3.ah) (ls:=List.map al.lv p0.aa) (cs:=[.I x3.ID,.ak 5 (x3.ab.map ai.lv),.eF,.ak 3 (x3.Uses.map ay.lv),.bool x3.ae]) (dr:=[.I x3.ID,.ak 5 (x3.ab.map ai.lv),.ak 1 (x3.ah.map LV.bool),.ak 3 (x3.Uses.map ay.lv),.bool x3.ae]) R (ca fz) R R R R (bM R) R) (Wk.eq R R R R))
  clear hv
  refine LH.cond (t:=w7) R (fun hY=>?_) (fun hY=>?_)
  ·replace h:=aB h hY
   refine LH.aj [(4,.I 8)] [(811,.box [.arr 812 p0.aa.length]),(812,.nest 49 5 [(1,54,5),(2,4,1),(3,88,3)] (p0.aa.map al.lv))] R ?_ ?_
   ·refine bo R ?_
    exact s0 (Wk.to (eQ ⟨R,trivial⟩) (mC R (mC (pn fz).symm mN)) R (aZ R))
   refine LH.ret ?_
   refine aW ?_
   obtain rfl:=oI h
   exact aO (aT Tryz.results60) (bU R (bS ⟨aN (mC R (mC R mN)),R,aZ R,Sub.rfl⟩))
  replace h:=aA h hY
  refine LH.skip ?_
  refine au ?_
  refine LH.wk (Wk.eq (el:=[(3,.ag [.I p1.ar.Time,.I p1.ar.Source,.I p1.ar.Seq,.I p1.Kind,.I p1.Item.ID,.I p1.Item.Version,.str p1.Item.bI,.ak 6 (p1.Item.aG.map aq.lv),.L p1.Item.aE,.I p1.Ref.ID,.I p1.Ref.Version,.I p1.Form]),(5,.bJ 812 p0.aa.length (j2).toNat 0)]) (ml:=[(811,.box [.arr 812 p0.aa.length]),(812,.nest 49 5 [(1,54,5),(2,4,1),(3,88,3)] ((p0.aa.map al.lv).set (j2).toNat (.agg [.I x3.ID,.ak 5 (x3.ab.map ai.lv),.ak 1 (x3.ah.map LV.bool),.ak 3 (x3.Uses.map ay.lv),.bool x3.ae])))]) R R R R) ?_
  refine LH.seq ?_
  obtain ⟨cM,lH,h⟩:=ao h
  refine LH.aj [(3,.ag [.I p1.ar.Time,.I p1.ar.Source,.I p1.ar.Seq,.I p1.Kind,.I p1.Item.ID,.I p1.Item.Version,.str p1.Item.bI,.ak 6 (p1.Item.aG.map aq.lv),.L p1.Item.aE,.I p1.Ref.ID,.I p1.Ref.Version,.I p1.Form]),(5,.bJ 812 p0.aa.length (j2).toNat 0),(34,.bool cM)] [(811,.box [.arr 812 p0.aa.length]),(812,.nest 49 5 [(1,54,5),(2,4,1),(3,88,3)] ((p0.aa.map al.lv).set (j2).toNat (.agg [.I x3.ID,.ak 5 (x3.ab.map ai.lv),.ak 1 (x3.ah.map LV.bool),.ak 3 (x3.Uses.map ay.lv),.bool x3.ae])))] R ?_ ?_
  ·refine sN (oM (v:=(.bJ _ _ _ _)) R ?_)
   refine sX ((fH R R (by simp) (ca fz)).ok) ?_
   refine sX ((fG dH dP gW R R (by simp) (ca fz)).ok) ?_
   refine sX ((nA (g:=ay.lv) (ys:=x3.Uses) (ls:=List.map al.lv p0.aa) (cs:=[.I x3.ID,.ak 5 (x3.ab.map ai.lv),.ak 1 (x3.ah.map LV.bool),.ak 3 (x3.Uses.map ay.lv),.bool x3.ae]) (id2:=132) (dr:=[.I x3.ID,.ak 5 (x3.ab.map ai.lv),.ak 1 (x3.ah.map LV.bool),.eF,.bool x3.ae]) R R (by simp) (ca fz) R R R dP km R).ok) ?_
   refine sN (Pq (vs:=[.ag [.I p1.ar.Time,.I p1.ar.Source,.I p1.ar.Seq,.I p1.Kind,.I p1.Item.ID,.I p1.Item.Version,.str p1.Item.bI,.ak 6 (p1.Item.aG.map aq.lv),.L p1.Item.aE,.I p1.Ref.ID,.I p1.Ref.Version,.I p1.Form]]) R ?_)
   refine sN (eX (args:=[.arr 132 x3.Uses.length,.fn 80 [.ag [.I p1.ar.Time,.I p1.ar.Source,.I p1.ar.Seq,.I p1.Kind,.I p1.Item.ID,.I p1.Item.Version,.str p1.Item.bI,.ak 6 (p1.Item.aG.map aq.lv),.L p1.Item.aE,.I p1.Ref.ID,.I p1.Ref.Version,.I p1.Form]]]) (ml:=[(132,.arr 88 3 (x3.Uses.map ay.lv))]) (de:=[(132,.arr 88 3 (x3.Uses.map ay.lv))]) R Jj R (aH (aH bn)) (aM.Tu 132 88 3 (xs:=List.map ay.lv x3.Uses) (JB (dV:=80) (da:=[.ag [.I p1.ar.Time,.I p1.ar.Source,.I p1.ar.Seq,.I p1.Kind,.I p1.Item.ID,.I p1.Item.Version,.str p1.Item.bI,.ak 6 (p1.Item.aG.map aq.lv),.L p1.Item.aE,.I p1.Ref.ID,.I p1.Ref.Version,.I p1.Form]]) OZ R (fun _ _ h=>P8 h) lH) (.row (by simp) (.jA R .nil)) R R R R R UQ) ⟨R,trivial⟩ (cn R cz) R ?_)
   exact s0 (Wk.trans (Wk.rT (id:=812) (id2:=132) (o0:=3) (i:=(j2).toNat) (n2:=List.length x3.Uses) (g:=ay.lv) (ys:=x3.Uses) (ls:=List.map al.lv p0.aa) (cs:=[.I x3.ID,.ak 5 (x3.ab.map ai.lv),.ak 1 (x3.ah.map LV.bool),.eF,.bool x3.ae]) (dr:=[.I x3.ID,.ak 5 (x3.ab.map ai.lv),.ak 1 (x3.ah.map LV.bool),.ak 3 (x3.Uses.map ay.lv),.bool x3.ae]) R (ca fz) R R R R (bM R) R) (Wk.eq R R R R))
  refine LH.cond (t:=cM) R (fun gP=>?_) (fun gP=>?_)
  ·replace h:=aB h gP
   refine LH.aj [(4,.I 5)] [(811,.box [.arr 812 p0.aa.length]),(812,.nest 49 5 [(1,54,5),(2,4,1),(3,88,3)] (p0.aa.map al.lv))] R ?_ ?_
   ·refine bo R ?_
    exact s0 (Wk.to (eQ ⟨R,trivial⟩) (mC R (mC (pn fz).symm mN)) R (aZ R))
   refine LH.ret ?_
   refine aW ?_
   obtain rfl:=oI h
   exact aO (aT Tryz.results60) (bU R (bS ⟨aN (mC R (mC R mN)),R,aZ R,Sub.rfl⟩))
  replace h:=aA h gP
  refine LH.skip ?_
  refine au ?_
  refine LH.wk (Wk.eq (el:=[(3,.ag [.I p1.ar.Time,.I p1.ar.Source,.I p1.ar.Seq,.I p1.Kind,.I p1.Item.ID,.I p1.Item.Version,.str p1.Item.bI,.ak 6 (p1.Item.aG.map aq.lv),.L p1.Item.aE,.I p1.Ref.ID,.I p1.Ref.Version,.I p1.Form]),(5,.bJ 812 p0.aa.length (j2).toNat 0)]) (ml:=[(811,.box [.arr 812 p0.aa.length]),(812,.nest 49 5 [(1,54,5),(2,4,1),(3,88,3)] ((p0.aa.map al.lv).set (j2).toNat (.agg [.I x3.ID,.ak 5 (x3.ab.map ai.lv),.ak 1 (x3.ah.map LV.bool),.ak 3 (x3.Uses.map ay.lv),.bool x3.ae])))]) R R R R) ?_
  refine LH.seq ?_
  refine LH.aj [(3,.ag [.I p1.ar.Time,.I p1.ar.Source,.I p1.ar.Seq,.I p1.Kind,.I p1.Item.ID,.I p1.Item.Version,.str p1.Item.bI,.ak 6 (p1.Item.aG.map aq.lv),.L p1.Item.aE,.I p1.Ref.ID,.I p1.Ref.Version,.I p1.Form]),(5,.bJ 812 p0.aa.length (j2).toNat 0),(40,.bool (decide ((x3.Uses.length:Int) ≥ 300)))] [(811,.box [.arr 812 p0.aa.length]),(812,.nest 49 5 [(1,54,5),(2,4,1),(3,88,3)] ((p0.aa.map al.lv).set (j2).toNat (.agg [.I x3.ID,.ak 5 (x3.ab.map ai.lv),.ak 1 (x3.ah.map LV.bool),.ak 3 (x3.Uses.map ay.lv),.bool x3.ae])))] R ?_ ?_
  ·refine sN (oM (v:=(.bJ _ _ _ _)) R ?_)
   refine sX ((fH R R (by simp) (ca fz)).ok) ?_
   refine sX ((fG dH dP gW R R (by simp) (ca fz)).ok) ?_
   refine sX ((AP (g:=ay.lv) (ys:=x3.Uses) (cs:=[.I x3.ID,.ak 5 (x3.ab.map ai.lv),.ak 1 (x3.ah.map LV.bool),.ak 3 (x3.Uses.map ay.lv),.bool x3.ae]) R R (by simp) (ca fz) R R dP km).ok) ?_
   refine sX ((wi iV R).ok) ?_
   refine sN (pJ R R ?_)
   exact zS
  refine LH.cond (t:=(decide ((x3.Uses.length:Int) ≥ 300))) R (fun ou=>?_) (fun ou=>?_)
  ·replace h:=aB h ou
   refine LH.aj [(4,.I 3)] [(811,.box [.arr 812 p0.aa.length]),(812,.nest 49 5 [(1,54,5),(2,4,1),(3,88,3)] (p0.aa.map al.lv))] R ?_ ?_
   ·refine bo R ?_
    exact s0 (Wk.to (eQ ⟨R,trivial⟩) (mC R (mC (pn fz).symm mN)) R (aZ R))
   refine LH.ret ?_
   refine aW ?_
   obtain rfl:=oI h
   exact aO (aT Tryz.results60) (bU R (bS ⟨aN (mC R (mC R mN)),R,aZ R,Sub.rfl⟩))
  replace h:=aA h ou
  refine LH.skip ?_
  refine au ?_
  obtain ⟨kL,AB,h⟩:=ao h
  refine LH.di mixed [] [0,0,3,3,3,0,0,0,0,0,0,0,0,0,0,2,3,3,3] [] [(811,.box [.arr 812 (List.length (p0.aa.set (j2).toNat (al.mk x3.ID x3.ab x3.ah kL x3.ae)))]),(812,.nest 49 5 [(1,54,5),(2,4,1),(3,88,3)] (List.map al.lv (p0.aa.set (j2).toNat (al.mk x3.ID x3.ab x3.ah kL x3.ae))))] R R (by kernel_rfl) ?_ ?_
  ·refine aF (oM (v:=(.bJ _ _ _ _)) R ⟨R,?_⟩)
   refine aF (oM (v:=(.bJ _ _ _ _)) R ⟨R,?_⟩)
   refine mX (fH R R (by simp) (ca fz)) ?_
   refine mX (fG dH dP gW R R (by simp) (ca fz)) ?_
   refine mX (tr (g:=ay.lv) (ys:=x3.Uses) (ls:=List.map al.lv p0.aa) (cs:=[.I x3.ID,.ak 5 (x3.ab.map ai.lv),.ak 1 (x3.ah.map LV.bool),.ak 3 (x3.Uses.map ay.lv),.bool x3.ae]) (id2:=145) (dr:=[.I x3.ID,.ak 5 (x3.ab.map ai.lv),.ak 1 (x3.ah.map LV.bool),.eF,.bool x3.ae]) R R (by simp) (ca fz) R R R dP km R) ?_
   refine aF (aw eV gH gv R R R ⟨R,?_⟩)
   refine aF (aw dm aD ba R R R ⟨R,?_⟩)
   refine aF (bb R aD bQ ⟨R,?_⟩)
   refine aF (aw kY aD ba R R R ⟨R,?_⟩)
   refine aF (bb R aD bQ ⟨R,?_⟩)
   refine aF (aw dh cg b7 R R R ⟨R,?_⟩)
   refine aF (aw fa aD ba R R R ⟨R,?_⟩)
   refine aF (bb R aD bQ ⟨R,?_⟩)
   refine aF (fU (vs:=[(0,.I p1.Ref.Version),(1,.I p1.Form),(2,.I p1.ar.Time)]) Mb IE R (lf oZ ba aD R R R (lf wR ba aD R R R (lf Bk ba aD R R R fT))) ⟨R,?_⟩)
   refine aF (jZ (f:=ay.lv) (ys:=[(ay.mk p1.Ref.Version p1.Form p1.ar.Time)]) iV Bm lN R R R ay.ok ⟨R,?_⟩)
   refine Ht (nw (f:=ay.lv) iV Bm lN R R (bM R) R AB ?_)
   refine mX (fH R R (by simp) (ca fz)) ?_
   refine mX (fG dH dP gW R R (by simp) (ca fz)) ?_
   refine UM (wj (g:=ay.lv) (ys:=kL) (ls:=List.map al.lv p0.aa) (cs:=[.I x3.ID,.ak 5 (x3.ab.map ai.lv),.ak 1 (x3.ah.map LV.bool),.eF,.bool x3.ae]) (dr:=[.I x3.ID,.ak 5 (x3.ab.map ai.lv),.ak 1 (x3.ah.map LV.bool),.ak 3 (kL.map ay.lv),.bool x3.ae]) R R (by simp) (ca fz) R R R R R (bM R) dP gW R) ?_
   exact m0 (Wk.to eN (mC ((show _=some (LE.box [.arr 812 p0.aa.length]) from R).trans (by simp)) (mC (IF R R) mN)) R (aZ R))
  refine LH.aj [(4,.I 0)] [(811,.box [.arr 812 (List.length (p0.aa.set (j2).toNat (al.mk x3.ID x3.ab x3.ah kL x3.ae)))]),(812,.nest 49 5 [(1,54,5),(2,4,1),(3,88,3)] (List.map al.lv (p0.aa.set (j2).toNat (al.mk x3.ID x3.ab x3.ah kL x3.ae))))] R ?_ ?_
  ·refine bo R ?_
   exact zS
  refine LH.ret ?_
  obtain rfl:=oI h
  exact aO (aT Tryz.results60) (bU R (bS ⟨aN (mC R (mC R mN)),R,aZ R,Sub.rfl⟩))
theorem JD {F:Nat} {p0:aK} {p1:ax} {c0:Bool} {r:Int × aK} (h:Dm F p0 p1 c0=some r):aM Tryz.prog 81 [.ptr 811 0,.agg [.I p1.ar.Time,.I p1.ar.Source,.I p1.ar.Seq,.I p1.Kind,.I p1.Item.ID,.I p1.Item.Version,.str p1.Item.bI,.ak 6 (p1.Item.aG.map aq.lv),.L p1.Item.aE,.I p1.Ref.ID,.I p1.Ref.Version,.I p1.Form],.ag [.bool c0]] (Mem.of [(811,.box [.arr 812 p0.aa.length]),(812,.nest 49 5 [(1,54,5),(2,4,1),(3,88,3)] (p0.aa.map al.lv))]) (.I r.1) (Mem.of [(811,.box [.arr 812 r.2.aa.length]),(812,.nest 49 5 [(1,54,5),(2,4,1),(3,88,3)] (r.2.aa.map al.lv))]):=by
  unfold Dm at h
  refine br Tryz.func81 R (nT Tryz.ntmps81 R) ?_
  refine LH.wk (Wk.eq (el:=[(0,.ptr 811 0),(1,.agg [.I p1.ar.Time,.I p1.ar.Source,.I p1.ar.Seq,.I p1.Kind,.I p1.Item.ID,.I p1.Item.Version,.str p1.Item.bI,.ak 6 (p1.Item.aG.map aq.lv),.L p1.Item.aE,.I p1.Ref.ID,.I p1.Ref.Version,.I p1.Form]),(2,.ag [.bool c0])]) (ml:=[(811,.box [.arr 812 p0.aa.length]),(812,.nest 49 5 [(1,54,5),(2,4,1),(3,88,3)] (p0.aa.map al.lv))]) R R R R) ?_
  refine LH.aj [(0,.ptr 811 0),(2,.ag [.bool c0]),(4,.ag [.I p1.ar.Time,.I p1.ar.Source,.I p1.ar.Seq,.I p1.Kind,.I p1.Item.ID,.I p1.Item.Version,.str p1.Item.bI,.ak 6 (p1.Item.aG.map aq.lv),.L p1.Item.aE,.I p1.Ref.ID,.I p1.Ref.Version,.I p1.Form])] [(811,.box [.arr 812 p0.aa.length]),(812,.nest 49 5 [(1,54,5),(2,4,1),(3,88,3)] (p0.aa.map al.lv))] R ?_ ?_
  ·refine sB (c7 R R R R ?_)
   refine bo R ?_
   exact zS
  obtain ⟨r1,ee,h⟩:=ao h
  refine LH.aj [(2,.ag [.bool c0]),(6,ry 812 p0.aa.length r1)] [(811,.box [.arr 812 p0.aa.length]),(812,.nest 49 5 [(1,54,5),(2,4,1),(3,88,3)] (p0.aa.map al.lv))] R ?_ ?_
  ·refine hZ R ?_
   refine sN (aw eV gH gv R R R ?_)
   refine sN (aw fJ aD ba R R R ?_)
   refine sN (bb R aD bQ ?_)
   refine sN (eX (args:=[.ptr 811 0,.I p1.Ref.ID]) (ml:=[(811,.box [.arr 812 p0.aa.length]),(812,.nest 49 5 [(1,54,5),(2,4,1),(3,88,3)] (p0.aa.map al.lv))]) (de:=[(811,.box [.arr 812 p0.aa.length]),(812,.nest 49 5 [(1,54,5),(2,4,1),(3,88,3)] (p0.aa.map al.lv))]) R FH R (aH (aH bn)) (Gd ee) ⟨R,R,trivial⟩ (cn R (cn R cz)) R ?_)
   refine sN (oA (v:=(ry _ _ _)) R ?_)
   exact s0 (Wk.to (eQ ⟨R,R,trivial⟩) ⟨R,R,trivial⟩ (by rcases r1 with _ | _ <;> exact R) (aZ R))
  rcases r1 with _ | j2
  ·replace h:=F6 h
   refine LH.wk (Wk.eq (el:=[(2,.ag [.bool c0]),(6,.fh)]) (ml:=[(811,.box [.arr 812 p0.aa.length]),(812,.nest 49 5 [(1,54,5),(2,4,1),(3,88,3)] (p0.aa.map al.lv))]) R R R R) ?_
   refine LH.seq ?_
   refine LH.aj [(2,.ag [.bool c0]),(6,.fh),(13,.bool true)] [(811,.box [.arr 812 p0.aa.length]),(812,.nest 49 5 [(1,54,5),(2,4,1),(3,88,3)] (p0.aa.map al.lv))] R ?_ ?_
   ·refine sN (oM (v:=.fh) R ?_)
    refine sX ((tq oa R R).ok) ?_
    exact zS
   refine LH.cond (t:=true) R (fun im=>?_) (fun im=>?_)
   ·refine LH.aj [(5,.I 4)] [(811,.box [.arr 812 p0.aa.length]),(812,.nest 49 5 [(1,54,5),(2,4,1),(3,88,3)] (p0.aa.map al.lv))] R ?_ ?_
    ·refine bo R ?_
     exact zS
    refine LH.ret ?_
    refine aW ?_
    obtain rfl:=oI h
    exact aO (aT Tryz.results81) (bU R (bS ⟨aN (mC R (mC R mN)),R,aZ R,Sub.rfl⟩))
   ·cases im
  replace h:=F7 h
  obtain ⟨x3,fz,h⟩:=ao h
  refine LH.wk (Wk.to (el:=[(2,.ag [.bool c0]),(6,.bJ 812 p0.aa.length (j2).toNat 0)]) (ml:=[(811,.box [.arr 812 p0.aa.length]),(812,.nest 49 5 [(1,54,5),(2,4,1),(3,88,3)] ((p0.aa.map al.lv).set (j2).toNat (.agg [.I x3.ID,.ak 5 (x3.ab.map ai.lv),.ak 1 (x3.ah.map LV.bool),.ak 3 (x3.Uses.map ay.lv),.bool x3.ae])))]) (eQ ⟨R,R,trivial⟩) (mC R (mC (pn fz) mN)) R (aZ R)) ?_
  refine LH.seq ?_
  refine LH.aj [(2,.ag [.bool c0]),(6,.bJ 812 p0.aa.length (j2).toNat 0),(13,.bool false)] [(811,.box [.arr 812 p0.aa.length]),(812,.nest 49 5 [(1,54,5),(2,4,1),(3,88,3)] ((p0.aa.map al.lv).set (j2).toNat (.agg [.I x3.ID,.ak 5 (x3.ab.map ai.lv),.ak 1 (x3.ah.map LV.bool),.ak 3 (x3.Uses.map ay.lv),.bool x3.ae])))] R ?_ ?_
  ·refine sN (oM (v:=(.bJ _ _ _ _)) R ?_)
   refine sX ((tp oa R R R (by simp) (ca fz)).ok) ?_
   exact zS
  refine LH.cond (t:=false) R (fun jY=>?_) (fun jY=>?_)
  ·cases jY
  refine LH.skip ?_
  refine au ?_
  refine LH.wk (Wk.eq (el:=[(2,.ag [.bool c0]),(6,.bJ 812 p0.aa.length (j2).toNat 0)]) (ml:=[(811,.box [.arr 812 p0.aa.length]),(812,.nest 49 5 [(1,54,5),(2,4,1),(3,88,3)] ((p0.aa.map al.lv).set (j2).toNat (.agg [.I x3.ID,.ak 5 (x3.ab.map ai.lv),.ak 1 (x3.ah.map LV.bool),.ak 3 (x3.Uses.map ay.lv),.bool x3.ae])))]) R R R R) ?_
  refine LH.seq ?_
  refine LH.di mixed [] [0,3,3,3,0,0] [(2,.ag [.bool c0]),(6,.bJ 812 p0.aa.length (j2).toNat 0),(19,.bool (x3.ae == c0))] [(811,.box [.arr 812 p0.aa.length]),(812,.nest 49 5 [(1,54,5),(2,4,1),(3,88,3)] ((p0.aa.map al.lv).set (j2).toNat (.agg [.I x3.ID,.ak 5 (x3.ab.map ai.lv),.ak 1 (x3.ah.map LV.bool),.ak 3 (x3.Uses.map ay.lv),.bool x3.ae])))] R R (by kernel_rfl) ?_ ?_
  ·refine aF (oM (v:=(.bJ _ _ _ _)) R ⟨R,?_⟩)
   refine mX (fH R R (by simp) (ca fz)) ?_
   refine mX (fG iW jC lC R R (by simp) (ca fz)) ?_
   refine mX (wh (cs:=[.I x3.ID,.ak 5 (x3.ab.map ai.lv),.ak 1 (x3.ah.map LV.bool),.ak 3 (x3.Uses.map ay.lv),.bool x3.ae]) R R (by simp) (ca fz) R R jC uC) ?_
   refine aF (bb R jC uC ⟨R,?_⟩)
   refine aF (FV R R L8 ⟨R,?_⟩)
   exact zM
  refine LH.cond (t:=(x3.ae == c0)) R (fun fP=>?_) (fun fP=>?_)
  ·replace h:=aB h fP
   refine LH.aj [(5,.I 8)] [(811,.box [.arr 812 p0.aa.length]),(812,.nest 49 5 [(1,54,5),(2,4,1),(3,88,3)] (p0.aa.map al.lv))] R ?_ ?_
   ·refine bo R ?_
    exact s0 (Wk.to (eQ ⟨R,trivial⟩) (mC R (mC (pn fz).symm mN)) R (aZ R))
   refine LH.ret ?_
   refine aW ?_
   obtain rfl:=oI h
   exact aO (aT Tryz.results81) (bU R (bS ⟨aN (mC R (mC R mN)),R,aZ R,Sub.rfl⟩))
  replace h:=aA h fP
  refine LH.skip ?_
  refine au ?_
  refine LH.aj [] [(811,.box [.arr 812 (List.length (p0.aa.set (j2).toNat (al.mk x3.ID x3.ab x3.ah x3.Uses c0)))]),(812,.nest 49 5 [(1,54,5),(2,4,1),(3,88,3)] (List.map al.lv (p0.aa.set (j2).toNat (al.mk x3.ID x3.ab x3.ah x3.Uses c0))))] R ?_ ?_
  ·refine sN (oM (v:=(.bJ _ _ _ _)) R ?_)
   refine sN (bb R jC uC ?_)
   refine sX ((fH R R (by simp) (ca fz)).ok) ?_
   refine sX ((fG iW jC lC R R (by simp) (ca fz)).ok) ?_
   refine Iw ((LQ (ls:=List.map al.lv p0.aa) (cs:=[.I x3.ID,.ak 5 (x3.ab.map ai.lv),.ak 1 (x3.ah.map LV.bool),.ak 3 (x3.Uses.map ay.lv),.bool x3.ae]) (dr:=[.I x3.ID,.ak 5 (x3.ab.map ai.lv),.ak 1 (x3.ah.map LV.bool),.ak 3 (x3.Uses.map ay.lv),.bool c0]) R R (by simp) (ca fz) R R R R R jC lC R).ok) ?_
   exact s0 (Wk.to eN (mC ((show _=some (LE.box [.arr 812 p0.aa.length]) from R).trans (by simp)) (mC (IF R R) mN)) R (aZ R))
  refine LH.aj [(5,.I 0)] [(811,.box [.arr 812 (List.length (p0.aa.set (j2).toNat (al.mk x3.ID x3.ab x3.ah x3.Uses c0)))]),(812,.nest 49 5 [(1,54,5),(2,4,1),(3,88,3)] (List.map al.lv (p0.aa.set (j2).toNat (al.mk x3.ID x3.ab x3.ah x3.Uses c0))))] R ?_ ?_
  ·refine bo R ?_
   exact zS
  refine LH.ret ?_
  obtain rfl:=oI h
  exact aO (aT Tryz.results81) (bU R (bS ⟨aN (mC R (mC R mN)),R,aZ R,Sub.rfl⟩))
theorem JE {F:Nat} {p0:Bool} {r:Bool} (h:JH F p0=some r):aM Tryz.prog 61 [.bool p0] (Mem.of []) (.fn 81 [.ag [.bool r]]) (Mem.of []):=by
  unfold JH at h
  refine br Tryz.func61 R (nT Tryz.ntmps61 R) (LH.wk (aS [(0,.bool p0)] []) (LH.aj [(1,.ag [.bool p0])] [] R (sB (c7 R R R R (sN (oA (v:=.mj) R zS)))) (LH.aj [(2,.fn 81 [.ag [.bool p0]])] [] R (sN (Pq (vs:=[.ag [.bool p0]]) R (sN (oA (v:=(.fn _ _)) R zS)))) (LH.ret ?_))))
  obtain rfl:=oI h
  exact aO (aT Tryz.results61) (bU R (bS ⟨aN mN,R,aZ R,Sub.rfl⟩))
def bL:Nat→LV
  | 1=>.fn 57 []
  | 2=>.fn 58 []
  | 3=>.fn 59 []
  | 4=>.fn 60 []
  | 5=>.fn 81 [.ag [.bool true]]
  | 6=>.fn 81 [.ag [.bool false]]
  | _=>.mj
theorem iF (n:Nat):(bL n).pure=true:=by unfold bL; split <;> rfl
theorem PR {F:Nat} {r:(List (Int × Nat))} (h:JO F=some r):aM Tryz.prog 33 [] (Mem.of []) (.mp 10301) (Mem.of [(10301,.map 3 78 (ec LV.I bL r))]):=by
  unfold JO at h
  refine br Tryz.func33 R (nT Tryz.ntmps33 R) (LH.wk (aS [] []) (LH.aj [] [] R (sN (oA (v:=.eF) R zS)) (LH.aj [(0,.mp 10301)] [(10301,.map 3 78 (ec LV.I bL (ed (ed (ed (ed (ed (ed ([]:List (Int × Nat)) 1 1) 2 2) 3 3) 4 4) 5 5) 6 6)))] R (sX ((tm (kt:=3) (vt:=78) (id:=10301) R).ok) (Iw ((iR (f:=LV.I) (g:=bL) (xs:=([]:List (Int × Nat))) (key:=1) (val:=1) (.inr R) qp qc C5 iF R R R R).ok) (Iw ((iR (f:=LV.I) (g:=bL) (xs:=(ed ([]:List (Int × Nat)) 1 1)) (key:=2) (val:=2) (.inr R) qp qc C5 iF R R R R).ok) (Iw ((iR (f:=LV.I) (g:=bL) (xs:=(ed (ed ([]:List (Int × Nat)) 1 1) 2 2)) (key:=3) (val:=3) (.inr R) qp qc C5 iF R R R R).ok) (Iw ((iR (f:=LV.I) (g:=bL) (xs:=(ed (ed (ed ([]:List (Int × Nat)) 1 1) 2 2) 3 3)) (key:=4) (val:=4) (.inr R) qp qc C5 iF R R R R).ok) (sN (dQ (args:=[.bool true]) R Jm R (aH bn) (JE (F:=F) (r:=true) R) R (Iw ((iR (f:=LV.I) (g:=bL) (xs:=(ed (ed (ed (ed ([]:List (Int × Nat)) 1 1) 2 2) 3 3) 4 4)) (key:=5) (val:=5) (.inr R) qp qc C5 iF R R R R).ok) (sN (dQ (args:=[.bool false]) R Jm R (aH bn) (JE (F:=F) (r:=false) R) R (Iw ((iR (f:=LV.I) (g:=bL) (xs:=(ed (ed (ed (ed (ed ([]:List (Int × Nat)) 1 1) 2 2) 3 3) 4 4) 5 5)) (key:=6) (val:=6) (.inr R) qp qc C5 iF R R R R).ok) (sN (oM (v:=(.mp _)) R (sN (oA (v:=(.mp _)) R zS))))))))))))))) (LH.ret ?_))))
  obtain rfl:=oI h
  exact aO (aT Tryz.results33) (bU R (bS ⟨aN (mC R mN),R,aZ R,Sub.rfl⟩))
end Go.Proofs.YtmollikhdbaikaaGreat
