import Derived.Test.YtmollikhdbaikaaGreatZW1
set_option linter.unusedVariables false
set_option linter.unusedSimpArgs false
set_option maxRecDepth 100000
set_option maxHeartbeats 1000000
namespace Go.Proofs.YtmollikhdbaikaaGreat
open Go.L Go.Sh
theorem P4 {F:Nat} {p0:List Int} {p1:List Int} {r:Bool} (h:Bb F p0 p1=some r):aO Tryz.prog 90 [.L p0,.L p1] (Mem.of []) (.bool r) (Mem.of []):=by
  unfold Bb at h
  refine bx Tryz.func90 R (nT Tryz.ntmps90 R) (LH.wk (aQ [(0,.L p0),(1,.L p1)] []) (LH.aj [(0,.L p0),(1,.L p1)] [] R (ct R zS) (LH.seq (LH.aj [(0,.L p0),(1,.L p1),(10,.bool ((p0.length:Int) != (p1.length:Int)))] [] R (fh R (sN (bV (f:=LV.I) cJ R (fh R (sN (bV (f:=LV.I) cJ R (sN (iR R R zS)))))))) (LH.cond (t:=((p0.length:Int) != (p1.length:Int))) R (fun jc=>?_) (fun jc=>?_))))))
  ·replace h:=aB h jc
   refine LH.aj [(4,.bool false)] [] R (ct R zS) (LH.ret (aU ?_))
   obtain rfl:=oI h
   exact aN (aT Tryz.results90) (bO R (bL ⟨aM mN,R,aX R,Sub.rfl⟩))
  replace h:=aA h jc
  refine LH.skip (au (LH.wk (aQ [(0,.L p0),(1,.L p1)] []) (LH.seq (LH.aj [(0,.L p0),(1,.L p1),(12,.I (p0.length:Int)),(13,.I 0)] [] R (fh R (sN (bV (f:=LV.I) cJ R (br R zS)))) (LH.block (LH.loop (fun n e m=>∃ (n2:Int),yB p0 p1 n n2=some r∧e=Env.of [(0,.L p0),(1,.L p1),(12,.I (p0.length:Int)),(13,.I n2)]∧m=Mem.of []) F ⟨0,h,R,R⟩ ?_))))))
  clear h
  rintro n e m ⟨n2,h,rfl,rfl⟩
  rcases n with _ | n
  · cases (show Option.none=some _ from h)
  obtain ⟨aK,a7⟩:∃ f,f=yB p0 p1 n:=⟨_,rfl⟩
  replace h:DB p0 p1 aK n2=some r:=a7 ▸ h
  unfold DB at h
  refine LH.aj [(0,.L p0),(1,.L p1),(12,.I (p0.length:Int)),(13,.I n2),(14,.bool (decide (n2<(p0.length:Int))))] [] R (sN (fy R R zS)) (LH.seq (LH.cond (t:=(decide (n2<(p0.length:Int)))) R (fun ix=>?_) (fun ix=>?_)))
  ·replace h:=aB h ix
   refine LH.skip (au (LH.wk (aQ [(0,.L p0),(1,.L p1),(12,.I (p0.length:Int)),(13,.I n2)] []) (LH.seq (LH.block (LH.aj [(0,.L p0),(1,.L p1),(5,.I n2),(12,.I (p0.length:Int)),(13,.I n2)] [] R (br R (bt R zS)) ?_)))))
   obtain ⟨x4,AW,h⟩:=ao h
   obtain ⟨x5,mG,h⟩:=ao h
   refine LH.cO mixed [] [0,0,0,0,0,0,0,0,0] [(0,.L p0),(1,.L p1),(12,.I (p0.length:Int)),(13,.I n2),(24,.bool (x4 != x5))] [] R R (by kernel_rfl) (rV R (fC R (aD (eM (f:=LV.I) cJ aE bb R R mu AW R ⟨R,aD (bh R aE bN ⟨R,rV R (fC R (aD (eM (f:=LV.I) cJ aE bb R R mu mG R ⟨R,aD (bh R aE bN ⟨R,aD (iR R R ⟨R,zM⟩)⟩)⟩)))⟩)⟩)))) (LH.cond (t:=(x4 != x5)) R (fun fQ=>?_) (fun fQ=>?_))
   ·replace h:=aB h fQ
    refine LH.aj [(4,.bool false)] [] R (ct R zS) (LH.ret (bD (aU (dW (bD (aU ?_))))))
    obtain rfl:=oI h
    exact aN (aT Tryz.results90) (bO R (bL ⟨aM mN,R,aX R,Sub.rfl⟩))
   replace h:=aA h fQ
   refine LH.skip (aY (au (LH.aS [(0,.L p0),(1,.L p1),(12,.I (p0.length:Int)),(13,.I (i64 (n2+1)))] [] R (sN (cI R R (br R zS))) ?_)))
   exact bl ⟨(i64 (n2+1)),a7 ▸ h,R,R⟩ (Wk.eq R R R R)
  replace h:=aA h ix
  refine LH.exit (cD (b6 (bP (au (LH.aj [(4,.bool true)] [] R (ct R zS) (LH.ret ?_))))))
  obtain rfl:=oI h
  exact aN (aT Tryz.results90) (bO R (bL ⟨aM mN,R,aX R,Sub.rfl⟩))
theorem Qm {F:Nat} {p0:ai} {p1:ai} {r:Bool} (h:yQ F p0 p1=some r):aO Tryz.prog 74 [ai.lv p0,ai.lv p1] (Mem.of []) (.bool r) (Mem.of []):=by
  unfold yQ at h
  refine bx Tryz.func74 R (nT Tryz.ntmps74 R) (LH.wk (aQ [(0,ai.lv p0),(1,ai.lv p1)] []) (LH.aj [(2,.ag (ai.lv p0).cells),(3,.ag (ai.lv p1).cells)] [] R (sB (de R R R R (sB (de R R R R (ct R zS))))) ?_))
  obtain ⟨w2,hv,h⟩:=ao h
  refine LH.aj [(4,.bool w2)] [] R ?_ ?_
  ·refine sN (aw fb aE bb R R R (sN (bh R aE bN (sN (aw fb aE bb R R R (sN (bh R aE bN (sN (gr R R (bM R ?_))))))))))
   by_cases bS:(p0.ID == p1.ID)=true
   ·replace hv:=aB hv bS
    refine sT R (cB bS) (aw fP aE bb R R R (sT R (cB bS) (bh R aE bN (sT R (cB bS) (aw fP aE bb R R R (sT R (cB bS) (bh R aE bN (sT R (cB bS) (gr R R (sN (aZ (cB bS) (v:=(.bool _)) R (bM R ?_))))))))))))
    by_cases bG:(p0.Version == p1.Version)=true
    ·replace hv:=aB hv bG
     refine sT R (cB bG) (aw gY po xr R R R (sT R (cB bG) (bh R po D3 (sT R (cB bG) (aw gY po xr R R R (sT R (cB bG) (bh R po D3 (Mx R (cB bG) ((wE R R).ok) (sN (aZ (cB bG) (v:=(.bool _)) R (bM R ?_)))))))))))
     by_cases bI:(decide (p0.bJ=p1.bJ))=true
     ·replace hv:=aB hv bI
      refine sT R (cB bI) (aw c8 db fF R R R (sT R (cB bI) (bh R db iW (sT R (cB bI) (aw c8 db fF R R R (sT R (cB bI) (bh R db iW ?_)))))))
      obtain ⟨r6,Dj,hv⟩:=ao hv
      refine sT R (cB bI) (ej (args:=[.al 6 (p0.aH.map aq.lv),.al 6 (p1.aH.map aq.lv)]) R Pz R (aI (aI bm)) (P3 Dj) R (sN (aZ (cB bI) (v:=(.bool _)) R (bM R ?_))))
      by_cases ca:r6=true
      ·replace hv:=aB hv ca
       refine sT R (cB ca) (aw fx eT jz R R R (sT R (cB ca) (bh R eT mI (sT R (cB ca) (aw fx eT jz R R R (sT R (cB ca) (bh R eT mI ?_)))))))
       obtain ⟨r8,Lt,hv⟩:=ao hv
       refine sT R (cB ca) (ej (args:=[.L p0.aF,.L p1.aF]) R PA R (aI (aI bm)) (P4 Lt) R (sN (aZ (cB ca) (v:=(.bool _)) R (ct R ?_))))
       obtain rfl:=oI hv
       exact zS
      ·replace ca:=bF ca
       replace hv:=aA hv ca
       refine sF R R ca (sF R R ca (sF R R ca (sF R R ca (sF R R ca (sN (aW (cB ca) (v:=(.bool _)) R (ct R ?_)))))))
       obtain rfl:=oI hv
       exact zS
     ·replace bI:=bF bI
      replace hv:=aA hv bI
      refine sF R R bI (sF R R bI (sF R R bI (sF R R bI (sF R R bI (sN (aW (cB bI) (v:=(.bool _)) R (bM R (sF R R R (sF R R R (sF R R R (sF R R R (sF R R R (sN (aW R (v:=(.bool _)) R (ct R ?_)))))))))))))))
      obtain rfl:=oI hv
      exact zS
    ·replace bG:=bF bG
     replace hv:=aA hv bG
     refine sF R R bG (sF R R bG (sF R R bG (sF R R bG (sF R R bG (sN (aW (cB bG) (v:=(.bool _)) R (bM R (sF R R R (sF R R R (sF R R R (sF R R R (sF R R R (sN (aW R (v:=(.bool _)) R (bM R (sF R R R (sF R R R (sF R R R (sF R R R (sF R R R (sN (aW R (v:=(.bool _)) R (ct R ?_)))))))))))))))))))))))
     obtain rfl:=oI hv
     exact zS
   ·replace bS:=bF bS
    replace hv:=aA hv bS
    refine sF R R bS (sF R R bS (sF R R bS (sF R R bS (sF R R bS (sN (aW (cB bS) (v:=(.bool _)) R (bM R (sF R R R (sF R R R (sF R R R (sF R R R (sF R R R (sN (aW R (v:=(.bool _)) R (bM R (sF R R R (sF R R R (sF R R R (sF R R R (sF R R R (sN (aW R (v:=(.bool _)) R (bM R (sF R R R (sF R R R (sF R R R (sF R R R (sF R R R (sN (aW R (v:=(.bool _)) R (ct R ?_)))))))))))))))))))))))))))))))
    obtain rfl:=oI hv
    exact zS
  clear hv
  refine LH.ret ?_
  obtain rfl:=oI h
  exact aN (aT Tryz.results74) (bO R (bL ⟨aM mN,R,aX R,Sub.rfl⟩))
theorem QF {F:Nat} {p0:ax} {p1:ax} {r:Bool} (h:iJ F p0 p1=some r):aO Tryz.prog 56 [ax.lv p0,ax.lv p1] (Mem.of []) (.bool r) (Mem.of []):=by
  unfold iJ at h
  refine bx Tryz.func56 R (nT Tryz.ntmps56 R) (LH.wk (aQ [(0,ax.lv p0),(1,ax.lv p1)] []) (LH.aj [(2,.ag (ax.lv p0).cells),(3,.ag (ax.lv p1).cells)] [] R (sB (de R R R R (sB (de R R R R (ct R zS))))) ?_))
  obtain ⟨w2,hv,h⟩:=ao h
  refine LH.aj [(4,.bool w2)] [] R ?_ ?_
  ·refine sN (aw di cc b7 R R R (sN (bc R cc gp b7 R R (sN (aw di cc b7 R R R (sN (bc R cc gp b7 R R (sN (Dr R R (EG p0.ar p1.ar) (bM R ?_))))))))))
   by_cases bS:(decide (p0.ar=p1.ar))=true
   ·replace hv:=aB hv bS
    refine sT R (cB bS) (aw dM aE bb R R R (sT R (cB bS) (bh R aE bN (sT R (cB bS) (aw dM aE bb R R R (sT R (cB bS) (bh R aE bN (sT R (cB bS) (gr R R (sN (aZ (cB bS) (v:=(.bool _)) R (bM R ?_))))))))))))
    by_cases bG:(p0.Kind == p1.Kind)=true
    ·replace hv:=aB hv bG
     refine sT R (cB bG) (aw e5 gM gA R R R (sT R (cB bG) (bc R gM wZ gA R R (sT R (cB bG) (aw e5 gM gA R R R (sT R (cB bG) (bc R gM wZ gA R R (sT R (cB bG) (Dr R R (Ks p0.Ref p1.Ref) (sN (aZ (cB bG) (v:=(.bool _)) R (bM R ?_))))))))))))
     by_cases bI:(decide (p0.Ref=p1.Ref))=true
     ·replace hv:=aB hv bI
      refine sT R (cB bI) (aw lg aE bb R R R (sT R (cB bI) (bh R aE bN (sT R (cB bI) (aw lg aE bb R R R (sT R (cB bI) (bh R aE bN (sT R (cB bI) (gr R R (sN (aZ (cB bI) (v:=(.bool _)) R (bM R ?_))))))))))))
      by_cases cn:(p0.Form == p1.Form)=true
      ·replace hv:=aB hv cn
       refine sT R (cB cn) (aw fe cv cd R R R (sT R (cB cn) (bc R cv eZ cd R R (sT R (cB cn) (aw fe cv cd R R R (sT R (cB cn) (bc R cv eZ cd R R ?_)))))))
       obtain ⟨r7,AR,hv⟩:=ao hv
       refine sT R (cB cn) (ej (args:=[ai.lv p0.Item,ai.lv p1.Item]) R Pp R (aI (aI bm)) (Qm AR) R (sN (aZ (cB cn) (v:=(.bool _)) R (ct R ?_))))
       obtain rfl:=oI hv
       exact zS
      ·replace cn:=bF cn
       replace hv:=aA hv cn
       refine sF R R cn (sF R R cn (sF R R cn (sF R R cn (sF R R cn (sN (aW (cB cn) (v:=(.bool _)) R (ct R ?_)))))))
       obtain rfl:=oI hv
       exact zS
     ·replace bI:=bF bI
      replace hv:=aA hv bI
      refine sF R R bI (sF R R bI (sF R R bI (sF R R bI (sF R R bI (sN (aW (cB bI) (v:=(.bool _)) R (bM R (sF R R R (sF R R R (sF R R R (sF R R R (sF R R R (sN (aW R (v:=(.bool _)) R (ct R ?_)))))))))))))))
      obtain rfl:=oI hv
      exact zS
    ·replace bG:=bF bG
     replace hv:=aA hv bG
     refine sF R R bG (sF R R bG (sF R R bG (sF R R bG (sF R R bG (sN (aW (cB bG) (v:=(.bool _)) R (bM R (sF R R R (sF R R R (sF R R R (sF R R R (sF R R R (sN (aW R (v:=(.bool _)) R (bM R (sF R R R (sF R R R (sF R R R (sF R R R (sF R R R (sN (aW R (v:=(.bool _)) R (ct R ?_)))))))))))))))))))))))
     obtain rfl:=oI hv
     exact zS
   ·replace bS:=bF bS
    replace hv:=aA hv bS
    refine sF R R bS (sF R R bS (sF R R bS (sF R R bS (sF R R bS (sN (aW (cB bS) (v:=(.bool _)) R (bM R (sF R R R (sF R R R (sF R R R (sF R R R (sF R R R (sN (aW R (v:=(.bool _)) R (bM R (sF R R R (sF R R R (sF R R R (sF R R R (sF R R R (sN (aW R (v:=(.bool _)) R (bM R (sF R R R (sF R R R (sF R R R (sF R R R (sF R R R (sN (aW R (v:=(.bool _)) R (ct R ?_)))))))))))))))))))))))))))))))
    obtain rfl:=oI hv
    exact zS
  clear hv
  refine LH.ret ?_
  obtain rfl:=oI h
  exact aN (aT Tryz.results56) (bO R (bL ⟨aM mN,R,aX R,Sub.rfl⟩))
theorem Cm {p0:ai} {r:ai} (h:y8 p0=some r):aO Tryz.prog 41 [ai.lv p0] (Mem.of []) (ai.lv r) (Mem.of []):=by
  unfold y8 at h
  refine bx Tryz.func41 R (nT Tryz.ntmps41 R) (LH.wk (aQ [(0,ai.lv p0)] []) (LH.aj [(1,.ptr 101 0),(2,.ptr 102 0)] [(101,.box (ai.lv p0).cells),(102,.box fi)] R (sN (RE (id:=101) R R R R R R (sN (j0 (id:=102) R xf R R zS)))) ?_))
  obtain ⟨v1,jY,h⟩:=ao h
  refine LH.aj [(1,.ptr 101 0),(2,.ptr 102 0)] [(101,.box [.I p0.ID,.I p0.Version,.str p0.bJ,.al 6 (v1.map aq.lv),.L p0.aF]),(102,.box fi)] R (sN (dI c8 db fF R R (sN (dQ R R R R db iW (sN (ej (args:=[.al 6 (p0.aH.map aq.lv)]) R Pl R (aI bm) (aO.Av (pA (g:=aq.lv) EN R 105 jY) R) R (sN (dI c8 db fF R R (s_ (cF R R R db fF R R R zS)))))))))) ?_
  obtain ⟨v2,xl,h⟩:=ao h
  refine LH.aj [(1,.ag [.I p0.ID,.I p0.Version,.str p0.bJ,.al 6 (v1.map aq.lv),.L v2]),(2,.ptr 102 0)] [(102,.box fi)] R (sN (dI fx eT jz R R (sN (dQ R R R R eT mI (sN (ej (args:=[.L p0.aF]) R Pm R (aI bm) (aO.Av (pA (g:=LV.I) EO R 109 xl) R) R (sN (dI fx eT jz R R (s_ (cF R R R eT jz R R R (s0 ((Wk.trans (aQ [(1,.ptr 101 0),(2,.ptr 102 0)] [(101,.box [.I p0.ID,.I p0.Version,.str p0.bJ,.al 6 (v1.map aq.lv),.L v2]),(102,.box fi)]) (Wk.trans (Wk.bk 101 [.I p0.ID,.I p0.Version,.str p0.bJ,.al 6 (v1.map aq.lv),.L v2] R R R (bH R)) (Wk.eq R R R R))))))))))))))) (LH.aj [(2,.ag [.I p0.ID,.I p0.Version,.str p0.bJ,.al 6 (v1.map aq.lv),.L v2])] [] R (sN (bc R cv eZ cd R R (s_ (cF R R R cv cd R R R (s0 ((Wk.trans (aQ [(2,.ptr 102 0)] [(102,.box [.I p0.ID,.I p0.Version,.str p0.bJ,.al 6 (v1.map aq.lv),.L v2])]) (Wk.trans (Wk.bk 102 [.I p0.ID,.I p0.Version,.str p0.bJ,.al 6 (v1.map aq.lv),.L v2] R R R (bH R)) (Wk.eq R R R R))))))))) (LH.ret ?_))
  obtain rfl:=oI h
  exact aN (aT Tryz.results41) (cN R cv eZ cd R R (bL ⟨aM mN,R,aX R,Sub.rfl⟩))
theorem Qf {F:Nat} {p0:List ax} {r:List ax × Int} (h:yJ F p0=some r):aO Tryz.prog 32 [.al 12 (p0.map ax.lv)] (Mem.of []) (.cV [.al 12 (r.1.map ax.lv),.I r.2]) (Mem.of []):=by
  unfold yJ at h
  refine bx Tryz.func32 R (nT Tryz.ntmps32 R) (LH.wk (aQ [(0,.al 12 (p0.map ax.lv))] []) (LH.aj [(0,.al 12 (p0.map ax.lv))] [] R (k9 R (bt R zS)) ?_))
  obtain ⟨r1,ei,h⟩:=ao h
  refine LH.aj [(0,.al 12 (p0.map ax.lv)),(4,.L r1.1),(5,.I r1.2)] [] R (fh R (sN (ej (args:=[.al 12 (p0.map ax.lv),.fn 55 [],.fn 56 []]) R Pc R (aI (aI (aI bm))) (P0 (dY:=55) (df:=[]) Pd R (fun _ _ h=>P7 h) (eB:=56) (dA:=[]) Pe R (fun _ _ _ h=>QF h) ei) R (wU R (sN (fV R R (sN (fV R R (qB R (bt R zS)))))))))) (LH.seq (LH.aj [(0,.al 12 (p0.map ax.lv)),(4,.L r1.1),(5,.I r1.2),(15,.bool (r1.2 != 0))] [] R (br R (sN (iR R R zS))) (LH.cond (t:=(r1.2 != 0)) R (fun fG=>?_) (fun fG=>?_))))
  ·replace h:=aB h fG
   refine LH.aj [(2,.nil),(3,.I r1.2)] [] R (br R (k9 R (bt R zS))) (LH.ret (aU ?_))
   obtain rfl:=oI h
   exact aN (aT Tryz.results32) (bO R (bO R (bL ⟨aM mN,R,aX R,(Sub.cV (qC (aI bm)))⟩)))
  replace h:=aA h fG
  refine LH.skip (au ?_)
  obtain ⟨v3,Ou,h⟩:=ao h
  refine LH.aj [(0,.al 12 (p0.map ax.lv)),(4,.L r1.1),(6,.arr 119 v3.length)] [(119,.arr 63 12 (v3.map ax.lv))] R (fh R (sN (bV (f:=LV.I) cJ R (sX (Gf (f:=ax.lv) (z:=(ax.mk (aL.mk 0 0 0) 0 (ai.mk 0 0 (ByteArray.mk #[]) [] []) (bR.mk 0 0) 0)) (id:=119) R fR xg zF dF R R R (Sub.agg (aI (aI (aI (aI (aI (aI (aI (qC (qC (aI (aI (aI bm))))))))))))) ax.ok Ou R) (nQ R zS))))) (LH.seq (LH.aj [(0,.al 12 (p0.map ax.lv)),(6,.arr 119 v3.length),(20,.L r1.1),(21,.I (r1.1.length:Int)),(22,.I 0)] [(119,.arr 63 12 (v3.map ax.lv))] R (fh R (sN (bV (f:=LV.I) cJ R (br R zS)))) (LH.block (LH.loop (fun n e m=>∃ (n4:Int) (l5:List ax),Bi p0 r1 n n4 l5=some r∧e=Env.of [(0,.al 12 (p0.map ax.lv)),(6,.arr 119 l5.length),(20,.L r1.1),(21,.I (r1.1.length:Int)),(22,.I n4)]∧m=Mem.of [(119,.arr 63 12 (l5.map ax.lv))]) F ⟨0,v3,h,R,R⟩ ?_))))
  clear h
  rintro n e m ⟨n4,l5,h,rfl,rfl⟩
  rcases n with _ | n
  · cases (show Option.none=some _ from h)
  obtain ⟨aK,a7⟩:∃ f,f=Bi p0 r1 n:=⟨_,rfl⟩
  replace h:GM p0 r1 aK n4 l5=some r:=a7 ▸ h
  unfold GM at h
  refine LH.aj [(0,.al 12 (p0.map ax.lv)),(6,.arr 119 l5.length),(20,.L r1.1),(21,.I (r1.1.length:Int)),(22,.I n4),(23,.bool (decide (n4<(r1.1.length:Int))))] [(119,.arr 63 12 (l5.map ax.lv))] R (sN (fy R R zS)) (LH.seq (LH.cond (t:=(decide (n4<(r1.1.length:Int)))) R (fun fQ=>?_) (fun fQ=>?_)))
  ·replace h:=aB h fQ
   refine LH.skip (au (LH.wk (aQ [(0,.al 12 (p0.map ax.lv)),(6,.arr 119 l5.length),(20,.L r1.1),(21,.I (r1.1.length:Int)),(22,.I n4)] [(119,.arr 63 12 (l5.map ax.lv))]) (LH.seq (LH.block ?_))))
   obtain ⟨x7,xm,h⟩:=ao h
   refine LH.aj [(0,.al 12 (p0.map ax.lv)),(6,.arr 119 l5.length),(7,.I n4),(8,.I x7),(20,.L r1.1),(21,.I (r1.1.length:Int)),(22,.I n4)] [(119,.arr 63 12 (l5.map ax.lv))] R (br R (sN (eM (f:=LV.I) cJ aE bb R R mu xm R (sN (bh R aE bN (bt R (bt R zS))))))) ?_
   obtain ⟨x8,uD,h⟩:=ao h
   obtain ⟨x9,xn,h⟩:=ao h
   refine LH.aj [(0,.al 12 (p0.map ax.lv)),(6,.arr 119 (List.length (l5.set n4.toNat x8))),(7,.I n4),(8,.I x7),(20,.L r1.1),(21,.I (r1.1.length:Int)),(22,.I n4)] [(119,.arr 63 12 (List.map ax.lv (l5.set n4.toNat x8)))] R (jQ R (br R (fh R (br R (sN (eM (f:=ax.lv) fR eo dF R R ax.ok uD R (sN (bc R eo iX dF R R (sN (gV (f:=ax.lv) fR eo dF R R R xn (s_ (qx (f:=ax.lv) (z':=x8) R R R R eo dF R (dB xn).2 R (s0 (Wk.to (eC R (eC (congrArg (LV.arr 119) (by simp)) (eC R (eC R (eC R (eC R (eC R eN))))))) ⟨R,trivial⟩ R (aX R))))))))))))))) ?_
   obtain ⟨pq,rE,h⟩:=ao h
   obtain ⟨cm,kr,h⟩:=ao h
   obtain ⟨gG,pS,h⟩:=ao h
   refine LH.aS [(0,.al 12 (p0.map ax.lv)),(6,.arr 119 (List.length ((l5.set n4.toNat x8).set n4.toNat (ax.mk gG.ar gG.Kind cm gG.Ref gG.Form)))),(20,.L r1.1),(21,.I (r1.1.length:Int)),(22,.I n4)] [(119,.arr 63 12 (List.map ax.lv ((l5.set n4.toNat x8).set n4.toNat (ax.mk gG.ar gG.Kind cm gG.Ref gG.Form))))] R (jQ R (br R (fh R (br R (sN (eM (f:=ax.lv) fR eo dF R R ax.ok rE R (sN (aw fe cv cd R R R (sN (bc R cv eZ cd R R (sN (ej (args:=[ai.lv pq.Item]) R B9 R (aI bm) (Cm kr) R (sN (gV (f:=ax.lv) fR eo dF R R R pS (sN (Il (f:=ax.lv) fe cv cd R R R (s_ (qx (f:=ax.lv) (z':=(ax.mk gG.ar gG.Kind cm gG.Ref gG.Form)) R R R R cv cd R (dB pS).2 R (s0 (Wk.to (eC R (eC (congrArg (LV.arr 119) (by simp)) (eC R (eC R (eC R eN))))) ⟨R,trivial⟩ R (aX R))))))))))))))))))))) (aY (au (LH.aS [(0,.al 12 (p0.map ax.lv)),(6,.arr 119 (List.length ((l5.set n4.toNat x8).set n4.toNat (ax.mk gG.ar gG.Kind cm gG.Ref gG.Form)))),(20,.L r1.1),(21,.I (r1.1.length:Int)),(22,.I (i64 (n4+1)))] [(119,.arr 63 12 (List.map ax.lv ((l5.set n4.toNat x8).set n4.toNat (ax.mk gG.ar gG.Kind cm gG.Ref gG.Form))))] R (sN (cI R R (br R zS))) ?_)))
   exact bl ⟨(i64 (n4+1)),((l5.set n4.toNat x8).set n4.toNat (ax.mk gG.ar gG.Kind cm gG.Ref gG.Form)),a7 ▸ h,R,R⟩ (Wk.eq R R R R)
  replace h:=aA h fQ
  refine LH.exit (cD (b6 (bP (au (LH.wk ((Wk.trans (aQ [(6,.arr 119 l5.length)] [(119,.arr 63 12 (l5.map ax.lv))]) (Wk.trans (Wk.lC (f:=ax.lv) (fB:=[(6,.al 12 (l5.map ax.lv))]) 119 63 12 l5 R R (bH R) (fZ fN)) (aQ [(6,.al 12 (l5.map ax.lv))] [])))) (LH.aj [(2,.al 12 (l5.map ax.lv)),(3,.I 0)] [] R (fh R (qB R (bt R zS))) (LH.ret ?_)))))))
  obtain rfl:=oI h
  exact aN (aT Tryz.results32) (bO R (bO R (bL ⟨aM mN,R,aX R,(Sub.cV (aI (aI bm)))⟩)))
theorem JZ {p0:Int} {r:Bool} (h:vq p0=some r):aO Tryz.prog 91 [.I p0] (Mem.of []) (.bool r) (Mem.of []):=by
  unfold vq at h
  refine bx Tryz.func91 R (nT Tryz.ntmps91 R) (LH.wk (aQ [(0,.I p0)] []) (LH.aj [(0,.I p0)] [] R (ct R zS) (LH.aj [(2,.bool ((decide (p0 ≥ 0)) && (decide (p0≤9999))))] [] R ?_ ?_)))
  ·refine br R (sN (pW R R (bM R ?_)))
   by_cases cE:(decide (p0 ≥ 0))=true
   ·exact sT R (cB cE) (oM (v:=(.int _ _)) R (sT R (cB cE) (Im R R (sN (aZ (cB cE) (v:=(.bool _)) R (ct R (s0 (Wk.to (eC (cB (dP cE)) eN) mN R (aX R)))))))))
   ·replace cE:=bF cE
    exact sF R R cE (sF R R cE (sN (aW (cB cE) (v:=(.bool _)) R (ct R (s0 (Wk.to (eC (cB (kB cE)) eN) mN R (aX R)))))))
  refine LH.ret ?_
  obtain rfl:=oI h
  exact aN (aT Tryz.results91) (bO R (bL ⟨aM mN,R,aX R,Sub.rfl⟩))
theorem Qh {F:Nat} {p0:ByteArray} {r:Bool} (h:yM F p0=some r):aO Tryz.prog 92 [.str p0] (Mem.of []) (.bool r) (Mem.of []):=by
  unfold yM at h
  refine bx Tryz.func92 R (nT Tryz.ntmps92 R) (LH.wk (aQ [(0,.str p0)] []) (LH.aj [(0,.str p0)] [] R (ct R zS) (LH.seq (LH.aj [(0,.str p0),(3,.I 0)] [] R (bt R zS) (LH.block (LH.loop (fun n e m=>∃ (n1:Int),Bk p0 n n1=some r∧e=Env.of [(0,.str p0),(3,.I n1)]∧m=Mem.of []) F ⟨0,h,R,R⟩ ?_))))))
  clear h
  rintro n e m ⟨n1,h,rfl,rfl⟩
  rcases n with _ | n
  · cases (show Option.none=some _ from h)
  obtain ⟨aK,a7⟩:∃ f,f=Bk p0 n:=⟨_,rfl⟩
  replace h:GO p0 aK n1=some r:=a7 ▸ h
  unfold GO at h
  refine LH.seq (LH.aj [(0,.str p0),(3,.I n1),(7,.bool (decide (n1<(p0.size:Int))))] [] R (br R (sN (oM (v:=(.str _)) R (sX ((rW II R).ok) (sN (fy R R zS)))))) (LH.cond (t:=(decide (n1<(p0.size:Int)))) R (fun fG=>?_) (fun fG=>?_)))
  ·replace h:=aB h fG
   refine LH.skip (au (LH.wk (aQ [(0,.str p0),(3,.I n1)] []) (LH.seq (LH.block ?_))))
   obtain ⟨w4,hv,h⟩:=ao h
   refine LH.aj [(0,.str p0),(3,.I n1),(19,.bool w4)] [] R ?_ ?_
   ·refine sN (oM (v:=(.str _)) R (br R ?_))
    obtain ⟨x5,mG,hv⟩:=ao hv
    refine sX ((wF II R R mG).ok) (sN (fy R R (bM R ?_)))
    by_cases cn:(decide (x5<32))=true
    ·replace hv:=aB hv cn
     refine sF R R cn (sF R R cn (sF R R cn (sF R R cn (sN (aZ (cB cn) (v:=(.bool _)) R ?_)))))
     obtain rfl:=oI hv
     exact zS
    ·replace cn:=bF cn
     replace hv:=aA hv cn
     refine sT R (cB cn) (oM (v:=(.str _)) R (sT R (cB cn) (oM (v:=(.int _ _)) R ?_)))
     obtain ⟨x7,xm,hv⟩:=ao hv
     refine Mx R (cB cn) ((wF II R R xm).ok) (sT R (cB cn) (jx R R (sN (aW (cB cn) (v:=(.bool _)) R ?_))))
     obtain rfl:=oI hv
     exact zS
   clear hv
   refine LH.cond (t:=w4) R (fun kY=>?_) (fun kY=>?_)
   ·replace h:=aB h kY
    refine LH.aj [(2,.bool false)] [] R (ct R zS) (LH.ret (bD (aU (dW (bD (aU ?_))))))
    obtain rfl:=oI h
    exact aN (aT Tryz.results92) (bO R (bL ⟨aM mN,R,aX R,Sub.rfl⟩))
   replace h:=aA h kY
   refine LH.skip (aY (au (LH.aS [(0,.str p0),(3,.I (i64 (n1+1)))] [] R (br R (sN (cI R R (bt R zS)))) ?_)))
   exact bl ⟨(i64 (n1+1)),a7 ▸ h,R,R⟩ (Wk.eq R R R R)
  replace h:=aA h fG
  refine LH.exit (cD (b6 (bP (au (LH.aj [(2,.bool true)] [] R (ct R zS) (LH.ret ?_))))))
  obtain rfl:=oI h
  exact aN (aT Tryz.results92) (bO R (bL ⟨aM mN,R,aX R,Sub.rfl⟩))
theorem Qg {p0:aq} {r:Bool} (h:yL p0=some r):aO Tryz.prog 93 [aq.lv p0] (Mem.of []) (.bool r) (Mem.of []):=by
  unfold yL at h
  refine bx Tryz.func93 R (nT Tryz.ntmps93 R) (LH.wk (aQ [(0,aq.lv p0)] []) (LH.aj [(1,.ag (aq.lv p0).cells)] [] R (sB (de R R R R (ct R zS))) (LH.seq (LH.aj [(1,.ag (aq.lv p0).cells),(30,.bool ((decide (p0.Max<1)) || ((decide (p0.Max > 40)) || ((decide (p0.e9<0)) || ((decide (p0.e9 ≥ 16)) || ((decide (p0.cr<0)) || (decide (p0.cr ≥ 6))))))))] [] R ?_ ?_))))
  ·refine sN (aw nu aE bb R R R (sN (bh R aE bN (sN (fy R R (bM R ?_))))))
   by_cases cE:(decide (p0.Max<1))=true
   ·exact sF R R cE (sF R R cE (sF R R cE (sN (aZ (cB cE) (v:=(.bool _)) R (bM R (sF R R R (sF R R R (sF R R R (sN (aZ R (v:=(.bool _)) R (bM R (sF R R R (sF R R R (sF R R R (sN (aZ R (v:=(.bool _)) R (bM R (sF R R R (sF R R R (sF R R R (sN (aZ R (v:=(.bool _)) R (bM R (sF R R R (sF R R R (sF R R R (sN (aZ R (v:=(.bool _)) R (s0 (Wk.to (eC R (eC (cB (pn cE)) eN)) mN R (aX R)))))))))))))))))))))))))))))))
   ·replace cE:=bF cE
    refine sT R (cB cE) (aw nu aE bb R R R (sT R (cB cE) (bh R aE bN (sT R (cB cE) (jx R R (sN (aW (cB cE) (v:=(.bool _)) R (bM R ?_))))))))
    by_cases bS:(decide (p0.Max > 40))=true
    ·exact sF R R bS (sF R R bS (sF R R bS (sN (aZ (cB bS) (v:=(.bool _)) R (bM R (sF R R R (sF R R R (sF R R R (sN (aZ R (v:=(.bool _)) R (bM R (sF R R R (sF R R R (sF R R R (sN (aZ R (v:=(.bool _)) R (bM R (sF R R R (sF R R R (sF R R R (sN (aZ R (v:=(.bool _)) R (s0 (Wk.to (eC R (eC (cB (Eq.trans (pn bS) (gQ cE))) eN)) mN R (aX R)))))))))))))))))))))))))
    ·replace bS:=bF bS
     refine sT R (cB bS) (aw qF aE bb R R R (sT R (cB bS) (bh R aE bN (sT R (cB bS) (fy R R (sN (aW (cB bS) (v:=(.bool _)) R (bM R ?_))))))))
     by_cases bG:(decide (p0.e9<0))=true
     ·exact sF R R bG (sF R R bG (sF R R bG (sN (aZ (cB bG) (v:=(.bool _)) R (bM R (sF R R R (sF R R R (sF R R R (sN (aZ R (v:=(.bool _)) R (bM R (sF R R R (sF R R R (sF R R R (sN (aZ R (v:=(.bool _)) R (s0 (Wk.to (eC R (eC (cB (Eq.trans (Eq.trans (pn bG) (gQ bS)) (gQ cE))) eN)) mN R (aX R)))))))))))))))))))
     ·replace bG:=bF bG
      refine sT R (cB bG) (aw qF aE bb R R R (sT R (cB bG) (bh R aE bN (sT R (cB bG) (pW R R (sN (aW (cB bG) (v:=(.bool _)) R (bM R ?_))))))))
      by_cases bI:(decide (p0.e9 ≥ 16))=true
      ·exact sF R R bI (sF R R bI (sF R R bI (sN (aZ (cB bI) (v:=(.bool _)) R (bM R (sF R R R (sF R R R (sF R R R (sN (aZ R (v:=(.bool _)) R (s0 (Wk.to (eC R (eC (cB (Eq.trans (Eq.trans (Eq.trans (pn bI) (gQ bG)) (gQ bS)) (gQ cE))) eN)) mN R (aX R)))))))))))))
      ·replace bI:=bF bI
       refine sT R (cB bI) (aw qG aE bb R R R (sT R (cB bI) (bh R aE bN (sT R (cB bI) (fy R R (sN (aW (cB bI) (v:=(.bool _)) R (bM R ?_))))))))
       by_cases cn:(decide (p0.cr<0))=true
       ·exact sF R R cn (sF R R cn (sF R R cn (sN (aZ (cB cn) (v:=(.bool _)) R (s0 (Wk.to (eC R (eC (cB (Eq.trans (Eq.trans (Eq.trans (Eq.trans (pn cn) (gQ bI)) (gQ bG)) (gQ bS)) (gQ cE))) eN)) mN R (aX R)))))))
       ·replace cn:=bF cn
        exact sT R (cB cn) (aw qG aE bb R R R (sT R (cB cn) (bh R aE bN (sT R (cB cn) (pW R R (sN (aW (cB cn) (v:=(.bool _)) R (s0 (Wk.to (eC R (eC (cB (Eq.trans (Eq.trans (Eq.trans (Eq.trans (gQ cn) (gQ bI)) (gQ bG)) (gQ bS)) (gQ cE))) eN)) mN R (aX R))))))))))
  refine LH.cond (t:=((decide (p0.Max<1)) || ((decide (p0.Max > 40)) || ((decide (p0.e9<0)) || ((decide (p0.e9 ≥ 16)) || ((decide (p0.cr<0)) || (decide (p0.cr ≥ 6)))))))) R (fun jd=>?_) (fun jd=>?_)
  ·replace h:=aB h jd
   refine LH.aj [(2,.bool false)] [] R (ct R zS) (LH.ret (aU ?_))
   obtain rfl:=oI h
   exact aN (aT Tryz.results93) (bO R (bL ⟨aM mN,R,aX R,Sub.rfl⟩))
  replace h:=aA h jd
  refine LH.skip (au (LH.wk (aQ [(1,.ag (aq.lv p0).cells)] []) (LH.seq (LH.aj [(1,.ag (aq.lv p0).cells),(32,.I p0.Kind)] [] R (sN (aw pf aE bb R R R (sN (bh R aE bN zS)))) (LH.block (LH.aj [(1,.ag (aq.lv p0).cells),(32,.I p0.Kind),(33,.bool (p0.Kind == 1))] [] R (sN (gr R R (ct R zS))) (LH.cond (t:=(p0.Kind == 1)) R (fun kY=>?_) (fun kY=>?_))))))))
  ·replace h:=aB h kY
   refine LH.aj [(2,.bool ((p0.Options == 0) && (p0.Key == 0)))] [] R ?_ ?_
   ·refine sN (aw ky aE bb R R R (sN (bh R aE bN (sN (gr R R (bM R ?_))))))
    by_cases bC:(p0.Options == 0)=true
    ·exact sT R (cB bC) (aw nv aE bb R R R (sT R (cB bC) (bh R aE bN (sT R (cB bC) (gr R R (sN (aZ (cB bC) (v:=(.bool _)) R (ct R (s0 (Wk.to (eC (cB (dP bC)) eN) mN R (aX R)))))))))))
    ·replace bC:=bF bC
     exact sF R R bC (sF R R bC (sF R R bC (sN (aW (cB bC) (v:=(.bool _)) R (ct R (s0 (Wk.to (eC (cB (kB bC)) eN) mN R (aX R))))))))
   refine LH.ret (bD (aU ?_))
   obtain rfl:=oI h
   exact aN (aT Tryz.results93) (bO R (bL ⟨aM mN,R,aX R,Sub.rfl⟩))
  replace h:=aA h kY
  refine LH.aj [(1,.ag (aq.lv p0).cells),(43,.bool (p0.Kind == 2))] [] R (sN (gr R R (ct R zS))) (LH.cond (t:=(p0.Kind == 2)) R (fun iL=>?_) (fun iL=>?_))
  ·replace h:=aB h iL
   refine LH.aj [(2,.bool ((decide (p0.Options ≥ 2)) && ((decide (p0.Options≤5)) && ((decide (p0.Key ≥ 0)) && (decide (p0.Key<p0.Options))))))] [] R ?_ ?_
   ·refine sN (aw ky aE bb R R R (sN (bh R aE bN (sN (pW R R (bM R ?_))))))
    by_cases bQ:(decide (p0.Options ≥ 2))=true
    ·refine sT R (cB bQ) (aw ky aE bb R R R (sT R (cB bQ) (bh R aE bN (sT R (cB bQ) (Im R R (sN (aZ (cB bQ) (v:=(.bool _)) R (bM R ?_))))))))
     by_cases dn:(decide (p0.Options≤5))=true
     ·refine sT R (cB dn) (aw nv aE bb R R R (sT R (cB dn) (bh R aE bN (sT R (cB dn) (pW R R (sN (aZ (cB dn) (v:=(.bool _)) R (bM R ?_))))))))
      by_cases b4:(decide (p0.Key ≥ 0))=true
      ·exact sT R (cB b4) (aw nv aE bb R R R (sT R (cB b4) (bh R aE bN (sT R (cB b4) (aw ky aE bb R R R (sT R (cB b4) (bh R aE bN (sT R (cB b4) (fy R R (sN (aZ (cB b4) (v:=(.bool _)) R (ct R (s0 (Wk.to (eC (cB (Eq.trans (Eq.trans (dP b4) (dP dn)) (dP bQ))) eN) mN R (aX R)))))))))))))))
      ·replace b4:=bF b4
       exact sF R R b4 (sF R R b4 (sF R R b4 (sF R R b4 (sF R R b4 (sN (aW (cB b4) (v:=(.bool _)) R (ct R (s0 (Wk.to (eC (cB (Eq.trans (Eq.trans (kB b4) (dP dn)) (dP bQ))) eN) mN R (aX R))))))))))
     ·replace dn:=bF dn
      exact sF R R dn (sF R R dn (sF R R dn (sN (aW (cB dn) (v:=(.bool _)) R (bM R (sF R R R (sF R R R (sF R R R (sF R R R (sF R R R (sN (aW R (v:=(.bool _)) R (ct R (s0 (Wk.to (eC (cB (Eq.trans (kB dn) (dP bQ))) eN) mN R (aX R))))))))))))))))
    ·replace bQ:=bF bQ
     exact sF R R bQ (sF R R bQ (sF R R bQ (sN (aW (cB bQ) (v:=(.bool _)) R (bM R (sF R R R (sF R R R (sF R R R (sN (aW R (v:=(.bool _)) R (bM R (sF R R R (sF R R R (sF R R R (sF R R R (sF R R R (sN (aW R (v:=(.bool _)) R (ct R (s0 (Wk.to (eC (cB (kB bQ)) eN) mN R (aX R))))))))))))))))))))))
   refine LH.ret (bD (aU ?_))
   obtain rfl:=oI h
   exact aN (aT Tryz.results93) (bO R (bL ⟨aM mN,R,aX R,Sub.rfl⟩))
  replace h:=aA h iL
  refine LH.skip (aY (au (LH.aj [(2,.bool false)] [] R (ct R zS) (LH.ret ?_))))
  obtain rfl:=oI h
  exact aN (aT Tryz.results93) (bO R (bL ⟨aM mN,R,aX R,Sub.rfl⟩))
theorem P5 {F:Nat} {p0:Int} {p1:List Int} {r:Bool} (h:GS F p0 p1=some r):aO Tryz.prog 94 [.I p0,.L p1] (Mem.of []) (.bool r) (Mem.of []):=by
  unfold GS at h
  refine bx Tryz.func94 R (nT Tryz.ntmps94 R) (LH.wk (aQ [(0,.I p0),(1,.L p1)] []) (LH.aj [(0,.I p0),(1,.L p1)] [] R (ct R zS) (LH.seq (LH.aj [(0,.I p0),(1,.L p1),(7,.L p1),(8,.I (p1.length:Int)),(9,.I 0)] [] R (fh R (sN (bV (f:=LV.I) cJ R (br R zS)))) (LH.block (LH.loop (fun n e m=>∃ (n1:Int),DD p0 p1 n n1=some r∧e=Env.of [(0,.I p0),(1,.L p1),(7,.L p1),(8,.I (p1.length:Int)),(9,.I n1)]∧m=Mem.of []) F ⟨0,h,R,R⟩ ?_))))))
  clear h
  rintro n e m ⟨n1,h,rfl,rfl⟩
  rcases n with _ | n
  · cases (show Option.none=some _ from h)
  obtain ⟨aK,a7⟩:∃ f,f=DD p0 p1 n:=⟨_,rfl⟩
  replace h:Gx p0 p1 aK n1=some r:=a7 ▸ h
  unfold Gx at h
  refine LH.aj [(0,.I p0),(1,.L p1),(7,.L p1),(8,.I (p1.length:Int)),(9,.I n1),(10,.bool (decide (n1<(p1.length:Int))))] [] R (sN (fy R R zS)) (LH.seq (LH.cond (t:=(decide (n1<(p1.length:Int)))) R (fun fG=>?_) (fun fG=>?_)))
  ·replace h:=aB h fG
   refine LH.skip (au (LH.wk (aQ [(0,.I p0),(1,.L p1),(7,.L p1),(8,.I (p1.length:Int)),(9,.I n1)] []) (LH.seq (LH.block ?_))))
   obtain ⟨x3,gj,h⟩:=ao h
   refine LH.aj [(0,.I p0),(1,.L p1),(5,.I n1),(6,.I x3),(7,.L p1),(8,.I (p1.length:Int)),(9,.I n1)] [] R (br R (sN (eM (f:=LV.I) cJ aE bb R R mu gj R (sN (bh R aE bN (bt R (bt R zS))))))) ?_
   obtain ⟨w5,hv,h⟩:=ao h
   refine LH.aj [(0,.I p0),(1,.L p1),(7,.L p1),(8,.I (p1.length:Int)),(9,.I n1),(34,.bool w5)] [] R ?_ ?_
   ·refine br R ?_
    obtain ⟨r6,Dj,hv⟩:=ao hv
    refine sN (ej (args:=[.I x3]) R JH R (aI bm) (JZ Dj) R (sN (ic R (bM R ?_))))
    by_cases ca:(!r6)=true
    ·replace hv:=aB hv ca
     refine sF R R ca (sF R R ca (sF R R ca (sN (aZ (cB ca) (v:=(.bool _)) R (bM R (sF R R R (sF R R R (sF R R R (sU R R (sU R R (sU R R (sU R R (sU R R (sU R R (sU R R (sF R R R (sN (aZ R (v:=(.bool _)) R ?_))))))))))))))))))
     obtain rfl:=oI hv
     exact zS
    ·replace ca:=bF ca
     replace hv:=aA hv ca
     refine sT R (cB ca) (oM (v:=(.int _ _)) R (sT R (cB ca) (oM (v:=(.int _ _)) R (sT R (cB ca) (gr R R (sN (aW (cB ca) (v:=(.bool _)) R (bM R ?_))))))))
     by_cases dy:(x3 == p0)=true
     ·replace hv:=aB hv dy
      refine sF R R dy (sF R R dy (sF R R dy (sU R R (sU R R (sU R R (sU R R (sU R R (sU R R (sU R R (sF R R dy (sN (aZ (cB dy) (v:=(.bool _)) R ?_))))))))))))
      obtain rfl:=oI hv
      exact zS
     ·replace dy:=bF dy
      replace hv:=aA hv dy
      refine sT R (cB dy) (oM (v:=(.int _ _)) R (sT R (cB dy) (jx R R (sT R (cB dy) (oM (v:=(.bool _)) R ?_)))))
      by_cases cW:(decide (n1 > 0))=true
      ·replace hv:=aB hv cW
       refine sT R (cB cW) (oM (v:=(.al _ _)) R (sT R (cB cW) (oM (v:=(.int _ _)) R (sT R (cB cW) (iS R R ?_)))))
       obtain ⟨pq,rE,hv⟩:=ao hv
       refine sT R (cB cW) (eM (f:=LV.I) cJ aE bb R R mu rE R (sT R (cB cW) (bh R aE bN (sT R (cB cW) (oM (v:=(.int _ _)) R (sT R (cB cW) (pW R R (sT R (cB dy) (aZ (cB cW) (v:=(.bool _)) R (sN (aW (cB dy) (v:=(.bool _)) R ?_)))))))))))
       obtain rfl:=oI hv
       exact zS
      ·replace cW:=bF cW
       replace hv:=aA hv cW
       refine sF R R cW (sF R R cW (sF R R cW (sF R R cW (sF R R cW (sF R R cW (sF R R cW (sT R (cB dy) (aW (cB cW) (v:=(.bool _)) R (sN (aW (cB dy) (v:=(.bool _)) R ?_))))))))))
       obtain rfl:=oI hv
       exact zS
   clear hv
   refine LH.cond (t:=w5) R (fun iL=>?_) (fun iL=>?_)
   ·replace h:=aB h iL
    refine LH.aj [(4,.bool false)] [] R (ct R zS) (LH.ret (bD (aU (dW (bD (aU ?_))))))
    obtain rfl:=oI h
    exact aN (aT Tryz.results94) (bO R (bL ⟨aM mN,R,aX R,Sub.rfl⟩))
   replace h:=aA h iL
   refine LH.skip (aY (au (LH.aS [(0,.I p0),(1,.L p1),(7,.L p1),(8,.I (p1.length:Int)),(9,.I (i64 (n1+1)))] [] R (sN (cI R R (br R zS))) ?_)))
   exact bl ⟨(i64 (n1+1)),a7 ▸ h,R,R⟩ (Wk.eq R R R R)
  replace h:=aA h fG
  refine LH.exit (cD (b6 (bP (au (LH.aj [(4,.bool true)] [] R (ct R zS) (LH.ret ?_))))))
  obtain rfl:=oI h
  exact aN (aT Tryz.results94) (bO R (bL ⟨aM mN,R,aX R,Sub.rfl⟩))
theorem Gs {F:Nat} {p0:ai} {r:Int} (h:tM F p0=some r):aO Tryz.prog 75 [ai.lv p0] (Mem.of []) (.I r) (Mem.of []):=by
  unfold tM at h
  refine bx Tryz.func75 R (nT Tryz.ntmps75 R) (LH.wk (aQ [(0,ai.lv p0)] []) (LH.aj [(1,.ag (ai.lv p0).cells)] [] R (sB (de R R R R (bt R zS))) (LH.seq ?_)))
  obtain ⟨w2,hv,h⟩:=ao h
  refine LH.aj [(1,.ag (ai.lv p0).cells),(18,.bool w2)] [] R ?_ ?_
  ·refine sN (aw fb aE bb R R R (sN (bh R aE bN ?_)))
   obtain ⟨r3,ot,hv⟩:=ao hv
   refine sN (ej (args:=[.I p0.ID]) R JH R (aI bm) (JZ ot) R (sN (ic R (bM R ?_))))
   by_cases bG:(!r3)=true
   ·replace hv:=aB hv bG
    refine sF R R bG (sF R R bG (sF R R bG (sN (aZ (cB bG) (v:=(.bool _)) R (bM R (sF R R R (sF R R R (sF R R R (sN (aZ R (v:=(.bool _)) R ?_))))))))))
    obtain rfl:=oI hv
    exact zS
   ·replace bG:=bF bG
    replace hv:=aA hv bG
    refine sT R (cB bG) (aw fP aE bb R R R (sT R (cB bG) (bh R aE bN (sT R (cB bG) (fy R R (sN (aW (cB bG) (v:=(.bool _)) R (bM R ?_))))))))
    by_cases bI:(decide (p0.Version<1))=true
    ·replace hv:=aB hv bI
     refine sF R R bI (sF R R bI (sF R R bI (sN (aZ (cB bI) (v:=(.bool _)) R ?_))))
     obtain rfl:=oI hv
     exact zS
    ·replace bI:=bF bI
     replace hv:=aA hv bI
     refine sT R (cB bI) (aw fP aE bb R R R (sT R (cB bI) (bh R aE bN (sT R (cB bI) (jx R R (sN (aW (cB bI) (v:=(.bool _)) R ?_)))))))
     obtain rfl:=oI hv
     exact zS
  clear hv
  refine LH.cond (t:=w2) R (fun fQ=>?_) (fun fQ=>?_)
  ·replace h:=aB h fQ
   refine LH.aj [(2,.I 2)] [] R (bt R zS) (LH.ret (aU ?_))
   obtain rfl:=oI h
   exact aN (aT Tryz.results75) (bO R (bL ⟨aM mN,R,aX R,Sub.rfl⟩))
  replace h:=aA h fQ
  refine LH.skip (au (LH.wk (aQ [(1,.ag (ai.lv p0).cells)] []) (LH.seq (LH.aj [(1,.ag (ai.lv p0).cells),(34,.bool ((decide ((p0.bJ.size:Int) > 40)) || ((decide ((p0.aH.length:Int) > 6)) || (decide ((p0.aF.length:Int) > 8)))))] [] R ?_ ?_))))
  ·refine sN (aw gY po xr R R R (sN (bh R po D3 (sX ((rW II R).ok) (sN (jx R R (bM R ?_)))))))
   by_cases dy:(decide ((p0.bJ.size:Int) > 40))=true
   ·exact sF R R dy (sF R R dy (sF R R dy (sF R R dy (sN (aZ (cB dy) (v:=(.bool _)) R (bM R (sF R R R (sF R R R (sF R R R (sF R R R (sN (aZ R (v:=(.bool _)) R (s0 (Wk.to (eC R (eC (cB (pn dy)) eN)) mN R (aX R)))))))))))))))
   ·replace dy:=bF dy
    refine sT R (cB dy) (aw c8 db fF R R R (sT R (cB dy) (bh R db iW (sT R (cB dy) (bV (f:=aq.lv) gy R (sT R (cB dy) (jx R R (sN (aW (cB dy) (v:=(.bool _)) R (bM R ?_))))))))))
    by_cases cW:(decide ((p0.aH.length:Int) > 6))=true
    ·exact sF R R cW (sF R R cW (sF R R cW (sF R R cW (sN (aZ (cB cW) (v:=(.bool _)) R (s0 (Wk.to (eC R (eC (cB (Eq.trans (pn cW) (gQ dy))) eN)) mN R (aX R))))))))
    ·replace cW:=bF cW
     exact sT R (cB cW) (aw fx eT jz R R R (sT R (cB cW) (bh R eT mI (sT R (cB cW) (bV (f:=LV.I) cJ R (sT R (cB cW) (jx R R (sN (aW (cB cW) (v:=(.bool _)) R (s0 (Wk.to (eC R (eC (cB (Eq.trans (gQ cW) (gQ dy))) eN)) mN R (aX R))))))))))))
  refine LH.cond (t:=((decide ((p0.bJ.size:Int) > 40)) || ((decide ((p0.aH.length:Int) > 6)) || (decide ((p0.aF.length:Int) > 8))))) R (fun ib=>?_) (fun ib=>?_)
  ·replace h:=aB h ib
   refine LH.aj [(2,.I 3)] [] R (bt R zS) (LH.ret (aU ?_))
   obtain rfl:=oI h
   exact aN (aT Tryz.results75) (bO R (bL ⟨aM mN,R,aX R,Sub.rfl⟩))
  replace h:=aA h ib
  refine LH.skip (au (LH.wk (aQ [(1,.ag (ai.lv p0).cells)] []) (LH.seq ?_)))
  obtain ⟨IV,hv,h⟩:=ao h
  refine LH.aj [(1,.ag (ai.lv p0).cells),(43,.bool IV)] [] R ?_ ?_
  ·refine sN (aw gY po xr R R R (sN (bh R po D3 (sX ((wE R R).ok) (bM R ?_)))))
   by_cases bQ:(decide (p0.bJ=(ByteArray.mk #[])))=true
   ·replace hv:=aB hv bQ
    refine sF R R bQ (sF R R bQ (sF R R bQ (sF R R bQ (sN (aZ (cB bQ) (v:=(.bool _)) R ?_)))))
    obtain rfl:=oI hv
    exact zS
   ·replace bQ:=bF bQ
    replace hv:=aA hv bQ
    refine sT R (cB bQ) (aw gY po xr R R R (sT R (cB bQ) (bh R po D3 ?_)))
    obtain ⟨e7,tc,hv⟩:=ao hv
    refine sT R (cB bQ) (ej (args:=[.str p0.bJ]) R PB R (aI bm) (Qh tc) R (sT R (cB bQ) (ic R (sN (aW (cB bQ) (v:=(.bool _)) R ?_)))))
    obtain rfl:=oI hv
    exact zS
  clear hv
  refine LH.cond (t:=IV) R (fun kD=>?_) (fun kD=>?_)
  ·replace h:=aB h kD
   refine LH.aj [(2,.I 7)] [] R (bt R zS) (LH.ret (aU ?_))
   obtain rfl:=oI h
   exact aN (aT Tryz.results75) (bO R (bL ⟨aM mN,R,aX R,Sub.rfl⟩))
  replace h:=aA h kD
  refine LH.skip (au (LH.wk (aQ [(1,.ag (ai.lv p0).cells)] []) (LH.seq (LH.aj [(1,.ag (ai.lv p0).cells),(47,.bool ((p0.aH.length:Int) == 0))] [] R (sN (aw c8 db fF R R R (sN (bh R db iW (sN (bV (f:=aq.lv) gy R (sN (gr R R zS)))))))) (LH.cond (t:=((p0.aH.length:Int) == 0)) R (fun iM=>?_) (fun iM=>?_))))))
  ·replace h:=aB h iM
   refine LH.aj [(2,.I 10)] [] R (bt R zS) (LH.ret (aU ?_))
   obtain rfl:=oI h
   exact aN (aT Tryz.results75) (bO R (bL ⟨aM mN,R,aX R,Sub.rfl⟩))
  replace h:=aA h iM
  refine LH.skip (au (LH.wk (aQ [(1,.ag (ai.lv p0).cells)] []) (LH.seq (LH.aj [(1,.ag (ai.lv p0).cells),(49,.al 6 (p0.aH.map aq.lv)),(50,.I (p0.aH.length:Int)),(51,.I 0)] [] R (sN (aw c8 db fF R R R (sN (bh R db iW (sN (bV (f:=aq.lv) gy R (br R zS))))))) (LH.block (LH.loop (fun n e m=>∃ (n17:Int),vp F p0 n n17=some r∧e=Env.of [(1,.ag (ai.lv p0).cells),(49,.al 6 (p0.aH.map aq.lv)),(50,.I (p0.aH.length:Int)),(51,.I n17)]∧m=Mem.of []) F ⟨0,h,R,R⟩ ?_))))))
  clear h
  rintro n e m ⟨n17,h,rfl,rfl⟩
  rcases n with _ | n
  · cases (show Option.none=some _ from h)
  obtain ⟨aK,a7⟩:∃ f,f=vp F p0 n:=⟨_,rfl⟩
  replace h:yE F p0 aK n17=some r:=a7 ▸ h
  unfold yE at h
  refine LH.aj [(1,.ag (ai.lv p0).cells),(49,.al 6 (p0.aH.map aq.lv)),(50,.I (p0.aH.length:Int)),(51,.I n17),(52,.bool (decide (n17<(p0.aH.length:Int))))] [] R (sN (fy R R zS)) (LH.seq (LH.cond (t:=(decide (n17<(p0.aH.length:Int)))) R (fun km=>?_) (fun km=>?_)))
  ·replace h:=aB h km
   refine LH.skip (au (LH.wk (aQ [(1,.ag (ai.lv p0).cells),(49,.al 6 (p0.aH.map aq.lv)),(50,.I (p0.aH.length:Int)),(51,.I n17)] []) (LH.seq (LH.block ?_))))
   obtain ⟨HE,LL,h⟩:=ao h
   refine LH.aj [(1,.ag (ai.lv p0).cells),(4,.ag (aq.lv HE).cells),(49,.al 6 (p0.aH.map aq.lv)),(50,.I (p0.aH.length:Int)),(51,.I n17)] [] R (sN (eM (f:=aq.lv) gy eu dN R R aq.ok LL R (sN (bc R eu iY dN R R (sN (j0 (id:=104) R Hh R R (s_ (cF R R R eu dN R R R (s0 ((Wk.trans (aQ [(1,.ag (ai.lv p0).cells),(4,.ptr 104 0),(49,.al 6 (p0.aH.map aq.lv)),(50,.I (p0.aH.length:Int)),(51,.I n17)] [(104,.box (aq.lv HE).cells)]) (Wk.trans (Wk.bk 104 (aq.lv HE).cells R R R (bH R)) (Wk.eq R R R R))))))))))))) ?_
   obtain ⟨En,Lm,h⟩:=ao h
   refine LH.aj [(1,.ag (ai.lv p0).cells),(49,.al 6 (p0.aH.map aq.lv)),(50,.I (p0.aH.length:Int)),(51,.I n17),(57,.bool (!En))] [] R (sN (bc R eu iY dN R R (sN (ej (args:=[aq.lv HE]) R PC R (aI bm) (Qg Lm) R (sN (ic R zS)))))) (LH.cond (t:=(!En)) R (fun oQ=>?_) (fun oQ=>?_))
   ·replace h:=aB h oQ
    refine LH.aj [(2,.I 1)] [] R (bt R zS) (LH.ret (bD (aU (dW (bD (aU ?_))))))
    obtain rfl:=oI h
    exact aN (aT Tryz.results75) (bO R (bL ⟨aM mN,R,aX R,Sub.rfl⟩))
   replace h:=aA h oQ
   refine LH.skip (aY (au (LH.aS [(1,.ag (ai.lv p0).cells),(49,.al 6 (p0.aH.map aq.lv)),(50,.I (p0.aH.length:Int)),(51,.I (i64 (n17+1)))] [] R (sN (cI R R (br R zS))) ?_)))
   exact bl ⟨(i64 (n17+1)),a7 ▸ h,R,R⟩ (Wk.eq R R R R)
  replace h:=aA h km
  refine LH.exit (cD (b6 (bP (au (LH.wk (aQ [(1,.ag (ai.lv p0).cells)] []) (LH.seq ?_))))))
  obtain ⟨j6,Fv,h⟩:=ao h
  refine LH.aj [(64,.bool (!j6))] [] R (sN (aw fb aE bb R R R (sN (bh R aE bN (sN (aw fx eT jz R R R (sN (bh R eT mI (sN (ej (args:=[.I p0.ID,.L p0.aF]) R PD R (aI (aI bm)) (P5 Fv) R (sN (ic R zS)))))))))))) (LH.cond (t:=(!j6)) R (fun KH=>?_) (fun KH=>?_))
  ·replace h:=aB h KH
   refine LH.aj [(2,.I 9)] [] R (bt R zS) (LH.ret (aU ?_))
   obtain rfl:=oI h
   exact aN (aT Tryz.results75) (bO R (bL ⟨aM mN,R,aX R,Sub.rfl⟩))
  replace h:=aA h KH
  refine LH.skip (au (LH.aj [(2,.I 0)] [] R (bt R zS) (LH.ret ?_)))
  obtain rfl:=oI h
  exact aN (aT Tryz.results75) (bO R (bL ⟨aM mN,R,aX R,Sub.rfl⟩))
theorem PZ {F:Nat} {p0:List ak} {p1:Int} {p2:(ak→Int→Option Int)} {r:Int × Bool} {eB:Nat} {dA:List LV} (Du:eh Tryz.prog eB) (uG:LV.bo dA=true) (Dv:∀ (x0:ak) (x1:Int) (q:Int),p2 x0 x1=some q→aO Tryz.prog eB ([.agg [.I x0.ID,.al 5 (x0.ab.map ai.lv),.al 1 (x0.ah.map LV.bool),.al 3 (x0.Uses.map ay.lv),.bool x0.ae],.I x1]++dA) (Mem.of []) (.I q) (Mem.of [])) (h:QJ F p0 p1 p2=some r):aO Tryz.prog 95 [.al 5 (p0.map ak.lv),.I p1,.fn eB dA] (Mem.of []) (.cV [.I r.1,.bool r.2]) (Mem.of []):=by
  have Gl:∀ {l:List LV},LV.bo l=true→LV.bo (l++dA)=true:=Mp uG
  have eR:LV.bK dA=[]:=gl uG
  unfold QJ at h
  refine bx Tryz.func95 R (nT Tryz.ntmps95 R) (LH.wk (Wk.to (el:=[(0,.al 5 (p0.map ak.lv)),(1,.I p1),(2,.fn eB dA)]) (ml:=[]) (eQ ⟨R,R,R,trivial⟩) mN (by simp [aV,LV.refs,LV.bK,LV.cells,da,Env.args,Env.of,Env.put,Env.drop,eR]) (aX R)) (LH.aj [(0,.al 5 (p0.map ak.lv)),(1,.I p1),(2,.fn eB dA)] [] R (bt R (ct R (s0 (Wk.to (eQ ⟨R,R,R,trivial⟩) mN (by simp [aV,LV.refs,LV.bK,LV.cells,da,Env.args,Env.of,Env.put,Env.drop,eR]) (aX R))))) (LH.aj [(0,.al 5 (p0.map ak.lv)),(1,.I p1),(2,.fn eB dA),(8,.I (p0.length:Int))] [] R (fh R (sN (bV (f:=ak.lv) dE R (bt R (s0 (Wk.to (eQ ⟨R,R,R,R,trivial⟩) mN (by simp [aV,LV.refs,LV.bK,LV.cells,da,Env.args,Env.of,Env.put,Env.drop,eR]) (aX R))))))) (LH.aj [(0,.al 5 (p0.map ak.lv)),(1,.I p1),(2,.fn eB dA),(8,.I (p0.length:Int)),(9,.I 0),(10,.I (p0.length:Int))] [] R (br R (bt R (bt R (s0 (Wk.to (eQ ⟨R,R,R,R,R,R,trivial⟩) mN (by simp [aV,LV.refs,LV.bK,LV.cells,da,Env.args,Env.of,Env.put,Env.drop,eR]) (aX R)))))) (LH.seq (LH.block (LH.loop (fun n e m=>∃ (n1:Int) (n2:Int),M7 p0 p1 p2 n n1 n2=some r∧e=Env.of [(0,.al 5 (p0.map ak.lv)),(1,.I p1),(2,.fn eB dA),(8,.I (p0.length:Int)),(9,.I n1),(10,.I n2)]∧m=Mem.of []) F ⟨0,(p0.length:Int),h,R,R⟩ ?_)))))))
  clear h
  rintro n e m ⟨n1,n2,h,rfl,rfl⟩
  rcases n with _ | n
  · cases (show Option.none=some _ from h)
  obtain ⟨aK,a7⟩:∃ f,f=M7 p0 p1 p2 n:=⟨_,rfl⟩
  replace h:RG p0 p1 p2 aK n1 n2=some r:=a7 ▸ h
  unfold RG at h
  refine LH.seq (LH.aj [(0,.al 5 (p0.map ak.lv)),(1,.I p1),(2,.fn eB dA),(8,.I (p0.length:Int)),(9,.I n1),(10,.I n2),(17,.bool (decide (n1<n2)))] [] R (br R (br R (sN (fy R R (s0 (Wk.to (eQ ⟨R,R,R,R,R,R,R,trivial⟩) mN (by simp [aV,LV.refs,LV.bK,LV.cells,da,Env.args,Env.of,Env.put,Env.drop,eR]) (aX R))))))) (LH.cond (t:=(decide (n1<n2))) R (fun ix=>?_) (fun ix=>?_)))
  ·replace h:=aB h ix
   refine LH.skip (au (LH.wk (Wk.to (el:=[(0,.al 5 (p0.map ak.lv)),(1,.I p1),(2,.fn eB dA),(8,.I (p0.length:Int)),(9,.I n1),(10,.I n2)]) (ml:=[]) (eQ ⟨R,R,R,R,R,R,trivial⟩) mN (by simp [aV,LV.refs,LV.bK,LV.cells,da,Env.args,Env.of,Env.put,Env.drop,eR]) (aX R)) (LH.block (LH.aj [(0,.al 5 (p0.map ak.lv)),(1,.I p1),(2,.fn eB dA),(8,.I (p0.length:Int)),(9,.I n1),(10,.I n2),(11,.I (i64 (pd .u64 (IntKind.u64.wrap (i64 (n1+n2))) 1)))] [] R (br R (br R (sN (cI R R (sN (TX aE QW R (sX ((Mk R R (by decide)).ok) (sN (TX QX WT R (bt R (s0 (Wk.to (eQ ⟨R,R,R,R,R,R,R,trivial⟩) mN (by simp [aV,LV.refs,LV.bK,LV.cells,da,Env.args,Env.of,Env.put,Env.drop,eR]) (aX R))))))))))))) ?_))))
   obtain ⟨x4,AW,h⟩:=ao h
   obtain ⟨r5,AQ,h⟩:=ao h
   refine LH.aj [(0,.al 5 (p0.map ak.lv)),(1,.I p1),(2,.fn eB dA),(8,.I (p0.length:Int)),(9,.I n1),(10,.I n2),(11,.I (i64 (pd .u64 (IntKind.u64.wrap (i64 (n1+n2))) 1))),(31,.bool (decide (r5<0)))] [] R ?_ ?_
   ·refine sN (oM (v:=(.fn _ _)) R (fh R (br R (sN (eM (f:=ak.lv) dE cT cz R R ak.ok AW R (sN (bc R cT il cz R R (br R (sN (ej (args:=[.agg [.I x4.ID,.al 5 (x4.ab.map ai.lv),.al 1 (x4.ah.map LV.bool),.al 3 (x4.Uses.map ay.lv),.bool x4.ae],.I p1]++dA) (gB:=[.agg [.I x4.ID,.al 5 (x4.ab.map ai.lv),.al 1 (x4.ah.map LV.bool),.al 3 (x4.Uses.map ay.lv),.bool x4.ae],.I p1]++dA) R Du R fo.rfl (Dv _ _ _ AQ) (Gl R) ?_))))))))))
    exact sN (fy R R (s0 (Wk.to (eQ ⟨R,R,R,R,R,R,R,R,trivial⟩) mN (by simp [aV,LV.refs,LV.bK,LV.cells,da,Env.args,Env.of,Env.put,Env.drop,eR]) (aX R))))
   refine LH.cond (t:=(decide (r5<0))) R (fun fQ=>?_) (fun fQ=>?_)
   ·replace h:=aB h fQ
    refine LH.aS [(0,.al 5 (p0.map ak.lv)),(1,.I p1),(2,.fn eB dA),(8,.I (p0.length:Int)),(9,.I (i64 ((i64 (pd .u64 (IntKind.u64.wrap (i64 (n1+n2))) 1))+1))),(10,.I n2)] [] R (br R (sN (cI R R (bt R (s0 (Wk.to (eQ ⟨R,R,R,R,R,R,trivial⟩) mN (by simp [aV,LV.refs,LV.bK,LV.cells,da,Env.args,Env.of,Env.put,Env.drop,eR]) (aX R))))))) (aY ?_)
    exact bl ⟨(i64 ((i64 (pd .u64 (IntKind.u64.wrap (i64 (n1+n2))) 1))+1)),n2,a7 ▸ h,R,R⟩ (Wk.to (eQ ⟨R,R,R,R,R,R,trivial⟩) mN (by simp [aV,LV.refs,LV.bK,LV.cells,da,Env.args,Env.of,Env.put,Env.drop,eR]) (aX R))
   replace h:=aA h fQ
   refine LH.aS [(0,.al 5 (p0.map ak.lv)),(1,.I p1),(2,.fn eB dA),(8,.I (p0.length:Int)),(9,.I n1),(10,.I (i64 (pd .u64 (IntKind.u64.wrap (i64 (n1+n2))) 1)))] [] R (br R (bt R (s0 (Wk.to (eQ ⟨R,R,R,R,R,R,trivial⟩) mN (by simp [aV,LV.refs,LV.bK,LV.cells,da,Env.args,Env.of,Env.put,Env.drop,eR]) (aX R))))) (aY ?_)
   exact bl ⟨n1,(i64 (pd .u64 (IntKind.u64.wrap (i64 (n1+n2))) 1)),a7 ▸ h,R,R⟩ (Wk.to (eQ ⟨R,R,R,R,R,R,trivial⟩) mN (by simp [aV,LV.refs,LV.bK,LV.cells,da,Env.args,Env.of,Env.put,Env.drop,eR]) (aX R))
  replace h:=aA h ix
  refine LH.exit (cD (b6 (bP (au ?_))))
  obtain ⟨w8,hv,h⟩:=ao h
  refine LH.aj [(6,.I n1),(7,.bool w8)] [] R ?_ ?_
  ·refine br R (br R (br R (sN (fy R R (bM R ?_)))))
   by_cases cW:(decide (n1<(p0.length:Int)))=true
   ·replace hv:=aB hv cW
    refine sT R (cB cW) (oM (v:=(.fn _ _)) R (sT R (cB cW) (oM (v:=(.al _ _)) R (sT R (cB cW) (oM (v:=(.int _ _)) R ?_)))))
    obtain ⟨pq,rE,hv⟩:=ao hv
    refine sT R (cB cW) (eM (f:=ak.lv) dE cT cz R R ak.ok rE R (sT R (cB cW) (bc R cT il cz R R (sT R (cB cW) (oM (v:=(.int _ _)) R ?_)))))
    obtain ⟨cm,kr,hv⟩:=ao hv
    refine sT R (cB cW) (ej (args:=[.agg [.I pq.ID,.al 5 (pq.ab.map ai.lv),.al 1 (pq.ah.map LV.bool),.al 3 (pq.Uses.map ay.lv),.bool pq.ae],.I p1]++dA) (gB:=[.agg [.I pq.ID,.al 5 (pq.ab.map ai.lv),.al 1 (pq.ah.map LV.bool),.al 3 (pq.Uses.map ay.lv),.bool pq.ae],.I p1]++dA) R Du R fo.rfl (Dv _ _ _ kr) (Gl R) ?_)
    refine sT R (cB cW) (gr R R (sN (aZ (cB cW) (v:=(.bool _)) R (bt R (ct R ?_)))))
    obtain rfl:=oI hv
    exact s0 (Wk.to (eQ ⟨R,R,trivial⟩) mN (by simp [aV,LV.refs,LV.bK,LV.cells,da,Env.args,Env.of,Env.put,Env.drop,eR]) (aX R))
   ·replace cW:=bF cW
    replace hv:=aA hv cW
    refine sF R R cW (sF R R cW (sF R R cW (sF R R cW (sF R R cW (sF R R cW (sF R R cW (sF R R cW (sN (aW (cB cW) (v:=(.bool _)) R (bt R (ct R ?_)))))))))))
    obtain rfl:=oI hv
    exact s0 (Wk.to (eQ ⟨R,R,trivial⟩) mN (by simp [aV,LV.refs,LV.bK,LV.cells,da,Env.args,Env.of,Env.put,Env.drop,eR]) (aX R))
  clear hv
  refine LH.ret ?_
  obtain rfl:=oI h
  exact aN (aT Tryz.results95) (bO R (bO R (bL ⟨aM mN,R,aX R,(Sub.cV (aI (aI bm)))⟩)))
theorem Qq {p0:ak} {p1:Int} {r:Int} (h:tH p0 p1=some r):aO Tryz.prog 96 [ak.lv p0,.I p1] (Mem.of []) (.I r) (Mem.of []):=by
  unfold tH at h
  refine bx Tryz.func96 R (nT Tryz.ntmps96 R) (LH.wk (aQ [(0,ak.lv p0),(1,.I p1)] []) (LH.aj [(1,.I p1),(2,.ag (ak.lv p0).cells)] [] R (sB (de R R R R (bt R zS))) ?_))
  obtain ⟨r1,ei,h⟩:=ao h
  refine LH.aj [(4,.I r1)] [] R (sN (aw fO aE bb R R R (sN (bh R aE bN (br R (sN (ej (args:=[.I p0.ID,.I p1]) R th R (aI (aI bm)) (dh ei) R (bt R zS)))))))) (LH.ret ?_)
  obtain rfl:=oI h
  exact aN (aT Tryz.results96) (bO R (bL ⟨aM mN,R,aX R,Sub.rfl⟩))
theorem J8 {F:Nat} {p0:aG} {p1:Int} {r:Int × Bool} (h:vC F p0 p1=some r):aO Tryz.prog 76 [.ptr 811 0,.I p1] (Mem.of [oj p0,(812,cC (p0.aa.map ak.lv))]) (.cV [.I r.1,.bool r.2]) (Mem.of [oj p0,(812,cC (p0.aa.map ak.lv))]):=by
  unfold vC at h
  refine bx Tryz.func76 R (nT Tryz.ntmps76 R) (LH.wk (aQ [(0,.ptr 811 0),(1,.I p1)] [oj p0,(812,cC (p0.aa.map ak.lv))]) (LH.aj [(0,.ptr 811 0),(1,.I p1)] [oj p0,(812,cC (p0.aa.map ak.lv))] R (bt R (ct R zS)) ?_))
  obtain ⟨r1,ei,h⟩:=ao h
  refine LH.aj [(4,.I r1.1),(5,.bool r1.2)] [oj p0,(812,cC (p0.aa.map ak.lv))] R (ig R (sN (F9 R (sN (dI bX bZ dq R R (sN (dQ R R R R bZ e8 (br R (sN (dX (args:=[.arr 812 p0.aa.length,.I p1,.fn 96 []]) (ml:=[(812,cC (p0.aa.map ak.lv))]) (cQ:=[(812,cC (p0.aa.map ak.lv))]) R PE R (aI (aI (aI bm))) (aO.PJ 812 49 5 [(1,54,5),(2,4,1),(3,88,3)] (xs:=List.map ak.lv p0.aa) (ak.ok.bo _) (PZ (eB:=96) (dA:=[]) PF R (fun _ _ _ h=>Qq h) ei) (.row (by simp) (.jI R (.jI R .nil))) R R R R R Vc) ⟨R,trivial⟩ (bT R bU) R (sN (fV R R (sN (fV R R (bt R (ct R zS)))))))))))))))) (LH.ret ?_)
  obtain rfl:=oI h
  exact aN (aT Tryz.results76) (bO R (bO R (bL ⟨aM (mC R (mC R mN)),R,aX R,(Sub.cV (aI (aI bm)))⟩)))
theorem J6 {F:Nat} {p0:aG} {p1:ax} {r:Int × aG} (h:vB F p0 p1=some r):aO Tryz.prog 57 [.ptr 811 0,ax.lv p1] (Mem.of [oj p0,(812,cC (p0.aa.map ak.lv))]) (.I r.1) (Mem.of [(811,.box [.arr 812 r.2.aa.length]),(812,cC (r.2.aa.map ak.lv))]):=by
  unfold vB at h
  refine bx Tryz.func57 R (nT Tryz.ntmps57 R) (LH.wk (aQ [(0,.ptr 811 0),(1,ax.lv p1)] [oj p0,(812,cC (p0.aa.map ak.lv))]) (LH.aj [(0,.ptr 811 0),(3,.ag (ax.lv p1).cells)] [oj p0,(812,cC (p0.aa.map ak.lv))] R (sB (de R R R R (bt R zS))) (LH.seq ?_)))
  obtain ⟨r1,ei,h⟩:=ao h
  refine LH.aj [(0,.ptr 811 0),(3,.ag (ax.lv p1).cells),(5,.I r1)] [oj p0,(812,cC (p0.aa.map ak.lv))] R (sN (aw fe cv cd R R R (sN (bc R cv eZ cd R R (sN (ej (args:=[ai.lv p1.Item]) R FR R (aI bm) (Gs ei) R (bt R zS))))))) (LH.aj [(0,.ptr 811 0),(3,.ag (ax.lv p1).cells),(5,.I r1),(12,.bool (r1 != 0))] [oj p0,(812,cC (p0.aa.map ak.lv))] R (br R (sN (iR R R zS))) (LH.cond (t:=(r1 != 0)) R (fun fG=>?_) (fun fG=>?_)))
  ·replace h:=aB h fG
   refine LH.aj [(4,.I r1)] [oj p0,(812,cC (p0.aa.map ak.lv))] R (br R (bt R zS)) (LH.ret (aU ?_))
   obtain rfl:=oI h
   exact aN (aT Tryz.results57) (bO R (bL ⟨aM (mC R (mC R mN)),R,aX R,Sub.rfl⟩))
  replace h:=aA h fG
  refine LH.skip (au (LH.wk (aQ [(0,.ptr 811 0),(3,.ag (ax.lv p1).cells)] [oj p0,(812,cC (p0.aa.map ak.lv))]) (LH.seq (LH.aj [(0,.ptr 811 0),(3,.ag (ax.lv p1).cells),(17,.bool (p1.Item.Version != 1))] [oj p0,(812,cC (p0.aa.map ak.lv))] R (sN (aw fe cv cd R R R (sN (aw fP aE bb R R R (sN (bh R aE bN (sN (iR R R zS)))))))) (LH.cond (t:=(p1.Item.Version != 1)) R (fun ix=>?_) (fun ix=>?_))))))
  ·replace h:=aB h ix
   refine LH.aj [(4,.I 8)] [oj p0,(812,cC (p0.aa.map ak.lv))] R (bt R zS) (LH.ret (aU ?_))
   obtain rfl:=oI h
   exact aN (aT Tryz.results57) (bO R (bL ⟨aM (mC R (mC R mN)),R,aX R,Sub.rfl⟩))
  replace h:=aA h ix
  refine LH.skip (au ?_)
  obtain ⟨r4,Fw,h⟩:=ao h
  refine LH.aj [(0,.ptr 811 0),(3,.ag (ax.lv p1).cells),(6,.I r4.1),(7,.bool r4.2)] [oj p0,(812,cC (p0.aa.map ak.lv))] R (ig R (sN (aw fe cv cd R R R (sN (aw fb aE bb R R R (sN (bh R aE bN (sN (dX (args:=[.ptr 811 0,.I p1.Item.ID]) (ml:=[oj p0,(812,cC (p0.aa.map ak.lv))]) (cQ:=[oj p0,(812,cC (p0.aa.map ak.lv))]) R JE R (aI (aI bm)) (J8 Fw) ⟨R,R,trivial⟩ (bT R (bT R bU)) R (wU R (sN (fV R R (sN (fV R R (bt R (ct R zS)))))))))))))))) (LH.seq (LH.aj [(0,.ptr 811 0),(3,.ag (ax.lv p1).cells),(6,.I r4.1),(26,.bool r4.2)] [oj p0,(812,cC (p0.aa.map ak.lv))] R (bM R zS) (LH.cond (t:=r4.2) R (fun kM=>?_) (fun kM=>?_))))
  ·replace h:=aB h kM
   refine LH.aj [(4,.I 5)] [oj p0,(812,cC (p0.aa.map ak.lv))] R (bt R zS) (LH.ret (aU ?_))
   obtain rfl:=oI h
   exact aN (aT Tryz.results57) (bO R (bL ⟨aM (mC R (mC R mN)),R,aX R,Sub.rfl⟩))
  replace h:=aA h kM
  refine LH.skip (au (LH.wk (aQ [(0,.ptr 811 0),(3,.ag (ax.lv p1).cells),(6,.I r4.1)] [oj p0,(812,cC (p0.aa.map ak.lv))]) (LH.seq (LH.aj [(0,.ptr 811 0),(3,.ag (ax.lv p1).cells),(6,.I r4.1),(32,.bool (decide ((p0.aa.length:Int) ≥ 40)))] [oj p0,(812,cC (p0.aa.map ak.lv))] R (ig R (sN (F9 R (sN (dI bX bZ dq R R (sN (dQ R R R R bZ e8 (sX ((Gd (f:=ak.lv) (xs:=p0.aa) dE R R R).ok) (sN (pW R R zS)))))))))) (LH.cond (t:=(decide ((p0.aa.length:Int) ≥ 40))) R (fun fQ=>?_) (fun fQ=>?_))))))
  ·replace h:=aB h fQ
   refine LH.aj [(4,.I 3)] [oj p0,(812,cC (p0.aa.map ak.lv))] R (bt R zS) (LH.ret (aU ?_))
   obtain rfl:=oI h
   exact aN (aT Tryz.results57) (bO R (bL ⟨aM (mC R (mC R mN)),R,aX R,Sub.rfl⟩))
  replace h:=aA h fQ
  refine LH.skip (au ?_)
  obtain ⟨r7,AR,h⟩:=ao h
  obtain ⟨v8,Ov,h⟩:=ao h
  refine LH.cO mixed [] [0,0,0,0,1811,0,0,0,0,0,0,0,1000000145,1000000146,0,1146145148,3,0,0,100811] [] [(811,.box [.arr 812 v8.length]),(812,cC (v8.map ak.lv))] R R (by kernel_rfl) ?_ ?_
  ·exact Cd R (Cd R (aD (F9 R ⟨R,aD (dI bX bZ dq R R ⟨R,mD R R R (fun _ b _ d=>dQ R b R R bZ e8 d) (fC R (aD (aw fe cv cd R R R ⟨R,aD (aw fb aE bb R R R ⟨R,aD (bh R aE bN ⟨R,aD (aw fe cv cd R R R ⟨R,aD (bc R cv eZ cd R R ⟨R,aD (ej (args:=[ai.lv p1.Item]) R B9 R (aI bm) (Cm AR) R ⟨R,TT R (rp.fresh R R (fun m0 h0=>cj.Ub [44] (by simp [Op.operands]) (A5 (g:=ai.lv) (ys:=[r7]) (id:=145) fw zE cd R R R ai.ok h0))) (TT R (rp.fresh R R (fun m0 h0=>cj.Ub [] (by simp [Op.operands]) (A5 (g:=LV.bool) (ys:=[false]) (id:=146) jy HD lP R R R okB h0))) (aD (fU (vs:=[(0,.I p1.Item.ID),(1,.arr 145 (List.length [r7])),(2,.arr 146 (List.length [false]))]) Q0 qH R (lf fO bb aE R R R (lf cZ fE c7 R R R (lf dJ gN dZ R R R fT))) ⟨R,TT R (rp.gone (S:=[145,146]) R (fun m0 h0=>Mb (id:=148) (os:=[(1,54,5),(2,4,1),(3,88,3)]) (S:=[145,146]) (cs:=[.I p1.Item.ID,.arr 145 (List.length [r7]),.arr 146 (List.length [false]),.nil,.bool false]) (dj:=[.I p1.Item.ID,.al 5 (List.map ai.lv [r7]),.al 1 (List.map LV.bool [false]),.al 3 (List.map ay.lv ([]:List ay)),.bool false]) dE p9 cz R R R R ((h0 148 (by simp)).trans R) (Q9 R R (Ng (g:=ai.lv) (ys:=[r7]) R ((h0 145 (by simp)).trans R) (Ng (g:=LV.bool) (ys:=[false]) R ((h0 146 (by simp)).trans R) (Vp R R (Q9 R R Un))))) (by decide) (Nv (bH R) (Nv (bH R) Uq)))) (mX (Ir (f:=ak.lv) (xs:=p0.aa) (z0:=(ak.mk p1.Item.ID [r7] [false] ([]:List ay) false)) Pq LZ R R R R R (by decide) (bH R) Ov) (aD (F9 R ⟨R,aD (dI bX bZ dq R R ⟨R,mS R R R (fun _ b _ d=>cF R R R bZ dq b R R d) zM⟩)⟩)))⟩)))⟩)⟩)⟩)⟩)⟩)⟩)))⟩)⟩)))
  refine LH.aj [(4,.I 0)] [(811,.box [.arr 812 v8.length]),(812,cC (v8.map ak.lv))] R (bt R zS) (LH.ret ?_)
  obtain rfl:=oI h
  exact aN (aT Tryz.results57) (bO R (bL ⟨aM (mC R (mC R mN)),R,aX R,Sub.rfl⟩))
theorem Gq {F:Nat} {p0:aG} {p1:Int} {r:Option Int} (h:tJ F p0 p1=some r):aO Tryz.prog 78 [.ptr 811 0,.I p1] (Mem.of [oj p0,(812,cC (p0.aa.map ak.lv))]) (rG 812 p0.aa.length r) (Mem.of [oj p0,(812,cC (p0.aa.map ak.lv))]):=by
  unfold tJ at h
  refine bx Tryz.func78 R (nT Tryz.ntmps78 R) (LH.wk (aQ [(0,.ptr 811 0),(1,.I p1)] [oj p0,(812,cC (p0.aa.map ak.lv))]) (LH.aj [(0,.ptr 811 0),(1,.I p1)] [oj p0,(812,cC (p0.aa.map ak.lv))] R (sN (oA (v:=.fj) R zS)) ?_))
  obtain ⟨r1,ei,h⟩:=ao h
  refine LH.aj [(0,.ptr 811 0),(5,.I r1.1),(6,.bool r1.2)] [oj p0,(812,cC (p0.aa.map ak.lv))] R (ig R (br R (sN (dX (args:=[.ptr 811 0,.I p1]) (ml:=[oj p0,(812,cC (p0.aa.map ak.lv))]) (cQ:=[oj p0,(812,cC (p0.aa.map ak.lv))]) R JE R (aI (aI bm)) (J8 ei) ⟨R,R,trivial⟩ (bT R (bT R bU)) R (wU R (sN (fV R R (sN (fV R R (bt R (ct R zS))))))))))) (LH.seq (LH.aj [(0,.ptr 811 0),(5,.I r1.1),(14,.bool (!r1.2))] [oj p0,(812,cC (p0.aa.map ak.lv))] R (bM R (sN (ic R zS))) (LH.cond (t:=(!r1.2)) R (fun fG=>?_) (fun fG=>?_))))
  ·replace h:=aB h fG
   refine LH.aj [(4,.fj)] [oj p0,(812,cC (p0.aa.map ak.lv))] R (sN (oA (v:=.fj) R zS)) (LH.ret (aU ?_))
   obtain rfl:=oI h
   exact aN (aT Tryz.results78) (bO R (bL ⟨aM (mC R (mC R mN)),R,aX R,Sub.rfl⟩))
  replace h:=aA h fG
  refine LH.skip (au ?_)
  obtain ⟨x3,gj,h⟩:=ao h
  refine LH.aj [(4,.bE 812 p0.aa.length (r1.1).toNat 0)] [oj p0,(812,cC (p0.aa.map ak.lv))] R (ig R (sN (F9 R (sN (dI bX bZ dq R R (sN (dQ R R R R bZ e8 (br R (sX ((Gc (f:=ak.lv) (xs:=p0.aa) dE cT cz R R R R gj).ok) (sN (oA (v:=(.bE _ _ _ _)) R zS))))))))))) (LH.ret ?_)
  obtain rfl:=oI h
  exact aN (aT Tryz.results78) (bO R (bL ⟨aM (mC R (mC R mN)),R,aX R,Sub.rfl⟩))
theorem J3 {F:Nat} {p0:aG} {p1:ax} {r:Int × aG} (h:vz F p0 p1=some r):aO Tryz.prog 58 [.ptr 811 0,.agg [.I p1.ar.Time,.I p1.ar.Source,.I p1.ar.Seq,.I p1.Kind,.I p1.Item.ID,.I p1.Item.Version,.str p1.Item.bJ,.al 6 (p1.Item.aH.map aq.lv),.L p1.Item.aF,.I p1.Ref.ID,.I p1.Ref.Version,.I p1.Form]] (Mem.of [(811,.box [.arr 812 p0.aa.length]),(812,.nest 49 5 [(1,54,5),(2,4,1),(3,88,3)] (p0.aa.map ak.lv))]) (.I r.1) (Mem.of [(811,.box [.arr 812 r.2.aa.length]),(812,.nest 49 5 [(1,54,5),(2,4,1),(3,88,3)] (r.2.aa.map ak.lv))]):=by
  unfold vz at h
  refine bx Tryz.func58 R (nT Tryz.ntmps58 R) ?_
  refine LH.wk (Wk.eq (el:=[(0,.ptr 811 0),(1,.agg [.I p1.ar.Time,.I p1.ar.Source,.I p1.ar.Seq,.I p1.Kind,.I p1.Item.ID,.I p1.Item.Version,.str p1.Item.bJ,.al 6 (p1.Item.aH.map aq.lv),.L p1.Item.aF,.I p1.Ref.ID,.I p1.Ref.Version,.I p1.Form])]) (ml:=[(811,.box [.arr 812 p0.aa.length]),(812,.nest 49 5 [(1,54,5),(2,4,1),(3,88,3)] (p0.aa.map ak.lv))]) R R R R) ?_
  refine LH.aj [(0,.ptr 811 0),(3,.ag [.I p1.ar.Time,.I p1.ar.Source,.I p1.ar.Seq,.I p1.Kind,.I p1.Item.ID,.I p1.Item.Version,.str p1.Item.bJ,.al 6 (p1.Item.aH.map aq.lv),.L p1.Item.aF,.I p1.Ref.ID,.I p1.Ref.Version,.I p1.Form])] [(811,.box [.arr 812 p0.aa.length]),(812,.nest 49 5 [(1,54,5),(2,4,1),(3,88,3)] (p0.aa.map ak.lv))] R ?_ ?_
  ·refine sB (de R R R R ?_)
   refine bt R ?_
   exact zS
  refine LH.seq ?_
  obtain ⟨r1,ei,h⟩:=ao h
  refine LH.aj [(0,.ptr 811 0),(3,.ag [.I p1.ar.Time,.I p1.ar.Source,.I p1.ar.Seq,.I p1.Kind,.I p1.Item.ID,.I p1.Item.Version,.str p1.Item.bJ,.al 6 (p1.Item.aH.map aq.lv),.L p1.Item.aF,.I p1.Ref.ID,.I p1.Ref.Version,.I p1.Form]),(5,.I r1)] [(811,.box [.arr 812 p0.aa.length]),(812,.nest 49 5 [(1,54,5),(2,4,1),(3,88,3)] (p0.aa.map ak.lv))] R ?_ ?_
  ·refine sN (aw fe cv cd R R R ?_)
   refine sN (bc R cv eZ cd R R ?_)
   refine sN (ej (args:=[.agg [.I p1.Item.ID,.I p1.Item.Version,.str p1.Item.bJ,.al 6 (p1.Item.aH.map aq.lv),.L p1.Item.aF]]) R FR R (aI bm) (Gs ei) R ?_)
   refine bt R ?_
   exact zS
  refine LH.aj [(0,.ptr 811 0),(3,.ag [.I p1.ar.Time,.I p1.ar.Source,.I p1.ar.Seq,.I p1.Kind,.I p1.Item.ID,.I p1.Item.Version,.str p1.Item.bJ,.al 6 (p1.Item.aH.map aq.lv),.L p1.Item.aF,.I p1.Ref.ID,.I p1.Ref.Version,.I p1.Form]),(5,.I r1),(11,.bool (r1 != 0))] [(811,.box [.arr 812 p0.aa.length]),(812,.nest 49 5 [(1,54,5),(2,4,1),(3,88,3)] (p0.aa.map ak.lv))] R ?_ ?_
  ·refine br R ?_
   refine sN (iR R R ?_)
   exact zS
  refine LH.cond (t:=(r1 != 0)) R (fun fG=>?_) (fun fG=>?_)
  ·replace h:=aB h fG
   refine LH.aj [(4,.I r1)] [(811,.box [.arr 812 p0.aa.length]),(812,.nest 49 5 [(1,54,5),(2,4,1),(3,88,3)] (p0.aa.map ak.lv))] R ?_ ?_
   ·refine br R ?_
    refine bt R ?_
    exact zS
   refine LH.ret ?_
   refine aU ?_
   obtain rfl:=oI h
   exact aN (aT Tryz.results58) (bO R (bL ⟨aM (mC R (mC R mN)),R,aX R,Sub.rfl⟩))
  replace h:=aA h fG
  refine LH.skip ?_
  refine au ?_
  obtain ⟨r3,ot,h⟩:=ao h
  refine LH.aj [(3,.ag [.I p1.ar.Time,.I p1.ar.Source,.I p1.ar.Seq,.I p1.Kind,.I p1.Item.ID,.I p1.Item.Version,.str p1.Item.bJ,.al 6 (p1.Item.aH.map aq.lv),.L p1.Item.aF,.I p1.Ref.ID,.I p1.Ref.Version,.I p1.Form]),(6,rG 812 p0.aa.length r3)] [(811,.box [.arr 812 p0.aa.length]),(812,.nest 49 5 [(1,54,5),(2,4,1),(3,88,3)] (p0.aa.map ak.lv))] R ?_ ?_
  ·refine ig R ?_
   refine sN (aw fe cv cd R R R ?_)
   refine sN (aw fb aE bb R R R ?_)
   refine sN (bh R aE bN ?_)
   refine sN (dX (args:=[.ptr 811 0,.I p1.Item.ID]) (ml:=[(811,.box [.arr 812 p0.aa.length]),(812,.nest 49 5 [(1,54,5),(2,4,1),(3,88,3)] (p0.aa.map ak.lv))]) (cQ:=[(811,.box [.arr 812 p0.aa.length]),(812,.nest 49 5 [(1,54,5),(2,4,1),(3,88,3)] (p0.aa.map ak.lv))]) R FT R (aI (aI bm)) (Gq ot) ⟨R,R,trivial⟩ (bT R (bT R bU)) R ?_)
   refine sN (oA (v:=(rG _ _ _)) R ?_)
   exact s0 (Wk.to (eQ ⟨R,R,trivial⟩) ⟨R,R,trivial⟩ (by rcases r3 with _ | _ <;> exact R) (aX R))
  rcases r3 with _ | j4
  ·replace h:=Gi h
   refine LH.wk (Wk.eq (el:=[(3,.ag [.I p1.ar.Time,.I p1.ar.Source,.I p1.ar.Seq,.I p1.Kind,.I p1.Item.ID,.I p1.Item.Version,.str p1.Item.bJ,.al 6 (p1.Item.aH.map aq.lv),.L p1.Item.aF,.I p1.Ref.ID,.I p1.Ref.Version,.I p1.Form]),(6,.fj)]) (ml:=[(811,.box [.arr 812 p0.aa.length]),(812,.nest 49 5 [(1,54,5),(2,4,1),(3,88,3)] (p0.aa.map ak.lv))]) R R R R) ?_
   refine LH.seq ?_
   refine LH.aj [(3,.ag [.I p1.ar.Time,.I p1.ar.Source,.I p1.ar.Seq,.I p1.Kind,.I p1.Item.ID,.I p1.Item.Version,.str p1.Item.bJ,.al 6 (p1.Item.aH.map aq.lv),.L p1.Item.aF,.I p1.Ref.ID,.I p1.Ref.Version,.I p1.Form]),(6,.fj),(19,.bool true)] [(811,.box [.arr 812 p0.aa.length]),(812,.nest 49 5 [(1,54,5),(2,4,1),(3,88,3)] (p0.aa.map ak.lv))] R ?_ ?_
   ·refine sN (oM (v:=.fj) R ?_)
    refine sX ((tA ox R R).ok) ?_
    exact zS
   refine LH.cond (t:=true) R (fun fQ=>?_) (fun fQ=>?_)
   ·refine LH.aj [(4,.I 4)] [(811,.box [.arr 812 p0.aa.length]),(812,.nest 49 5 [(1,54,5),(2,4,1),(3,88,3)] (p0.aa.map ak.lv))] R ?_ ?_
    ·refine bt R ?_
     exact zS
    refine LH.ret ?_
    refine aU ?_
    obtain rfl:=oI h
    exact aN (aT Tryz.results58) (bO R (bL ⟨aM (mC R (mC R mN)),R,aX R,Sub.rfl⟩))
   ·cases fQ
  replace h:=Gj h
  obtain ⟨x5,mG,h⟩:=ao h
  refine LH.wk (Wk.to (el:=[(3,.ag [.I p1.ar.Time,.I p1.ar.Source,.I p1.ar.Seq,.I p1.Kind,.I p1.Item.ID,.I p1.Item.Version,.str p1.Item.bJ,.al 6 (p1.Item.aH.map aq.lv),.L p1.Item.aF,.I p1.Ref.ID,.I p1.Ref.Version,.I p1.Form]),(6,.bE 812 p0.aa.length (j4).toNat 0)]) (ml:=[(811,.box [.arr 812 p0.aa.length]),(812,.nest 49 5 [(1,54,5),(2,4,1),(3,88,3)] ((p0.aa.map ak.lv).set (j4).toNat (.agg [.I x5.ID,.al 5 (x5.ab.map ai.lv),.al 1 (x5.ah.map LV.bool),.al 3 (x5.Uses.map ay.lv),.bool x5.ae])))]) (eQ ⟨R,R,trivial⟩) (mC R (mC (pF mG) mN)) R (aX R)) ?_
  refine LH.seq ?_
  refine LH.aj [(3,.ag [.I p1.ar.Time,.I p1.ar.Source,.I p1.ar.Seq,.I p1.Kind,.I p1.Item.ID,.I p1.Item.Version,.str p1.Item.bJ,.al 6 (p1.Item.aH.map aq.lv),.L p1.Item.aF,.I p1.Ref.ID,.I p1.Ref.Version,.I p1.Form]),(6,.bE 812 p0.aa.length (j4).toNat 0),(19,.bool false)] [(811,.box [.arr 812 p0.aa.length]),(812,.nest 49 5 [(1,54,5),(2,4,1),(3,88,3)] ((p0.aa.map ak.lv).set (j4).toNat (.agg [.I x5.ID,.al 5 (x5.ab.map ai.lv),.al 1 (x5.ah.map LV.bool),.al 3 (x5.Uses.map ay.lv),.bool x5.ae])))] R ?_ ?_
  ·refine sN (oM (v:=(.bE _ _ _ _)) R ?_)
   refine sX ((tz ox R R R (by simp) (b8 mG)).ok) ?_
   exact zS
  refine LH.cond (t:=false) R (fun jd=>?_) (fun jd=>?_)
  ·cases jd
  refine LH.skip ?_
  refine au ?_
  refine LH.wk (Wk.eq (el:=[(3,.ag [.I p1.ar.Time,.I p1.ar.Source,.I p1.ar.Seq,.I p1.Kind,.I p1.Item.ID,.I p1.Item.Version,.str p1.Item.bJ,.al 6 (p1.Item.aH.map aq.lv),.L p1.Item.aF,.I p1.Ref.ID,.I p1.Ref.Version,.I p1.Form]),(6,.bE 812 p0.aa.length (j4).toNat 0)]) (ml:=[(811,.box [.arr 812 p0.aa.length]),(812,.nest 49 5 [(1,54,5),(2,4,1),(3,88,3)] ((p0.aa.map ak.lv).set (j4).toNat (.agg [.I x5.ID,.al 5 (x5.ab.map ai.lv),.al 1 (x5.ah.map LV.bool),.al 3 (x5.Uses.map ay.lv),.bool x5.ae])))]) R R R R) ?_
  refine LH.seq ?_
  refine LH.cO mixed [] [0,3,3,3,0,0,0,0,0,3,3,3,3,0,0,0] [(3,.ag [.I p1.ar.Time,.I p1.ar.Source,.I p1.ar.Seq,.I p1.Kind,.I p1.Item.ID,.I p1.Item.Version,.str p1.Item.bJ,.al 6 (p1.Item.aH.map aq.lv),.L p1.Item.aF,.I p1.Ref.ID,.I p1.Ref.Version,.I p1.Form]),(6,.bE 812 p0.aa.length (j4).toNat 0),(35,.bool (x5.ae || (p1.Item.Version != (i64 ((x5.ab.length:Int)+1)))))] [(811,.box [.arr 812 p0.aa.length]),(812,.nest 49 5 [(1,54,5),(2,4,1),(3,88,3)] ((p0.aa.map ak.lv).set (j4).toNat (.agg [.I x5.ID,.al 5 (x5.ab.map ai.lv),.al 1 (x5.ah.map LV.bool),.al 3 (x5.Uses.map ay.lv),.bool x5.ae])))] R R (by kernel_rfl) ?_ ?_
  ·refine aD (oM (v:=(.bE _ _ _ _)) R ⟨R,?_⟩)
   refine mX (fL R R (by simp) (b8 mG)) ?_
   refine mX (fJ ja jL lP R R (by simp) (b8 mG)) ?_
   refine mX (wB (cs:=[.I x5.ID,.al 5 (x5.ab.map ai.lv),.al 1 (x5.ah.map LV.bool),.al 3 (x5.Uses.map ay.lv),.bool x5.ae]) R R (by simp) (b8 mG) R R jL uN) ?_
   refine iQ R ?_
   by_cases cW:x5.ae=true
   ·refine mF R R cW ?_
    refine mF R R cW ?_
    refine mF R R cW ?_
    refine mF R R cW ?_
    refine mF R R cW ?_
    refine mF R R cW ?_
    refine mF R R cW ?_
    refine mF R R cW ?_
    refine mF R R cW ?_
    refine mF R R cW ?_
    refine aD (aZ (cB cW) (v:=(.bool _)) R ⟨R,?_⟩)
    exact m0 (Wk.to (eC R (eC R (eC (cB (pn cW)) eN))) ⟨R,R,trivial⟩ R (aX R))
   ·replace cW:=bF cW
    refine mT R (cB cW) (aD (aw fe cv cd R R R ⟨R,?_⟩))
    refine mT R (cB cW) (aD (aw fP aE bb R R R ⟨R,?_⟩))
    refine mT R (cB cW) (aD (bh R aE bN ⟨R,?_⟩))
    refine mT R (cB cW) (aD (oM (v:=(.bE _ _ _ _)) R ⟨R,?_⟩))
    refine mT R (cB cW) (mX (fL R R (by simp) (b8 mG)) ?_)
    refine mT R (cB cW) (mX (fJ cZ c7 fE R R (by simp) (b8 mG)) ?_)
    refine mT R (cB cW) (mX (A6 (g:=ai.lv) (ys:=x5.ab) (cs:=[.I x5.ID,.al 5 (x5.ab.map ai.lv),.al 1 (x5.ah.map LV.bool),.al 3 (x5.Uses.map ay.lv),.bool x5.ae]) R R (by simp) (b8 mG) R R c7 ij) ?_)
    refine mT R (cB cW) (mX (wC fw R) ?_)
    refine mT R (cB cW) (aD (cI R R ⟨R,?_⟩))
    refine mT R (cB cW) (aD (iR R R ⟨R,?_⟩))
    refine aD (aW (cB cW) (v:=(.bool _)) R ⟨R,?_⟩)
    exact m0 (Wk.to (eC R (eC R (eC (cB (gQ cW)) eN))) ⟨R,R,trivial⟩ R (aX R))
  refine LH.cond (t:=(x5.ae || (p1.Item.Version != (i64 ((x5.ab.length:Int)+1))))) R (fun ib=>?_) (fun ib=>?_)
  ·replace h:=aB h ib
   refine LH.aj [(4,.I 8)] [(811,.box [.arr 812 p0.aa.length]),(812,.nest 49 5 [(1,54,5),(2,4,1),(3,88,3)] (p0.aa.map ak.lv))] R ?_ ?_
   ·refine bt R ?_
    exact s0 (Wk.to (eQ ⟨R,trivial⟩) (mC R (mC (pF mG).symm mN)) R (aX R))
   refine LH.ret ?_
   refine aU ?_
   obtain rfl:=oI h
   exact aN (aT Tryz.results58) (bO R (bL ⟨aM (mC R (mC R mN)),R,aX R,Sub.rfl⟩))
  replace h:=aA h ib
  refine LH.skip ?_
  refine au ?_
  obtain ⟨cm,kr,h⟩:=ao h
  obtain ⟨v12,FF,h⟩:=ao h
  refine LH.cO mixed [] [0,0,3,3,3,0,0,0,0,2,3,3,3] [(6,.bE 812 p0.aa.length (j4).toNat 0)] [(811,.box [.arr 812 p0.aa.length]),(812,.nest 49 5 [(1,54,5),(2,4,1),(3,88,3)] ((p0.aa.map ak.lv).set (j4).toNat (.agg [.I x5.ID,.al 5 (v12.map ai.lv),.al 1 (x5.ah.map LV.bool),.al 3 (x5.Uses.map ay.lv),.bool x5.ae])))] R R (by kernel_rfl) ?_ ?_
  ·refine aD (oM (v:=(.bE _ _ _ _)) R ⟨R,?_⟩)
   refine aD (oM (v:=(.bE _ _ _ _)) R ⟨R,?_⟩)
   refine mX (fL R R (by simp) (b8 mG)) ?_
   refine mX (fJ cZ c7 fE R R (by simp) (b8 mG)) ?_
   refine mX (tB (g:=ai.lv) (ys:=x5.ab) (ls:=List.map ak.lv p0.aa) (cs:=[.I x5.ID,.al 5 (x5.ab.map ai.lv),.al 1 (x5.ah.map LV.bool),.al 3 (x5.Uses.map ay.lv),.bool x5.ae]) (id2:=140) (dj:=[.I x5.ID,.eD,.al 1 (x5.ah.map LV.bool),.al 3 (x5.Uses.map ay.lv),.bool x5.ae]) R R (by simp) (b8 mG) R R R c7 ij R) ?_
   refine aD (aw fe cv cd R R R ⟨R,?_⟩)
   refine aD (bc R cv eZ cd R R ⟨R,?_⟩)
   refine aD (ej (args:=[.agg [.I p1.Item.ID,.I p1.Item.Version,.str p1.Item.bJ,.al 6 (p1.Item.aH.map aq.lv),.L p1.Item.aF]]) R B9 R (aI bm) (Cm kr) R ⟨R,?_⟩)
   refine aD (ka (f:=ai.lv) (ys:=[cm]) fw zE cd R R R ai.ok ⟨R,?_⟩)
   refine yh (nL (f:=ai.lv) fw zE cd R R (bH R) R FF ?_)
   refine mX (fL R R (by simp) (b8 mG)) ?_
   refine mX (fJ cZ c7 fE R R (by simp) (b8 mG)) ?_
   refine U8 (wD (g:=ai.lv) (ys:=v12) (ls:=List.map ak.lv p0.aa) (cs:=[.I x5.ID,.eD,.al 1 (x5.ah.map LV.bool),.al 3 (x5.Uses.map ay.lv),.bool x5.ae]) (dj:=[.I x5.ID,.al 5 (v12.map ai.lv),.al 1 (x5.ah.map LV.bool),.al 3 (x5.Uses.map ay.lv),.bool x5.ae]) R R (by simp) (b8 mG) R R R R R (bH R) c7 fE R) ?_
   exact zM
  obtain ⟨se,FG,h⟩:=ao h
  refine LH.aj [] [(811,.box [.arr 812 (List.length (p0.aa.set (j4).toNat (ak.mk x5.ID v12 se x5.Uses x5.ae)))]),(812,.nest 49 5 [(1,54,5),(2,4,1),(3,88,3)] (List.map ak.lv (p0.aa.set (j4).toNat (ak.mk x5.ID v12 se x5.Uses x5.ae))))] R ?_ ?_
  ·refine sN (oM (v:=(.bE _ _ _ _)) R ?_)
   refine sN (oM (v:=(.bE _ _ _ _)) R ?_)
   refine sX ((fL R R (by simp) (b8 mG)).ok) ?_
   refine sX ((fJ dJ dZ gN R R (by simp) (b8 mG)).ok) ?_
   refine sX ((tB (g:=LV.bool) (ys:=x5.ah) (ls:=List.map ak.lv p0.aa) (cs:=[.I x5.ID,.al 5 (v12.map ai.lv),.al 1 (x5.ah.map LV.bool),.al 3 (x5.Uses.map ay.lv),.bool x5.ae]) (id2:=152) (dj:=[.I x5.ID,.al 5 (v12.map ai.lv),.eD,.al 3 (x5.Uses.map ay.lv),.bool x5.ae]) R R (by simp) (b8 mG) R R R dZ lM R).ok) ?_
   refine sN (ka (f:=LV.bool) (ys:=[false]) jy HD lP R R R okB ?_)
   refine sN (nL (f:=LV.bool) jy HD lP R R (bH R) R FG ?_)
   refine sX ((fL R R (by simp) (b8 mG)).ok) ?_
   refine sX ((fJ dJ dZ gN R R (by simp) (b8 mG)).ok) ?_
   refine HB ((wD (g:=LV.bool) (ys:=se) (ls:=List.map ak.lv p0.aa) (cs:=[.I x5.ID,.al 5 (v12.map ai.lv),.eD,.al 3 (x5.Uses.map ay.lv),.bool x5.ae]) (dj:=[.I x5.ID,.al 5 (v12.map ai.lv),.al 1 (se.map LV.bool),.al 3 (x5.Uses.map ay.lv),.bool x5.ae]) R R (by simp) (b8 mG) R R R R R (bH R) dZ gN R).ok) ?_
   exact s0 (Wk.to eN (mC ((show _=some (LE.box [.arr 812 p0.aa.length]) from R).trans (by simp)) (mC (IP R R) mN)) R (aX R))
  refine LH.aj [(4,.I 0)] [(811,.box [.arr 812 (List.length (p0.aa.set (j4).toNat (ak.mk x5.ID v12 se x5.Uses x5.ae)))]),(812,.nest 49 5 [(1,54,5),(2,4,1),(3,88,3)] (List.map ak.lv (p0.aa.set (j4).toNat (ak.mk x5.ID v12 se x5.Uses x5.ae))))] R ?_ ?_
  ·refine bt R ?_
   exact zS
  refine LH.ret ?_
  obtain rfl:=oI h
  exact aN (aT Tryz.results58) (bO R (bL ⟨aM (mC R (mC R mN)),R,aX R,Sub.rfl⟩))
theorem J1 {F:Nat} {p0:aG} {p1:bR} {r:Option Int} (h:vy F p0 p1=some r):aO Tryz.prog 79 [.ptr 811 0,.agg [.I p1.ID,.I p1.Version]] (Mem.of [(811,.box [.arr 812 p0.aa.length]),(812,.nest 49 5 [(1,54,5),(2,4,1),(3,88,3)] (p0.aa.map ak.lv))]) (rG 812 p0.aa.length r) (Mem.of [(811,.box [.arr 812 p0.aa.length]),(812,.nest 49 5 [(1,54,5),(2,4,1),(3,88,3)] (p0.aa.map ak.lv))]):=by
  unfold vy at h
  refine bx Tryz.func79 R (nT Tryz.ntmps79 R) ?_
  refine LH.wk (Wk.eq (el:=[(0,.ptr 811 0),(1,.agg [.I p1.ID,.I p1.Version])]) (ml:=[(811,.box [.arr 812 p0.aa.length]),(812,.nest 49 5 [(1,54,5),(2,4,1),(3,88,3)] (p0.aa.map ak.lv))]) R R R R) ?_
  refine LH.aj [(0,.ptr 811 0),(3,.ag [.I p1.ID,.I p1.Version])] [(811,.box [.arr 812 p0.aa.length]),(812,.nest 49 5 [(1,54,5),(2,4,1),(3,88,3)] (p0.aa.map ak.lv))] R ?_ ?_
  ·refine sB (de R R R R ?_)
   refine sN (oA (v:=.fj) R ?_)
   exact zS
  obtain ⟨r1,ei,h⟩:=ao h
  refine LH.aj [(3,.ag [.I p1.ID,.I p1.Version]),(5,rG 812 p0.aa.length r1)] [(811,.box [.arr 812 p0.aa.length]),(812,.nest 49 5 [(1,54,5),(2,4,1),(3,88,3)] (p0.aa.map ak.lv))] R ?_ ?_
  ·refine ig R ?_
   refine sN (aw jK aE bb R R R ?_)
   refine sN (bh R aE bN ?_)
   refine sN (dX (args:=[.ptr 811 0,.I p1.ID]) (ml:=[(811,.box [.arr 812 p0.aa.length]),(812,.nest 49 5 [(1,54,5),(2,4,1),(3,88,3)] (p0.aa.map ak.lv))]) (cQ:=[(811,.box [.arr 812 p0.aa.length]),(812,.nest 49 5 [(1,54,5),(2,4,1),(3,88,3)] (p0.aa.map ak.lv))]) R FT R (aI (aI bm)) (Gq ei) ⟨R,R,trivial⟩ (bT R (bT R bU)) R ?_)
   refine sN (oA (v:=(rG _ _ _)) R ?_)
   exact s0 (Wk.to (eQ ⟨R,R,trivial⟩) ⟨R,R,trivial⟩ (by rcases r1 with _ | _ <;> exact R) (aX R))
  rcases r1 with _ | j2
  ·replace h:=Gi h
   refine LH.wk (Wk.eq (el:=[(3,.ag [.I p1.ID,.I p1.Version]),(5,.fj)]) (ml:=[(811,.box [.arr 812 p0.aa.length]),(812,.nest 49 5 [(1,54,5),(2,4,1),(3,88,3)] (p0.aa.map ak.lv))]) R R R R) ?_
   refine LH.seq ?_
   refine LH.cO mixed [] [0,4,0,0,0,0,0,0,0,0,0,0,0,0,0,0,0] [(5,.fj),(26,.bool true)] [(811,.box [.arr 812 p0.aa.length]),(812,.nest 49 5 [(1,54,5),(2,4,1),(3,88,3)] (p0.aa.map ak.lv))] R R (by kernel_rfl) ?_ ?_
   ·refine aD (oM (v:=.fj) R ⟨R,?_⟩)
    refine mM (fun _=>tA ox R R) ?_
    refine iQ R ?_
    refine mF R R R ?_
    refine mF R R R ?_
    refine mF R R R ?_
    refine aD (aZ R (v:=(.bool _)) R ⟨R,?_⟩)
    refine iQ R ?_
    refine mF R R R ?_
    refine mF R R R ?_
    refine mF R R R ?_
    refine mF R R R ?_
    refine mF R R R ?_
    refine mF R R R ?_
    refine mF R R R ?_
    refine mF R R R ?_
    refine aD (aZ R (v:=(.bool _)) R ⟨R,?_⟩)
    exact zM
   refine LH.cond (t:=true) R (fun hT=>?_) (fun hT=>?_)
   ·refine LH.aj [(4,.fj)] [(811,.box [.arr 812 p0.aa.length]),(812,.nest 49 5 [(1,54,5),(2,4,1),(3,88,3)] (p0.aa.map ak.lv))] R ?_ ?_
    ·refine sN (oA (v:=.fj) R ?_)
     exact zS
    refine LH.ret ?_
    refine aU ?_
    obtain rfl:=oI h
    exact aN (aT Tryz.results79) (bO R (bL ⟨aM (mC R (mC R mN)),R,aX R,Sub.rfl⟩))
   ·cases hT
  replace h:=Gj h
  obtain ⟨x3,gj,h⟩:=ao h
  refine LH.wk (Wk.to (el:=[(3,.ag [.I p1.ID,.I p1.Version]),(5,.bE 812 p0.aa.length (j2).toNat 0)]) (ml:=[(811,.box [.arr 812 p0.aa.length]),(812,.nest 49 5 [(1,54,5),(2,4,1),(3,88,3)] ((p0.aa.map ak.lv).set (j2).toNat (.agg [.I x3.ID,.al 5 (x3.ab.map ai.lv),.al 1 (x3.ah.map LV.bool),.al 3 (x3.Uses.map ay.lv),.bool x3.ae])))]) (eQ ⟨R,R,trivial⟩) (mC R (mC (pF gj) mN)) R (aX R)) ?_
  refine LH.seq ?_
  refine LH.cO mixed [] [0,3,0,0,0,0,0,0,0,0,0,3,3,3,3,0,0] [(5,.bE 812 p0.aa.length (j2).toNat 0),(26,.bool ((decide (p1.Version<1)) || (decide (p1.Version > (x3.ab.length:Int)))))] [(811,.box [.arr 812 p0.aa.length]),(812,.nest 49 5 [(1,54,5),(2,4,1),(3,88,3)] ((p0.aa.map ak.lv).set (j2).toNat (.agg [.I x3.ID,.al 5 (x3.ab.map ai.lv),.al 1 (x3.ah.map LV.bool),.al 3 (x3.Uses.map ay.lv),.bool x3.ae])))] R R (by kernel_rfl) ?_ ?_
  ·refine aD (oM (v:=(.bE _ _ _ _)) R ⟨R,?_⟩)
   refine mX (tz ox R R R (by simp) (b8 gj)) ?_
   refine iQ R ?_
   refine mT R R (aD (aw fa aE bb R R R ⟨R,?_⟩))
   refine mT R R (aD (bh R aE bN ⟨R,?_⟩))
   refine mT R R (aD (fy R R ⟨R,?_⟩))
   refine aD (aW R (v:=(.bool _)) R ⟨R,?_⟩)
   refine iQ R ?_
   by_cases cn:(decide (p1.Version<1))=true
   ·refine mF R R cn ?_
    refine mF R R cn ?_
    refine mF R R cn ?_
    refine mF R R cn ?_
    refine mF R R cn ?_
    refine mF R R cn ?_
    refine mF R R cn ?_
    refine mF R R cn ?_
    refine aD (aZ (cB cn) (v:=(.bool _)) R ⟨R,?_⟩)
    exact m0 (Wk.to (eC R (eC (cB (pn cn)) eN)) ⟨R,R,trivial⟩ R (aX R))
   ·replace cn:=bF cn
    refine mT R (cB cn) (aD (aw fa aE bb R R R ⟨R,?_⟩))
    refine mT R (cB cn) (aD (bh R aE bN ⟨R,?_⟩))
    refine mT R (cB cn) (aD (oM (v:=(.bE _ _ _ _)) R ⟨R,?_⟩))
    refine mT R (cB cn) (mX (fL R R (by simp) (b8 gj)) ?_)
    refine mT R (cB cn) (mX (fJ cZ c7 fE R R (by simp) (b8 gj)) ?_)
    refine mT R (cB cn) (mX (A6 (g:=ai.lv) (ys:=x3.ab) (cs:=[.I x3.ID,.al 5 (x3.ab.map ai.lv),.al 1 (x3.ah.map LV.bool),.al 3 (x3.Uses.map ay.lv),.bool x3.ae]) R R (by simp) (b8 gj) R R c7 ij) ?_)
    refine mT R (cB cn) (mX (wC fw R) ?_)
    refine mT R (cB cn) (aD (jx R R ⟨R,?_⟩))
    refine aD (aW (cB cn) (v:=(.bool _)) R ⟨R,?_⟩)
    exact m0 (Wk.to (eC R (eC (cB (gQ cn)) eN)) ⟨R,R,trivial⟩ R (aX R))
  refine LH.cond (t:=((decide (p1.Version<1)) || (decide (p1.Version > (x3.ab.length:Int))))) R (fun jd=>?_) (fun jd=>?_)
  ·replace h:=aB h jd
   refine LH.aj [(4,.fj)] [(811,.box [.arr 812 p0.aa.length]),(812,.nest 49 5 [(1,54,5),(2,4,1),(3,88,3)] (p0.aa.map ak.lv))] R ?_ ?_
   ·refine sN (oA (v:=.fj) R ?_)
    exact s0 (Wk.to (eQ ⟨R,trivial⟩) (mC R (mC (pF gj).symm mN)) R (aX R))
   refine LH.ret ?_
   refine aU ?_
   obtain rfl:=oI h
   exact aN (aT Tryz.results79) (bO R (bL ⟨aM (mC R (mC R mN)),R,aX R,Sub.rfl⟩))
  replace h:=aA h jd
  refine LH.skip ?_
  refine au ?_
  refine LH.aj [(4,.bE 812 p0.aa.length (j2).toNat 0)] [(811,.box [.arr 812 p0.aa.length]),(812,.nest 49 5 [(1,54,5),(2,4,1),(3,88,3)] ((p0.aa.map ak.lv).set (j2).toNat (.agg [.I x3.ID,.al 5 (x3.ab.map ai.lv),.al 1 (x3.ah.map LV.bool),.al 3 (x3.Uses.map ay.lv),.bool x3.ae])))] R ?_ ?_
  ·refine sN (oM (v:=(.bE _ _ _ _)) R ?_)
   refine sN (oA (v:=(.bE _ _ _ _)) R ?_)
   exact zS
  refine LH.ret ?_
  obtain rfl:=oI h
  exact aN (aT Tryz.results79) (bO R (bL ⟨aM (mC R (mC (pF gj).symm mN)),R,aX R,Sub.rfl⟩))
theorem J0 {F:Nat} {p0:aG} {p1:ax} {r:Int × aG} (h:vw F p0 p1=some r):aO Tryz.prog 59 [.ptr 811 0,.agg [.I p1.ar.Time,.I p1.ar.Source,.I p1.ar.Seq,.I p1.Kind,.I p1.Item.ID,.I p1.Item.Version,.str p1.Item.bJ,.al 6 (p1.Item.aH.map aq.lv),.L p1.Item.aF,.I p1.Ref.ID,.I p1.Ref.Version,.I p1.Form]] (Mem.of [(811,.box [.arr 812 p0.aa.length]),(812,.nest 49 5 [(1,54,5),(2,4,1),(3,88,3)] (p0.aa.map ak.lv))]) (.I r.1) (Mem.of [(811,.box [.arr 812 r.2.aa.length]),(812,.nest 49 5 [(1,54,5),(2,4,1),(3,88,3)] (r.2.aa.map ak.lv))]):=by
  unfold vw at h
  refine bx Tryz.func59 R (nT Tryz.ntmps59 R) ?_
  refine LH.wk (Wk.eq (el:=[(0,.ptr 811 0),(1,.agg [.I p1.ar.Time,.I p1.ar.Source,.I p1.ar.Seq,.I p1.Kind,.I p1.Item.ID,.I p1.Item.Version,.str p1.Item.bJ,.al 6 (p1.Item.aH.map aq.lv),.L p1.Item.aF,.I p1.Ref.ID,.I p1.Ref.Version,.I p1.Form])]) (ml:=[(811,.box [.arr 812 p0.aa.length]),(812,.nest 49 5 [(1,54,5),(2,4,1),(3,88,3)] (p0.aa.map ak.lv))]) R R R R) ?_
  refine LH.aj [(0,.ptr 811 0),(3,.ag [.I p1.ar.Time,.I p1.ar.Source,.I p1.ar.Seq,.I p1.Kind,.I p1.Item.ID,.I p1.Item.Version,.str p1.Item.bJ,.al 6 (p1.Item.aH.map aq.lv),.L p1.Item.aF,.I p1.Ref.ID,.I p1.Ref.Version,.I p1.Form])] [(811,.box [.arr 812 p0.aa.length]),(812,.nest 49 5 [(1,54,5),(2,4,1),(3,88,3)] (p0.aa.map ak.lv))] R ?_ ?_
  ·refine sB (de R R R R ?_)
   refine bt R ?_
   exact zS
  obtain ⟨r1,ei,h⟩:=ao h
  refine LH.aj [(3,.ag [.I p1.ar.Time,.I p1.ar.Source,.I p1.ar.Seq,.I p1.Kind,.I p1.Item.ID,.I p1.Item.Version,.str p1.Item.bJ,.al 6 (p1.Item.aH.map aq.lv),.L p1.Item.aF,.I p1.Ref.ID,.I p1.Ref.Version,.I p1.Form]),(5,rG 812 p0.aa.length r1)] [(811,.box [.arr 812 p0.aa.length]),(812,.nest 49 5 [(1,54,5),(2,4,1),(3,88,3)] (p0.aa.map ak.lv))] R ?_ ?_
  ·refine ig R ?_
   refine sN (aw e5 gM gA R R R ?_)
   refine sN (bc R gM wZ gA R R ?_)
   refine sN (dX (args:=[.ptr 811 0,.agg [.I p1.Ref.ID,.I p1.Ref.Version]]) (ml:=[(811,.box [.arr 812 p0.aa.length]),(812,.nest 49 5 [(1,54,5),(2,4,1),(3,88,3)] (p0.aa.map ak.lv))]) (cQ:=[(811,.box [.arr 812 p0.aa.length]),(812,.nest 49 5 [(1,54,5),(2,4,1),(3,88,3)] (p0.aa.map ak.lv))]) R JF R (aI (aI bm)) (J1 ei) ⟨R,R,trivial⟩ (bT R (bT R bU)) R ?_)
   refine sN (oA (v:=(rG _ _ _)) R ?_)
   exact s0 (Wk.to (eQ ⟨R,R,trivial⟩) ⟨R,R,trivial⟩ (by rcases r1 with _ | _ <;> exact R) (aX R))
  rcases r1 with _ | j2
  ·replace h:=Gi h
   refine LH.wk (Wk.eq (el:=[(3,.ag [.I p1.ar.Time,.I p1.ar.Source,.I p1.ar.Seq,.I p1.Kind,.I p1.Item.ID,.I p1.Item.Version,.str p1.Item.bJ,.al 6 (p1.Item.aH.map aq.lv),.L p1.Item.aF,.I p1.Ref.ID,.I p1.Ref.Version,.I p1.Form]),(5,.fj)]) (ml:=[(811,.box [.arr 812 p0.aa.length]),(812,.nest 49 5 [(1,54,5),(2,4,1),(3,88,3)] (p0.aa.map ak.lv))]) R R R R) ?_
   refine LH.seq ?_
   refine LH.aj [(3,.ag [.I p1.ar.Time,.I p1.ar.Source,.I p1.ar.Seq,.I p1.Kind,.I p1.Item.ID,.I p1.Item.Version,.str p1.Item.bJ,.al 6 (p1.Item.aH.map aq.lv),.L p1.Item.aF,.I p1.Ref.ID,.I p1.Ref.Version,.I p1.Form]),(5,.fj),(11,.bool true)] [(811,.box [.arr 812 p0.aa.length]),(812,.nest 49 5 [(1,54,5),(2,4,1),(3,88,3)] (p0.aa.map ak.lv))] R ?_ ?_
   ·refine sN (oM (v:=.fj) R ?_)
    refine sX ((tA ox R R).ok) ?_
    exact zS
   refine LH.cond (t:=true) R (fun hT=>?_) (fun hT=>?_)
   ·refine LH.aj [(4,.I 4)] [(811,.box [.arr 812 p0.aa.length]),(812,.nest 49 5 [(1,54,5),(2,4,1),(3,88,3)] (p0.aa.map ak.lv))] R ?_ ?_
    ·refine bt R ?_
     exact zS
    refine LH.ret ?_
    refine aU ?_
    obtain rfl:=oI h
    exact aN (aT Tryz.results59) (bO R (bL ⟨aM (mC R (mC R mN)),R,aX R,Sub.rfl⟩))
   ·cases hT
  replace h:=Gj h
  obtain ⟨x3,gj,h⟩:=ao h
  refine LH.wk (Wk.to (el:=[(3,.ag [.I p1.ar.Time,.I p1.ar.Source,.I p1.ar.Seq,.I p1.Kind,.I p1.Item.ID,.I p1.Item.Version,.str p1.Item.bJ,.al 6 (p1.Item.aH.map aq.lv),.L p1.Item.aF,.I p1.Ref.ID,.I p1.Ref.Version,.I p1.Form]),(5,.bE 812 p0.aa.length (j2).toNat 0)]) (ml:=[(811,.box [.arr 812 p0.aa.length]),(812,.nest 49 5 [(1,54,5),(2,4,1),(3,88,3)] ((p0.aa.map ak.lv).set (j2).toNat (.agg [.I x3.ID,.al 5 (x3.ab.map ai.lv),.al 1 (x3.ah.map LV.bool),.al 3 (x3.Uses.map ay.lv),.bool x3.ae])))]) (eQ ⟨R,R,trivial⟩) (mC R (mC (pF gj) mN)) R (aX R)) ?_
  refine LH.seq ?_
  refine LH.aj [(3,.ag [.I p1.ar.Time,.I p1.ar.Source,.I p1.ar.Seq,.I p1.Kind,.I p1.Item.ID,.I p1.Item.Version,.str p1.Item.bJ,.al 6 (p1.Item.aH.map aq.lv),.L p1.Item.aF,.I p1.Ref.ID,.I p1.Ref.Version,.I p1.Form]),(5,.bE 812 p0.aa.length (j2).toNat 0),(11,.bool false)] [(811,.box [.arr 812 p0.aa.length]),(812,.nest 49 5 [(1,54,5),(2,4,1),(3,88,3)] ((p0.aa.map ak.lv).set (j2).toNat (.agg [.I x3.ID,.al 5 (x3.ab.map ai.lv),.al 1 (x3.ah.map LV.bool),.al 3 (x3.Uses.map ay.lv),.bool x3.ae])))] R ?_ ?_
  ·refine sN (oM (v:=(.bE _ _ _ _)) R ?_)
   refine sX ((tz ox R R R (by simp) (b8 gj)).ok) ?_
   exact zS
  refine LH.cond (t:=false) R (fun kM=>?_) (fun kM=>?_)
  ·cases kM
  refine LH.skip ?_
  refine au ?_
  refine LH.wk (Wk.eq (el:=[(3,.ag [.I p1.ar.Time,.I p1.ar.Source,.I p1.ar.Seq,.I p1.Kind,.I p1.Item.ID,.I p1.Item.Version,.str p1.Item.bJ,.al 6 (p1.Item.aH.map aq.lv),.L p1.Item.aF,.I p1.Ref.ID,.I p1.Ref.Version,.I p1.Form]),(5,.bE 812 p0.aa.length (j2).toNat 0)]) (ml:=[(811,.box [.arr 812 p0.aa.length]),(812,.nest 49 5 [(1,54,5),(2,4,1),(3,88,3)] ((p0.aa.map ak.lv).set (j2).toNat (.agg [.I x3.ID,.al 5 (x3.ab.map ai.lv),.al 1 (x3.ah.map LV.bool),.al 3 (x3.Uses.map ay.lv),.bool x3.ae])))]) R R R R) ?_
  refine LH.seq ?_
  refine LH.aj [(3,.ag [.I p1.ar.Time,.I p1.ar.Source,.I p1.ar.Seq,.I p1.Kind,.I p1.Item.ID,.I p1.Item.Version,.str p1.Item.bJ,.al 6 (p1.Item.aH.map aq.lv),.L p1.Item.aF,.I p1.Ref.ID,.I p1.Ref.Version,.I p1.Form]),(5,.bE 812 p0.aa.length (j2).toNat 0),(15,.bool x3.ae)] [(811,.box [.arr 812 p0.aa.length]),(812,.nest 49 5 [(1,54,5),(2,4,1),(3,88,3)] ((p0.aa.map ak.lv).set (j2).toNat (.agg [.I x3.ID,.al 5 (x3.ab.map ai.lv),.al 1 (x3.ah.map LV.bool),.al 3 (x3.Uses.map ay.lv),.bool x3.ae])))] R ?_ ?_
  ·refine sN (oM (v:=(.bE _ _ _ _)) R ?_)
   refine sX ((fL R R (by simp) (b8 gj)).ok) ?_
   refine sX ((fJ ja jL lP R R (by simp) (b8 gj)).ok) ?_
   refine sX ((wB (cs:=[.I x3.ID,.al 5 (x3.ab.map ai.lv),.al 1 (x3.ah.map LV.bool),.al 3 (x3.Uses.map ay.lv),.bool x3.ae]) R R (by simp) (b8 gj) R R jL uN).ok) ?_
   exact zS
  refine LH.cond (t:=x3.ae) R (fun fQ=>?_) (fun fQ=>?_)
  ·replace h:=aB h fQ
   refine LH.aj [(4,.I 8)] [(811,.box [.arr 812 p0.aa.length]),(812,.nest 49 5 [(1,54,5),(2,4,1),(3,88,3)] (p0.aa.map ak.lv))] R ?_ ?_
   ·refine bt R ?_
    exact s0 (Wk.to (eQ ⟨R,trivial⟩) (mC R (mC (pF gj).symm mN)) R (aX R))
   refine LH.ret ?_
   refine aU ?_
   obtain rfl:=oI h
   exact aN (aT Tryz.results59) (bO R (bL ⟨aM (mC R (mC R mN)),R,aX R,Sub.rfl⟩))
  replace h:=aA h fQ
  refine LH.skip ?_
  refine au ?_
  refine LH.wk (Wk.eq (el:=[(3,.ag [.I p1.ar.Time,.I p1.ar.Source,.I p1.ar.Seq,.I p1.Kind,.I p1.Item.ID,.I p1.Item.Version,.str p1.Item.bJ,.al 6 (p1.Item.aH.map aq.lv),.L p1.Item.aF,.I p1.Ref.ID,.I p1.Ref.Version,.I p1.Form]),(5,.bE 812 p0.aa.length (j2).toNat 0)]) (ml:=[(811,.box [.arr 812 p0.aa.length]),(812,.nest 49 5 [(1,54,5),(2,4,1),(3,88,3)] ((p0.aa.map ak.lv).set (j2).toNat (.agg [.I x3.ID,.al 5 (x3.ab.map ai.lv),.al 1 (x3.ah.map LV.bool),.al 3 (x3.Uses.map ay.lv),.bool x3.ae])))]) R R R R) ?_
  refine LH.seq ?_
  obtain ⟨x7,xm,h⟩:=ao h
  refine LH.cO mixed [] [0,3,3,3,0,0,0,0,1119,1119] [(3,.ag [.I p1.ar.Time,.I p1.ar.Source,.I p1.ar.Seq,.I p1.Kind,.I p1.Item.ID,.I p1.Item.Version,.str p1.Item.bJ,.al 6 (p1.Item.aH.map aq.lv),.L p1.Item.aF,.I p1.Ref.ID,.I p1.Ref.Version,.I p1.Form]),(5,.bE 812 p0.aa.length (j2).toNat 0),(25,.bool x7)] [(811,.box [.arr 812 p0.aa.length]),(812,.nest 49 5 [(1,54,5),(2,4,1),(3,88,3)] ((p0.aa.map ak.lv).set (j2).toNat (.agg [.I x3.ID,.al 5 (x3.ab.map ai.lv),.al 1 (x3.ah.map LV.bool),.al 3 (x3.Uses.map ay.lv),.bool x3.ae])))] R R (by kernel_rfl) ?_ ?_
  ·refine aD (oM (v:=(.bE _ _ _ _)) R ⟨R,?_⟩)
   refine mX (fL R R (by simp) (b8 gj)) ?_
   refine mX (fJ dJ dZ gN R R (by simp) (b8 gj)) ?_
   refine mX (nO (g:=LV.bool) (ys:=x3.ah) (ls:=List.map ak.lv p0.aa) (cs:=[.I x3.ID,.al 5 (x3.ab.map ai.lv),.al 1 (x3.ah.map LV.bool),.al 3 (x3.Uses.map ay.lv),.bool x3.ae]) (id2:=119) (dj:=[.I x3.ID,.al 5 (x3.ab.map ai.lv),.eD,.al 3 (x3.Uses.map ay.lv),.bool x3.ae]) R R (by simp) (b8 gj) R R R dZ lM R) ?_
   refine aD (aw e5 gM gA R R R ⟨R,?_⟩)
   refine aD (aw fa aE bb R R R ⟨R,?_⟩)
   refine aD (bh R aE bN ⟨R,?_⟩)
   refine aD (iS R R ⟨R,?_⟩)
   refine mD R R R (fun _ b _ d=>gV (f:=LV.bool) jy jL lP R b R xm d) ?_
   refine mD R R R (fun _ b _ d=>wz (f:=LV.bool) R b (dB xm).2 R R R jL uN d) ?_
   exact m0 (Wk.trans (Wk.sd (id:=812) (id2:=119) (o0:=2) (i:=(j2).toNat) (n2:=List.length x3.ah) (g:=LV.bool) (ys:=x3.ah) (ls:=List.map ak.lv p0.aa) (cs:=[.I x3.ID,.al 5 (x3.ab.map ai.lv),.eD,.al 3 (x3.Uses.map ay.lv),.bool x3.ae]) (dj:=[.I x3.ID,.al 5 (x3.ab.map ai.lv),.al 1 (x3.ah.map LV.bool),.al 3 (x3.Uses.map ay.lv),.bool x3.ae]) R (b8 gj) R R R R (bH R) R) (Wk.eq R R R R))
  refine LH.cond (t:=x7) R (fun kY=>?_) (fun kY=>?_)
  ·replace h:=aB h kY
   refine LH.aj [(4,.I 5)] [(811,.box [.arr 812 p0.aa.length]),(812,.nest 49 5 [(1,54,5),(2,4,1),(3,88,3)] (p0.aa.map ak.lv))] R ?_ ?_
   ·refine bt R ?_
    exact s0 (Wk.to (eQ ⟨R,trivial⟩) (mC R (mC (pF gj).symm mN)) R (aX R))
   refine LH.ret ?_
   refine aU ?_
   obtain rfl:=oI h
   exact aN (aT Tryz.results59) (bO R (bL ⟨aM (mC R (mC R mN)),R,aX R,Sub.rfl⟩))
  replace h:=aA h kY
  refine LH.skip ?_
  refine au ?_
  obtain ⟨x9,xn,h⟩:=ao h
  refine LH.cO mixed [] [0,3,3,3,0,0,0,0,1129,100129] [] [(811,.box [.arr 812 (List.length (p0.aa.set (j2).toNat (ak.mk x3.ID x3.ab (x3.ah.set ((i64 (p1.Ref.Version - 1)).toNat) true) x3.Uses x3.ae)))]),(812,.nest 49 5 [(1,54,5),(2,4,1),(3,88,3)] (List.map ak.lv (p0.aa.set (j2).toNat (ak.mk x3.ID x3.ab (x3.ah.set ((i64 (p1.Ref.Version - 1)).toNat) true) x3.Uses x3.ae))))] R R (by kernel_rfl) ?_ ?_
  ·refine aD (oM (v:=(.bE _ _ _ _)) R ⟨R,?_⟩)
   refine mX (fL R R (by simp) (b8 gj)) ?_
   refine mX (fJ dJ dZ gN R R (by simp) (b8 gj)) ?_
   refine mX (nO (g:=LV.bool) (ys:=x3.ah) (ls:=List.map ak.lv p0.aa) (cs:=[.I x3.ID,.al 5 (x3.ab.map ai.lv),.al 1 (x3.ah.map LV.bool),.al 3 (x3.Uses.map ay.lv),.bool x3.ae]) (id2:=129) (dj:=[.I x3.ID,.al 5 (x3.ab.map ai.lv),.eD,.al 3 (x3.Uses.map ay.lv),.bool x3.ae]) R R (by simp) (b8 gj) R R R dZ lM R) ?_
   refine aD (aw e5 gM gA R R R ⟨R,?_⟩)
   refine aD (aw fa aE bb R R R ⟨R,?_⟩)
   refine aD (bh R aE bN ⟨R,?_⟩)
   refine aD (iS R R ⟨R,?_⟩)
   refine mD R R R (fun _ b _ d=>gV (f:=LV.bool) jy jL lP R b R xn d) ?_
   refine mS R R R (fun _ b _ d=>qx (f:=LV.bool) (z':=true) R R R R jL lP b (dB xn).2 R d) ?_
   exact m0 (Wk.trans (Wk.sd (id:=812) (id2:=129) (o0:=2) (i:=(j2).toNat) (n2:=List.length x3.ah) (g:=LV.bool) (ys:=(x3.ah.set ((i64 (p1.Ref.Version - 1)).toNat) true)) (ls:=List.map ak.lv p0.aa) (cs:=[.I x3.ID,.al 5 (x3.ab.map ai.lv),.eD,.al 3 (x3.Uses.map ay.lv),.bool x3.ae]) (dj:=[.I x3.ID,.al 5 (x3.ab.map ai.lv),.al 1 (List.map LV.bool (x3.ah.set ((i64 (p1.Ref.Version - 1)).toNat) true)),.al 3 (x3.Uses.map ay.lv),.bool x3.ae]) R (b8 gj) R R R (by simp) (bH R) R) (Wk.to eN (mC ((show _=some (LE.box [.arr 812 p0.aa.length]) from R).trans (by simp)) (mC (IP R R) mN)) R (aX R)))
  refine LH.aj [(4,.I 0)] [(811,.box [.arr 812 (List.length (p0.aa.set (j2).toNat (ak.mk x3.ID x3.ab (x3.ah.set ((i64 (p1.Ref.Version - 1)).toNat) true) x3.Uses x3.ae)))]),(812,.nest 49 5 [(1,54,5),(2,4,1),(3,88,3)] (List.map ak.lv (p0.aa.set (j2).toNat (ak.mk x3.ID x3.ab (x3.ah.set ((i64 (p1.Ref.Version - 1)).toNat) true) x3.Uses x3.ae))))] R ?_ ?_
  ·refine bt R ?_
   exact zS
  refine LH.ret ?_
  obtain rfl:=oI h
  exact aN (aT Tryz.results59) (bO R (bL ⟨aM (mC R (mC R mN)),R,aX R,Sub.rfl⟩))
theorem Qz {p0:ay} {c0:ax} {r:Bool} (h:Cw p0 c0=some r):aO Tryz.prog 80 [.agg [.I p0.Version,.I p0.Form,.I p0.Time],.ag (ax.lv c0).cells] (Mem.of []) (.bool r) (Mem.of []):=by
  unfold Cw at h
  refine bx Tryz.func80 R (nT Tryz.ntmps80 R) (LH.wk (aQ [(0,.agg [.I p0.Version,.I p0.Form,.I p0.Time]),(1,.ag (ax.lv c0).cells)] []) (LH.aj [(1,.ag (ax.lv c0).cells),(2,.ag [.I p0.Version,.I p0.Form,.I p0.Time])] [] R (sB (de R R R R (ct R zS))) (LH.aj [(3,.bool (p0.Form == c0.Form))] [] R (sN (aw xd aE bb R R R (sN (bh R aE bN (sN (aw lg aE bb R R R (sN (bh R aE bN (sN (gr R R (ct R zS))))))))))) (LH.ret ?_))))
  obtain rfl:=oI h
  exact aN (aT Tryz.results80) (bO R (bL ⟨aM mN,R,aX R,Sub.rfl⟩))
theorem P1 {F:Nat} {p0:List ay} {p1:(ay→Option Bool)} {r:Int} {dY:Nat} {df:List LV} (A7:eh Tryz.prog dY) (o7:LV.bo df=true) (A8:∀ (x0:ay) (q:Bool),p1 x0=some q→aO Tryz.prog dY ([.agg [.I x0.Version,.I x0.Form,.I x0.Time]]++df) (Mem.of []) (.bool q) (Mem.of [])) (h:Iy F p0 p1=some r):aO Tryz.prog 65 [.al 3 (p0.map ay.lv),.fn dY df] (Mem.of []) (.I r) (Mem.of []):=by
  have Gk:∀ {l:List LV},LV.bo l=true→LV.bo (l++df)=true:=Mp o7
  have eG:LV.bK df=[]:=gl o7
  unfold Iy at h
  refine bx Tryz.func65 R (nT Tryz.ntmps65 R) (LH.wk (Wk.to (el:=[(0,.al 3 (p0.map ay.lv)),(1,.fn dY df)]) (ml:=[]) (eQ ⟨R,R,trivial⟩) mN (by simp [aV,LV.refs,LV.bK,LV.cells,da,Env.args,Env.of,Env.put,Env.drop,eG]) (aX R)) (LH.aj [(0,.al 3 (p0.map ay.lv)),(1,.fn dY df)] [] R (bt R (s0 (Wk.to (eQ ⟨R,R,trivial⟩) mN (by simp [aV,LV.refs,LV.bK,LV.cells,da,Env.args,Env.of,Env.put,Env.drop,eG]) (aX R)))) (LH.seq (LH.aj [(0,.al 3 (p0.map ay.lv)),(1,.fn dY df),(7,.I (p0.length:Int)),(8,.I 0)] [] R (fh R (sN (bV (f:=ay.lv) iZ R (br R (s0 (Wk.to (eQ ⟨R,R,R,R,trivial⟩) mN (by simp [aV,LV.refs,LV.bK,LV.cells,da,Env.args,Env.of,Env.put,Env.drop,eG]) (aX R))))))) (LH.block (LH.loop (fun n e m=>∃ (n1:Int),Mq p0 p1 n n1=some r∧e=Env.of [(0,.al 3 (p0.map ay.lv)),(1,.fn dY df),(7,.I (p0.length:Int)),(8,.I n1)]∧m=Mem.of []) F ⟨0,h,R,R⟩ ?_))))))
  clear h
  rintro n e m ⟨n1,h,rfl,rfl⟩
  rcases n with _ | n
  · cases (show Option.none=some _ from h)
  obtain ⟨aK,a7⟩:∃ f,f=Mq p0 p1 n:=⟨_,rfl⟩
  replace h:Gp p0 p1 aK n1=some r:=a7 ▸ h
  unfold Gp at h
  refine LH.aj [(0,.al 3 (p0.map ay.lv)),(1,.fn dY df),(7,.I (p0.length:Int)),(8,.I n1),(9,.bool (decide (n1<(p0.length:Int))))] [] R (sN (fy R R (s0 (Wk.to (eQ ⟨R,R,R,R,R,trivial⟩) mN (by simp [aV,LV.refs,LV.bK,LV.cells,da,Env.args,Env.of,Env.put,Env.drop,eG]) (aX R))))) (LH.seq (LH.cond (t:=(decide (n1<(p0.length:Int)))) R (fun fG=>?_) (fun fG=>?_)))
  ·replace h:=aB h fG
   refine LH.skip (au (LH.wk (Wk.to (el:=[(0,.al 3 (p0.map ay.lv)),(1,.fn dY df),(7,.I (p0.length:Int)),(8,.I n1)]) (ml:=[]) (eQ ⟨R,R,R,R,trivial⟩) mN (by simp [aV,LV.refs,LV.bK,LV.cells,da,Env.args,Env.of,Env.put,Env.drop,eG]) (aX R)) (LH.seq (LH.block (LH.aj [(0,.al 3 (p0.map ay.lv)),(1,.fn dY df),(5,.I n1),(7,.I (p0.length:Int)),(8,.I n1)] [] R (br R (bt R (s0 (Wk.to (eQ ⟨R,R,R,R,R,trivial⟩) mN (by simp [aV,LV.refs,LV.bK,LV.cells,da,Env.args,Env.of,Env.put,Env.drop,eG]) (aX R))))) ?_)))))
   obtain ⟨x3,gj,h⟩:=ao h
   obtain ⟨r4,Fw,h⟩:=ao h
   refine LH.aj [(0,.al 3 (p0.map ay.lv)),(1,.fn dY df),(5,.I n1),(7,.I (p0.length:Int)),(8,.I n1),(16,.bool r4)] [] R ?_ ?_
   ·refine sN (oM (v:=(.fn _ _)) R (fh R (br R (sN (eM (f:=ay.lv) iZ rN l0 R R ay.ok gj R (sN (bc R rN IJ l0 R R (sN (ej (args:=[.agg [.I x3.Version,.I x3.Form,.I x3.Time]]++df) (gB:=[.agg [.I x3.Version,.I x3.Form,.I x3.Time]]++df) R A7 R fo.rfl (A8 _ _ Fw) (Gk R) ?_)))))))))
    exact s0 (Wk.to (eQ ⟨R,R,R,R,R,R,trivial⟩) mN (by simp [aV,LV.refs,LV.bK,LV.cells,da,Env.args,Env.of,Env.put,Env.drop,eG]) (aX R))
   refine LH.cond (t:=r4) R (fun kM=>?_) (fun kM=>?_)
   ·replace h:=aB h kM
    refine LH.aj [(4,.I n1)] [] R (br R (bt R (s0 (Wk.to (eQ ⟨R,trivial⟩) mN (by simp [aV,LV.refs,LV.bK,LV.cells,da,Env.args,Env.of,Env.put,Env.drop,eG]) (aX R))))) (LH.ret (bD (aU (dW (bD (aU ?_))))))
    obtain rfl:=oI h
    exact aN (aT Tryz.results65) (bO R (bL ⟨aM mN,R,aX R,Sub.rfl⟩))
   replace h:=aA h kM
   refine LH.skip (aY (au (LH.aS [(0,.al 3 (p0.map ay.lv)),(1,.fn dY df),(7,.I (p0.length:Int)),(8,.I (i64 (n1+1)))] [] R (sN (cI R R (br R (s0 (Wk.to (eQ ⟨R,R,R,R,trivial⟩) mN (by simp [aV,LV.refs,LV.bK,LV.cells,da,Env.args,Env.of,Env.put,Env.drop,eG]) (aX R)))))) ?_)))
   exact bl ⟨(i64 (n1+1)),a7 ▸ h,R,R⟩ (Wk.to (eQ ⟨R,R,R,R,trivial⟩) mN (by simp [aV,LV.refs,LV.bK,LV.cells,da,Env.args,Env.of,Env.put,Env.drop,eG]) (aX R))
  replace h:=aA h fG
  refine LH.exit (cD (b6 (bP (au (LH.aj [(4,.I (-1))] [] R (bt R (s0 (Wk.to (eQ ⟨R,trivial⟩) mN (by simp [aV,LV.refs,LV.bK,LV.cells,da,Env.args,Env.of,Env.put,Env.drop,eG]) (aX R)))) (LH.ret ?_))))))
  obtain rfl:=oI h
  exact aN (aT Tryz.results65) (bO R (bL ⟨aM mN,R,aX R,Sub.rfl⟩))
theorem JS {F:Nat} {p0:List ay} {p1:(ay→Option Bool)} {r:Bool} {dY:Nat} {df:List LV} (A7:eh Tryz.prog dY) (o7:LV.bo df=true) (A8:∀ (x0:ay) (q:Bool),p1 x0=some q→aO Tryz.prog dY ([.agg [.I x0.Version,.I x0.Form,.I x0.Time]]++df) (Mem.of []) (.bool q) (Mem.of [])) (h:Dz F p0 p1=some r):aO Tryz.prog 36 [.al 3 (p0.map ay.lv),.fn dY df] (Mem.of []) (.bool r) (Mem.of []):=by
  have Gk:∀ {l:List LV},LV.bo l=true→LV.bo (l++df)=true:=Mp o7
  have eG:LV.bK df=[]:=gl o7
  unfold Dz at h
  refine bx Tryz.func36 R (nT Tryz.ntmps36 R) (LH.wk (Wk.to (el:=[(0,.al 3 (p0.map ay.lv)),(1,.fn dY df)]) (ml:=[]) (eQ ⟨R,R,trivial⟩) mN (by simp [aV,LV.refs,LV.bK,LV.cells,da,Env.args,Env.of,Env.put,Env.drop,eG]) (aX R)) (LH.aj [(0,.al 3 (p0.map ay.lv)),(1,.fn dY df)] [] R (ct R (s0 (Wk.to (eQ ⟨R,R,trivial⟩) mN (by simp [aV,LV.refs,LV.bK,LV.cells,da,Env.args,Env.of,Env.put,Env.drop,eG]) (aX R)))) ?_))
  obtain ⟨r1,ei,h⟩:=ao h
  refine LH.aj [(4,.bool (decide (r1 ≥ 0)))] [] R (fh R (sN (oM (v:=(.fn _ _)) R (sN (ej (args:=[.al 3 (p0.map ay.lv),.fn dY df]) R Ph R (aI (aI bm)) (P1 A7 o7 A8 ei) (by simp [LV.pure,LV.bo,o7]) (sN (pW R R (ct R (s0 (Wk.to (eQ ⟨R,trivial⟩) mN (by simp [aV,LV.refs,LV.bK,LV.cells,da,Env.args,Env.of,Env.put,Env.drop,eG]) (aX R))))))))))) (LH.ret ?_)
  obtain rfl:=oI h
  exact aN (aT Tryz.results36) (bO R (bL ⟨aM mN,R,aX R,Sub.rfl⟩))
theorem Kb {F:Nat} {p0:aG} {p1:ax} {r:Int × aG} (h:lq F p0 p1=some r):aO Tryz.prog 60 [.ptr 811 0,.agg [.I p1.ar.Time,.I p1.ar.Source,.I p1.ar.Seq,.I p1.Kind,.I p1.Item.ID,.I p1.Item.Version,.str p1.Item.bJ,.al 6 (p1.Item.aH.map aq.lv),.L p1.Item.aF,.I p1.Ref.ID,.I p1.Ref.Version,.I p1.Form]] (Mem.of [(811,.box [.arr 812 p0.aa.length]),(812,.nest 49 5 [(1,54,5),(2,4,1),(3,88,3)] (p0.aa.map ak.lv))]) (.I r.1) (Mem.of [(811,.box [.arr 812 r.2.aa.length]),(812,.nest 49 5 [(1,54,5),(2,4,1),(3,88,3)] (r.2.aa.map ak.lv))]):=by
  unfold lq at h
  refine bx Tryz.func60 R (nT Tryz.ntmps60 R) ?_
  refine LH.wk (Wk.eq (el:=[(0,.ptr 811 0),(1,.agg [.I p1.ar.Time,.I p1.ar.Source,.I p1.ar.Seq,.I p1.Kind,.I p1.Item.ID,.I p1.Item.Version,.str p1.Item.bJ,.al 6 (p1.Item.aH.map aq.lv),.L p1.Item.aF,.I p1.Ref.ID,.I p1.Ref.Version,.I p1.Form])]) (ml:=[(811,.box [.arr 812 p0.aa.length]),(812,.nest 49 5 [(1,54,5),(2,4,1),(3,88,3)] (p0.aa.map ak.lv))]) R R R R) ?_
  refine LH.aj [(0,.ptr 811 0),(3,.ag [.I p1.ar.Time,.I p1.ar.Source,.I p1.ar.Seq,.I p1.Kind,.I p1.Item.ID,.I p1.Item.Version,.str p1.Item.bJ,.al 6 (p1.Item.aH.map aq.lv),.L p1.Item.aF,.I p1.Ref.ID,.I p1.Ref.Version,.I p1.Form])] [(811,.box [.arr 812 p0.aa.length]),(812,.nest 49 5 [(1,54,5),(2,4,1),(3,88,3)] (p0.aa.map ak.lv))] R ?_ ?_
  ·refine sB (de R R R R ?_)
   refine bt R ?_
   exact zS
  obtain ⟨r1,ei,h⟩:=ao h
  refine LH.aj [(3,.ag [.I p1.ar.Time,.I p1.ar.Source,.I p1.ar.Seq,.I p1.Kind,.I p1.Item.ID,.I p1.Item.Version,.str p1.Item.bJ,.al 6 (p1.Item.aH.map aq.lv),.L p1.Item.aF,.I p1.Ref.ID,.I p1.Ref.Version,.I p1.Form]),(5,rG 812 p0.aa.length r1)] [(811,.box [.arr 812 p0.aa.length]),(812,.nest 49 5 [(1,54,5),(2,4,1),(3,88,3)] (p0.aa.map ak.lv))] R ?_ ?_
  ·refine ig R ?_
   refine sN (aw e5 gM gA R R R ?_)
   refine sN (bc R gM wZ gA R R ?_)
   refine sN (dX (args:=[.ptr 811 0,.agg [.I p1.Ref.ID,.I p1.Ref.Version]]) (ml:=[(811,.box [.arr 812 p0.aa.length]),(812,.nest 49 5 [(1,54,5),(2,4,1),(3,88,3)] (p0.aa.map ak.lv))]) (cQ:=[(811,.box [.arr 812 p0.aa.length]),(812,.nest 49 5 [(1,54,5),(2,4,1),(3,88,3)] (p0.aa.map ak.lv))]) R JF R (aI (aI bm)) (J1 ei) ⟨R,R,trivial⟩ (bT R (bT R bU)) R ?_)
   refine sN (oA (v:=(rG _ _ _)) R ?_)
   exact s0 (Wk.to (eQ ⟨R,R,trivial⟩) ⟨R,R,trivial⟩ (by rcases r1 with _ | _ <;> exact R) (aX R))
  rcases r1 with _ | j2
  ·replace h:=Gi h
   refine LH.wk (Wk.eq (el:=[(3,.ag [.I p1.ar.Time,.I p1.ar.Source,.I p1.ar.Seq,.I p1.Kind,.I p1.Item.ID,.I p1.Item.Version,.str p1.Item.bJ,.al 6 (p1.Item.aH.map aq.lv),.L p1.Item.aF,.I p1.Ref.ID,.I p1.Ref.Version,.I p1.Form]),(5,.fj)]) (ml:=[(811,.box [.arr 812 p0.aa.length]),(812,.nest 49 5 [(1,54,5),(2,4,1),(3,88,3)] (p0.aa.map ak.lv))]) R R R R) ?_
   refine LH.seq ?_
   refine LH.aj [(3,.ag [.I p1.ar.Time,.I p1.ar.Source,.I p1.ar.Seq,.I p1.Kind,.I p1.Item.ID,.I p1.Item.Version,.str p1.Item.bJ,.al 6 (p1.Item.aH.map aq.lv),.L p1.Item.aF,.I p1.Ref.ID,.I p1.Ref.Version,.I p1.Form]),(5,.fj),(11,.bool true)] [(811,.box [.arr 812 p0.aa.length]),(812,.nest 49 5 [(1,54,5),(2,4,1),(3,88,3)] (p0.aa.map ak.lv))] R ?_ ?_
   ·refine sN (oM (v:=.fj) R ?_)
    refine sX ((tA ox R R).ok) ?_
    exact zS
   refine LH.cond (t:=true) R (fun hT=>?_) (fun hT=>?_)
   ·refine LH.aj [(4,.I 4)] [(811,.box [.arr 812 p0.aa.length]),(812,.nest 49 5 [(1,54,5),(2,4,1),(3,88,3)] (p0.aa.map ak.lv))] R ?_ ?_
    ·refine bt R ?_
     exact zS
    refine LH.ret ?_
    refine aU ?_
    obtain rfl:=oI h
    exact aN (aT Tryz.results60) (bO R (bL ⟨aM (mC R (mC R mN)),R,aX R,Sub.rfl⟩))
   ·cases hT
  replace h:=Gj h
  obtain ⟨x3,gj,h⟩:=ao h
  refine LH.wk (Wk.to (el:=[(3,.ag [.I p1.ar.Time,.I p1.ar.Source,.I p1.ar.Seq,.I p1.Kind,.I p1.Item.ID,.I p1.Item.Version,.str p1.Item.bJ,.al 6 (p1.Item.aH.map aq.lv),.L p1.Item.aF,.I p1.Ref.ID,.I p1.Ref.Version,.I p1.Form]),(5,.bE 812 p0.aa.length (j2).toNat 0)]) (ml:=[(811,.box [.arr 812 p0.aa.length]),(812,.nest 49 5 [(1,54,5),(2,4,1),(3,88,3)] ((p0.aa.map ak.lv).set (j2).toNat (.agg [.I x3.ID,.al 5 (x3.ab.map ai.lv),.al 1 (x3.ah.map LV.bool),.al 3 (x3.Uses.map ay.lv),.bool x3.ae])))]) (eQ ⟨R,R,trivial⟩) (mC R (mC (pF gj) mN)) R (aX R)) ?_
  refine LH.seq ?_
  refine LH.aj [(3,.ag [.I p1.ar.Time,.I p1.ar.Source,.I p1.ar.Seq,.I p1.Kind,.I p1.Item.ID,.I p1.Item.Version,.str p1.Item.bJ,.al 6 (p1.Item.aH.map aq.lv),.L p1.Item.aF,.I p1.Ref.ID,.I p1.Ref.Version,.I p1.Form]),(5,.bE 812 p0.aa.length (j2).toNat 0),(11,.bool false)] [(811,.box [.arr 812 p0.aa.length]),(812,.nest 49 5 [(1,54,5),(2,4,1),(3,88,3)] ((p0.aa.map ak.lv).set (j2).toNat (.agg [.I x3.ID,.al 5 (x3.ab.map ai.lv),.al 1 (x3.ah.map LV.bool),.al 3 (x3.Uses.map ay.lv),.bool x3.ae])))] R ?_ ?_
  ·refine sN (oM (v:=(.bE _ _ _ _)) R ?_)
   refine sX ((tz ox R R R (by simp) (b8 gj)).ok) ?_
   exact zS
  refine LH.cond (t:=false) R (fun kM=>?_) (fun kM=>?_)
  ·cases kM
  refine LH.skip ?_
  refine au ?_
  refine LH.wk (Wk.eq (el:=[(3,.ag [.I p1.ar.Time,.I p1.ar.Source,.I p1.ar.Seq,.I p1.Kind,.I p1.Item.ID,.I p1.Item.Version,.str p1.Item.bJ,.al 6 (p1.Item.aH.map aq.lv),.L p1.Item.aF,.I p1.Ref.ID,.I p1.Ref.Version,.I p1.Form]),(5,.bE 812 p0.aa.length (j2).toNat 0)]) (ml:=[(811,.box [.arr 812 p0.aa.length]),(812,.nest 49 5 [(1,54,5),(2,4,1),(3,88,3)] ((p0.aa.map ak.lv).set (j2).toNat (.agg [.I x3.ID,.al 5 (x3.ab.map ai.lv),.al 1 (x3.ah.map LV.bool),.al 3 (x3.Uses.map ay.lv),.bool x3.ae])))]) R R R R) ?_
  refine LH.seq ?_
  obtain ⟨w7,hv,h⟩:=ao h
  refine LH.cO mixed [] [0,3,3,3,0,0,3,3,3,0,0,0,0,1,1,0,0] [(3,.ag [.I p1.ar.Time,.I p1.ar.Source,.I p1.ar.Seq,.I p1.Kind,.I p1.Item.ID,.I p1.Item.Version,.str p1.Item.bJ,.al 6 (p1.Item.aH.map aq.lv),.L p1.Item.aF,.I p1.Ref.ID,.I p1.Ref.Version,.I p1.Form]),(5,.bE 812 p0.aa.length (j2).toNat 0),(28,.bool w7)] [(811,.box [.arr 812 p0.aa.length]),(812,.nest 49 5 [(1,54,5),(2,4,1),(3,88,3)] ((p0.aa.map ak.lv).set (j2).toNat (.agg [.I x3.ID,.al 5 (x3.ab.map ai.lv),.al 1 (x3.ah.map LV.bool),.al 3 (x3.Uses.map ay.lv),.bool x3.ae])))] R R (by kernel_rfl) ?_ ?_
  ·refine aD (oM (v:=(.bE _ _ _ _)) R ⟨R,?_⟩)
   refine mX (fL R R (by simp) (b8 gj)) ?_
   refine mX (fJ ja jL lP R R (by simp) (b8 gj)) ?_
   refine mX (wB (cs:=[.I x3.ID,.al 5 (x3.ab.map ai.lv),.al 1 (x3.ah.map LV.bool),.al 3 (x3.Uses.map ay.lv),.bool x3.ae]) R R (by simp) (b8 gj) R R jL uN) ?_
   refine iQ R ?_
   by_cases dy:x3.ae=true
   ·replace hv:=aB hv dy
    refine mF R R dy ?_
    refine mF R R dy ?_
    refine mF R R dy ?_
    refine mF R R dy ?_
    refine mF R R dy ?_
    refine mF R R dy ?_
    refine mF R R dy ?_
    refine mF R R dy ?_
    refine mF R R dy ?_
    refine mF R R dy ?_
    refine mF R R dy ?_
    refine aD (aZ (cB dy) (v:=(.bool _)) R ⟨R,?_⟩)
    obtain rfl:=oI hv
    exact zM
   ·replace dy:=bF dy
    replace hv:=aA hv dy
    refine mT R (cB dy) (aD (oM (v:=(.bE _ _ _ _)) R ⟨R,?_⟩))
    refine mT R (cB dy) (mX (fL R R (by simp) (b8 gj)) ?_)
    refine mT R (cB dy) (mX (fJ dJ dZ gN R R (by simp) (b8 gj)) ?_)
    refine mT R (cB dy) (mX (nO (g:=LV.bool) (ys:=x3.ah) (ls:=List.map ak.lv p0.aa) (cs:=[.I x3.ID,.al 5 (x3.ab.map ai.lv),.al 1 (x3.ah.map LV.bool),.al 3 (x3.Uses.map ay.lv),.bool x3.ae]) (id2:=120) (dj:=[.I x3.ID,.al 5 (x3.ab.map ai.lv),.eD,.al 3 (x3.Uses.map ay.lv),.bool x3.ae]) R R (by simp) (b8 gj) R R R dZ lM R) ?_)
    refine mT R (cB dy) (aD (aw e5 gM gA R R R ⟨R,?_⟩))
    refine mT R (cB dy) (aD (aw fa aE bb R R R ⟨R,?_⟩))
    refine mT R (cB dy) (aD (bh R aE bN ⟨R,?_⟩))
    refine mT R (cB dy) (aD (iS R R ⟨R,?_⟩))
    obtain ⟨x9,xn,hv⟩:=ao hv
    refine mT R (cB dy) (PO (gV (f:=LV.bool) jy jL lP R R R xn ⟨R,?_⟩))
    refine mT R (cB dy) (PO (wz (f:=LV.bool) R R (dB xn).2 R R R jL uN ⟨R,?_⟩))
    refine mT R (cB dy) (aD (ic R ⟨R,?_⟩))
    refine aD (aW (cB dy) (v:=(.bool _)) R ⟨R,?_⟩)
    obtain rfl:=oI hv
    exact m0 (Wk.trans (Wk.sd (id:=812) (id2:=120) (o0:=2) (i:=(j2).toNat) (n2:=List.length x3.ah) (g:=LV.bool) (ys:=x3.ah) (ls:=List.map ak.lv p0.aa) (cs:=[.I x3.ID,.al 5 (x3.ab.map ai.lv),.eD,.al 3 (x3.Uses.map ay.lv),.bool x3.ae]) (dj:=[.I x3.ID,.al 5 (x3.ab.map ai.lv),.al 1 (x3.ah.map LV.bool),.al 3 (x3.Uses.map ay.lv),.bool x3.ae]) R (b8 gj) R R R R (bH R) R) (Wk.eq R R R R))
  clear hv
  refine LH.cond (t:=w7) R (fun ib=>?_) (fun ib=>?_)
  ·replace h:=aB h ib
   refine LH.aj [(4,.I 8)] [(811,.box [.arr 812 p0.aa.length]),(812,.nest 49 5 [(1,54,5),(2,4,1),(3,88,3)] (p0.aa.map ak.lv))] R ?_ ?_
   ·refine bt R ?_
    exact s0 (Wk.to (eQ ⟨R,trivial⟩) (mC R (mC (pF gj).symm mN)) R (aX R))
   refine LH.ret ?_
   refine aU ?_
   obtain rfl:=oI h
   exact aN (aT Tryz.results60) (bO R (bL ⟨aM (mC R (mC R mN)),R,aX R,Sub.rfl⟩))
  replace h:=aA h ib
  refine LH.skip ?_
  refine au ?_
  refine LH.wk (Wk.eq (el:=[(3,.ag [.I p1.ar.Time,.I p1.ar.Source,.I p1.ar.Seq,.I p1.Kind,.I p1.Item.ID,.I p1.Item.Version,.str p1.Item.bJ,.al 6 (p1.Item.aH.map aq.lv),.L p1.Item.aF,.I p1.Ref.ID,.I p1.Ref.Version,.I p1.Form]),(5,.bE 812 p0.aa.length (j2).toNat 0)]) (ml:=[(811,.box [.arr 812 p0.aa.length]),(812,.nest 49 5 [(1,54,5),(2,4,1),(3,88,3)] ((p0.aa.map ak.lv).set (j2).toNat (.agg [.I x3.ID,.al 5 (x3.ab.map ai.lv),.al 1 (x3.ah.map LV.bool),.al 3 (x3.Uses.map ay.lv),.bool x3.ae])))]) R R R R) ?_
  refine LH.seq ?_
  obtain ⟨cm,kr,h⟩:=ao h
  refine LH.aj [(3,.ag [.I p1.ar.Time,.I p1.ar.Source,.I p1.ar.Seq,.I p1.Kind,.I p1.Item.ID,.I p1.Item.Version,.str p1.Item.bJ,.al 6 (p1.Item.aH.map aq.lv),.L p1.Item.aF,.I p1.Ref.ID,.I p1.Ref.Version,.I p1.Form]),(5,.bE 812 p0.aa.length (j2).toNat 0),(34,.bool cm)] [(811,.box [.arr 812 p0.aa.length]),(812,.nest 49 5 [(1,54,5),(2,4,1),(3,88,3)] ((p0.aa.map ak.lv).set (j2).toNat (.agg [.I x3.ID,.al 5 (x3.ab.map ai.lv),.al 1 (x3.ah.map LV.bool),.al 3 (x3.Uses.map ay.lv),.bool x3.ae])))] R ?_ ?_
  ·refine sN (oM (v:=(.bE _ _ _ _)) R ?_)
   refine sX ((fL R R (by simp) (b8 gj)).ok) ?_
   refine sX ((fJ dK dS gZ R R (by simp) (b8 gj)).ok) ?_
   refine sX ((nO (g:=ay.lv) (ys:=x3.Uses) (ls:=List.map ak.lv p0.aa) (cs:=[.I x3.ID,.al 5 (x3.ab.map ai.lv),.al 1 (x3.ah.map LV.bool),.al 3 (x3.Uses.map ay.lv),.bool x3.ae]) (id2:=132) (dj:=[.I x3.ID,.al 5 (x3.ab.map ai.lv),.al 1 (x3.ah.map LV.bool),.eD,.bool x3.ae]) R R (by simp) (b8 gj) R R R dS kx R).ok) ?_
   refine sN (PW (vs:=[.ag [.I p1.ar.Time,.I p1.ar.Source,.I p1.ar.Seq,.I p1.Kind,.I p1.Item.ID,.I p1.Item.Version,.str p1.Item.bJ,.al 6 (p1.Item.aH.map aq.lv),.L p1.Item.aF,.I p1.Ref.ID,.I p1.Ref.Version,.I p1.Form]]) R ?_)
   refine sN (dX (args:=[.arr 132 x3.Uses.length,.fn 80 [.ag [.I p1.ar.Time,.I p1.ar.Source,.I p1.ar.Seq,.I p1.Kind,.I p1.Item.ID,.I p1.Item.Version,.str p1.Item.bJ,.al 6 (p1.Item.aH.map aq.lv),.L p1.Item.aF,.I p1.Ref.ID,.I p1.Ref.Version,.I p1.Form]]]) (ml:=[(132,.arr 88 3 (x3.Uses.map ay.lv))]) (cQ:=[(132,.arr 88 3 (x3.Uses.map ay.lv))]) R Jv R (aI (aI bm)) (aO.TR 132 88 3 (xs:=List.map ay.lv x3.Uses) (JS (dY:=80) (df:=[.ag [.I p1.ar.Time,.I p1.ar.Source,.I p1.ar.Seq,.I p1.Kind,.I p1.Item.ID,.I p1.Item.Version,.str p1.Item.bJ,.al 6 (p1.Item.aH.map aq.lv),.L p1.Item.aF,.I p1.Ref.ID,.I p1.Ref.Version,.I p1.Form]]) Ps R (fun _ _ h=>Qz h) kr) (.row (by simp) (.jI R .nil)) R R R R R Vc) ⟨R,trivial⟩ (bT R bU) R ?_)
   exact s0 (Wk.trans (Wk.sd (id:=812) (id2:=132) (o0:=3) (i:=(j2).toNat) (n2:=List.length x3.Uses) (g:=ay.lv) (ys:=x3.Uses) (ls:=List.map ak.lv p0.aa) (cs:=[.I x3.ID,.al 5 (x3.ab.map ai.lv),.al 1 (x3.ah.map LV.bool),.eD,.bool x3.ae]) (dj:=[.I x3.ID,.al 5 (x3.ab.map ai.lv),.al 1 (x3.ah.map LV.bool),.al 3 (x3.Uses.map ay.lv),.bool x3.ae]) R (b8 gj) R R R R (bH R) R) (Wk.eq R R R R))
  refine LH.cond (t:=cm) R (fun gh=>?_) (fun gh=>?_)
  ·replace h:=aB h gh
   refine LH.aj [(4,.I 5)] [(811,.box [.arr 812 p0.aa.length]),(812,.nest 49 5 [(1,54,5),(2,4,1),(3,88,3)] (p0.aa.map ak.lv))] R ?_ ?_
   ·refine bt R ?_
    exact s0 (Wk.to (eQ ⟨R,trivial⟩) (mC R (mC (pF gj).symm mN)) R (aX R))
   refine LH.ret ?_
   refine aU ?_
   obtain rfl:=oI h
   exact aN (aT Tryz.results60) (bO R (bL ⟨aM (mC R (mC R mN)),R,aX R,Sub.rfl⟩))
  replace h:=aA h gh
  refine LH.skip ?_
  refine au ?_
  refine LH.wk (Wk.eq (el:=[(3,.ag [.I p1.ar.Time,.I p1.ar.Source,.I p1.ar.Seq,.I p1.Kind,.I p1.Item.ID,.I p1.Item.Version,.str p1.Item.bJ,.al 6 (p1.Item.aH.map aq.lv),.L p1.Item.aF,.I p1.Ref.ID,.I p1.Ref.Version,.I p1.Form]),(5,.bE 812 p0.aa.length (j2).toNat 0)]) (ml:=[(811,.box [.arr 812 p0.aa.length]),(812,.nest 49 5 [(1,54,5),(2,4,1),(3,88,3)] ((p0.aa.map ak.lv).set (j2).toNat (.agg [.I x3.ID,.al 5 (x3.ab.map ai.lv),.al 1 (x3.ah.map LV.bool),.al 3 (x3.Uses.map ay.lv),.bool x3.ae])))]) R R R R) ?_
  refine LH.seq ?_
  refine LH.aj [(3,.ag [.I p1.ar.Time,.I p1.ar.Source,.I p1.ar.Seq,.I p1.Kind,.I p1.Item.ID,.I p1.Item.Version,.str p1.Item.bJ,.al 6 (p1.Item.aH.map aq.lv),.L p1.Item.aF,.I p1.Ref.ID,.I p1.Ref.Version,.I p1.Form]),(5,.bE 812 p0.aa.length (j2).toNat 0),(40,.bool (decide ((x3.Uses.length:Int) ≥ 300)))] [(811,.box [.arr 812 p0.aa.length]),(812,.nest 49 5 [(1,54,5),(2,4,1),(3,88,3)] ((p0.aa.map ak.lv).set (j2).toNat (.agg [.I x3.ID,.al 5 (x3.ab.map ai.lv),.al 1 (x3.ah.map LV.bool),.al 3 (x3.Uses.map ay.lv),.bool x3.ae])))] R ?_ ?_
  ·refine sN (oM (v:=(.bE _ _ _ _)) R ?_)
   refine sX ((fL R R (by simp) (b8 gj)).ok) ?_
   refine sX ((fJ dK dS gZ R R (by simp) (b8 gj)).ok) ?_
   refine sX ((A6 (g:=ay.lv) (ys:=x3.Uses) (cs:=[.I x3.ID,.al 5 (x3.ab.map ai.lv),.al 1 (x3.ah.map LV.bool),.al 3 (x3.Uses.map ay.lv),.bool x3.ae]) R R (by simp) (b8 gj) R R dS kx).ok) ?_
   refine sX ((wC iZ R).ok) ?_
   refine sN (pW R R ?_)
   exact zS
  refine LH.cond (t:=(decide ((x3.Uses.length:Int) ≥ 300))) R (fun oP=>?_) (fun oP=>?_)
  ·replace h:=aB h oP
   refine LH.aj [(4,.I 3)] [(811,.box [.arr 812 p0.aa.length]),(812,.nest 49 5 [(1,54,5),(2,4,1),(3,88,3)] (p0.aa.map ak.lv))] R ?_ ?_
   ·refine bt R ?_
    exact s0 (Wk.to (eQ ⟨R,trivial⟩) (mC R (mC (pF gj).symm mN)) R (aX R))
   refine LH.ret ?_
   refine aU ?_
   obtain rfl:=oI h
   exact aN (aT Tryz.results60) (bO R (bL ⟨aM (mC R (mC R mN)),R,aX R,Sub.rfl⟩))
  replace h:=aA h oP
  refine LH.skip ?_
  refine au ?_
  obtain ⟨kR,AS,h⟩:=ao h
  refine LH.cO mixed [] [0,0,3,3,3,0,0,0,0,0,0,0,0,0,0,2,3,3,3] [] [(811,.box [.arr 812 (List.length (p0.aa.set (j2).toNat (ak.mk x3.ID x3.ab x3.ah kR x3.ae)))]),(812,.nest 49 5 [(1,54,5),(2,4,1),(3,88,3)] (List.map ak.lv (p0.aa.set (j2).toNat (ak.mk x3.ID x3.ab x3.ah kR x3.ae))))] R R (by kernel_rfl) ?_ ?_
  ·refine aD (oM (v:=(.bE _ _ _ _)) R ⟨R,?_⟩)
   refine aD (oM (v:=(.bE _ _ _ _)) R ⟨R,?_⟩)
   refine mX (fL R R (by simp) (b8 gj)) ?_
   refine mX (fJ dK dS gZ R R (by simp) (b8 gj)) ?_
   refine mX (tB (g:=ay.lv) (ys:=x3.Uses) (ls:=List.map ak.lv p0.aa) (cs:=[.I x3.ID,.al 5 (x3.ab.map ai.lv),.al 1 (x3.ah.map LV.bool),.al 3 (x3.Uses.map ay.lv),.bool x3.ae]) (id2:=145) (dj:=[.I x3.ID,.al 5 (x3.ab.map ai.lv),.al 1 (x3.ah.map LV.bool),.eD,.bool x3.ae]) R R (by simp) (b8 gj) R R R dS kx R) ?_
   refine aD (aw e5 gM gA R R R ⟨R,?_⟩)
   refine aD (aw fa aE bb R R R ⟨R,?_⟩)
   refine aD (bh R aE bN ⟨R,?_⟩)
   refine aD (aw lg aE bb R R R ⟨R,?_⟩)
   refine aD (bh R aE bN ⟨R,?_⟩)
   refine aD (aw di cc b7 R R R ⟨R,?_⟩)
   refine aD (aw fc aE bb R R R ⟨R,?_⟩)
   refine aD (bh R aE bN ⟨R,?_⟩)
   refine aD (fU (vs:=[(0,.I p1.Ref.Version),(1,.I p1.Form),(2,.I p1.ar.Time)]) MD IN R (lf pg bb aE R R R (lf xd bb aE R R R (lf BC bb aE R R R fT))) ⟨R,?_⟩)
   refine aD (ka (f:=ay.lv) (ys:=[(ay.mk p1.Ref.Version p1.Form p1.ar.Time)]) iZ BF l0 R R R ay.ok ⟨R,?_⟩)
   refine yh (nL (f:=ay.lv) iZ BF l0 R R (bH R) R AS ?_)
   refine mX (fL R R (by simp) (b8 gj)) ?_
   refine mX (fJ dK dS gZ R R (by simp) (b8 gj)) ?_
   refine U8 (wD (g:=ay.lv) (ys:=kR) (ls:=List.map ak.lv p0.aa) (cs:=[.I x3.ID,.al 5 (x3.ab.map ai.lv),.al 1 (x3.ah.map LV.bool),.eD,.bool x3.ae]) (dj:=[.I x3.ID,.al 5 (x3.ab.map ai.lv),.al 1 (x3.ah.map LV.bool),.al 3 (kR.map ay.lv),.bool x3.ae]) R R (by simp) (b8 gj) R R R R R (bH R) dS gZ R) ?_
   exact m0 (Wk.to eN (mC ((show _=some (LE.box [.arr 812 p0.aa.length]) from R).trans (by simp)) (mC (IP R R) mN)) R (aX R))
  refine LH.aj [(4,.I 0)] [(811,.box [.arr 812 (List.length (p0.aa.set (j2).toNat (ak.mk x3.ID x3.ab x3.ah kR x3.ae)))]),(812,.nest 49 5 [(1,54,5),(2,4,1),(3,88,3)] (List.map ak.lv (p0.aa.set (j2).toNat (ak.mk x3.ID x3.ab x3.ah kR x3.ae))))] R ?_ ?_
  ·refine bt R ?_
   exact zS
  refine LH.ret ?_
  obtain rfl:=oI h
  exact aN (aT Tryz.results60) (bO R (bL ⟨aM (mC R (mC R mN)),R,aX R,Sub.rfl⟩))
theorem Iz {F:Nat} {p0:aG} {p1:ax} {c0:Bool} {r:Int × aG} (h:yZ F p0 p1 c0=some r):aO Tryz.prog 81 [.ptr 811 0,.agg [.I p1.ar.Time,.I p1.ar.Source,.I p1.ar.Seq,.I p1.Kind,.I p1.Item.ID,.I p1.Item.Version,.str p1.Item.bJ,.al 6 (p1.Item.aH.map aq.lv),.L p1.Item.aF,.I p1.Ref.ID,.I p1.Ref.Version,.I p1.Form],.ag [.bool c0]] (Mem.of [(811,.box [.arr 812 p0.aa.length]),(812,.nest 49 5 [(1,54,5),(2,4,1),(3,88,3)] (p0.aa.map ak.lv))]) (.I r.1) (Mem.of [(811,.box [.arr 812 r.2.aa.length]),(812,.nest 49 5 [(1,54,5),(2,4,1),(3,88,3)] (r.2.aa.map ak.lv))]):=by
  unfold yZ at h
  refine bx Tryz.func81 R (nT Tryz.ntmps81 R) ?_
  refine LH.wk (Wk.eq (el:=[(0,.ptr 811 0),(1,.agg [.I p1.ar.Time,.I p1.ar.Source,.I p1.ar.Seq,.I p1.Kind,.I p1.Item.ID,.I p1.Item.Version,.str p1.Item.bJ,.al 6 (p1.Item.aH.map aq.lv),.L p1.Item.aF,.I p1.Ref.ID,.I p1.Ref.Version,.I p1.Form]),(2,.ag [.bool c0])]) (ml:=[(811,.box [.arr 812 p0.aa.length]),(812,.nest 49 5 [(1,54,5),(2,4,1),(3,88,3)] (p0.aa.map ak.lv))]) R R R R) ?_
  refine LH.aj [(0,.ptr 811 0),(2,.ag [.bool c0]),(4,.ag [.I p1.ar.Time,.I p1.ar.Source,.I p1.ar.Seq,.I p1.Kind,.I p1.Item.ID,.I p1.Item.Version,.str p1.Item.bJ,.al 6 (p1.Item.aH.map aq.lv),.L p1.Item.aF,.I p1.Ref.ID,.I p1.Ref.Version,.I p1.Form])] [(811,.box [.arr 812 p0.aa.length]),(812,.nest 49 5 [(1,54,5),(2,4,1),(3,88,3)] (p0.aa.map ak.lv))] R ?_ ?_
  ·refine sB (de R R R R ?_)
   refine bt R ?_
   exact zS
  obtain ⟨r1,ei,h⟩:=ao h
  refine LH.aj [(2,.ag [.bool c0]),(6,rG 812 p0.aa.length r1)] [(811,.box [.arr 812 p0.aa.length]),(812,.nest 49 5 [(1,54,5),(2,4,1),(3,88,3)] (p0.aa.map ak.lv))] R ?_ ?_
  ·refine ig R ?_
   refine sN (aw e5 gM gA R R R ?_)
   refine sN (aw jK aE bb R R R ?_)
   refine sN (bh R aE bN ?_)
   refine sN (dX (args:=[.ptr 811 0,.I p1.Ref.ID]) (ml:=[(811,.box [.arr 812 p0.aa.length]),(812,.nest 49 5 [(1,54,5),(2,4,1),(3,88,3)] (p0.aa.map ak.lv))]) (cQ:=[(811,.box [.arr 812 p0.aa.length]),(812,.nest 49 5 [(1,54,5),(2,4,1),(3,88,3)] (p0.aa.map ak.lv))]) R FT R (aI (aI bm)) (Gq ei) ⟨R,R,trivial⟩ (bT R (bT R bU)) R ?_)
   refine sN (oA (v:=(rG _ _ _)) R ?_)
   exact s0 (Wk.to (eQ ⟨R,R,trivial⟩) ⟨R,R,trivial⟩ (by rcases r1 with _ | _ <;> exact R) (aX R))
  rcases r1 with _ | j2
  ·replace h:=Gi h
   refine LH.wk (Wk.eq (el:=[(2,.ag [.bool c0]),(6,.fj)]) (ml:=[(811,.box [.arr 812 p0.aa.length]),(812,.nest 49 5 [(1,54,5),(2,4,1),(3,88,3)] (p0.aa.map ak.lv))]) R R R R) ?_
   refine LH.seq ?_
   refine LH.aj [(2,.ag [.bool c0]),(6,.fj),(13,.bool true)] [(811,.box [.arr 812 p0.aa.length]),(812,.nest 49 5 [(1,54,5),(2,4,1),(3,88,3)] (p0.aa.map ak.lv))] R ?_ ?_
   ·refine sN (oM (v:=.fj) R ?_)
    refine sX ((tA ox R R).ok) ?_
    exact zS
   refine LH.cond (t:=true) R (fun hT=>?_) (fun hT=>?_)
   ·refine LH.aj [(5,.I 4)] [(811,.box [.arr 812 p0.aa.length]),(812,.nest 49 5 [(1,54,5),(2,4,1),(3,88,3)] (p0.aa.map ak.lv))] R ?_ ?_
    ·refine bt R ?_
     exact zS
    refine LH.ret ?_
    refine aU ?_
    obtain rfl:=oI h
    exact aN (aT Tryz.results81) (bO R (bL ⟨aM (mC R (mC R mN)),R,aX R,Sub.rfl⟩))
   ·cases hT
  replace h:=Gj h
  obtain ⟨x3,gj,h⟩:=ao h
  refine LH.wk (Wk.to (el:=[(2,.ag [.bool c0]),(6,.bE 812 p0.aa.length (j2).toNat 0)]) (ml:=[(811,.box [.arr 812 p0.aa.length]),(812,.nest 49 5 [(1,54,5),(2,4,1),(3,88,3)] ((p0.aa.map ak.lv).set (j2).toNat (.agg [.I x3.ID,.al 5 (x3.ab.map ai.lv),.al 1 (x3.ah.map LV.bool),.al 3 (x3.Uses.map ay.lv),.bool x3.ae])))]) (eQ ⟨R,R,trivial⟩) (mC R (mC (pF gj) mN)) R (aX R)) ?_
  refine LH.seq ?_
  refine LH.aj [(2,.ag [.bool c0]),(6,.bE 812 p0.aa.length (j2).toNat 0),(13,.bool false)] [(811,.box [.arr 812 p0.aa.length]),(812,.nest 49 5 [(1,54,5),(2,4,1),(3,88,3)] ((p0.aa.map ak.lv).set (j2).toNat (.agg [.I x3.ID,.al 5 (x3.ab.map ai.lv),.al 1 (x3.ah.map LV.bool),.al 3 (x3.Uses.map ay.lv),.bool x3.ae])))] R ?_ ?_
  ·refine sN (oM (v:=(.bE _ _ _ _)) R ?_)
   refine sX ((tz ox R R R (by simp) (b8 gj)).ok) ?_
   exact zS
  refine LH.cond (t:=false) R (fun kM=>?_) (fun kM=>?_)
  ·cases kM
  refine LH.skip ?_
  refine au ?_
  refine LH.wk (Wk.eq (el:=[(2,.ag [.bool c0]),(6,.bE 812 p0.aa.length (j2).toNat 0)]) (ml:=[(811,.box [.arr 812 p0.aa.length]),(812,.nest 49 5 [(1,54,5),(2,4,1),(3,88,3)] ((p0.aa.map ak.lv).set (j2).toNat (.agg [.I x3.ID,.al 5 (x3.ab.map ai.lv),.al 1 (x3.ah.map LV.bool),.al 3 (x3.Uses.map ay.lv),.bool x3.ae])))]) R R R R) ?_
  refine LH.seq ?_
  refine LH.cO mixed [] [0,3,3,3,0,0] [(2,.ag [.bool c0]),(6,.bE 812 p0.aa.length (j2).toNat 0),(19,.bool (x3.ae == c0))] [(811,.box [.arr 812 p0.aa.length]),(812,.nest 49 5 [(1,54,5),(2,4,1),(3,88,3)] ((p0.aa.map ak.lv).set (j2).toNat (.agg [.I x3.ID,.al 5 (x3.ab.map ai.lv),.al 1 (x3.ah.map LV.bool),.al 3 (x3.Uses.map ay.lv),.bool x3.ae])))] R R (by kernel_rfl) ?_ ?_
  ·refine aD (oM (v:=(.bE _ _ _ _)) R ⟨R,?_⟩)
   refine mX (fL R R (by simp) (b8 gj)) ?_
   refine mX (fJ ja jL lP R R (by simp) (b8 gj)) ?_
   refine mX (wB (cs:=[.I x3.ID,.al 5 (x3.ab.map ai.lv),.al 1 (x3.ah.map LV.bool),.al 3 (x3.Uses.map ay.lv),.bool x3.ae]) R R (by simp) (b8 gj) R R jL uN) ?_
   refine aD (bh R jL uN ⟨R,?_⟩)
   refine aD (PV R R RH ⟨R,?_⟩)
   exact zM
  refine LH.cond (t:=(x3.ae == c0)) R (fun fQ=>?_) (fun fQ=>?_)
  ·replace h:=aB h fQ
   refine LH.aj [(5,.I 8)] [(811,.box [.arr 812 p0.aa.length]),(812,.nest 49 5 [(1,54,5),(2,4,1),(3,88,3)] (p0.aa.map ak.lv))] R ?_ ?_
   ·refine bt R ?_
    exact s0 (Wk.to (eQ ⟨R,trivial⟩) (mC R (mC (pF gj).symm mN)) R (aX R))
   refine LH.ret ?_
   refine aU ?_
   obtain rfl:=oI h
   exact aN (aT Tryz.results81) (bO R (bL ⟨aM (mC R (mC R mN)),R,aX R,Sub.rfl⟩))
  replace h:=aA h fQ
  refine LH.skip ?_
  refine au ?_
  refine LH.aj [] [(811,.box [.arr 812 (List.length (p0.aa.set (j2).toNat (ak.mk x3.ID x3.ab x3.ah x3.Uses c0)))]),(812,.nest 49 5 [(1,54,5),(2,4,1),(3,88,3)] (List.map ak.lv (p0.aa.set (j2).toNat (ak.mk x3.ID x3.ab x3.ah x3.Uses c0))))] R ?_ ?_
  ·refine sN (oM (v:=(.bE _ _ _ _)) R ?_)
   refine sN (bh R jL uN ?_)
   refine sX ((fL R R (by simp) (b8 gj)).ok) ?_
   refine sX ((fJ ja jL lP R R (by simp) (b8 gj)).ok) ?_
   refine HB ((Mi (ls:=List.map ak.lv p0.aa) (cs:=[.I x3.ID,.al 5 (x3.ab.map ai.lv),.al 1 (x3.ah.map LV.bool),.al 3 (x3.Uses.map ay.lv),.bool x3.ae]) (dj:=[.I x3.ID,.al 5 (x3.ab.map ai.lv),.al 1 (x3.ah.map LV.bool),.al 3 (x3.Uses.map ay.lv),.bool c0]) R R (by simp) (b8 gj) R R R R R jL lP R).ok) ?_
   exact s0 (Wk.to eN (mC ((show _=some (LE.box [.arr 812 p0.aa.length]) from R).trans (by simp)) (mC (IP R R) mN)) R (aX R))
  refine LH.aj [(5,.I 0)] [(811,.box [.arr 812 (List.length (p0.aa.set (j2).toNat (ak.mk x3.ID x3.ab x3.ah x3.Uses c0)))]),(812,.nest 49 5 [(1,54,5),(2,4,1),(3,88,3)] (List.map ak.lv (p0.aa.set (j2).toNat (ak.mk x3.ID x3.ab x3.ah x3.Uses c0))))] R ?_ ?_
  ·refine bt R ?_
   exact zS
  refine LH.ret ?_
  obtain rfl:=oI h
  exact aN (aT Tryz.results81) (bO R (bL ⟨aM (mC R (mC R mN)),R,aX R,Sub.rfl⟩))
theorem JU {F:Nat} {p0:Bool} {r:Bool} (h:JX F p0=some r):aO Tryz.prog 61 [.bool p0] (Mem.of []) (.fn 81 [.ag [.bool r]]) (Mem.of []):=by
  unfold JX at h
  refine bx Tryz.func61 R (nT Tryz.ntmps61 R) (LH.wk (aQ [(0,.bool p0)] []) (LH.aj [(1,.ag [.bool p0])] [] R (sB (de R R R R (sN (oA (v:=.k5) R zS)))) (LH.aj [(2,.fn 81 [.ag [.bool p0]])] [] R (sN (PW (vs:=[.ag [.bool p0]]) R (sN (oA (v:=(.fn _ _)) R zS)))) (LH.ret ?_))))
  obtain rfl:=oI h
  exact aN (aT Tryz.results61) (bO R (bL ⟨aM mN,R,aX R,Sub.rfl⟩))
def bu:Nat→LV
  | 1=>.fn 57 []
  | 2=>.fn 58 []
  | 3=>.fn 59 []
  | 4=>.fn 60 []
  | 5=>.fn 81 [.ag [.bool true]]
  | 6=>.fn 81 [.ag [.bool false]]
  | _=>.k5
theorem iI (n:Nat):(bu n).pure=true:=by unfold bu; split <;> rfl
theorem y7 {F:Nat} {r:(List (Int × Nat))} (h:J7 F=some r):aO Tryz.prog 33 [] (Mem.of []) (.mp 10301) (Mem.of [(10301,.map 3 78 (dO LV.I bu r))]):=by
  unfold J7 at h
  refine bx Tryz.func33 R (nT Tryz.ntmps33 R) (LH.wk (aQ [] []) (LH.aj [] [] R (sN (oA (v:=.eD) R zS)) (LH.aj [(0,.mp 10301)] [(10301,.map 3 78 (dO LV.I bu (ee (ee (ee (ee (ee (ee ([]:List (Int × Nat)) 1 1) 2 2) 3 3) 4 4) 5 5) 6 6)))] R (sX ((tx (kt:=3) (vt:=78) (id:=10301) R).ok) (HB ((iU (f:=LV.I) (g:=bu) (xs:=([]:List (Int × Nat))) (key:=1) (val:=1) (.inr R) lN lF u7 iI R R R R).ok) (HB ((iU (f:=LV.I) (g:=bu) (xs:=(ee ([]:List (Int × Nat)) 1 1)) (key:=2) (val:=2) (.inr R) lN lF u7 iI R R R R).ok) (HB ((iU (f:=LV.I) (g:=bu) (xs:=(ee (ee ([]:List (Int × Nat)) 1 1) 2 2)) (key:=3) (val:=3) (.inr R) lN lF u7 iI R R R R).ok) (HB ((iU (f:=LV.I) (g:=bu) (xs:=(ee (ee (ee ([]:List (Int × Nat)) 1 1) 2 2) 3 3)) (key:=4) (val:=4) (.inr R) lN lF u7 iI R R R R).ok) (sN (ej (args:=[.bool true]) R JC R (aI bm) (JU (F:=F) (r:=true) R) R (HB ((iU (f:=LV.I) (g:=bu) (xs:=(ee (ee (ee (ee ([]:List (Int × Nat)) 1 1) 2 2) 3 3) 4 4)) (key:=5) (val:=5) (.inr R) lN lF u7 iI R R R R).ok) (sN (ej (args:=[.bool false]) R JC R (aI bm) (JU (F:=F) (r:=false) R) R (HB ((iU (f:=LV.I) (g:=bu) (xs:=(ee (ee (ee (ee (ee ([]:List (Int × Nat)) 1 1) 2 2) 3 3) 4 4) 5 5)) (key:=6) (val:=6) (.inr R) lN lF u7 iI R R R R).ok) (sN (oM (v:=(.mp _)) R (sN (oA (v:=(.mp _)) R zS))))))))))))))) (LH.ret ?_))))
  obtain rfl:=oI h
  exact aN (aT Tryz.results33) (bO R (bL ⟨aM (mC R mN),R,aX R,Sub.rfl⟩))
end Go.Proofs.YtmollikhdbaikaaGreat
