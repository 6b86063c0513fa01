import Derived.Test.YtmollikhdbaikaaGreatZW1
set_option linter.unusedVariables false
set_option linter.unusedSimpArgs false
set_option maxRecDepth 100000
set_option maxHeartbeats 1000000
namespace Go.Proofs.YtmollikhdbaikaaGreat
open Go.L Go.Sh
theorem Pb {F:Nat} {p0:List Int} {p1:List Int} {r:Bool} (h:AE F p0 p1=some r):aP Tryz.prog 90 [.L p0,.L p1] (Mem.of []) (.bool r) (Mem.of []):=by
  unfold AE at h
  refine bu Tryz.func90 R (nT Tryz.ntmps90 R) (LH.wk (aX [(0,.L p0),(1,.L p1)] []) (LH.aj [(0,.L p0),(1,.L p1)] [] R (cm R zS) (LH.seq (LH.aj [(0,.L p0),(1,.L p1),(10,.bool ((p0.length:Int) != (p1.length:Int)))] [] R (eZ R (sN (bX (f:=LV.I) cz R (eZ R (sN (bX (f:=LV.I) cz R (sN (kg R R zS)))))))) (LH.cond (t:=((p0.length:Int) != (p1.length:Int))) R (fun jw=>?_) (fun jw=>?_))))))
  ·replace h:=aB h jw
   refine LH.aj [(4,.bool false)] [] R (cm R zS) (LH.ret (aZ ?_))
   obtain rfl:=oI h
   exact aS (aT Tryz.results90) (bR R (bP ⟨aR mN,R,a8 R,Sub.rfl⟩))
  replace h:=aA h jw
  refine LH.skip (av (LH.wk (aX [(0,.L p0),(1,.L p1)] []) (LH.seq (LH.aj [(0,.L p0),(1,.L p1),(12,.I (p0.length:Int)),(13,.I 0)] [] R (eZ R (sN (bX (f:=LV.I) cz R (bl R zS)))) (LH.block (LH.loop (fun n e m=>∃ (n2:Int),xL p0 p1 n n2=some r∧e=Env.of [(0,.L p0),(1,.L p1),(12,.I (p0.length:Int)),(13,.I n2)]∧m=Mem.of []) F ⟨0,h,R,R⟩ ?_))))))
  clear h
  rintro n e m ⟨n2,h,rfl,rfl⟩
  rcases n with _ | n
  · cases (show Option.none=some _ from h)
  obtain ⟨aH,ba⟩:∃ f,f=xL p0 p1 n:=⟨_,rfl⟩
  replace h:C3 p0 p1 aH n2=some r:=ba ▸ h
  unfold C3 at h
  refine LH.aj [(0,.L p0),(1,.L p1),(12,.I (p0.length:Int)),(13,.I n2),(14,.bool (decide (n2<(p0.length:Int))))] [] R (sN (fi R R zS)) (LH.seq (LH.cond (t:=(decide (n2<(p0.length:Int)))) R (fun iC=>?_) (fun iC=>?_)))
  ·replace h:=aB h iC
   refine LH.skip (av (LH.wk (aX [(0,.L p0),(1,.L p1),(12,.I (p0.length:Int)),(13,.I n2)] []) (LH.seq (LH.block (LH.aj [(0,.L p0),(1,.L p1),(5,.I n2),(12,.I (p0.length:Int)),(13,.I n2)] [] R (bl R (bo R zS)) ?_)))))
   obtain ⟨x4,CM,h⟩:=al h
   obtain ⟨x5,oy,h⟩:=al h
   refine LH.c7 mixed [] [0,0,0,0,0,0,0,0,0] [(0,.L p0),(1,.L p1),(12,.I (p0.length:Int)),(13,.I n2),(24,.bool (x4 != x5))] [] R R (by kernel_rfl) (pO R (eV R (aF (eW (f:=LV.I) cz aE bb R R lO CM R ⟨R,aF (bf R aE bN ⟨R,pO R (eV R (aF (eW (f:=LV.I) cz aE bb R R lO oy R ⟨R,aF (bf R aE bN ⟨R,aF (kg R R ⟨R,zM⟩)⟩)⟩)))⟩)⟩)))) (LH.cond (t:=(x4 != x5)) R (fun gb=>?_) (fun gb=>?_))
   ·replace h:=aB h gb
    refine LH.aj [(4,.bool false)] [] R (cm R zS) (LH.ret (bL (aZ (dY (bL (aZ ?_))))))
    obtain rfl:=oI h
    exact aS (aT Tryz.results90) (bR R (bP ⟨aR mN,R,a8 R,Sub.rfl⟩))
   replace h:=aA h gb
   refine LH.skip (aY (av (LH.aQ [(0,.L p0),(1,.L p1),(12,.I (p0.length:Int)),(13,.I (i64 (n2+1)))] [] R (sN (cr R R (bl R zS))) ?_)))
   exact bg ⟨(i64 (n2+1)),ba ▸ h,R,R⟩ (Wk.eq R R R R)
  replace h:=aA h iC
  refine LH.exit (cv (bY (bM (av (LH.aj [(4,.bool true)] [] R (cm R zS) (LH.ret ?_))))))
  obtain rfl:=oI h
  exact aS (aT Tryz.results90) (bR R (bP ⟨aR mN,R,a8 R,Sub.rfl⟩))
theorem Pt {F:Nat} {p0:ai} {p1:ai} {r:Bool} (h:xZ F p0 p1=some r):aP Tryz.prog 74 [ai.lv p0,ai.lv p1] (Mem.of []) (.bool r) (Mem.of []):=by
  unfold xZ at h
  refine bu Tryz.func74 R (nT Tryz.ntmps74 R) (LH.wk (aX [(0,ai.lv p0),(1,ai.lv p1)] []) (LH.aj [(2,.ag (ai.lv p0).cells),(3,.ag (ai.lv p1).cells)] [] R (sB (dp R R R R (sB (dp R R R R (cm R zS))))) ?_))
  obtain ⟨w2,hv,h⟩:=al h
  refine LH.aj [(4,.bool w2)] [] R ?_ ?_
  ·refine sN (aw e6 aE bb R R R (sN (bf R aE bN (sN (aw e6 aE bb R R R (sN (bf R aE bN (sN (gm R R (bI R ?_))))))))))
   by_cases bZ:(p0.ID == p1.ID)=true
   ·replace hv:=aB hv bZ
    refine sT R (cB bZ) (aw fE aE bb R R R (sT R (cB bZ) (bf R aE bN (sT R (cB bZ) (aw fE aE bb R R R (sT R (cB bZ) (bf R aE bN (sT R (cB bZ) (gm R R (sN (aW (cB bZ) (v:=(.bool _)) R (bI R ?_))))))))))))
    by_cases bJ:(p0.Version == p1.Version)=true
    ·replace hv:=aB hv bJ
     refine sT R (cB bJ) (aw gJ oY wH R R R (sT R (cB bJ) (bf R oY DA (sT R (cB bJ) (aw gJ oY wH R R R (sT R (cB bJ) (bf R oY DA (LI R (cB bJ) ((vR R R).ok) (sN (aW (cB bJ) (v:=(.bool _)) R (bI R ?_)))))))))))
     by_cases bK:(decide (p0.bD=p1.bD))=true
     ·replace hv:=aB hv bK
      refine sT R (cB bK) (aw cX cY fy R R R (sT R (cB bK) (bf R cY iL (sT R (cB bK) (aw cX cY fy R R R (sT R (cB bK) (bf R cY iL ?_)))))))
      obtain ⟨r6,KK,hv⟩:=al hv
      refine sT R (cB bK) (dU (args:=[.ak 6 (p0.aI.map ao.lv),.ak 6 (p1.aI.map ao.lv)]) R OI R (aK (aK bt)) (Pa KK) R (sN (aW (cB bK) (v:=(.bool _)) R (bI R ?_))))
      by_cases bT:r6=true
      ·replace hv:=aB hv bT
       refine sT R (cB bT) (aw fp eI jh R R R (sT R (cB bT) (bf R eI l9 (sT R (cB bT) (aw fp eI jh R R R (sT R (cB bT) (bf R eI l9 ?_)))))))
       obtain ⟨r8,KM,hv⟩:=al hv
       refine sT R (cB bT) (dU (args:=[.L p0.aD,.L p1.aD]) R OJ R (aK (aK bt)) (Pb KM) R (sN (aW (cB bT) (v:=(.bool _)) R (cm R ?_))))
       obtain rfl:=oI hv
       exact zS
      ·replace bT:=bF bT
       replace hv:=aA hv bT
       refine sF R R bT (sF R R bT (sF R R bT (sF R R bT (sF R R bT (sN (aV (cB bT) (v:=(.bool _)) R (cm R ?_)))))))
       obtain rfl:=oI hv
       exact zS
     ·replace bK:=bF bK
      replace hv:=aA hv bK
      refine sF R R bK (sF R R bK (sF R R bK (sF R R bK (sF R R bK (sN (aV (cB bK) (v:=(.bool _)) R (bI R (sF R R R (sF R R R (sF R R R (sF R R R (sF R R R (sN (aV R (v:=(.bool _)) R (cm R ?_)))))))))))))))
      obtain rfl:=oI hv
      exact zS
    ·replace bJ:=bF bJ
     replace hv:=aA hv bJ
     refine sF R R bJ (sF R R bJ (sF R R bJ (sF R R bJ (sF R R bJ (sN (aV (cB bJ) (v:=(.bool _)) R (bI R (sF R R R (sF R R R (sF R R R (sF R R R (sF R R R (sN (aV R (v:=(.bool _)) R (bI R (sF R R R (sF R R R (sF R R R (sF R R R (sF R R R (sN (aV R (v:=(.bool _)) R (cm R ?_)))))))))))))))))))))))
     obtain rfl:=oI hv
     exact zS
   ·replace bZ:=bF bZ
    replace hv:=aA hv bZ
    refine sF R R bZ (sF R R bZ (sF R R bZ (sF R R bZ (sF R R bZ (sN (aV (cB bZ) (v:=(.bool _)) R (bI R (sF R R R (sF R R R (sF R R R (sF R R R (sF R R R (sN (aV R (v:=(.bool _)) R (bI R (sF R R R (sF R R R (sF R R R (sF R R R (sF R R R (sN (aV R (v:=(.bool _)) R (bI R (sF R R R (sF R R R (sF R R R (sF R R R (sF R R R (sN (aV R (v:=(.bool _)) R (cm R ?_)))))))))))))))))))))))))))))))
    obtain rfl:=oI hv
    exact zS
  clear hv
  refine LH.ret ?_
  obtain rfl:=oI h
  exact aS (aT Tryz.results74) (bR R (bP ⟨aR mN,R,a8 R,Sub.rfl⟩))
theorem PQ {F:Nat} {p0:ax} {p1:ax} {r:Bool} (h:iy F p0 p1=some r):aP Tryz.prog 56 [ax.lv p0,ax.lv p1] (Mem.of []) (.bool r) (Mem.of []):=by
  unfold iy at h
  refine bu Tryz.func56 R (nT Tryz.ntmps56 R) (LH.wk (aX [(0,ax.lv p0),(1,ax.lv p1)] []) (LH.aj [(2,.ag (ax.lv p0).cells),(3,.ag (ax.lv p1).cells)] [] R (sB (dp R R R R (sB (dp R R R R (cm R zS))))) ?_))
  obtain ⟨w2,hv,h⟩:=al h
  refine LH.aj [(4,.bool w2)] [] R ?_ ?_
  ·refine sN (aw db b6 bW R R R (sN (bh R b6 fX bW R R (sN (aw db b6 bW R R R (sN (bh R b6 fX bW R R (sN (CU R R (Eh p0.ar p1.ar) (bI R ?_))))))))))
   by_cases bZ:(decide (p0.ar=p1.ar))=true
   ·replace hv:=aB hv bZ
    refine sT R (cB bZ) (aw e8 aE bb R R R (sT R (cB bZ) (bf R aE bN (sT R (cB bZ) (aw e8 aE bb R R R (sT R (cB bZ) (bf R aE bN (sT R (cB bZ) (gm R R (sN (aW (cB bZ) (v:=(.bool _)) R (bI R ?_))))))))))))
    by_cases bJ:(p0.Kind == p1.Kind)=true
    ·replace hv:=aB hv bJ
     refine sT R (cB bJ) (aw eT fg eJ R R R (sT R (cB bJ) (bh R fg qf eJ R R (sT R (cB bJ) (aw eT fg eJ R R R (sT R (cB bJ) (bh R fg qf eJ R R (sT R (cB bJ) (CU R R (Eg p0.Ref p1.Ref) (sN (aW (cB bJ) (v:=(.bool _)) R (bI R ?_))))))))))))
     by_cases bK:(decide (p0.Ref=p1.Ref))=true
     ·replace hv:=aB hv bK
      refine sT R (cB bK) (aw kR aE bb R R R (sT R (cB bK) (bf R aE bN (sT R (cB bK) (aw kR aE bb R R R (sT R (cB bK) (bf R aE bN (sT R (cB bK) (gm R R (sN (aW (cB bK) (v:=(.bool _)) R (bI R ?_))))))))))))
      by_cases b3:(p0.Form == p1.Form)=true
      ·replace hv:=aB hv b3
       refine sT R (cB b3) (aw e9 cG ct R R R (sT R (cB b3) (bh R cG fo ct R R (sT R (cB b3) (aw e9 cG ct R R R (sT R (cB b3) (bh R cG fo ct R R ?_)))))))
       obtain ⟨r7,Al,hv⟩:=al hv
       refine sT R (cB b3) (dU (args:=[ai.lv p0.Item,ai.lv p1.Item]) R Oz R (aK (aK bt)) (Pt Al) R (sN (aW (cB b3) (v:=(.bool _)) R (cm R ?_))))
       obtain rfl:=oI hv
       exact zS
      ·replace b3:=bF b3
       replace hv:=aA hv b3
       refine sF R R b3 (sF R R b3 (sF R R b3 (sF R R b3 (sF R R b3 (sN (aV (cB b3) (v:=(.bool _)) R (cm R ?_)))))))
       obtain rfl:=oI hv
       exact zS
     ·replace bK:=bF bK
      replace hv:=aA hv bK
      refine sF R R bK (sF R R bK (sF R R bK (sF R R bK (sF R R bK (sN (aV (cB bK) (v:=(.bool _)) R (bI R (sF R R R (sF R R R (sF R R R (sF R R R (sF R R R (sN (aV R (v:=(.bool _)) R (cm R ?_)))))))))))))))
      obtain rfl:=oI hv
      exact zS
    ·replace bJ:=bF bJ
     replace hv:=aA hv bJ
     refine sF R R bJ (sF R R bJ (sF R R bJ (sF R R bJ (sF R R bJ (sN (aV (cB bJ) (v:=(.bool _)) R (bI R (sF R R R (sF R R R (sF R R R (sF R R R (sF R R R (sN (aV R (v:=(.bool _)) R (bI R (sF R R R (sF R R R (sF R R R (sF R R R (sF R R R (sN (aV R (v:=(.bool _)) R (cm R ?_)))))))))))))))))))))))
     obtain rfl:=oI hv
     exact zS
   ·replace bZ:=bF bZ
    replace hv:=aA hv bZ
    refine sF R R bZ (sF R R bZ (sF R R bZ (sF R R bZ (sF R R bZ (sN (aV (cB bZ) (v:=(.bool _)) R (bI R (sF R R R (sF R R R (sF R R R (sF R R R (sF R R R (sN (aV R (v:=(.bool _)) R (bI R (sF R R R (sF R R R (sF R R R (sF R R R (sF R R R (sN (aV R (v:=(.bool _)) R (bI R (sF R R R (sF R R R (sF R R R (sF R R R (sF R R R (sN (aV R (v:=(.bool _)) R (cm R ?_)))))))))))))))))))))))))))))))
    obtain rfl:=oI hv
    exact zS
  clear hv
  refine LH.ret ?_
  obtain rfl:=oI h
  exact aS (aT Tryz.results56) (bR R (bP ⟨aR mN,R,a8 R,Sub.rfl⟩))
theorem F1 {p0:ai} {r:ai} (h:AO p0=some r):aP Tryz.prog 41 [ai.lv p0] (Mem.of []) (ai.lv r) (Mem.of []):=by
  unfold AO at h
  refine bu Tryz.func41 R (nT Tryz.ntmps41 R) (LH.wk (aX [(0,ai.lv p0)] []) (LH.aj [(1,.ptr 101 0),(2,.ptr 102 0)] [(101,.box (ai.lv p0).cells),(102,.box fc)] R (sN (Td (id:=101) R R R R R R (sN (kS (id:=102) R A7 R R zS)))) ?_))
  obtain ⟨v1,kz,h⟩:=al h
  refine LH.aj [(1,.ptr 101 0),(2,.ptr 102 0)] [(101,.box [.I p0.ID,.I p0.Version,.str p0.bD,.ak 6 (v1.map ao.lv),.L p0.aD]),(102,.box fc)] R (sN (dK cX cY fy R R (sN (dW R R R R cY iL (sN (dU (args:=[.ak 6 (p0.aI.map ao.lv)]) R Ov R (aK bt) (aP.zP (wS (g:=ao.lv) Em R 105 kz) R) R (sN (dK cX cY fy R R (s_ (cV R R R cY fy R R R zS)))))))))) ?_
  obtain ⟨v2,wE,h⟩:=al h
  refine LH.aj [(1,.ag [.I p0.ID,.I p0.Version,.str p0.bD,.ak 6 (v1.map ao.lv),.L v2]),(2,.ptr 102 0)] [(102,.box fc)] R (sN (dK fp eI jh R R (sN (dW R R R R eI l9 (sN (dU (args:=[.L p0.aD]) R Ow R (aK bt) (aP.zP (wS (g:=LV.I) En R 109 wE) R) R (sN (dK fp eI jh R R (s_ (cV R R R eI jh R R R (s0 ((Wk.trans (aX [(1,.ptr 101 0),(2,.ptr 102 0)] [(101,.box [.I p0.ID,.I p0.Version,.str p0.bD,.ak 6 (v1.map ao.lv),.L v2]),(102,.box fc)]) (Wk.trans (Wk.bk 101 [.I p0.ID,.I p0.Version,.str p0.bD,.ak 6 (v1.map ao.lv),.L v2] R R R (bO R)) (Wk.eq R R R R))))))))))))))) (LH.aj [(2,.ag [.I p0.ID,.I p0.Version,.str p0.bD,.ak 6 (v1.map ao.lv),.L v2])] [] R (sN (bh R cG fo ct R R (s_ (cV R R R cG ct R R R (s0 ((Wk.trans (aX [(2,.ptr 102 0)] [(102,.box [.I p0.ID,.I p0.Version,.str p0.bD,.ak 6 (v1.map ao.lv),.L v2])]) (Wk.trans (Wk.bk 102 [.I p0.ID,.I p0.Version,.str p0.bD,.ak 6 (v1.map ao.lv),.L v2] R R R (bO R)) (Wk.eq R R R R))))))))) (LH.ret ?_))
  obtain rfl:=oI h
  exact aS (aT Tryz.results41) (df R cG fo ct R R (bP ⟨aR mN,R,a8 R,Sub.rfl⟩))
theorem Pl {F:Nat} {p0:List ax} {r:List ax × Int} (h:xS F p0=some r):aP Tryz.prog 32 [.ak 12 (p0.map ax.lv)] (Mem.of []) (.de [.ak 12 (r.1.map ax.lv),.I r.2]) (Mem.of []):=by
  unfold xS at h
  refine bu Tryz.func32 R (nT Tryz.ntmps32 R) (LH.wk (aX [(0,.ak 12 (p0.map ax.lv))] []) (LH.aj [(0,.ak 12 (p0.map ax.lv))] [] R (kh R (bo R zS)) ?_))
  obtain ⟨r1,ec,h⟩:=al h
  refine LH.aj [(0,.ak 12 (p0.map ax.lv)),(4,.L r1.1),(5,.I r1.2)] [] R (eZ R (sN (dU (args:=[.ak 12 (p0.map ax.lv),.fn 55 [],.fn 56 []]) R Oh R (aK (aK (aK bt))) (O7 (dL:=55) (c4:=[]) Oi R (fun _ _ h=>Pe h) (et:=56) (dq:=[]) Oj R (fun _ _ _ h=>PQ h) ec) R (yH R (sN (iO R R (sN (iO R R (qb R (bo R zS)))))))))) (LH.seq (LH.aj [(0,.ak 12 (p0.map ax.lv)),(4,.L r1.1),(5,.I r1.2),(15,.bool (r1.2 != 0))] [] R (bl R (sN (kg R R zS))) (LH.cond (t:=(r1.2 != 0)) R (fun fJ=>?_) (fun fJ=>?_))))
  ·replace h:=aB h fJ
   refine LH.aj [(2,.nil),(3,.I r1.2)] [] R (bl R (kh R (bo R zS))) (LH.ret (aZ ?_))
   obtain rfl:=oI h
   exact aS (aT Tryz.results32) (bR R (bR R (bP ⟨aR mN,R,a8 R,(Sub.de (yI (aK bt)))⟩)))
  replace h:=aA h fJ
  refine LH.skip (av ?_)
  obtain ⟨v3,Nz,h⟩:=al h
  refine LH.aj [(0,.ak 12 (p0.map ax.lv)),(4,.L r1.1),(6,.arr 119 v3.length)] [(119,.arr 63 12 (v3.map ax.lv))] R (eZ R (sN (bX (f:=LV.I) cz R (sX (Lt (f:=ax.lv) (z:=(ax.mk (aL.mk 0 0 0) 0 (ai.mk 0 0 (ByteArray.mk #[]) [] []) (aG.mk 0 0) 0)) (id:=119) R gn y7 y2 ew R R R (Sub.agg (aK (aK (aK (aK (aK (aK (aK (yI (yI (aK (aK (aK bt))))))))))))) ax.ok Nz R) (nE R zS))))) (LH.seq (LH.aj [(0,.ak 12 (p0.map ax.lv)),(6,.arr 119 v3.length),(20,.L r1.1),(21,.I (r1.1.length:Int)),(22,.I 0)] [(119,.arr 63 12 (v3.map ax.lv))] R (eZ R (sN (bX (f:=LV.I) cz R (bl R zS)))) (LH.block (LH.loop (fun n e m=>∃ (n4:Int) (l5:List ax),AI p0 r1 n n4 l5=some r∧e=Env.of [(0,.ak 12 (p0.map ax.lv)),(6,.arr 119 l5.length),(20,.L r1.1),(21,.I (r1.1.length:Int)),(22,.I n4)]∧m=Mem.of [(119,.arr 63 12 (l5.map ax.lv))]) F ⟨0,v3,h,R,R⟩ ?_))))
  clear h
  rintro n e m ⟨n4,l5,h,rfl,rfl⟩
  rcases n with _ | n
  · cases (show Option.none=some _ from h)
  obtain ⟨aH,ba⟩:∃ f,f=AI p0 r1 n:=⟨_,rfl⟩
  replace h:Gm p0 r1 aH n4 l5=some r:=ba ▸ h
  unfold Gm at h
  refine LH.aj [(0,.ak 12 (p0.map ax.lv)),(6,.arr 119 l5.length),(20,.L r1.1),(21,.I (r1.1.length:Int)),(22,.I n4),(23,.bool (decide (n4<(r1.1.length:Int))))] [(119,.arr 63 12 (l5.map ax.lv))] R (sN (fi R R zS)) (LH.seq (LH.cond (t:=(decide (n4<(r1.1.length:Int)))) R (fun gb=>?_) (fun gb=>?_)))
  ·replace h:=aB h gb
   refine LH.skip (av (LH.wk (aX [(0,.ak 12 (p0.map ax.lv)),(6,.arr 119 l5.length),(20,.L r1.1),(21,.I (r1.1.length:Int)),(22,.I n4)] [(119,.arr 63 12 (l5.map ax.lv))]) (LH.seq (LH.block ?_))))
   obtain ⟨x7,DQ,h⟩:=al h
   refine LH.aj [(0,.ak 12 (p0.map ax.lv)),(6,.arr 119 l5.length),(7,.I n4),(8,.I x7),(20,.L r1.1),(21,.I (r1.1.length:Int)),(22,.I n4)] [(119,.arr 63 12 (l5.map ax.lv))] R (bl R (sN (eW (f:=LV.I) cz aE bb R R lO DQ R (sN (bf R aE bN (bo R (bo R zS))))))) ?_
   obtain ⟨x8,ud,h⟩:=al h
   obtain ⟨x9,zl,h⟩:=al h
   refine LH.aj [(0,.ak 12 (p0.map ax.lv)),(6,.arr 119 (List.length (l5.set n4.toNat x8))),(7,.I n4),(8,.I x7),(20,.L r1.1),(21,.I (r1.1.length:Int)),(22,.I n4)] [(119,.arr 63 12 (List.map ax.lv (l5.set n4.toNat x8)))] R (j5 R (bl R (eZ R (bl R (sN (eW (f:=ax.lv) gn fx ew R R ax.ok ud R (sN (bh R fx me ew R R (sN (gX (f:=ax.lv) gn fx ew R R R zl (s_ (ri (f:=ax.lv) (z':=x8) R R R R fx ew R (dC zl).2 R (s0 (Wk.to (eC R (eC (congrArg (LV.arr 119) (by simp)) (eC R (eC R (eC R (eC R (eC R eN))))))) ⟨R,trivial⟩ R (a8 R))))))))))))))) ?_
   obtain ⟨qR,ub,h⟩:=al h
   obtain ⟨cJ,lz,h⟩:=al h
   obtain ⟨gq,px,h⟩:=al h
   refine LH.aQ [(0,.ak 12 (p0.map ax.lv)),(6,.arr 119 (List.length ((l5.set n4.toNat x8).set n4.toNat (ax.mk gq.ar gq.Kind cJ gq.Ref gq.Form)))),(20,.L r1.1),(21,.I (r1.1.length:Int)),(22,.I n4)] [(119,.arr 63 12 (List.map ax.lv ((l5.set n4.toNat x8).set n4.toNat (ax.mk gq.ar gq.Kind cJ gq.Ref gq.Form))))] R (j5 R (bl R (eZ R (bl R (sN (eW (f:=ax.lv) gn fx ew R R ax.ok ub R (sN (aw e9 cG ct R R R (sN (bh R cG fo ct R R (sN (dU (args:=[ai.lv qR.Item]) R Ft R (aK bt) (F1 lz) R (sN (gX (f:=ax.lv) gn fx ew R R R px (sN (HU (f:=ax.lv) e9 cG ct R R R (s_ (ri (f:=ax.lv) (z':=(ax.mk gq.ar gq.Kind cJ gq.Ref gq.Form)) R R R R cG ct R (dC px).2 R (s0 (Wk.to (eC R (eC (congrArg (LV.arr 119) (by simp)) (eC R (eC R (eC R eN))))) ⟨R,trivial⟩ R (a8 R))))))))))))))))))))) (aY (av (LH.aQ [(0,.ak 12 (p0.map ax.lv)),(6,.arr 119 (List.length ((l5.set n4.toNat x8).set n4.toNat (ax.mk gq.ar gq.Kind cJ gq.Ref gq.Form)))),(20,.L r1.1),(21,.I (r1.1.length:Int)),(22,.I (i64 (n4+1)))] [(119,.arr 63 12 (List.map ax.lv ((l5.set n4.toNat x8).set n4.toNat (ax.mk gq.ar gq.Kind cJ gq.Ref gq.Form))))] R (sN (cr R R (bl R zS))) ?_)))
   exact bg ⟨(i64 (n4+1)),((l5.set n4.toNat x8).set n4.toNat (ax.mk gq.ar gq.Kind cJ gq.Ref gq.Form)),ba ▸ h,R,R⟩ (Wk.eq R R R R)
  replace h:=aA h gb
  refine LH.exit (cv (bY (bM (av (LH.wk ((Wk.trans (aX [(6,.arr 119 l5.length)] [(119,.arr 63 12 (l5.map ax.lv))]) (Wk.trans (Wk.kL (f:=ax.lv) (fk:=[(6,.ak 12 (l5.map ax.lv))]) 119 63 12 l5 R R (bO R) (fZ fN)) (aX [(6,.ak 12 (l5.map ax.lv))] [])))) (LH.aj [(2,.ak 12 (l5.map ax.lv)),(3,.I 0)] [] R (eZ R (qb R (bo R zS))) (LH.ret ?_)))))))
  obtain rfl:=oI h
  exact aS (aT Tryz.results32) (bR R (bR R (bP ⟨aR mN,R,a8 R,(Sub.de (aK (aK bt)))⟩)))
theorem Js {p0:Int} {r:Bool} (h:uW p0=some r):aP Tryz.prog 91 [.I p0] (Mem.of []) (.bool r) (Mem.of []):=by
  unfold uW at h
  refine bu Tryz.func91 R (nT Tryz.ntmps91 R) (LH.wk (aX [(0,.I p0)] []) (LH.aj [(0,.I p0)] [] R (cm R zS) (LH.aj [(2,.bool ((decide (p0 ≥ 0)) && (decide (p0≤9999))))] [] R ?_ ?_)))
  ·refine bl R (sN (pD R R (bI R ?_)))
   by_cases cL:(decide (p0 ≥ 0))=true
   ·exact sT R (cB cL) (oM (v:=(.int _ _)) R (sT R (cB cL) (FJ R R (sN (aW (cB cL) (v:=(.bool _)) R (cm R (s0 (Wk.to (eC (cB (dv cL)) eN) mN R (a8 R)))))))))
   ·replace cL:=bF cL
    exact sF R R cL (sF R R cL (sN (aV (cB cL) (v:=(.bool _)) R (cm R (s0 (Wk.to (eC (cB (jA cL)) eN) mN R (a8 R)))))))
  refine LH.ret ?_
  obtain rfl:=oI h
  exact aS (aT Tryz.results91) (bR R (bP ⟨aR mN,R,a8 R,Sub.rfl⟩))
theorem Pn {F:Nat} {p0:ByteArray} {r:Bool} (h:xV F p0=some r):aP Tryz.prog 92 [.str p0] (Mem.of []) (.bool r) (Mem.of []):=by
  unfold xV at h
  refine bu Tryz.func92 R (nT Tryz.ntmps92 R) (LH.wk (aX [(0,.str p0)] []) (LH.aj [(0,.str p0)] [] R (cm R zS) (LH.seq (LH.aj [(0,.str p0),(3,.I 0)] [] R (bo R zS) (LH.block (LH.loop (fun n e m=>∃ (n1:Int),AJ p0 n n1=some r∧e=Env.of [(0,.str p0),(3,.I n1)]∧m=Mem.of []) F ⟨0,h,R,R⟩ ?_))))))
  clear h
  rintro n e m ⟨n1,h,rfl,rfl⟩
  rcases n with _ | n
  · cases (show Option.none=some _ from h)
  obtain ⟨aH,ba⟩:∃ f,f=AJ p0 n:=⟨_,rfl⟩
  replace h:Gn p0 aH n1=some r:=ba ▸ h
  unfold Gn at h
  refine LH.seq (LH.aj [(0,.str p0),(3,.I n1),(7,.bool (decide (n1<(p0.size:Int))))] [] R (bl R (sN (oM (v:=(.str _)) R (sX ((rE Ig R).ok) (sN (fi R R zS)))))) (LH.cond (t:=(decide (n1<(p0.size:Int)))) R (fun fJ=>?_) (fun fJ=>?_)))
  ·replace h:=aB h fJ
   refine LH.skip (av (LH.wk (aX [(0,.str p0),(3,.I n1)] []) (LH.seq (LH.block ?_))))
   obtain ⟨w4,hv,h⟩:=al h
   refine LH.aj [(0,.str p0),(3,.I n1),(19,.bool w4)] [] R ?_ ?_
   ·refine sN (oM (v:=(.str _)) R (bl R ?_))
    obtain ⟨x5,oy,hv⟩:=al hv
    refine sX ((vS Ig R R oy).ok) (sN (fi R R (bI R ?_)))
    by_cases b3:(decide (x5<32))=true
    ·replace hv:=aB hv b3
     refine sF R R b3 (sF R R b3 (sF R R b3 (sF R R b3 (sN (aW (cB b3) (v:=(.bool _)) R ?_)))))
     obtain rfl:=oI hv
     exact zS
    ·replace b3:=bF b3
     replace hv:=aA hv b3
     refine sT R (cB b3) (oM (v:=(.str _)) R (sT R (cB b3) (oM (v:=(.int _ _)) R ?_)))
     obtain ⟨x7,DQ,hv⟩:=al hv
     refine LI R (cB b3) ((vS Ig R R DQ).ok) (sT R (cB b3) (iw R R (sN (aV (cB b3) (v:=(.bool _)) R ?_))))
     obtain rfl:=oI hv
     exact zS
   clear hv
   refine LH.cond (t:=w4) R (fun ly=>?_) (fun ly=>?_)
   ·replace h:=aB h ly
    refine LH.aj [(2,.bool false)] [] R (cm R zS) (LH.ret (bL (aZ (dY (bL (aZ ?_))))))
    obtain rfl:=oI h
    exact aS (aT Tryz.results92) (bR R (bP ⟨aR mN,R,a8 R,Sub.rfl⟩))
   replace h:=aA h ly
   refine LH.skip (aY (av (LH.aQ [(0,.str p0),(3,.I (i64 (n1+1)))] [] R (bl R (sN (cr R R (bo R zS)))) ?_)))
   exact bg ⟨(i64 (n1+1)),ba ▸ h,R,R⟩ (Wk.eq R R R R)
  replace h:=aA h fJ
  refine LH.exit (cv (bY (bM (av (LH.aj [(2,.bool true)] [] R (cm R zS) (LH.ret ?_))))))
  obtain rfl:=oI h
  exact aS (aT Tryz.results92) (bR R (bP ⟨aR mN,R,a8 R,Sub.rfl⟩))
theorem Pm {p0:ao} {r:Bool} (h:xU p0=some r):aP Tryz.prog 93 [ao.lv p0] (Mem.of []) (.bool r) (Mem.of []):=by
  unfold xU at h
  refine bu Tryz.func93 R (nT Tryz.ntmps93 R) (LH.wk (aX [(0,ao.lv p0)] []) (LH.aj [(1,.ag (ao.lv p0).cells)] [] R (sB (dp R R R R (cm R zS))) (LH.seq (LH.aj [(1,.ag (ao.lv p0).cells),(30,.bool ((decide (p0.Max<1)) || ((decide (p0.Max > 40)) || ((decide (p0.e5<0)) || ((decide (p0.e5 ≥ 16)) || ((decide (p0.cg<0)) || (decide (p0.cg ≥ 6))))))))] [] R ?_ ?_))))
  ·refine sN (aw mP aE bb R R R (sN (bf R aE bN (sN (fi R R (bI R ?_))))))
   by_cases cL:(decide (p0.Max<1))=true
   ·exact sF R R cL (sF R R cL (sF R R cL (sN (aW (cB cL) (v:=(.bool _)) R (bI R (sF R R R (sF R R R (sF R R R (sN (aW R (v:=(.bool _)) R (bI R (sF R R R (sF R R R (sF R R R (sN (aW R (v:=(.bool _)) R (bI R (sF R R R (sF R R R (sF R R R (sN (aW R (v:=(.bool _)) R (bI R (sF R R R (sF R R R (sF R R R (sN (aW R (v:=(.bool _)) R (s0 (Wk.to (eC R (eC (cB (p7 cL)) eN)) mN R (a8 R)))))))))))))))))))))))))))))))
   ·replace cL:=bF cL
    refine sT R (cB cL) (aw mP aE bb R R R (sT R (cB cL) (bf R aE bN (sT R (cB cL) (iw R R (sN (aV (cB cL) (v:=(.bool _)) R (bI R ?_))))))))
    by_cases bZ:(decide (p0.Max > 40))=true
    ·exact sF R R bZ (sF R R bZ (sF R R bZ (sN (aW (cB bZ) (v:=(.bool _)) R (bI R (sF R R R (sF R R R (sF R R R (sN (aW R (v:=(.bool _)) R (bI R (sF R R R (sF R R R (sF R R R (sN (aW R (v:=(.bool _)) R (bI R (sF R R R (sF R R R (sF R R R (sN (aW R (v:=(.bool _)) R (s0 (Wk.to (eC R (eC (cB (Eq.trans (p7 bZ) (iJ cL))) eN)) mN R (a8 R)))))))))))))))))))))))))
    ·replace bZ:=bF bZ
     refine sT R (cB bZ) (aw qg aE bb R R R (sT R (cB bZ) (bf R aE bN (sT R (cB bZ) (fi R R (sN (aV (cB bZ) (v:=(.bool _)) R (bI R ?_))))))))
     by_cases bJ:(decide (p0.e5<0))=true
     ·exact sF R R bJ (sF R R bJ (sF R R bJ (sN (aW (cB bJ) (v:=(.bool _)) R (bI R (sF R R R (sF R R R (sF R R R (sN (aW R (v:=(.bool _)) R (bI R (sF R R R (sF R R R (sF R R R (sN (aW R (v:=(.bool _)) R (s0 (Wk.to (eC R (eC (cB (Eq.trans (Eq.trans (p7 bJ) (iJ bZ)) (iJ cL))) eN)) mN R (a8 R)))))))))))))))))))
     ·replace bJ:=bF bJ
      refine sT R (cB bJ) (aw qg aE bb R R R (sT R (cB bJ) (bf R aE bN (sT R (cB bJ) (pD R R (sN (aV (cB bJ) (v:=(.bool _)) R (bI R ?_))))))))
      by_cases bK:(decide (p0.e5 ≥ 16))=true
      ·exact sF R R bK (sF R R bK (sF R R bK (sN (aW (cB bK) (v:=(.bool _)) R (bI R (sF R R R (sF R R R (sF R R R (sN (aW R (v:=(.bool _)) R (s0 (Wk.to (eC R (eC (cB (Eq.trans (Eq.trans (Eq.trans (p7 bK) (iJ bJ)) (iJ bZ)) (iJ cL))) eN)) mN R (a8 R)))))))))))))
      ·replace bK:=bF bK
       refine sT R (cB bK) (aw qh aE bb R R R (sT R (cB bK) (bf R aE bN (sT R (cB bK) (fi R R (sN (aV (cB bK) (v:=(.bool _)) R (bI R ?_))))))))
       by_cases b3:(decide (p0.cg<0))=true
       ·exact sF R R b3 (sF R R b3 (sF R R b3 (sN (aW (cB b3) (v:=(.bool _)) R (s0 (Wk.to (eC R (eC (cB (Eq.trans (Eq.trans (Eq.trans (Eq.trans (p7 b3) (iJ bK)) (iJ bJ)) (iJ bZ)) (iJ cL))) eN)) mN R (a8 R)))))))
       ·replace b3:=bF b3
        exact sT R (cB b3) (aw qh aE bb R R R (sT R (cB b3) (bf R aE bN (sT R (cB b3) (pD R R (sN (aV (cB b3) (v:=(.bool _)) R (s0 (Wk.to (eC R (eC (cB (Eq.trans (Eq.trans (Eq.trans (Eq.trans (iJ b3) (iJ bK)) (iJ bJ)) (iJ bZ)) (iJ cL))) eN)) mN R (a8 R))))))))))
  refine LH.cond (t:=((decide (p0.Max<1)) || ((decide (p0.Max > 40)) || ((decide (p0.e5<0)) || ((decide (p0.e5 ≥ 16)) || ((decide (p0.cg<0)) || (decide (p0.cg ≥ 6)))))))) R (fun ke=>?_) (fun ke=>?_)
  ·replace h:=aB h ke
   refine LH.aj [(2,.bool false)] [] R (cm R zS) (LH.ret (aZ ?_))
   obtain rfl:=oI h
   exact aS (aT Tryz.results93) (bR R (bP ⟨aR mN,R,a8 R,Sub.rfl⟩))
  replace h:=aA h ke
  refine LH.skip (av (LH.wk (aX [(1,.ag (ao.lv p0).cells)] []) (LH.seq (LH.aj [(1,.ag (ao.lv p0).cells),(32,.I p0.Kind)] [] R (sN (aw oS aE bb R R R (sN (bf R aE bN zS)))) (LH.block (LH.aj [(1,.ag (ao.lv p0).cells),(32,.I p0.Kind),(33,.bool (p0.Kind == 1))] [] R (sN (gm R R (cm R zS))) (LH.cond (t:=(p0.Kind == 1)) R (fun ly=>?_) (fun ly=>?_))))))))
  ·replace h:=aB h ly
   refine LH.aj [(2,.bool ((p0.Options == 0) && (p0.Key == 0)))] [] R ?_ ?_
   ·refine sN (aw j9 aE bb R R R (sN (bf R aE bN (sN (gm R R (bI R ?_))))))
    by_cases bx:(p0.Options == 0)=true
    ·exact sT R (cB bx) (aw mQ aE bb R R R (sT R (cB bx) (bf R aE bN (sT R (cB bx) (gm R R (sN (aW (cB bx) (v:=(.bool _)) R (cm R (s0 (Wk.to (eC (cB (dv bx)) eN) mN R (a8 R)))))))))))
    ·replace bx:=bF bx
     exact sF R R bx (sF R R bx (sF R R bx (sN (aV (cB bx) (v:=(.bool _)) R (cm R (s0 (Wk.to (eC (cB (jA bx)) eN) mN R (a8 R))))))))
   refine LH.ret (bL (aZ ?_))
   obtain rfl:=oI h
   exact aS (aT Tryz.results93) (bR R (bP ⟨aR mN,R,a8 R,Sub.rfl⟩))
  replace h:=aA h ly
  refine LH.aj [(1,.ag (ao.lv p0).cells),(43,.bool (p0.Kind == 2))] [] R (sN (gm R R (cm R zS))) (LH.cond (t:=(p0.Kind == 2)) R (fun iA=>?_) (fun iA=>?_))
  ·replace h:=aB h iA
   refine LH.aj [(2,.bool ((decide (p0.Options ≥ 2)) && ((decide (p0.Options≤5)) && ((decide (p0.Key ≥ 0)) && (decide (p0.Key<p0.Options))))))] [] R ?_ ?_
   ·refine sN (aw j9 aE bb R R R (sN (bf R aE bN (sN (pD R R (bI R ?_))))))
    by_cases bS:(decide (p0.Options ≥ 2))=true
    ·refine sT R (cB bS) (aw j9 aE bb R R R (sT R (cB bS) (bf R aE bN (sT R (cB bS) (FJ R R (sN (aW (cB bS) (v:=(.bool _)) R (bI R ?_))))))))
     by_cases cC:(decide (p0.Options≤5))=true
     ·refine sT R (cB cC) (aw mQ aE bb R R R (sT R (cB cC) (bf R aE bN (sT R (cB cC) (pD R R (sN (aW (cB cC) (v:=(.bool _)) R (bI R ?_))))))))
      by_cases bV:(decide (p0.Key ≥ 0))=true
      ·exact sT R (cB bV) (aw mQ aE bb R R R (sT R (cB bV) (bf R aE bN (sT R (cB bV) (aw j9 aE bb R R R (sT R (cB bV) (bf R aE bN (sT R (cB bV) (fi R R (sN (aW (cB bV) (v:=(.bool _)) R (cm R (s0 (Wk.to (eC (cB (Eq.trans (Eq.trans (dv bV) (dv cC)) (dv bS))) eN) mN R (a8 R)))))))))))))))
      ·replace bV:=bF bV
       exact sF R R bV (sF R R bV (sF R R bV (sF R R bV (sF R R bV (sN (aV (cB bV) (v:=(.bool _)) R (cm R (s0 (Wk.to (eC (cB (Eq.trans (Eq.trans (jA bV) (dv cC)) (dv bS))) eN) mN R (a8 R))))))))))
     ·replace cC:=bF cC
      exact sF R R cC (sF R R cC (sF R R cC (sN (aV (cB cC) (v:=(.bool _)) R (bI R (sF R R R (sF R R R (sF R R R (sF R R R (sF R R R (sN (aV R (v:=(.bool _)) R (cm R (s0 (Wk.to (eC (cB (Eq.trans (jA cC) (dv bS))) eN) mN R (a8 R))))))))))))))))
    ·replace bS:=bF bS
     exact sF R R bS (sF R R bS (sF R R bS (sN (aV (cB bS) (v:=(.bool _)) R (bI R (sF R R R (sF R R R (sF R R R (sN (aV R (v:=(.bool _)) R (bI R (sF R R R (sF R R R (sF R R R (sF R R R (sF R R R (sN (aV R (v:=(.bool _)) R (cm R (s0 (Wk.to (eC (cB (jA bS)) eN) mN R (a8 R))))))))))))))))))))))
   refine LH.ret (bL (aZ ?_))
   obtain rfl:=oI h
   exact aS (aT Tryz.results93) (bR R (bP ⟨aR mN,R,a8 R,Sub.rfl⟩))
  replace h:=aA h iA
  refine LH.skip (aY (av (LH.aj [(2,.bool false)] [] R (cm R zS) (LH.ret ?_))))
  obtain rfl:=oI h
  exact aS (aT Tryz.results93) (bR R (bP ⟨aR mN,R,a8 R,Sub.rfl⟩))
theorem Pc {F:Nat} {p0:Int} {p1:List Int} {r:Bool} (h:Gv F p0 p1=some r):aP Tryz.prog 94 [.I p0,.L p1] (Mem.of []) (.bool r) (Mem.of []):=by
  unfold Gv at h
  refine bu Tryz.func94 R (nT Tryz.ntmps94 R) (LH.wk (aX [(0,.I p0),(1,.L p1)] []) (LH.aj [(0,.I p0),(1,.L p1)] [] R (cm R zS) (LH.seq (LH.aj [(0,.I p0),(1,.L p1),(7,.L p1),(8,.I (p1.length:Int)),(9,.I 0)] [] R (eZ R (sN (bX (f:=LV.I) cz R (bl R zS)))) (LH.block (LH.loop (fun n e m=>∃ (n1:Int),C7 p0 p1 n n1=some r∧e=Env.of [(0,.I p0),(1,.L p1),(7,.L p1),(8,.I (p1.length:Int)),(9,.I n1)]∧m=Mem.of []) F ⟨0,h,R,R⟩ ?_))))))
  clear h
  rintro n e m ⟨n1,h,rfl,rfl⟩
  rcases n with _ | n
  · cases (show Option.none=some _ from h)
  obtain ⟨aH,ba⟩:∃ f,f=C7 p0 p1 n:=⟨_,rfl⟩
  replace h:Gc p0 p1 aH n1=some r:=ba ▸ h
  unfold Gc at h
  refine LH.aj [(0,.I p0),(1,.L p1),(7,.L p1),(8,.I (p1.length:Int)),(9,.I n1),(10,.bool (decide (n1<(p1.length:Int))))] [] R (sN (fi R R zS)) (LH.seq (LH.cond (t:=(decide (n1<(p1.length:Int)))) R (fun fJ=>?_) (fun fJ=>?_)))
  ·replace h:=aB h fJ
   refine LH.skip (av (LH.wk (aX [(0,.I p0),(1,.L p1),(7,.L p1),(8,.I (p1.length:Int)),(9,.I n1)] []) (LH.seq (LH.block ?_))))
   obtain ⟨x3,fR,h⟩:=al h
   refine LH.aj [(0,.I p0),(1,.L p1),(5,.I n1),(6,.I x3),(7,.L p1),(8,.I (p1.length:Int)),(9,.I n1)] [] R (bl R (sN (eW (f:=LV.I) cz aE bb R R lO fR R (sN (bf R aE bN (bo R (bo R zS))))))) ?_
   obtain ⟨w5,hv,h⟩:=al h
   refine LH.aj [(0,.I p0),(1,.L p1),(7,.L p1),(8,.I (p1.length:Int)),(9,.I n1),(34,.bool w5)] [] R ?_ ?_
   ·refine bl R ?_
    obtain ⟨r6,KK,hv⟩:=al hv
    refine sN (dU (args:=[.I x3]) R Jb R (aK bt) (Js KK) R (sN (kp R (bI R ?_))))
    by_cases bT:(!r6)=true
    ·replace hv:=aB hv bT
     refine sF R R bT (sF R R bT (sF R R bT (sN (aW (cB bT) (v:=(.bool _)) R (bI R (sF R R R (sF R R R (sF R R R (sU R R (sU R R (sU R R (sU R R (sU R R (sU R R (sU R R (sF R R R (sN (aW R (v:=(.bool _)) R ?_))))))))))))))))))
     obtain rfl:=oI hv
     exact zS
    ·replace bT:=bF bT
     replace hv:=aA hv bT
     refine sT R (cB bT) (oM (v:=(.int _ _)) R (sT R (cB bT) (oM (v:=(.int _ _)) R (sT R (cB bT) (gm R R (sN (aV (cB bT) (v:=(.bool _)) R (bI R ?_))))))))
     by_cases c6:(x3 == p0)=true
     ·replace hv:=aB hv c6
      refine sF R R c6 (sF R R c6 (sF R R c6 (sU R R (sU R R (sU R R (sU R R (sU R R (sU R R (sU R R (sF R R c6 (sN (aW (cB c6) (v:=(.bool _)) R ?_))))))))))))
      obtain rfl:=oI hv
      exact zS
     ·replace c6:=bF c6
      replace hv:=aA hv c6
      refine sT R (cB c6) (oM (v:=(.int _ _)) R (sT R (cB c6) (iw R R (sT R (cB c6) (oM (v:=(.bool _)) R ?_)))))
      by_cases cP:(decide (n1 > 0))=true
      ·replace hv:=aB hv cP
       refine sT R (cB cP) (oM (v:=(.ak _ _)) R (sT R (cB cP) (oM (v:=(.int _ _)) R (sT R (cB cP) (iG R R ?_)))))
       obtain ⟨qR,ub,hv⟩:=al hv
       refine sT R (cB cP) (eW (f:=LV.I) cz aE bb R R lO ub R (sT R (cB cP) (bf R aE bN (sT R (cB cP) (oM (v:=(.int _ _)) R (sT R (cB cP) (pD R R (sT R (cB c6) (aW (cB cP) (v:=(.bool _)) R (sN (aV (cB c6) (v:=(.bool _)) R ?_)))))))))))
       obtain rfl:=oI hv
       exact zS
      ·replace cP:=bF cP
       replace hv:=aA hv cP
       refine sF R R cP (sF R R cP (sF R R cP (sF R R cP (sF R R cP (sF R R cP (sF R R cP (sT R (cB c6) (aV (cB cP) (v:=(.bool _)) R (sN (aV (cB c6) (v:=(.bool _)) R ?_))))))))))
       obtain rfl:=oI hv
       exact zS
   clear hv
   refine LH.cond (t:=w5) R (fun iA=>?_) (fun iA=>?_)
   ·replace h:=aB h iA
    refine LH.aj [(4,.bool false)] [] R (cm R zS) (LH.ret (bL (aZ (dY (bL (aZ ?_))))))
    obtain rfl:=oI h
    exact aS (aT Tryz.results94) (bR R (bP ⟨aR mN,R,a8 R,Sub.rfl⟩))
   replace h:=aA h iA
   refine LH.skip (aY (av (LH.aQ [(0,.I p0),(1,.L p1),(7,.L p1),(8,.I (p1.length:Int)),(9,.I (i64 (n1+1)))] [] R (sN (cr R R (bl R zS))) ?_)))
   exact bg ⟨(i64 (n1+1)),ba ▸ h,R,R⟩ (Wk.eq R R R R)
  replace h:=aA h fJ
  refine LH.exit (cv (bY (bM (av (LH.aj [(4,.bool true)] [] R (cm R zS) (LH.ret ?_))))))
  obtain rfl:=oI h
  exact aS (aT Tryz.results94) (bR R (bP ⟨aR mN,R,a8 R,Sub.rfl⟩))
theorem F5 {F:Nat} {p0:ai} {r:Int} (h:tq F p0=some r):aP Tryz.prog 75 [ai.lv p0] (Mem.of []) (.I r) (Mem.of []):=by
  unfold tq at h
  refine bu Tryz.func75 R (nT Tryz.ntmps75 R) (LH.wk (aX [(0,ai.lv p0)] []) (LH.aj [(1,.ag (ai.lv p0).cells)] [] R (sB (dp R R R R (bo R zS))) (LH.seq ?_)))
  obtain ⟨w2,hv,h⟩:=al h
  refine LH.aj [(1,.ag (ai.lv p0).cells),(18,.bool w2)] [] R ?_ ?_
  ·refine sN (aw e6 aE bb R R R (sN (bf R aE bN ?_)))
   obtain ⟨r3,nf,hv⟩:=al hv
   refine sN (dU (args:=[.I p0.ID]) R Jb R (aK bt) (Js nf) R (sN (kp R (bI R ?_))))
   by_cases bJ:(!r3)=true
   ·replace hv:=aB hv bJ
    refine sF R R bJ (sF R R bJ (sF R R bJ (sN (aW (cB bJ) (v:=(.bool _)) R (bI R (sF R R R (sF R R R (sF R R R (sN (aW R (v:=(.bool _)) R ?_))))))))))
    obtain rfl:=oI hv
    exact zS
   ·replace bJ:=bF bJ
    replace hv:=aA hv bJ
    refine sT R (cB bJ) (aw fE aE bb R R R (sT R (cB bJ) (bf R aE bN (sT R (cB bJ) (fi R R (sN (aV (cB bJ) (v:=(.bool _)) R (bI R ?_))))))))
    by_cases bK:(decide (p0.Version<1))=true
    ·replace hv:=aB hv bK
     refine sF R R bK (sF R R bK (sF R R bK (sN (aW (cB bK) (v:=(.bool _)) R ?_))))
     obtain rfl:=oI hv
     exact zS
    ·replace bK:=bF bK
     replace hv:=aA hv bK
     refine sT R (cB bK) (aw fE aE bb R R R (sT R (cB bK) (bf R aE bN (sT R (cB bK) (iw R R (sN (aV (cB bK) (v:=(.bool _)) R ?_)))))))
     obtain rfl:=oI hv
     exact zS
  clear hv
  refine LH.cond (t:=w2) R (fun gb=>?_) (fun gb=>?_)
  ·replace h:=aB h gb
   refine LH.aj [(2,.I 2)] [] R (bo R zS) (LH.ret (aZ ?_))
   obtain rfl:=oI h
   exact aS (aT Tryz.results75) (bR R (bP ⟨aR mN,R,a8 R,Sub.rfl⟩))
  replace h:=aA h gb
  refine LH.skip (av (LH.wk (aX [(1,.ag (ai.lv p0).cells)] []) (LH.seq (LH.aj [(1,.ag (ai.lv p0).cells),(34,.bool ((decide ((p0.bD.size:Int) > 40)) || ((decide ((p0.aI.length:Int) > 6)) || (decide ((p0.aD.length:Int) > 8)))))] [] R ?_ ?_))))
  ·refine sN (aw gJ oY wH R R R (sN (bf R oY DA (sX ((rE Ig R).ok) (sN (iw R R (bI R ?_)))))))
   by_cases c6:(decide ((p0.bD.size:Int) > 40))=true
   ·exact sF R R c6 (sF R R c6 (sF R R c6 (sF R R c6 (sN (aW (cB c6) (v:=(.bool _)) R (bI R (sF R R R (sF R R R (sF R R R (sF R R R (sN (aW R (v:=(.bool _)) R (s0 (Wk.to (eC R (eC (cB (p7 c6)) eN)) mN R (a8 R)))))))))))))))
   ·replace c6:=bF c6
    refine sT R (cB c6) (aw cX cY fy R R R (sT R (cB c6) (bf R cY iL (sT R (cB c6) (bX (f:=ao.lv) gj R (sT R (cB c6) (iw R R (sN (aV (cB c6) (v:=(.bool _)) R (bI R ?_))))))))))
    by_cases cP:(decide ((p0.aI.length:Int) > 6))=true
    ·exact sF R R cP (sF R R cP (sF R R cP (sF R R cP (sN (aW (cB cP) (v:=(.bool _)) R (s0 (Wk.to (eC R (eC (cB (Eq.trans (p7 cP) (iJ c6))) eN)) mN R (a8 R))))))))
    ·replace cP:=bF cP
     exact sT R (cB cP) (aw fp eI jh R R R (sT R (cB cP) (bf R eI l9 (sT R (cB cP) (bX (f:=LV.I) cz R (sT R (cB cP) (iw R R (sN (aV (cB cP) (v:=(.bool _)) R (s0 (Wk.to (eC R (eC (cB (Eq.trans (iJ cP) (iJ c6))) eN)) mN R (a8 R))))))))))))
  refine LH.cond (t:=((decide ((p0.bD.size:Int) > 40)) || ((decide ((p0.aI.length:Int) > 6)) || (decide ((p0.aD.length:Int) > 8))))) R (fun gU=>?_) (fun gU=>?_)
  ·replace h:=aB h gU
   refine LH.aj [(2,.I 3)] [] R (bo R zS) (LH.ret (aZ ?_))
   obtain rfl:=oI h
   exact aS (aT Tryz.results75) (bR R (bP ⟨aR mN,R,a8 R,Sub.rfl⟩))
  replace h:=aA h gU
  refine LH.skip (av (LH.wk (aX [(1,.ag (ai.lv p0).cells)] []) (LH.seq ?_)))
  obtain ⟨Ir,hv,h⟩:=al h
  refine LH.aj [(1,.ag (ai.lv p0).cells),(43,.bool Ir)] [] R ?_ ?_
  ·refine sN (aw gJ oY wH R R R (sN (bf R oY DA (sX ((vR R R).ok) (bI R ?_)))))
   by_cases bS:(decide (p0.bD=(ByteArray.mk #[])))=true
   ·replace hv:=aB hv bS
    refine sF R R bS (sF R R bS (sF R R bS (sF R R bS (sN (aW (cB bS) (v:=(.bool _)) R ?_)))))
    obtain rfl:=oI hv
    exact zS
   ·replace bS:=bF bS
    replace hv:=aA hv bS
    refine sT R (cB bS) (aw gJ oY wH R R R (sT R (cB bS) (bf R oY DA ?_)))
    obtain ⟨fb,vG,hv⟩:=al hv
    refine sT R (cB bS) (dU (args:=[.str p0.bD]) R OK R (aK bt) (Pn vG) R (sT R (cB bS) (kp R (sN (aV (cB bS) (v:=(.bool _)) R ?_)))))
    obtain rfl:=oI hv
    exact zS
  clear hv
  refine LH.cond (t:=Ir) R (fun ja=>?_) (fun ja=>?_)
  ·replace h:=aB h ja
   refine LH.aj [(2,.I 7)] [] R (bo R zS) (LH.ret (aZ ?_))
   obtain rfl:=oI h
   exact aS (aT Tryz.results75) (bR R (bP ⟨aR mN,R,a8 R,Sub.rfl⟩))
  replace h:=aA h ja
  refine LH.skip (av (LH.wk (aX [(1,.ag (ai.lv p0).cells)] []) (LH.seq (LH.aj [(1,.ag (ai.lv p0).cells),(47,.bool ((p0.aI.length:Int) == 0))] [] R (sN (aw cX cY fy R R R (sN (bf R cY iL (sN (bX (f:=ao.lv) gj R (sN (gm R R zS)))))))) (LH.cond (t:=((p0.aI.length:Int) == 0)) R (fun gE=>?_) (fun gE=>?_))))))
  ·replace h:=aB h gE
   refine LH.aj [(2,.I 10)] [] R (bo R zS) (LH.ret (aZ ?_))
   obtain rfl:=oI h
   exact aS (aT Tryz.results75) (bR R (bP ⟨aR mN,R,a8 R,Sub.rfl⟩))
  replace h:=aA h gE
  refine LH.skip (av (LH.wk (aX [(1,.ag (ai.lv p0).cells)] []) (LH.seq (LH.aj [(1,.ag (ai.lv p0).cells),(49,.ak 6 (p0.aI.map ao.lv)),(50,.I (p0.aI.length:Int)),(51,.I 0)] [] R (sN (aw cX cY fy R R R (sN (bf R cY iL (sN (bX (f:=ao.lv) gj R (bl R zS))))))) (LH.block (LH.loop (fun n e m=>∃ (n17:Int),uV F p0 n n17=some r∧e=Env.of [(1,.ag (ai.lv p0).cells),(49,.ak 6 (p0.aI.map ao.lv)),(50,.I (p0.aI.length:Int)),(51,.I n17)]∧m=Mem.of []) F ⟨0,h,R,R⟩ ?_))))))
  clear h
  rintro n e m ⟨n17,h,rfl,rfl⟩
  rcases n with _ | n
  · cases (show Option.none=some _ from h)
  obtain ⟨aH,ba⟩:∃ f,f=uV F p0 n:=⟨_,rfl⟩
  replace h:xO F p0 aH n17=some r:=ba ▸ h
  unfold xO at h
  refine LH.aj [(1,.ag (ai.lv p0).cells),(49,.ak 6 (p0.aI.map ao.lv)),(50,.I (p0.aI.length:Int)),(51,.I n17),(52,.bool (decide (n17<(p0.aI.length:Int))))] [] R (sN (fi R R zS)) (LH.seq (LH.cond (t:=(decide (n17<(p0.aI.length:Int)))) R (fun iB=>?_) (fun iB=>?_)))
  ·replace h:=aB h iB
   refine LH.skip (av (LH.wk (aX [(1,.ag (ai.lv p0).cells),(49,.ak 6 (p0.aI.map ao.lv)),(50,.I (p0.aI.length:Int)),(51,.I n17)] []) (LH.seq (LH.block ?_))))
   obtain ⟨zx,Fm,h⟩:=al h
   refine LH.aj [(1,.ag (ai.lv p0).cells),(4,.ag (ao.lv zx).cells),(49,.ak 6 (p0.aI.map ao.lv)),(50,.I (p0.aI.length:Int)),(51,.I n17)] [] R (sN (eW (f:=ao.lv) gj ee dB R R ao.ok Fm R (sN (bh R ee iM dB R R (sN (kS (id:=104) R GV R R (s_ (cV R R R ee dB R R R (s0 ((Wk.trans (aX [(1,.ag (ai.lv p0).cells),(4,.ptr 104 0),(49,.ak 6 (p0.aI.map ao.lv)),(50,.I (p0.aI.length:Int)),(51,.I n17)] [(104,.box (ao.lv zx).cells)]) (Wk.trans (Wk.bk 104 (ao.lv zx).cells R R R (bO R)) (Wk.eq R R R R))))))))))))) ?_
   obtain ⟨QO,R0,h⟩:=al h
   refine LH.aj [(1,.ag (ai.lv p0).cells),(49,.ak 6 (p0.aI.map ao.lv)),(50,.I (p0.aI.length:Int)),(51,.I n17),(57,.bool (!QO))] [] R (sN (bh R ee iM dB R R (sN (dU (args:=[ao.lv zx]) R OL R (aK bt) (Pm R0) R (sN (kp R zS)))))) (LH.cond (t:=(!QO)) R (fun oj=>?_) (fun oj=>?_))
   ·replace h:=aB h oj
    refine LH.aj [(2,.I 1)] [] R (bo R zS) (LH.ret (bL (aZ (dY (bL (aZ ?_))))))
    obtain rfl:=oI h
    exact aS (aT Tryz.results75) (bR R (bP ⟨aR mN,R,a8 R,Sub.rfl⟩))
   replace h:=aA h oj
   refine LH.skip (aY (av (LH.aQ [(1,.ag (ai.lv p0).cells),(49,.ak 6 (p0.aI.map ao.lv)),(50,.I (p0.aI.length:Int)),(51,.I (i64 (n17+1)))] [] R (sN (cr R R (bl R zS))) ?_)))
   exact bg ⟨(i64 (n17+1)),ba ▸ h,R,R⟩ (Wk.eq R R R R)
  replace h:=aA h iB
  refine LH.exit (cv (bY (bM (av (LH.wk (aX [(1,.ag (ai.lv p0).cells)] []) (LH.seq ?_))))))
  obtain ⟨jL,E4,h⟩:=al h
  refine LH.aj [(64,.bool (!jL))] [] R (sN (aw e6 aE bb R R R (sN (bf R aE bN (sN (aw fp eI jh R R R (sN (bf R eI l9 (sN (dU (args:=[.I p0.ID,.L p0.aD]) R OM R (aK (aK bt)) (Pc E4) R (sN (kp R zS)))))))))))) (LH.cond (t:=(!jL)) R (fun J0=>?_) (fun J0=>?_))
  ·replace h:=aB h J0
   refine LH.aj [(2,.I 9)] [] R (bo R zS) (LH.ret (aZ ?_))
   obtain rfl:=oI h
   exact aS (aT Tryz.results75) (bR R (bP ⟨aR mN,R,a8 R,Sub.rfl⟩))
  replace h:=aA h J0
  refine LH.skip (av (LH.aj [(2,.I 0)] [] R (bo R zS) (LH.ret ?_)))
  obtain rfl:=oI h
  exact aS (aT Tryz.results75) (bR R (bP ⟨aR mN,R,a8 R,Sub.rfl⟩))
theorem O6 {F:Nat} {p0:List aq} {p1:Int} {p2:(aq→Int→Option Int)} {r:Int × Bool} {et:Nat} {dq:List LV} (CW:eo Tryz.prog et) (uh:LV.bj dq=true) (CX:∀ (x0:aq) (x1:Int) (q:Int),p2 x0 x1=some q→aP Tryz.prog et ([.agg [.I x0.ID,.ak 5 (x0.ae.map ai.lv),.ak 1 (x0.ah.map LV.bool),.ak 3 (x0.Uses.map az.lv),.bool x0.ab],.I x1]++dq) (Mem.of []) (.I q) (Mem.of [])) (h:PU F p0 p1 p2=some r):aP Tryz.prog 95 [.ak 5 (p0.map aq.lv),.I p1,.fn et dq] (Mem.of []) (.de [.I r.1,.bool r.2]) (Mem.of []):=by
  have FX:∀ {l:List LV},LV.bj l=true→LV.bj (l++dq)=true:=Lz uh
  have eG:LV.bG dq=[]:=fU uh
  unfold PU at h
  refine bu Tryz.func95 R (nT Tryz.ntmps95 R) (LH.wk (Wk.to (el:=[(0,.ak 5 (p0.map aq.lv)),(1,.I p1),(2,.fn et dq)]) (ml:=[]) (eQ ⟨R,R,R,trivial⟩) mN (by simp [aU,LV.refs,LV.bG,LV.cells,cZ,Env.args,Env.of,Env.put,Env.drop,eG]) (a8 R)) (LH.aj [(0,.ak 5 (p0.map aq.lv)),(1,.I p1),(2,.fn et dq)] [] R (bo R (cm R (s0 (Wk.to (eQ ⟨R,R,R,trivial⟩) mN (by simp [aU,LV.refs,LV.bG,LV.cells,cZ,Env.args,Env.of,Env.put,Env.drop,eG]) (a8 R))))) (LH.aj [(0,.ak 5 (p0.map aq.lv)),(1,.I p1),(2,.fn et dq),(8,.I (p0.length:Int))] [] R (eZ R (sN (bX (f:=aq.lv) dZ R (bo R (s0 (Wk.to (eQ ⟨R,R,R,R,trivial⟩) mN (by simp [aU,LV.refs,LV.bG,LV.cells,cZ,Env.args,Env.of,Env.put,Env.drop,eG]) (a8 R))))))) (LH.aj [(0,.ak 5 (p0.map aq.lv)),(1,.I p1),(2,.fn et dq),(8,.I (p0.length:Int)),(9,.I 0),(10,.I (p0.length:Int))] [] R (bl R (bo R (bo R (s0 (Wk.to (eQ ⟨R,R,R,R,R,R,trivial⟩) mN (by simp [aU,LV.refs,LV.bG,LV.cells,cZ,Env.args,Env.of,Env.put,Env.drop,eG]) (a8 R)))))) (LH.seq (LH.block (LH.loop (fun n e m=>∃ (n1:Int) (n2:Int),Mm p0 p1 p2 n n1 n2=some r∧e=Env.of [(0,.ak 5 (p0.map aq.lv)),(1,.I p1),(2,.fn et dq),(8,.I (p0.length:Int)),(9,.I n1),(10,.I n2)]∧m=Mem.of []) F ⟨0,(p0.length:Int),h,R,R⟩ ?_)))))))
  clear h
  rintro n e m ⟨n1,n2,h,rfl,rfl⟩
  rcases n with _ | n
  · cases (show Option.none=some _ from h)
  obtain ⟨aH,ba⟩:∃ f,f=Mm p0 p1 p2 n:=⟨_,rfl⟩
  replace h:QN p0 p1 p2 aH n1 n2=some r:=ba ▸ h
  unfold QN at h
  refine LH.seq (LH.aj [(0,.ak 5 (p0.map aq.lv)),(1,.I p1),(2,.fn et dq),(8,.I (p0.length:Int)),(9,.I n1),(10,.I n2),(17,.bool (decide (n1<n2)))] [] R (bl R (bl R (sN (fi R R (s0 (Wk.to (eQ ⟨R,R,R,R,R,R,R,trivial⟩) mN (by simp [aU,LV.refs,LV.bG,LV.cells,cZ,Env.args,Env.of,Env.put,Env.drop,eG]) (a8 R))))))) (LH.cond (t:=(decide (n1<n2))) R (fun iC=>?_) (fun iC=>?_)))
  ·replace h:=aB h iC
   refine LH.skip (av (LH.wk (Wk.to (el:=[(0,.ak 5 (p0.map aq.lv)),(1,.I p1),(2,.fn et dq),(8,.I (p0.length:Int)),(9,.I n1),(10,.I n2)]) (ml:=[]) (eQ ⟨R,R,R,R,R,R,trivial⟩) mN (by simp [aU,LV.refs,LV.bG,LV.cells,cZ,Env.args,Env.of,Env.put,Env.drop,eG]) (a8 R)) (LH.block (LH.aj [(0,.ak 5 (p0.map aq.lv)),(1,.I p1),(2,.fn et dq),(8,.I (p0.length:Int)),(9,.I n1),(10,.I n2),(11,.I (i64 (oQ .u64 (IntKind.u64.wrap (i64 (n1+n2))) 1)))] [] R (bl R (bl R (sN (cr R R (sN (Te aE P8 R (sX ((Lw R R (by decide)).ok) (sN (Te P9 Wc R (bo R (s0 (Wk.to (eQ ⟨R,R,R,R,R,R,R,trivial⟩) mN (by simp [aU,LV.refs,LV.bG,LV.cells,cZ,Env.args,Env.of,Env.put,Env.drop,eG]) (a8 R))))))))))))) ?_))))
   obtain ⟨x4,CM,h⟩:=al h
   obtain ⟨r5,CJ,h⟩:=al h
   refine LH.aj [(0,.ak 5 (p0.map aq.lv)),(1,.I p1),(2,.fn et dq),(8,.I (p0.length:Int)),(9,.I n1),(10,.I n2),(11,.I (i64 (oQ .u64 (IntKind.u64.wrap (i64 (n1+n2))) 1))),(31,.bool (decide (r5<0)))] [] R ?_ ?_
   ·refine sN (oM (v:=(.fn _ _)) R (eZ R (bl R (sN (eW (f:=aq.lv) dZ dh cK R R aq.ok CM R (sN (bh R dh js cK R R (bl R (sN (dU (args:=[.agg [.I x4.ID,.ak 5 (x4.ae.map ai.lv),.ak 1 (x4.ah.map LV.bool),.ak 3 (x4.Uses.map az.lv),.bool x4.ab],.I p1]++dq) (gk:=[.agg [.I x4.ID,.ak 5 (x4.ae.map ai.lv),.ak 1 (x4.ah.map LV.bool),.ak 3 (x4.Uses.map az.lv),.bool x4.ab],.I p1]++dq) R CW R fu.rfl (CX _ _ _ CJ) (FX R) ?_))))))))))
    exact sN (fi R R (s0 (Wk.to (eQ ⟨R,R,R,R,R,R,R,R,trivial⟩) mN (by simp [aU,LV.refs,LV.bG,LV.cells,cZ,Env.args,Env.of,Env.put,Env.drop,eG]) (a8 R))))
   refine LH.cond (t:=(decide (r5<0))) R (fun gb=>?_) (fun gb=>?_)
   ·replace h:=aB h gb
    refine LH.aQ [(0,.ak 5 (p0.map aq.lv)),(1,.I p1),(2,.fn et dq),(8,.I (p0.length:Int)),(9,.I (i64 ((i64 (oQ .u64 (IntKind.u64.wrap (i64 (n1+n2))) 1))+1))),(10,.I n2)] [] R (bl R (sN (cr R R (bo R (s0 (Wk.to (eQ ⟨R,R,R,R,R,R,trivial⟩) mN (by simp [aU,LV.refs,LV.bG,LV.cells,cZ,Env.args,Env.of,Env.put,Env.drop,eG]) (a8 R))))))) (aY ?_)
    exact bg ⟨(i64 ((i64 (oQ .u64 (IntKind.u64.wrap (i64 (n1+n2))) 1))+1)),n2,ba ▸ h,R,R⟩ (Wk.to (eQ ⟨R,R,R,R,R,R,trivial⟩) mN (by simp [aU,LV.refs,LV.bG,LV.cells,cZ,Env.args,Env.of,Env.put,Env.drop,eG]) (a8 R))
   replace h:=aA h gb
   refine LH.aQ [(0,.ak 5 (p0.map aq.lv)),(1,.I p1),(2,.fn et dq),(8,.I (p0.length:Int)),(9,.I n1),(10,.I (i64 (oQ .u64 (IntKind.u64.wrap (i64 (n1+n2))) 1)))] [] R (bl R (bo R (s0 (Wk.to (eQ ⟨R,R,R,R,R,R,trivial⟩) mN (by simp [aU,LV.refs,LV.bG,LV.cells,cZ,Env.args,Env.of,Env.put,Env.drop,eG]) (a8 R))))) (aY ?_)
   exact bg ⟨n1,(i64 (oQ .u64 (IntKind.u64.wrap (i64 (n1+n2))) 1)),ba ▸ h,R,R⟩ (Wk.to (eQ ⟨R,R,R,R,R,R,trivial⟩) mN (by simp [aU,LV.refs,LV.bG,LV.cells,cZ,Env.args,Env.of,Env.put,Env.drop,eG]) (a8 R))
  replace h:=aA h iC
  refine LH.exit (cv (bY (bM (av ?_))))
  obtain ⟨w8,hv,h⟩:=al h
  refine LH.aj [(6,.I n1),(7,.bool w8)] [] R ?_ ?_
  ·refine bl R (bl R (bl R (sN (fi R R (bI R ?_)))))
   by_cases cP:(decide (n1<(p0.length:Int)))=true
   ·replace hv:=aB hv cP
    refine sT R (cB cP) (oM (v:=(.fn _ _)) R (sT R (cB cP) (oM (v:=(.ak _ _)) R (sT R (cB cP) (oM (v:=(.int _ _)) R ?_)))))
    obtain ⟨qR,ub,hv⟩:=al hv
    refine sT R (cB cP) (eW (f:=aq.lv) dZ dh cK R R aq.ok ub R (sT R (cB cP) (bh R dh js cK R R (sT R (cB cP) (oM (v:=(.int _ _)) R ?_)))))
    obtain ⟨cJ,lz,hv⟩:=al hv
    refine sT R (cB cP) (dU (args:=[.agg [.I qR.ID,.ak 5 (qR.ae.map ai.lv),.ak 1 (qR.ah.map LV.bool),.ak 3 (qR.Uses.map az.lv),.bool qR.ab],.I p1]++dq) (gk:=[.agg [.I qR.ID,.ak 5 (qR.ae.map ai.lv),.ak 1 (qR.ah.map LV.bool),.ak 3 (qR.Uses.map az.lv),.bool qR.ab],.I p1]++dq) R CW R fu.rfl (CX _ _ _ lz) (FX R) ?_)
    refine sT R (cB cP) (gm R R (sN (aW (cB cP) (v:=(.bool _)) R (bo R (cm R ?_)))))
    obtain rfl:=oI hv
    exact s0 (Wk.to (eQ ⟨R,R,trivial⟩) mN (by simp [aU,LV.refs,LV.bG,LV.cells,cZ,Env.args,Env.of,Env.put,Env.drop,eG]) (a8 R))
   ·replace cP:=bF cP
    replace hv:=aA hv cP
    refine sF R R cP (sF R R cP (sF R R cP (sF R R cP (sF R R cP (sF R R cP (sF R R cP (sF R R cP (sN (aV (cB cP) (v:=(.bool _)) R (bo R (cm R ?_)))))))))))
    obtain rfl:=oI hv
    exact s0 (Wk.to (eQ ⟨R,R,trivial⟩) mN (by simp [aU,LV.refs,LV.bG,LV.cells,cZ,Env.args,Env.of,Env.put,Env.drop,eG]) (a8 R))
  clear hv
  refine LH.ret ?_
  obtain rfl:=oI h
  exact aS (aT Tryz.results95) (bR R (bR R (bP ⟨aR mN,R,a8 R,(Sub.de (aK (aK bt)))⟩)))
theorem Py {p0:aq} {p1:Int} {r:Int} (h:tj p0 p1=some r):aP Tryz.prog 96 [aq.lv p0,.I p1] (Mem.of []) (.I r) (Mem.of []):=by
  unfold tj at h
  refine bu Tryz.func96 R (nT Tryz.ntmps96 R) (LH.wk (aX [(0,aq.lv p0),(1,.I p1)] []) (LH.aj [(1,.I p1),(2,.ag (aq.lv p0).cells)] [] R (sB (dp R R R R (bo R zS))) ?_))
  obtain ⟨r1,ec,h⟩:=al h
  refine LH.aj [(4,.I r1)] [] R (sN (aw fY aE bb R R R (sN (bf R aE bN (bl R (sN (dU (args:=[.I p0.ID,.I p1]) R sP R (aK (aK bt)) (c9 ec) R (bo R zS)))))))) (LH.ret ?_)
  obtain rfl:=oI h
  exact aS (aT Tryz.results96) (bR R (bP ⟨aR mN,R,a8 R,Sub.rfl⟩))
theorem Jx {F:Nat} {p0:aM} {p1:Int} {r:Int × Bool} (h:u1 F p0 p1=some r):aP Tryz.prog 76 [.ptr 811 0,.I p1] (Mem.of [nN p0,(812,dn (p0.aa.map aq.lv))]) (.de [.I r.1,.bool r.2]) (Mem.of [nN p0,(812,dn (p0.aa.map aq.lv))]):=by
  unfold u1 at h
  refine bu Tryz.func76 R (nT Tryz.ntmps76 R) (LH.wk (aX [(0,.ptr 811 0),(1,.I p1)] [nN p0,(812,dn (p0.aa.map aq.lv))]) (LH.aj [(0,.ptr 811 0),(1,.I p1)] [nN p0,(812,dn (p0.aa.map aq.lv))] R (bo R (cm R zS)) ?_))
  obtain ⟨r1,ec,h⟩:=al h
  refine LH.aj [(4,.I r1.1),(5,.bool r1.2)] [nN p0,(812,dn (p0.aa.map aq.lv))] R (ib R (sN (FL R (sN (dK ca cc dA R R (sN (dW R R R R cc fD (bl R (sN (fa (args:=[.arr 812 p0.aa.length,.I p1,.fn 96 []]) (ml:=[(812,dn (p0.aa.map aq.lv))]) (dg:=[(812,dn (p0.aa.map aq.lv))]) R ON R (aK (aK (aK bt))) (aP.OT 812 49 5 [(1,54,5),(2,4,1),(3,88,3)] (xs:=List.map aq.lv p0.aa) (aq.ok.bj _) (O6 (et:=96) (dq:=[]) OO R (fun _ _ _ h=>Py h) ec) (.row (by simp) (.jr R (.jr R .nil))) R R R R R Ur) ⟨R,trivial⟩ (b8 R cw) R (sN (iO R R (sN (iO R R (bo R (cm R zS)))))))))))))))) (LH.ret ?_)
  obtain rfl:=oI h
  exact aS (aT Tryz.results76) (bR R (bR R (bP ⟨aR (mC R (mC R mN)),R,a8 R,(Sub.de (aK (aK bt)))⟩)))
theorem PH {F:Nat} {p0:aM} {p1:ax} {r:Int × aM} (h:yn F p0 p1=some r):aP Tryz.prog 57 [.ptr 811 0,ax.lv p1] (Mem.of [nN p0,(812,dn (p0.aa.map aq.lv))]) (.I r.1) (Mem.of [(811,.box [.arr 812 r.2.aa.length]),(812,dn (r.2.aa.map aq.lv))]):=by
  unfold yn at h
  refine bu Tryz.func57 R (nT Tryz.ntmps57 R) (LH.wk (aX [(0,.ptr 811 0),(1,ax.lv p1)] [nN p0,(812,dn (p0.aa.map aq.lv))]) (LH.aj [(0,.ptr 811 0),(3,.ag (ax.lv p1).cells)] [nN p0,(812,dn (p0.aa.map aq.lv))] R (sB (dp R R R R (bo R zS))) (LH.seq ?_)))
  obtain ⟨r1,ec,h⟩:=al h
  refine LH.aj [(0,.ptr 811 0),(3,.ag (ax.lv p1).cells),(5,.I r1)] [nN p0,(812,dn (p0.aa.map aq.lv))] R (sN (aw e9 cG ct R R R (sN (bh R cG fo ct R R (sN (dU (args:=[ai.lv p1.Item]) R Fv R (aK bt) (F5 ec) R (bo R zS))))))) (LH.aj [(0,.ptr 811 0),(3,.ag (ax.lv p1).cells),(5,.I r1),(12,.bool (r1 != 0))] [nN p0,(812,dn (p0.aa.map aq.lv))] R (bl R (sN (kg R R zS))) (LH.cond (t:=(r1 != 0)) R (fun fJ=>?_) (fun fJ=>?_)))
  ·replace h:=aB h fJ
   refine LH.aj [(4,.I r1)] [nN p0,(812,dn (p0.aa.map aq.lv))] R (bl R (bo R zS)) (LH.ret (aZ ?_))
   obtain rfl:=oI h
   exact aS (aT Tryz.results57) (bR R (bP ⟨aR (mC R (mC R mN)),R,a8 R,Sub.rfl⟩))
  replace h:=aA h fJ
  refine LH.skip (av (LH.wk (aX [(0,.ptr 811 0),(3,.ag (ax.lv p1).cells)] [nN p0,(812,dn (p0.aa.map aq.lv))]) (LH.seq (LH.aj [(0,.ptr 811 0),(3,.ag (ax.lv p1).cells),(17,.bool (p1.Item.Version != 1))] [nN p0,(812,dn (p0.aa.map aq.lv))] R (sN (aw e9 cG ct R R R (sN (aw fE aE bb R R R (sN (bf R aE bN (sN (kg R R zS)))))))) (LH.cond (t:=(p1.Item.Version != 1)) R (fun iC=>?_) (fun iC=>?_))))))
  ·replace h:=aB h iC
   refine LH.aj [(4,.I 8)] [nN p0,(812,dn (p0.aa.map aq.lv))] R (bo R zS) (LH.ret (aZ ?_))
   obtain rfl:=oI h
   exact aS (aT Tryz.results57) (bR R (bP ⟨aR (mC R (mC R mN)),R,a8 R,Sub.rfl⟩))
  replace h:=aA h iC
  refine LH.skip (av ?_)
  obtain ⟨r4,CI,h⟩:=al h
  refine LH.aj [(0,.ptr 811 0),(3,.ag (ax.lv p1).cells),(6,.I r4.1),(7,.bool r4.2)] [nN p0,(812,dn (p0.aa.map aq.lv))] R (ib R (sN (aw e9 cG ct R R R (sN (aw e6 aE bb R R R (sN (bf R aE bN (sN (fa (args:=[.ptr 811 0,.I p1.Item.ID]) (ml:=[nN p0,(812,dn (p0.aa.map aq.lv))]) (dg:=[nN p0,(812,dn (p0.aa.map aq.lv))]) R I7 R (aK (aK bt)) (Jx CI) ⟨R,R,trivial⟩ (b8 R (b8 R cw)) R (yH R (sN (iO R R (sN (iO R R (bo R (cm R zS)))))))))))))))) (LH.seq (LH.aj [(0,.ptr 811 0),(3,.ag (ax.lv p1).cells),(6,.I r4.1),(26,.bool r4.2)] [nN p0,(812,dn (p0.aa.map aq.lv))] R (bI R zS) (LH.cond (t:=r4.2) R (fun ky=>?_) (fun ky=>?_))))
  ·replace h:=aB h ky
   refine LH.aj [(4,.I 5)] [nN p0,(812,dn (p0.aa.map aq.lv))] R (bo R zS) (LH.ret (aZ ?_))
   obtain rfl:=oI h
   exact aS (aT Tryz.results57) (bR R (bP ⟨aR (mC R (mC R mN)),R,a8 R,Sub.rfl⟩))
  replace h:=aA h ky
  refine LH.skip (av (LH.wk (aX [(0,.ptr 811 0),(3,.ag (ax.lv p1).cells),(6,.I r4.1)] [nN p0,(812,dn (p0.aa.map aq.lv))]) (LH.seq (LH.aj [(0,.ptr 811 0),(3,.ag (ax.lv p1).cells),(6,.I r4.1),(32,.bool (decide ((p0.aa.length:Int) ≥ 40)))] [nN p0,(812,dn (p0.aa.map aq.lv))] R (ib R (sN (FL R (sN (dK ca cc dA R R (sN (dW R R R R cc fD (sX ((FP (f:=aq.lv) (xs:=p0.aa) dZ R R R).ok) (sN (pD R R zS)))))))))) (LH.cond (t:=(decide ((p0.aa.length:Int) ≥ 40))) R (fun gb=>?_) (fun gb=>?_))))))
  ·replace h:=aB h gb
   refine LH.aj [(4,.I 3)] [nN p0,(812,dn (p0.aa.map aq.lv))] R (bo R zS) (LH.ret (aZ ?_))
   obtain rfl:=oI h
   exact aS (aT Tryz.results57) (bR R (bP ⟨aR (mC R (mC R mN)),R,a8 R,Sub.rfl⟩))
  replace h:=aA h gb
  refine LH.skip (av ?_)
  obtain ⟨r7,Al,h⟩:=al h
  obtain ⟨v8,SG,h⟩:=al h
  refine LH.c7 mixed [] [0,0,0,0,1811,0,0,0,0,0,0,0,1000000145,1000000146,0,1146145148,3,0,0,100811] [] [(811,.box [.arr 812 v8.length]),(812,dn (v8.map aq.lv))] R R (by kernel_rfl) ?_ ?_
  ·exact BG R (BG R (aF (FL R ⟨R,aF (dK ca cc dA R R ⟨R,mD R R R (fun _ b _ d=>dW R b R R cc fD d) (eV R (aF (aw e9 cG ct R R R ⟨R,aF (aw e6 aE bb R R R ⟨R,aF (bf R aE bN ⟨R,aF (aw e9 cG ct R R R ⟨R,aF (bh R cG fo ct R R ⟨R,aF (dU (args:=[ai.lv p1.Item]) R Ft R (aK bt) (F1 Al) R ⟨R,S9 R (qT.fresh R R (fun m0 h0=>cd.Tq [44] (by simp [Op.operands]) (Ax (g:=ai.lv) (ys:=[r7]) (id:=145) ic A2 ct R R R ai.ok h0))) (S9 R (qT.fresh R R (fun m0 h0=>cd.Tq [] (by simp [Op.operands]) (Ax (g:=LV.bool) (ys:=[false]) (id:=146) j8 Hi lQ R R R okB h0))) (aF (gB (vs:=[(0,.I p1.Item.ID),(1,.arr 145 (List.length [r7])),(2,.arr 146 (List.length [false]))]) Qb tK R (lf fY bb aE R R R (lf dy ig dM R R R (lf eA ji eX R R R gA))) ⟨R,S9 R (qT.gone (S:=[145,146]) R (fun m0 h0=>Ln (id:=148) (os:=[(1,54,5),(2,4,1),(3,88,3)]) (S:=[145,146]) (cs:=[.I p1.Item.ID,.arr 145 (List.length [r7]),.arr 146 (List.length [false]),.nil,.bool false]) (dr:=[.I p1.Item.ID,.ak 5 (List.map ai.lv [r7]),.ak 1 (List.map LV.bool [false]),.ak 3 (List.map az.lv ([]:List az)),.bool false]) dZ qk cK R R R R ((h0 148 (by simp)).trans R) (TD R R (TC (g:=ai.lv) (ys:=[r7]) R ((h0 145 (by simp)).trans R) (TC (g:=LV.bool) (ys:=[false]) R ((h0 146 (by simp)).trans R) (UG R R (TD R R UF))))) (by decide) (TG (bO R) (TG (bO R) UM)))) (mX (HX (f:=aq.lv) (xs:=p0.aa) (z0:=(aq.mk p1.Item.ID [r7] [false] ([]:List az) false)) OA La R R R R R (by decide) (bO R) SG) (aF (FL R ⟨R,aF (dK ca cc dA R R ⟨R,mS R R R (fun _ b _ d=>cV R R R cc dA b R R d) zM⟩)⟩)))⟩)))⟩)⟩)⟩)⟩)⟩)⟩)))⟩)⟩)))
  refine LH.aj [(4,.I 0)] [(811,.box [.arr 812 v8.length]),(812,dn (v8.map aq.lv))] R (bo R zS) (LH.ret ?_)
  obtain rfl:=oI h
  exact aS (aT Tryz.results57) (bR R (bP ⟨aR (mC R (mC R mN)),R,a8 R,Sub.rfl⟩))
theorem F3 {F:Nat} {p0:aM} {p1:Int} {r:Option Int} (h:tl F p0 p1=some r):aP Tryz.prog 78 [.ptr 811 0,.I p1] (Mem.of [nN p0,(812,dn (p0.aa.map aq.lv))]) (rk 812 p0.aa.length r) (Mem.of [nN p0,(812,dn (p0.aa.map aq.lv))]):=by
  unfold tl at h
  refine bu Tryz.func78 R (nT Tryz.ntmps78 R) (LH.wk (aX [(0,.ptr 811 0),(1,.I p1)] [nN p0,(812,dn (p0.aa.map aq.lv))]) (LH.aj [(0,.ptr 811 0),(1,.I p1)] [nN p0,(812,dn (p0.aa.map aq.lv))] R (sN (oA (v:=.fe) R zS)) ?_))
  obtain ⟨r1,ec,h⟩:=al h
  refine LH.aj [(0,.ptr 811 0),(5,.I r1.1),(6,.bool r1.2)] [nN p0,(812,dn (p0.aa.map aq.lv))] R (ib R (bl R (sN (fa (args:=[.ptr 811 0,.I p1]) (ml:=[nN p0,(812,dn (p0.aa.map aq.lv))]) (dg:=[nN p0,(812,dn (p0.aa.map aq.lv))]) R I7 R (aK (aK bt)) (Jx ec) ⟨R,R,trivial⟩ (b8 R (b8 R cw)) R (yH R (sN (iO R R (sN (iO R R (bo R (cm R zS))))))))))) (LH.seq (LH.aj [(0,.ptr 811 0),(5,.I r1.1),(14,.bool (!r1.2))] [nN p0,(812,dn (p0.aa.map aq.lv))] R (bI R (sN (kp R zS))) (LH.cond (t:=(!r1.2)) R (fun fJ=>?_) (fun fJ=>?_))))
  ·replace h:=aB h fJ
   refine LH.aj [(4,.fe)] [nN p0,(812,dn (p0.aa.map aq.lv))] R (sN (oA (v:=.fe) R zS)) (LH.ret (aZ ?_))
   obtain rfl:=oI h
   exact aS (aT Tryz.results78) (bR R (bP ⟨aR (mC R (mC R mN)),R,a8 R,Sub.rfl⟩))
  replace h:=aA h fJ
  refine LH.skip (av ?_)
  obtain ⟨x3,fR,h⟩:=al h
  refine LH.aj [(4,.bE 812 p0.aa.length (r1.1).toNat 0)] [nN p0,(812,dn (p0.aa.map aq.lv))] R (ib R (sN (FL R (sN (dK ca cc dA R R (sN (dW R R R R cc fD (bl R (sX ((Lp (f:=aq.lv) (xs:=p0.aa) dZ dh cK R R R R fR).ok) (sN (oA (v:=(.bE _ _ _ _)) R zS))))))))))) (LH.ret ?_)
  obtain rfl:=oI h
  exact aS (aT Tryz.results78) (bR R (bP ⟨aR (mC R (mC R mN)),R,a8 R,Sub.rfl⟩))
theorem PD {F:Nat} {p0:aM} {p1:ax} {r:Int × aM} (h:yh F p0 p1=some r):aP Tryz.prog 58 [.ptr 811 0,.agg [.I p1.ar.Time,.I p1.ar.Source,.I p1.ar.Seq,.I p1.Kind,.I p1.Item.ID,.I p1.Item.Version,.str p1.Item.bD,.ak 6 (p1.Item.aI.map ao.lv),.L p1.Item.aD,.I p1.Ref.ID,.I p1.Ref.Version,.I p1.Form]] (Mem.of [(811,.box [.arr 812 p0.aa.length]),(812,.nest 49 5 [(1,54,5),(2,4,1),(3,88,3)] (p0.aa.map aq.lv))]) (.I r.1) (Mem.of [(811,.box [.arr 812 r.2.aa.length]),(812,.nest 49 5 [(1,54,5),(2,4,1),(3,88,3)] (r.2.aa.map aq.lv))]):=by
  unfold yh at h
  refine bu Tryz.func58 R (nT Tryz.ntmps58 R) ?_
  refine LH.wk (Wk.eq (el:=[(0,.ptr 811 0),(1,.agg [.I p1.ar.Time,.I p1.ar.Source,.I p1.ar.Seq,.I p1.Kind,.I p1.Item.ID,.I p1.Item.Version,.str p1.Item.bD,.ak 6 (p1.Item.aI.map ao.lv),.L p1.Item.aD,.I p1.Ref.ID,.I p1.Ref.Version,.I p1.Form])]) (ml:=[(811,.box [.arr 812 p0.aa.length]),(812,.nest 49 5 [(1,54,5),(2,4,1),(3,88,3)] (p0.aa.map aq.lv))]) R R R R) ?_
  refine LH.aj [(0,.ptr 811 0),(3,.ag [.I p1.ar.Time,.I p1.ar.Source,.I p1.ar.Seq,.I p1.Kind,.I p1.Item.ID,.I p1.Item.Version,.str p1.Item.bD,.ak 6 (p1.Item.aI.map ao.lv),.L p1.Item.aD,.I p1.Ref.ID,.I p1.Ref.Version,.I p1.Form])] [(811,.box [.arr 812 p0.aa.length]),(812,.nest 49 5 [(1,54,5),(2,4,1),(3,88,3)] (p0.aa.map aq.lv))] R ?_ ?_
  ·refine sB (dp R R R R ?_)
   refine bo R ?_
   exact zS
  refine LH.seq ?_
  obtain ⟨r1,ec,h⟩:=al h
  refine LH.aj [(0,.ptr 811 0),(3,.ag [.I p1.ar.Time,.I p1.ar.Source,.I p1.ar.Seq,.I p1.Kind,.I p1.Item.ID,.I p1.Item.Version,.str p1.Item.bD,.ak 6 (p1.Item.aI.map ao.lv),.L p1.Item.aD,.I p1.Ref.ID,.I p1.Ref.Version,.I p1.Form]),(5,.I r1)] [(811,.box [.arr 812 p0.aa.length]),(812,.nest 49 5 [(1,54,5),(2,4,1),(3,88,3)] (p0.aa.map aq.lv))] R ?_ ?_
  ·refine sN (aw e9 cG ct R R R ?_)
   refine sN (bh R cG fo ct R R ?_)
   refine sN (dU (args:=[.agg [.I p1.Item.ID,.I p1.Item.Version,.str p1.Item.bD,.ak 6 (p1.Item.aI.map ao.lv),.L p1.Item.aD]]) R Fv R (aK bt) (F5 ec) R ?_)
   refine bo R ?_
   exact zS
  refine LH.aj [(0,.ptr 811 0),(3,.ag [.I p1.ar.Time,.I p1.ar.Source,.I p1.ar.Seq,.I p1.Kind,.I p1.Item.ID,.I p1.Item.Version,.str p1.Item.bD,.ak 6 (p1.Item.aI.map ao.lv),.L p1.Item.aD,.I p1.Ref.ID,.I p1.Ref.Version,.I p1.Form]),(5,.I r1),(11,.bool (r1 != 0))] [(811,.box [.arr 812 p0.aa.length]),(812,.nest 49 5 [(1,54,5),(2,4,1),(3,88,3)] (p0.aa.map aq.lv))] R ?_ ?_
  ·refine bl R ?_
   refine sN (kg R R ?_)
   exact zS
  refine LH.cond (t:=(r1 != 0)) R (fun fJ=>?_) (fun fJ=>?_)
  ·replace h:=aB h fJ
   refine LH.aj [(4,.I r1)] [(811,.box [.arr 812 p0.aa.length]),(812,.nest 49 5 [(1,54,5),(2,4,1),(3,88,3)] (p0.aa.map aq.lv))] R ?_ ?_
   ·refine bl R ?_
    refine bo R ?_
    exact zS
   refine LH.ret ?_
   refine aZ ?_
   obtain rfl:=oI h
   exact aS (aT Tryz.results58) (bR R (bP ⟨aR (mC R (mC R mN)),R,a8 R,Sub.rfl⟩))
  replace h:=aA h fJ
  refine LH.skip ?_
  refine av ?_
  obtain ⟨r3,nf,h⟩:=al h
  refine LH.aj [(3,.ag [.I p1.ar.Time,.I p1.ar.Source,.I p1.ar.Seq,.I p1.Kind,.I p1.Item.ID,.I p1.Item.Version,.str p1.Item.bD,.ak 6 (p1.Item.aI.map ao.lv),.L p1.Item.aD,.I p1.Ref.ID,.I p1.Ref.Version,.I p1.Form]),(6,rk 812 p0.aa.length r3)] [(811,.box [.arr 812 p0.aa.length]),(812,.nest 49 5 [(1,54,5),(2,4,1),(3,88,3)] (p0.aa.map aq.lv))] R ?_ ?_
  ·refine ib R ?_
   refine sN (aw e9 cG ct R R R ?_)
   refine sN (aw e6 aE bb R R R ?_)
   refine sN (bf R aE bN ?_)
   refine sN (fa (args:=[.ptr 811 0,.I p1.Item.ID]) (ml:=[(811,.box [.arr 812 p0.aa.length]),(812,.nest 49 5 [(1,54,5),(2,4,1),(3,88,3)] (p0.aa.map aq.lv))]) (dg:=[(811,.box [.arr 812 p0.aa.length]),(812,.nest 49 5 [(1,54,5),(2,4,1),(3,88,3)] (p0.aa.map aq.lv))]) R Fw R (aK (aK bt)) (F3 nf) ⟨R,R,trivial⟩ (b8 R (b8 R cw)) R ?_)
   refine sN (oA (v:=(rk _ _ _)) R ?_)
   exact s0 (Wk.to (eQ ⟨R,R,trivial⟩) ⟨R,R,trivial⟩ (by rcases r3 with _ | _ <;> exact R) (a8 R))
  rcases r3 with _ | j4
  ·replace h:=FU h
   refine LH.wk (Wk.eq (el:=[(3,.ag [.I p1.ar.Time,.I p1.ar.Source,.I p1.ar.Seq,.I p1.Kind,.I p1.Item.ID,.I p1.Item.Version,.str p1.Item.bD,.ak 6 (p1.Item.aI.map ao.lv),.L p1.Item.aD,.I p1.Ref.ID,.I p1.Ref.Version,.I p1.Form]),(6,.fe)]) (ml:=[(811,.box [.arr 812 p0.aa.length]),(812,.nest 49 5 [(1,54,5),(2,4,1),(3,88,3)] (p0.aa.map aq.lv))]) R R R R) ?_
   refine LH.seq ?_
   refine LH.aj [(3,.ag [.I p1.ar.Time,.I p1.ar.Source,.I p1.ar.Seq,.I p1.Kind,.I p1.Item.ID,.I p1.Item.Version,.str p1.Item.bD,.ak 6 (p1.Item.aI.map ao.lv),.L p1.Item.aD,.I p1.Ref.ID,.I p1.Ref.Version,.I p1.Form]),(6,.fe),(19,.bool true)] [(811,.box [.arr 812 p0.aa.length]),(812,.nest 49 5 [(1,54,5),(2,4,1),(3,88,3)] (p0.aa.map aq.lv))] R ?_ ?_
   ·refine sN (oM (v:=.fe) R ?_)
    refine sX ((tc nU R R).ok) ?_
    exact zS
   refine LH.cond (t:=true) R (fun gb=>?_) (fun gb=>?_)
   ·refine LH.aj [(4,.I 4)] [(811,.box [.arr 812 p0.aa.length]),(812,.nest 49 5 [(1,54,5),(2,4,1),(3,88,3)] (p0.aa.map aq.lv))] R ?_ ?_
    ·refine bo R ?_
     exact zS
    refine LH.ret ?_
    refine aZ ?_
    obtain rfl:=oI h
    exact aS (aT Tryz.results58) (bR R (bP ⟨aR (mC R (mC R mN)),R,a8 R,Sub.rfl⟩))
   ·cases gb
  replace h:=FV h
  obtain ⟨x5,oy,h⟩:=al h
  refine LH.wk (Wk.to (el:=[(3,.ag [.I p1.ar.Time,.I p1.ar.Source,.I p1.ar.Seq,.I p1.Kind,.I p1.Item.ID,.I p1.Item.Version,.str p1.Item.bD,.ak 6 (p1.Item.aI.map ao.lv),.L p1.Item.aD,.I p1.Ref.ID,.I p1.Ref.Version,.I p1.Form]),(6,.bE 812 p0.aa.length (j4).toNat 0)]) (ml:=[(811,.box [.arr 812 p0.aa.length]),(812,.nest 49 5 [(1,54,5),(2,4,1),(3,88,3)] ((p0.aa.map aq.lv).set (j4).toNat (.agg [.I x5.ID,.ak 5 (x5.ae.map ai.lv),.ak 1 (x5.ah.map LV.bool),.ak 3 (x5.Uses.map az.lv),.bool x5.ab])))]) (eQ ⟨R,R,trivial⟩) (mC R (mC (pb oy) mN)) R (a8 R)) ?_
  refine LH.seq ?_
  refine LH.aj [(3,.ag [.I p1.ar.Time,.I p1.ar.Source,.I p1.ar.Seq,.I p1.Kind,.I p1.Item.ID,.I p1.Item.Version,.str p1.Item.bD,.ak 6 (p1.Item.aI.map ao.lv),.L p1.Item.aD,.I p1.Ref.ID,.I p1.Ref.Version,.I p1.Form]),(6,.bE 812 p0.aa.length (j4).toNat 0),(19,.bool false)] [(811,.box [.arr 812 p0.aa.length]),(812,.nest 49 5 [(1,54,5),(2,4,1),(3,88,3)] ((p0.aa.map aq.lv).set (j4).toNat (.agg [.I x5.ID,.ak 5 (x5.ae.map ai.lv),.ak 1 (x5.ah.map LV.bool),.ak 3 (x5.Uses.map az.lv),.bool x5.ab])))] R ?_ ?_
  ·refine sN (oM (v:=(.bE _ _ _ _)) R ?_)
   refine sX ((tb nU R R R (by simp) (b4 oy)).ok) ?_
   exact zS
  refine LH.cond (t:=false) R (fun ke=>?_) (fun ke=>?_)
  ·cases ke
  refine LH.skip ?_
  refine av ?_
  refine LH.wk (Wk.eq (el:=[(3,.ag [.I p1.ar.Time,.I p1.ar.Source,.I p1.ar.Seq,.I p1.Kind,.I p1.Item.ID,.I p1.Item.Version,.str p1.Item.bD,.ak 6 (p1.Item.aI.map ao.lv),.L p1.Item.aD,.I p1.Ref.ID,.I p1.Ref.Version,.I p1.Form]),(6,.bE 812 p0.aa.length (j4).toNat 0)]) (ml:=[(811,.box [.arr 812 p0.aa.length]),(812,.nest 49 5 [(1,54,5),(2,4,1),(3,88,3)] ((p0.aa.map aq.lv).set (j4).toNat (.agg [.I x5.ID,.ak 5 (x5.ae.map ai.lv),.ak 1 (x5.ah.map LV.bool),.ak 3 (x5.Uses.map az.lv),.bool x5.ab])))]) R R R R) ?_
  refine LH.seq ?_
  refine LH.c7 mixed [] [0,3,3,3,0,0,0,0,0,3,3,3,3,0,0,0] [(3,.ag [.I p1.ar.Time,.I p1.ar.Source,.I p1.ar.Seq,.I p1.Kind,.I p1.Item.ID,.I p1.Item.Version,.str p1.Item.bD,.ak 6 (p1.Item.aI.map ao.lv),.L p1.Item.aD,.I p1.Ref.ID,.I p1.Ref.Version,.I p1.Form]),(6,.bE 812 p0.aa.length (j4).toNat 0),(35,.bool (x5.ab || (p1.Item.Version != (i64 ((x5.ae.length:Int)+1)))))] [(811,.box [.arr 812 p0.aa.length]),(812,.nest 49 5 [(1,54,5),(2,4,1),(3,88,3)] ((p0.aa.map aq.lv).set (j4).toNat (.agg [.I x5.ID,.ak 5 (x5.ae.map ai.lv),.ak 1 (x5.ah.map LV.bool),.ak 3 (x5.Uses.map az.lv),.bool x5.ab])))] R R (by kernel_rfl) ?_ ?_
  ·refine aF (oM (v:=(.bE _ _ _ _)) R ⟨R,?_⟩)
   refine mX (fB R R (by simp) (b4 oy)) ?_
   refine mX (fA ju ka lQ R R (by simp) (b4 oy)) ?_
   refine mX (vO (cs:=[.I x5.ID,.ak 5 (x5.ae.map ai.lv),.ak 1 (x5.ah.map LV.bool),.ak 3 (x5.Uses.map az.lv),.bool x5.ab]) R R (by simp) (b4 oy) R R ka wm) ?_
   refine iF R ?_
   by_cases cP:x5.ab=true
   ·refine mF R R cP ?_
    refine mF R R cP ?_
    refine mF R R cP ?_
    refine mF R R cP ?_
    refine mF R R cP ?_
    refine mF R R cP ?_
    refine mF R R cP ?_
    refine mF R R cP ?_
    refine mF R R cP ?_
    refine mF R R cP ?_
    refine aF (aW (cB cP) (v:=(.bool _)) R ⟨R,?_⟩)
    exact m0 (Wk.to (eC R (eC R (eC (cB (p7 cP)) eN))) ⟨R,R,trivial⟩ R (a8 R))
   ·replace cP:=bF cP
    refine mT R (cB cP) (aF (aw e9 cG ct R R R ⟨R,?_⟩))
    refine mT R (cB cP) (aF (aw fE aE bb R R R ⟨R,?_⟩))
    refine mT R (cB cP) (aF (bf R aE bN ⟨R,?_⟩))
    refine mT R (cB cP) (aF (oM (v:=(.bE _ _ _ _)) R ⟨R,?_⟩))
    refine mT R (cB cP) (mX (fB R R (by simp) (b4 oy)) ?_)
    refine mT R (cB cP) (mX (fA dy dM ig R R (by simp) (b4 oy)) ?_)
    refine mT R (cB cP) (mX (Ay (g:=ai.lv) (ys:=x5.ae) (cs:=[.I x5.ID,.ak 5 (x5.ae.map ai.lv),.ak 1 (x5.ah.map LV.bool),.ak 3 (x5.Uses.map az.lv),.bool x5.ab]) R R (by simp) (b4 oy) R R dM j7) ?_)
    refine mT R (cB cP) (mX (vP ic R) ?_)
    refine mT R (cB cP) (aF (cr R R ⟨R,?_⟩))
    refine mT R (cB cP) (aF (kg R R ⟨R,?_⟩))
    refine aF (aV (cB cP) (v:=(.bool _)) R ⟨R,?_⟩)
    exact m0 (Wk.to (eC R (eC R (eC (cB (iJ cP)) eN))) ⟨R,R,trivial⟩ R (a8 R))
  refine LH.cond (t:=(x5.ab || (p1.Item.Version != (i64 ((x5.ae.length:Int)+1))))) R (fun gU=>?_) (fun gU=>?_)
  ·replace h:=aB h gU
   refine LH.aj [(4,.I 8)] [(811,.box [.arr 812 p0.aa.length]),(812,.nest 49 5 [(1,54,5),(2,4,1),(3,88,3)] (p0.aa.map aq.lv))] R ?_ ?_
   ·refine bo R ?_
    exact s0 (Wk.to (eQ ⟨R,trivial⟩) (mC R (mC (pb oy).symm mN)) R (a8 R))
   refine LH.ret ?_
   refine aZ ?_
   obtain rfl:=oI h
   exact aS (aT Tryz.results58) (bR R (bP ⟨aR (mC R (mC R mN)),R,a8 R,Sub.rfl⟩))
  replace h:=aA h gU
  refine LH.skip ?_
  refine av ?_
  obtain ⟨cJ,lz,h⟩:=al h
  obtain ⟨v12,Fe,h⟩:=al h
  refine LH.c7 mixed [] [0,0,3,3,3,0,0,0,0,2,3,3,3] [(6,.bE 812 p0.aa.length (j4).toNat 0)] [(811,.box [.arr 812 p0.aa.length]),(812,.nest 49 5 [(1,54,5),(2,4,1),(3,88,3)] ((p0.aa.map aq.lv).set (j4).toNat (.agg [.I x5.ID,.ak 5 (v12.map ai.lv),.ak 1 (x5.ah.map LV.bool),.ak 3 (x5.Uses.map az.lv),.bool x5.ab])))] R R (by kernel_rfl) ?_ ?_
  ·refine aF (oM (v:=(.bE _ _ _ _)) R ⟨R,?_⟩)
   refine aF (oM (v:=(.bE _ _ _ _)) R ⟨R,?_⟩)
   refine mX (fB R R (by simp) (b4 oy)) ?_
   refine mX (fA dy dM ig R R (by simp) (b4 oy)) ?_
   refine mX (td (g:=ai.lv) (ys:=x5.ae) (ls:=List.map aq.lv p0.aa) (cs:=[.I x5.ID,.ak 5 (x5.ae.map ai.lv),.ak 1 (x5.ah.map LV.bool),.ak 3 (x5.Uses.map az.lv),.bool x5.ab]) (id2:=140) (dr:=[.I x5.ID,.eB,.ak 1 (x5.ah.map LV.bool),.ak 3 (x5.Uses.map az.lv),.bool x5.ab]) R R (by simp) (b4 oy) R R R dM j7 R) ?_
   refine aF (aw e9 cG ct R R R ⟨R,?_⟩)
   refine aF (bh R cG fo ct R R ⟨R,?_⟩)
   refine aF (dU (args:=[.agg [.I p1.Item.ID,.I p1.Item.Version,.str p1.Item.bD,.ak 6 (p1.Item.aI.map ao.lv),.L p1.Item.aD]]) R Ft R (aK bt) (F1 lz) R ⟨R,?_⟩)
   refine aF (jI (f:=ai.lv) (ys:=[cJ]) ic A2 ct R R R ai.ok ⟨R,?_⟩)
   refine Hg (my (f:=ai.lv) ic A2 ct R R (bO R) R Fe ?_)
   refine mX (fB R R (by simp) (b4 oy)) ?_
   refine mX (fA dy dM ig R R (by simp) (b4 oy)) ?_
   refine Un (vQ (g:=ai.lv) (ys:=v12) (ls:=List.map aq.lv p0.aa) (cs:=[.I x5.ID,.eB,.ak 1 (x5.ah.map LV.bool),.ak 3 (x5.Uses.map az.lv),.bool x5.ab]) (dr:=[.I x5.ID,.ak 5 (v12.map ai.lv),.ak 1 (x5.ah.map LV.bool),.ak 3 (x5.Uses.map az.lv),.bool x5.ab]) R R (by simp) (b4 oy) R R R R R (bO R) dM ig R) ?_
   exact zM
  obtain ⟨rL,Ff,h⟩:=al h
  refine LH.aj [] [(811,.box [.arr 812 (List.length (p0.aa.set (j4).toNat (aq.mk x5.ID v12 rL x5.Uses x5.ab)))]),(812,.nest 49 5 [(1,54,5),(2,4,1),(3,88,3)] (List.map aq.lv (p0.aa.set (j4).toNat (aq.mk x5.ID v12 rL x5.Uses x5.ab))))] R ?_ ?_
  ·refine sN (oM (v:=(.bE _ _ _ _)) R ?_)
   refine sN (oM (v:=(.bE _ _ _ _)) R ?_)
   refine sX ((fB R R (by simp) (b4 oy)).ok) ?_
   refine sX ((fA eA eX ji R R (by simp) (b4 oy)).ok) ?_
   refine sX ((td (g:=LV.bool) (ys:=x5.ah) (ls:=List.map aq.lv p0.aa) (cs:=[.I x5.ID,.ak 5 (v12.map ai.lv),.ak 1 (x5.ah.map LV.bool),.ak 3 (x5.Uses.map az.lv),.bool x5.ab]) (id2:=152) (dr:=[.I x5.ID,.ak 5 (v12.map ai.lv),.eB,.ak 3 (x5.Uses.map az.lv),.bool x5.ab]) R R (by simp) (b4 oy) R R R eX nF R).ok) ?_
   refine sN (jI (f:=LV.bool) (ys:=[false]) j8 Hi lQ R R R okB ?_)
   refine sN (my (f:=LV.bool) j8 Hi lQ R R (bO R) R Ff ?_)
   refine sX ((fB R R (by simp) (b4 oy)).ok) ?_
   refine sX ((fA eA eX ji R R (by simp) (b4 oy)).ok) ?_
   refine Ic ((vQ (g:=LV.bool) (ys:=rL) (ls:=List.map aq.lv p0.aa) (cs:=[.I x5.ID,.ak 5 (v12.map ai.lv),.eB,.ak 3 (x5.Uses.map az.lv),.bool x5.ab]) (dr:=[.I x5.ID,.ak 5 (v12.map ai.lv),.ak 1 (rL.map LV.bool),.ak 3 (x5.Uses.map az.lv),.bool x5.ab]) R R (by simp) (b4 oy) R R R R R (bO R) eX ji R).ok) ?_
   exact s0 (Wk.to eN (mC ((show _=some (LE.box [.arr 812 p0.aa.length]) from R).trans (by simp)) (mC (Il R R) mN)) R (a8 R))
  refine LH.aj [(4,.I 0)] [(811,.box [.arr 812 (List.length (p0.aa.set (j4).toNat (aq.mk x5.ID v12 rL x5.Uses x5.ab)))]),(812,.nest 49 5 [(1,54,5),(2,4,1),(3,88,3)] (List.map aq.lv (p0.aa.set (j4).toNat (aq.mk x5.ID v12 rL x5.Uses x5.ab))))] R ?_ ?_
  ·refine bo R ?_
   exact zS
  refine LH.ret ?_
  obtain rfl:=oI h
  exact aS (aT Tryz.results58) (bR R (bP ⟨aR (mC R (mC R mN)),R,a8 R,Sub.rfl⟩))
theorem Jt {F:Nat} {p0:aM} {p1:aG} {r:Option Int} (h:uZ F p0 p1=some r):aP Tryz.prog 79 [.ptr 811 0,.agg [.I p1.ID,.I p1.Version]] (Mem.of [(811,.box [.arr 812 p0.aa.length]),(812,.nest 49 5 [(1,54,5),(2,4,1),(3,88,3)] (p0.aa.map aq.lv))]) (rk 812 p0.aa.length r) (Mem.of [(811,.box [.arr 812 p0.aa.length]),(812,.nest 49 5 [(1,54,5),(2,4,1),(3,88,3)] (p0.aa.map aq.lv))]):=by
  unfold uZ at h
  refine bu Tryz.func79 R (nT Tryz.ntmps79 R) ?_
  refine LH.wk (Wk.eq (el:=[(0,.ptr 811 0),(1,.agg [.I p1.ID,.I p1.Version])]) (ml:=[(811,.box [.arr 812 p0.aa.length]),(812,.nest 49 5 [(1,54,5),(2,4,1),(3,88,3)] (p0.aa.map aq.lv))]) R R R R) ?_
  refine LH.aj [(0,.ptr 811 0),(3,.ag [.I p1.ID,.I p1.Version])] [(811,.box [.arr 812 p0.aa.length]),(812,.nest 49 5 [(1,54,5),(2,4,1),(3,88,3)] (p0.aa.map aq.lv))] R ?_ ?_
  ·refine sB (dp R R R R ?_)
   refine sN (oA (v:=.fe) R ?_)
   exact zS
  obtain ⟨r1,ec,h⟩:=al h
  refine LH.aj [(3,.ag [.I p1.ID,.I p1.Version]),(5,rk 812 p0.aa.length r1)] [(811,.box [.arr 812 p0.aa.length]),(812,.nest 49 5 [(1,54,5),(2,4,1),(3,88,3)] (p0.aa.map aq.lv))] R ?_ ?_
  ·refine ib R ?_
   refine sN (aw iN aE bb R R R ?_)
   refine sN (bf R aE bN ?_)
   refine sN (fa (args:=[.ptr 811 0,.I p1.ID]) (ml:=[(811,.box [.arr 812 p0.aa.length]),(812,.nest 49 5 [(1,54,5),(2,4,1),(3,88,3)] (p0.aa.map aq.lv))]) (dg:=[(811,.box [.arr 812 p0.aa.length]),(812,.nest 49 5 [(1,54,5),(2,4,1),(3,88,3)] (p0.aa.map aq.lv))]) R Fw R (aK (aK bt)) (F3 ec) ⟨R,R,trivial⟩ (b8 R (b8 R cw)) R ?_)
   refine sN (oA (v:=(rk _ _ _)) R ?_)
   exact s0 (Wk.to (eQ ⟨R,R,trivial⟩) ⟨R,R,trivial⟩ (by rcases r1 with _ | _ <;> exact R) (a8 R))
  rcases r1 with _ | j2
  ·replace h:=FU h
   refine LH.wk (Wk.eq (el:=[(3,.ag [.I p1.ID,.I p1.Version]),(5,.fe)]) (ml:=[(811,.box [.arr 812 p0.aa.length]),(812,.nest 49 5 [(1,54,5),(2,4,1),(3,88,3)] (p0.aa.map aq.lv))]) R R R R) ?_
   refine LH.seq ?_
   refine LH.c7 mixed [] [0,4,0,0,0,0,0,0,0,0,0,0,0,0,0,0,0] [(5,.fe),(26,.bool true)] [(811,.box [.arr 812 p0.aa.length]),(812,.nest 49 5 [(1,54,5),(2,4,1),(3,88,3)] (p0.aa.map aq.lv))] R R (by kernel_rfl) ?_ ?_
   ·refine aF (oM (v:=.fe) R ⟨R,?_⟩)
    refine mM (fun _=>tc nU R R) ?_
    refine iF R ?_
    refine mF R R R ?_
    refine mF R R R ?_
    refine mF R R R ?_
    refine aF (aW R (v:=(.bool _)) R ⟨R,?_⟩)
    refine iF R ?_
    refine mF R R R ?_
    refine mF R R R ?_
    refine mF R R R ?_
    refine mF R R R ?_
    refine mF R R R ?_
    refine mF R R R ?_
    refine mF R R R ?_
    refine mF R R R ?_
    refine aF (aW R (v:=(.bool _)) R ⟨R,?_⟩)
    exact zM
   refine LH.cond (t:=true) R (fun jW=>?_) (fun jW=>?_)
   ·refine LH.aj [(4,.fe)] [(811,.box [.arr 812 p0.aa.length]),(812,.nest 49 5 [(1,54,5),(2,4,1),(3,88,3)] (p0.aa.map aq.lv))] R ?_ ?_
    ·refine sN (oA (v:=.fe) R ?_)
     exact zS
    refine LH.ret ?_
    refine aZ ?_
    obtain rfl:=oI h
    exact aS (aT Tryz.results79) (bR R (bP ⟨aR (mC R (mC R mN)),R,a8 R,Sub.rfl⟩))
   ·cases jW
  replace h:=FV h
  obtain ⟨x3,fR,h⟩:=al h
  refine LH.wk (Wk.to (el:=[(3,.ag [.I p1.ID,.I p1.Version]),(5,.bE 812 p0.aa.length (j2).toNat 0)]) (ml:=[(811,.box [.arr 812 p0.aa.length]),(812,.nest 49 5 [(1,54,5),(2,4,1),(3,88,3)] ((p0.aa.map aq.lv).set (j2).toNat (.agg [.I x3.ID,.ak 5 (x3.ae.map ai.lv),.ak 1 (x3.ah.map LV.bool),.ak 3 (x3.Uses.map az.lv),.bool x3.ab])))]) (eQ ⟨R,R,trivial⟩) (mC R (mC (pb fR) mN)) R (a8 R)) ?_
  refine LH.seq ?_
  refine LH.c7 mixed [] [0,3,0,0,0,0,0,0,0,0,0,3,3,3,3,0,0] [(5,.bE 812 p0.aa.length (j2).toNat 0),(26,.bool ((decide (p1.Version<1)) || (decide (p1.Version > (x3.ae.length:Int)))))] [(811,.box [.arr 812 p0.aa.length]),(812,.nest 49 5 [(1,54,5),(2,4,1),(3,88,3)] ((p0.aa.map aq.lv).set (j2).toNat (.agg [.I x3.ID,.ak 5 (x3.ae.map ai.lv),.ak 1 (x3.ah.map LV.bool),.ak 3 (x3.Uses.map az.lv),.bool x3.ab])))] R R (by kernel_rfl) ?_ ?_
  ·refine aF (oM (v:=(.bE _ _ _ _)) R ⟨R,?_⟩)
   refine mX (tb nU R R R (by simp) (b4 fR)) ?_
   refine iF R ?_
   refine mT R R (aF (aw eS aE bb R R R ⟨R,?_⟩))
   refine mT R R (aF (bf R aE bN ⟨R,?_⟩))
   refine mT R R (aF (fi R R ⟨R,?_⟩))
   refine aF (aV R (v:=(.bool _)) R ⟨R,?_⟩)
   refine iF R ?_
   by_cases b3:(decide (p1.Version<1))=true
   ·refine mF R R b3 ?_
    refine mF R R b3 ?_
    refine mF R R b3 ?_
    refine mF R R b3 ?_
    refine mF R R b3 ?_
    refine mF R R b3 ?_
    refine mF R R b3 ?_
    refine mF R R b3 ?_
    refine aF (aW (cB b3) (v:=(.bool _)) R ⟨R,?_⟩)
    exact m0 (Wk.to (eC R (eC (cB (p7 b3)) eN)) ⟨R,R,trivial⟩ R (a8 R))
   ·replace b3:=bF b3
    refine mT R (cB b3) (aF (aw eS aE bb R R R ⟨R,?_⟩))
    refine mT R (cB b3) (aF (bf R aE bN ⟨R,?_⟩))
    refine mT R (cB b3) (aF (oM (v:=(.bE _ _ _ _)) R ⟨R,?_⟩))
    refine mT R (cB b3) (mX (fB R R (by simp) (b4 fR)) ?_)
    refine mT R (cB b3) (mX (fA dy dM ig R R (by simp) (b4 fR)) ?_)
    refine mT R (cB b3) (mX (Ay (g:=ai.lv) (ys:=x3.ae) (cs:=[.I x3.ID,.ak 5 (x3.ae.map ai.lv),.ak 1 (x3.ah.map LV.bool),.ak 3 (x3.Uses.map az.lv),.bool x3.ab]) R R (by simp) (b4 fR) R R dM j7) ?_)
    refine mT R (cB b3) (mX (vP ic R) ?_)
    refine mT R (cB b3) (aF (iw R R ⟨R,?_⟩))
    refine aF (aV (cB b3) (v:=(.bool _)) R ⟨R,?_⟩)
    exact m0 (Wk.to (eC R (eC (cB (iJ b3)) eN)) ⟨R,R,trivial⟩ R (a8 R))
  refine LH.cond (t:=((decide (p1.Version<1)) || (decide (p1.Version > (x3.ae.length:Int))))) R (fun ke=>?_) (fun ke=>?_)
  ·replace h:=aB h ke
   refine LH.aj [(4,.fe)] [(811,.box [.arr 812 p0.aa.length]),(812,.nest 49 5 [(1,54,5),(2,4,1),(3,88,3)] (p0.aa.map aq.lv))] R ?_ ?_
   ·refine sN (oA (v:=.fe) R ?_)
    exact s0 (Wk.to (eQ ⟨R,trivial⟩) (mC R (mC (pb fR).symm mN)) R (a8 R))
   refine LH.ret ?_
   refine aZ ?_
   obtain rfl:=oI h
   exact aS (aT Tryz.results79) (bR R (bP ⟨aR (mC R (mC R mN)),R,a8 R,Sub.rfl⟩))
  replace h:=aA h ke
  refine LH.skip ?_
  refine av ?_
  refine LH.aj [(4,.bE 812 p0.aa.length (j2).toNat 0)] [(811,.box [.arr 812 p0.aa.length]),(812,.nest 49 5 [(1,54,5),(2,4,1),(3,88,3)] ((p0.aa.map aq.lv).set (j2).toNat (.agg [.I x3.ID,.ak 5 (x3.ae.map ai.lv),.ak 1 (x3.ah.map LV.bool),.ak 3 (x3.Uses.map az.lv),.bool x3.ab])))] R ?_ ?_
  ·refine sN (oM (v:=(.bE _ _ _ _)) R ?_)
   refine sN (oA (v:=(.bE _ _ _ _)) R ?_)
   exact zS
  refine LH.ret ?_
  obtain rfl:=oI h
  exact aS (aT Tryz.results79) (bR R (bP ⟨aR (mC R (mC (pb fR).symm mN)),R,a8 R,Sub.rfl⟩))
theorem Px {F:Nat} {p0:aM} {p1:ax} {r:Int × aM} (h:ye F p0 p1=some r):aP Tryz.prog 59 [.ptr 811 0,.agg [.I p1.ar.Time,.I p1.ar.Source,.I p1.ar.Seq,.I p1.Kind,.I p1.Item.ID,.I p1.Item.Version,.str p1.Item.bD,.ak 6 (p1.Item.aI.map ao.lv),.L p1.Item.aD,.I p1.Ref.ID,.I p1.Ref.Version,.I p1.Form]] (Mem.of [(811,.box [.arr 812 p0.aa.length]),(812,.nest 49 5 [(1,54,5),(2,4,1),(3,88,3)] (p0.aa.map aq.lv))]) (.I r.1) (Mem.of [(811,.box [.arr 812 r.2.aa.length]),(812,.nest 49 5 [(1,54,5),(2,4,1),(3,88,3)] (r.2.aa.map aq.lv))]):=by
  unfold ye at h
  refine bu Tryz.func59 R (nT Tryz.ntmps59 R) ?_
  refine LH.wk (Wk.eq (el:=[(0,.ptr 811 0),(1,.agg [.I p1.ar.Time,.I p1.ar.Source,.I p1.ar.Seq,.I p1.Kind,.I p1.Item.ID,.I p1.Item.Version,.str p1.Item.bD,.ak 6 (p1.Item.aI.map ao.lv),.L p1.Item.aD,.I p1.Ref.ID,.I p1.Ref.Version,.I p1.Form])]) (ml:=[(811,.box [.arr 812 p0.aa.length]),(812,.nest 49 5 [(1,54,5),(2,4,1),(3,88,3)] (p0.aa.map aq.lv))]) R R R R) ?_
  refine LH.aj [(0,.ptr 811 0),(3,.ag [.I p1.ar.Time,.I p1.ar.Source,.I p1.ar.Seq,.I p1.Kind,.I p1.Item.ID,.I p1.Item.Version,.str p1.Item.bD,.ak 6 (p1.Item.aI.map ao.lv),.L p1.Item.aD,.I p1.Ref.ID,.I p1.Ref.Version,.I p1.Form])] [(811,.box [.arr 812 p0.aa.length]),(812,.nest 49 5 [(1,54,5),(2,4,1),(3,88,3)] (p0.aa.map aq.lv))] R ?_ ?_
  ·refine sB (dp R R R R ?_)
   refine bo R ?_
   exact zS
  obtain ⟨r1,ec,h⟩:=al h
  refine LH.aj [(3,.ag [.I p1.ar.Time,.I p1.ar.Source,.I p1.ar.Seq,.I p1.Kind,.I p1.Item.ID,.I p1.Item.Version,.str p1.Item.bD,.ak 6 (p1.Item.aI.map ao.lv),.L p1.Item.aD,.I p1.Ref.ID,.I p1.Ref.Version,.I p1.Form]),(5,rk 812 p0.aa.length r1)] [(811,.box [.arr 812 p0.aa.length]),(812,.nest 49 5 [(1,54,5),(2,4,1),(3,88,3)] (p0.aa.map aq.lv))] R ?_ ?_
  ·refine ib R ?_
   refine sN (aw eT fg eJ R R R ?_)
   refine sN (bh R fg qf eJ R R ?_)
   refine sN (fa (args:=[.ptr 811 0,.agg [.I p1.Ref.ID,.I p1.Ref.Version]]) (ml:=[(811,.box [.arr 812 p0.aa.length]),(812,.nest 49 5 [(1,54,5),(2,4,1),(3,88,3)] (p0.aa.map aq.lv))]) (dg:=[(811,.box [.arr 812 p0.aa.length]),(812,.nest 49 5 [(1,54,5),(2,4,1),(3,88,3)] (p0.aa.map aq.lv))]) R I8 R (aK (aK bt)) (Jt ec) ⟨R,R,trivial⟩ (b8 R (b8 R cw)) R ?_)
   refine sN (oA (v:=(rk _ _ _)) R ?_)
   exact s0 (Wk.to (eQ ⟨R,R,trivial⟩) ⟨R,R,trivial⟩ (by rcases r1 with _ | _ <;> exact R) (a8 R))
  rcases r1 with _ | j2
  ·replace h:=FU h
   refine LH.wk (Wk.eq (el:=[(3,.ag [.I p1.ar.Time,.I p1.ar.Source,.I p1.ar.Seq,.I p1.Kind,.I p1.Item.ID,.I p1.Item.Version,.str p1.Item.bD,.ak 6 (p1.Item.aI.map ao.lv),.L p1.Item.aD,.I p1.Ref.ID,.I p1.Ref.Version,.I p1.Form]),(5,.fe)]) (ml:=[(811,.box [.arr 812 p0.aa.length]),(812,.nest 49 5 [(1,54,5),(2,4,1),(3,88,3)] (p0.aa.map aq.lv))]) R R R R) ?_
   refine LH.seq ?_
   refine LH.aj [(3,.ag [.I p1.ar.Time,.I p1.ar.Source,.I p1.ar.Seq,.I p1.Kind,.I p1.Item.ID,.I p1.Item.Version,.str p1.Item.bD,.ak 6 (p1.Item.aI.map ao.lv),.L p1.Item.aD,.I p1.Ref.ID,.I p1.Ref.Version,.I p1.Form]),(5,.fe),(11,.bool true)] [(811,.box [.arr 812 p0.aa.length]),(812,.nest 49 5 [(1,54,5),(2,4,1),(3,88,3)] (p0.aa.map aq.lv))] R ?_ ?_
   ·refine sN (oM (v:=.fe) R ?_)
    refine sX ((tc nU R R).ok) ?_
    exact zS
   refine LH.cond (t:=true) R (fun jW=>?_) (fun jW=>?_)
   ·refine LH.aj [(4,.I 4)] [(811,.box [.arr 812 p0.aa.length]),(812,.nest 49 5 [(1,54,5),(2,4,1),(3,88,3)] (p0.aa.map aq.lv))] R ?_ ?_
    ·refine bo R ?_
     exact zS
    refine LH.ret ?_
    refine aZ ?_
    obtain rfl:=oI h
    exact aS (aT Tryz.results59) (bR R (bP ⟨aR (mC R (mC R mN)),R,a8 R,Sub.rfl⟩))
   ·cases jW
  replace h:=FV h
  obtain ⟨x3,fR,h⟩:=al h
  refine LH.wk (Wk.to (el:=[(3,.ag [.I p1.ar.Time,.I p1.ar.Source,.I p1.ar.Seq,.I p1.Kind,.I p1.Item.ID,.I p1.Item.Version,.str p1.Item.bD,.ak 6 (p1.Item.aI.map ao.lv),.L p1.Item.aD,.I p1.Ref.ID,.I p1.Ref.Version,.I p1.Form]),(5,.bE 812 p0.aa.length (j2).toNat 0)]) (ml:=[(811,.box [.arr 812 p0.aa.length]),(812,.nest 49 5 [(1,54,5),(2,4,1),(3,88,3)] ((p0.aa.map aq.lv).set (j2).toNat (.agg [.I x3.ID,.ak 5 (x3.ae.map ai.lv),.ak 1 (x3.ah.map LV.bool),.ak 3 (x3.Uses.map az.lv),.bool x3.ab])))]) (eQ ⟨R,R,trivial⟩) (mC R (mC (pb fR) mN)) R (a8 R)) ?_
  refine LH.seq ?_
  refine LH.aj [(3,.ag [.I p1.ar.Time,.I p1.ar.Source,.I p1.ar.Seq,.I p1.Kind,.I p1.Item.ID,.I p1.Item.Version,.str p1.Item.bD,.ak 6 (p1.Item.aI.map ao.lv),.L p1.Item.aD,.I p1.Ref.ID,.I p1.Ref.Version,.I p1.Form]),(5,.bE 812 p0.aa.length (j2).toNat 0),(11,.bool false)] [(811,.box [.arr 812 p0.aa.length]),(812,.nest 49 5 [(1,54,5),(2,4,1),(3,88,3)] ((p0.aa.map aq.lv).set (j2).toNat (.agg [.I x3.ID,.ak 5 (x3.ae.map ai.lv),.ak 1 (x3.ah.map LV.bool),.ak 3 (x3.Uses.map az.lv),.bool x3.ab])))] R ?_ ?_
  ·refine sN (oM (v:=(.bE _ _ _ _)) R ?_)
   refine sX ((tb nU R R R (by simp) (b4 fR)).ok) ?_
   exact zS
  refine LH.cond (t:=false) R (fun ky=>?_) (fun ky=>?_)
  ·cases ky
  refine LH.skip ?_
  refine av ?_
  refine LH.wk (Wk.eq (el:=[(3,.ag [.I p1.ar.Time,.I p1.ar.Source,.I p1.ar.Seq,.I p1.Kind,.I p1.Item.ID,.I p1.Item.Version,.str p1.Item.bD,.ak 6 (p1.Item.aI.map ao.lv),.L p1.Item.aD,.I p1.Ref.ID,.I p1.Ref.Version,.I p1.Form]),(5,.bE 812 p0.aa.length (j2).toNat 0)]) (ml:=[(811,.box [.arr 812 p0.aa.length]),(812,.nest 49 5 [(1,54,5),(2,4,1),(3,88,3)] ((p0.aa.map aq.lv).set (j2).toNat (.agg [.I x3.ID,.ak 5 (x3.ae.map ai.lv),.ak 1 (x3.ah.map LV.bool),.ak 3 (x3.Uses.map az.lv),.bool x3.ab])))]) R R R R) ?_
  refine LH.seq ?_
  refine LH.aj [(3,.ag [.I p1.ar.Time,.I p1.ar.Source,.I p1.ar.Seq,.I p1.Kind,.I p1.Item.ID,.I p1.Item.Version,.str p1.Item.bD,.ak 6 (p1.Item.aI.map ao.lv),.L p1.Item.aD,.I p1.Ref.ID,.I p1.Ref.Version,.I p1.Form]),(5,.bE 812 p0.aa.length (j2).toNat 0),(15,.bool x3.ab)] [(811,.box [.arr 812 p0.aa.length]),(812,.nest 49 5 [(1,54,5),(2,4,1),(3,88,3)] ((p0.aa.map aq.lv).set (j2).toNat (.agg [.I x3.ID,.ak 5 (x3.ae.map ai.lv),.ak 1 (x3.ah.map LV.bool),.ak 3 (x3.Uses.map az.lv),.bool x3.ab])))] R ?_ ?_
  ·refine sN (oM (v:=(.bE _ _ _ _)) R ?_)
   refine sX ((fB R R (by simp) (b4 fR)).ok) ?_
   refine sX ((fA ju ka lQ R R (by simp) (b4 fR)).ok) ?_
   refine sX ((vO (cs:=[.I x3.ID,.ak 5 (x3.ae.map ai.lv),.ak 1 (x3.ah.map LV.bool),.ak 3 (x3.Uses.map az.lv),.bool x3.ab]) R R (by simp) (b4 fR) R R ka wm).ok) ?_
   exact zS
  refine LH.cond (t:=x3.ab) R (fun gb=>?_) (fun gb=>?_)
  ·replace h:=aB h gb
   refine LH.aj [(4,.I 8)] [(811,.box [.arr 812 p0.aa.length]),(812,.nest 49 5 [(1,54,5),(2,4,1),(3,88,3)] (p0.aa.map aq.lv))] R ?_ ?_
   ·refine bo R ?_
    exact s0 (Wk.to (eQ ⟨R,trivial⟩) (mC R (mC (pb fR).symm mN)) R (a8 R))
   refine LH.ret ?_
   refine aZ ?_
   obtain rfl:=oI h
   exact aS (aT Tryz.results59) (bR R (bP ⟨aR (mC R (mC R mN)),R,a8 R,Sub.rfl⟩))
  replace h:=aA h gb
  refine LH.skip ?_
  refine av ?_
  refine LH.wk (Wk.eq (el:=[(3,.ag [.I p1.ar.Time,.I p1.ar.Source,.I p1.ar.Seq,.I p1.Kind,.I p1.Item.ID,.I p1.Item.Version,.str p1.Item.bD,.ak 6 (p1.Item.aI.map ao.lv),.L p1.Item.aD,.I p1.Ref.ID,.I p1.Ref.Version,.I p1.Form]),(5,.bE 812 p0.aa.length (j2).toNat 0)]) (ml:=[(811,.box [.arr 812 p0.aa.length]),(812,.nest 49 5 [(1,54,5),(2,4,1),(3,88,3)] ((p0.aa.map aq.lv).set (j2).toNat (.agg [.I x3.ID,.ak 5 (x3.ae.map ai.lv),.ak 1 (x3.ah.map LV.bool),.ak 3 (x3.Uses.map az.lv),.bool x3.ab])))]) R R R R) ?_
  refine LH.seq ?_
  obtain ⟨x7,DQ,h⟩:=al h
  refine LH.c7 mixed [] [0,3,3,3,0,0,0,0,1119,1119] [(3,.ag [.I p1.ar.Time,.I p1.ar.Source,.I p1.ar.Seq,.I p1.Kind,.I p1.Item.ID,.I p1.Item.Version,.str p1.Item.bD,.ak 6 (p1.Item.aI.map ao.lv),.L p1.Item.aD,.I p1.Ref.ID,.I p1.Ref.Version,.I p1.Form]),(5,.bE 812 p0.aa.length (j2).toNat 0),(25,.bool x7)] [(811,.box [.arr 812 p0.aa.length]),(812,.nest 49 5 [(1,54,5),(2,4,1),(3,88,3)] ((p0.aa.map aq.lv).set (j2).toNat (.agg [.I x3.ID,.ak 5 (x3.ae.map ai.lv),.ak 1 (x3.ah.map LV.bool),.ak 3 (x3.Uses.map az.lv),.bool x3.ab])))] R R (by kernel_rfl) ?_ ?_
  ·refine aF (oM (v:=(.bE _ _ _ _)) R ⟨R,?_⟩)
   refine mX (fB R R (by simp) (b4 fR)) ?_
   refine mX (fA eA eX ji R R (by simp) (b4 fR)) ?_
   refine mX (nt (g:=LV.bool) (ys:=x3.ah) (ls:=List.map aq.lv p0.aa) (cs:=[.I x3.ID,.ak 5 (x3.ae.map ai.lv),.ak 1 (x3.ah.map LV.bool),.ak 3 (x3.Uses.map az.lv),.bool x3.ab]) (id2:=119) (dr:=[.I x3.ID,.ak 5 (x3.ae.map ai.lv),.eB,.ak 3 (x3.Uses.map az.lv),.bool x3.ab]) R R (by simp) (b4 fR) R R R eX nF R) ?_
   refine aF (aw eT fg eJ R R R ⟨R,?_⟩)
   refine aF (aw eS aE bb R R R ⟨R,?_⟩)
   refine aF (bf R aE bN ⟨R,?_⟩)
   refine aF (iG R R ⟨R,?_⟩)
   refine mD R R R (fun _ b _ d=>gX (f:=LV.bool) j8 ka lQ R b R DQ d) ?_
   refine mD R R R (fun _ b _ d=>vM (f:=LV.bool) R b (dC DQ).2 R R R ka wm d) ?_
   exact m0 (Wk.trans (Wk.rK (id:=812) (id2:=119) (o0:=2) (i:=(j2).toNat) (n2:=List.length x3.ah) (g:=LV.bool) (ys:=x3.ah) (ls:=List.map aq.lv p0.aa) (cs:=[.I x3.ID,.ak 5 (x3.ae.map ai.lv),.eB,.ak 3 (x3.Uses.map az.lv),.bool x3.ab]) (dr:=[.I x3.ID,.ak 5 (x3.ae.map ai.lv),.ak 1 (x3.ah.map LV.bool),.ak 3 (x3.Uses.map az.lv),.bool x3.ab]) R (b4 fR) R R R R (bO R) R) (Wk.eq R R R R))
  refine LH.cond (t:=x7) R (fun ly=>?_) (fun ly=>?_)
  ·replace h:=aB h ly
   refine LH.aj [(4,.I 5)] [(811,.box [.arr 812 p0.aa.length]),(812,.nest 49 5 [(1,54,5),(2,4,1),(3,88,3)] (p0.aa.map aq.lv))] R ?_ ?_
   ·refine bo R ?_
    exact s0 (Wk.to (eQ ⟨R,trivial⟩) (mC R (mC (pb fR).symm mN)) R (a8 R))
   refine LH.ret ?_
   refine aZ ?_
   obtain rfl:=oI h
   exact aS (aT Tryz.results59) (bR R (bP ⟨aR (mC R (mC R mN)),R,a8 R,Sub.rfl⟩))
  replace h:=aA h ly
  refine LH.skip ?_
  refine av ?_
  obtain ⟨x9,zl,h⟩:=al h
  refine LH.c7 mixed [] [0,3,3,3,0,0,0,0,1129,100129] [] [(811,.box [.arr 812 (List.length (p0.aa.set (j2).toNat (aq.mk x3.ID x3.ae (x3.ah.set ((i64 (p1.Ref.Version - 1)).toNat) true) x3.Uses x3.ab)))]),(812,.nest 49 5 [(1,54,5),(2,4,1),(3,88,3)] (List.map aq.lv (p0.aa.set (j2).toNat (aq.mk x3.ID x3.ae (x3.ah.set ((i64 (p1.Ref.Version - 1)).toNat) true) x3.Uses x3.ab))))] R R (by kernel_rfl) ?_ ?_
  ·refine aF (oM (v:=(.bE _ _ _ _)) R ⟨R,?_⟩)
   refine mX (fB R R (by simp) (b4 fR)) ?_
   refine mX (fA eA eX ji R R (by simp) (b4 fR)) ?_
   refine mX (nt (g:=LV.bool) (ys:=x3.ah) (ls:=List.map aq.lv p0.aa) (cs:=[.I x3.ID,.ak 5 (x3.ae.map ai.lv),.ak 1 (x3.ah.map LV.bool),.ak 3 (x3.Uses.map az.lv),.bool x3.ab]) (id2:=129) (dr:=[.I x3.ID,.ak 5 (x3.ae.map ai.lv),.eB,.ak 3 (x3.Uses.map az.lv),.bool x3.ab]) R R (by simp) (b4 fR) R R R eX nF R) ?_
   refine aF (aw eT fg eJ R R R ⟨R,?_⟩)
   refine aF (aw eS aE bb R R R ⟨R,?_⟩)
   refine aF (bf R aE bN ⟨R,?_⟩)
   refine aF (iG R R ⟨R,?_⟩)
   refine mD R R R (fun _ b _ d=>gX (f:=LV.bool) j8 ka lQ R b R zl d) ?_
   refine mS R R R (fun _ b _ d=>ri (f:=LV.bool) (z':=true) R R R R ka lQ b (dC zl).2 R d) ?_
   exact m0 (Wk.trans (Wk.rK (id:=812) (id2:=129) (o0:=2) (i:=(j2).toNat) (n2:=List.length x3.ah) (g:=LV.bool) (ys:=(x3.ah.set ((i64 (p1.Ref.Version - 1)).toNat) true)) (ls:=List.map aq.lv p0.aa) (cs:=[.I x3.ID,.ak 5 (x3.ae.map ai.lv),.eB,.ak 3 (x3.Uses.map az.lv),.bool x3.ab]) (dr:=[.I x3.ID,.ak 5 (x3.ae.map ai.lv),.ak 1 (List.map LV.bool (x3.ah.set ((i64 (p1.Ref.Version - 1)).toNat) true)),.ak 3 (x3.Uses.map az.lv),.bool x3.ab]) R (b4 fR) R R R (by simp) (bO R) R) (Wk.to eN (mC ((show _=some (LE.box [.arr 812 p0.aa.length]) from R).trans (by simp)) (mC (Il R R) mN)) R (a8 R)))
  refine LH.aj [(4,.I 0)] [(811,.box [.arr 812 (List.length (p0.aa.set (j2).toNat (aq.mk x3.ID x3.ae (x3.ah.set ((i64 (p1.Ref.Version - 1)).toNat) true) x3.Uses x3.ab)))]),(812,.nest 49 5 [(1,54,5),(2,4,1),(3,88,3)] (List.map aq.lv (p0.aa.set (j2).toNat (aq.mk x3.ID x3.ae (x3.ah.set ((i64 (p1.Ref.Version - 1)).toNat) true) x3.Uses x3.ab))))] R ?_ ?_
  ·refine bo R ?_
   exact zS
  refine LH.ret ?_
  obtain rfl:=oI h
  exact aS (aT Tryz.results59) (bR R (bP ⟨aR (mC R (mC R mN)),R,a8 R,Sub.rfl⟩))
theorem PI {p0:az} {c0:ax} {r:Bool} (h:B0 p0 c0=some r):aP Tryz.prog 80 [.agg [.I p0.Version,.I p0.Form,.I p0.Time],.ag (ax.lv c0).cells] (Mem.of []) (.bool r) (Mem.of []):=by
  unfold B0 at h
  refine bu Tryz.func80 R (nT Tryz.ntmps80 R) (LH.wk (aX [(0,.agg [.I p0.Version,.I p0.Form,.I p0.Time]),(1,.ag (ax.lv c0).cells)] []) (LH.aj [(1,.ag (ax.lv c0).cells),(2,.ag [.I p0.Version,.I p0.Form,.I p0.Time])] [] R (sB (dp R R R R (cm R zS))) (LH.aj [(3,.bool (p0.Form == c0.Form))] [] R (sN (aw wv aE bb R R R (sN (bf R aE bN (sN (aw kR aE bb R R R (sN (bf R aE bN (sN (gm R R (cm R zS))))))))))) (LH.ret ?_))))
  obtain rfl:=oI h
  exact aS (aT Tryz.results80) (bR R (bP ⟨aR mN,R,a8 R,Sub.rfl⟩))
theorem O8 {F:Nat} {p0:List az} {p1:(az→Option Bool)} {r:Int} {dL:Nat} {c4:List LV} (Az:eo Tryz.prog dL) (oK:LV.bj c4=true) (AA:∀ (x0:az) (q:Bool),p1 x0=some q→aP Tryz.prog dL ([.agg [.I x0.Version,.I x0.Form,.I x0.Time]]++c4) (Mem.of []) (.bool q) (Mem.of [])) (h:H5 F p0 p1=some r):aP Tryz.prog 65 [.ak 3 (p0.map az.lv),.fn dL c4] (Mem.of []) (.I r) (Mem.of []):=by
  have FW:∀ {l:List LV},LV.bj l=true→LV.bj (l++c4)=true:=Lz oK
  have ez:LV.bG c4=[]:=fU oK
  unfold H5 at h
  refine bu Tryz.func65 R (nT Tryz.ntmps65 R) (LH.wk (Wk.to (el:=[(0,.ak 3 (p0.map az.lv)),(1,.fn dL c4)]) (ml:=[]) (eQ ⟨R,R,trivial⟩) mN (by simp [aU,LV.refs,LV.bG,LV.cells,cZ,Env.args,Env.of,Env.put,Env.drop,ez]) (a8 R)) (LH.aj [(0,.ak 3 (p0.map az.lv)),(1,.fn dL c4)] [] R (bo R (s0 (Wk.to (eQ ⟨R,R,trivial⟩) mN (by simp [aU,LV.refs,LV.bG,LV.cells,cZ,Env.args,Env.of,Env.put,Env.drop,ez]) (a8 R)))) (LH.seq (LH.aj [(0,.ak 3 (p0.map az.lv)),(1,.fn dL c4),(7,.I (p0.length:Int)),(8,.I 0)] [] R (eZ R (sN (bX (f:=az.lv) jt R (bl R (s0 (Wk.to (eQ ⟨R,R,R,R,trivial⟩) mN (by simp [aU,LV.refs,LV.bG,LV.cells,cZ,Env.args,Env.of,Env.put,Env.drop,ez]) (a8 R))))))) (LH.block (LH.loop (fun n e m=>∃ (n1:Int),LA p0 p1 n n1=some r∧e=Env.of [(0,.ak 3 (p0.map az.lv)),(1,.fn dL c4),(7,.I (p0.length:Int)),(8,.I n1)]∧m=Mem.of []) F ⟨0,h,R,R⟩ ?_))))))
  clear h
  rintro n e m ⟨n1,h,rfl,rfl⟩
  rcases n with _ | n
  · cases (show Option.none=some _ from h)
  obtain ⟨aH,ba⟩:∃ f,f=LA p0 p1 n:=⟨_,rfl⟩
  replace h:F2 p0 p1 aH n1=some r:=ba ▸ h
  unfold F2 at h
  refine LH.aj [(0,.ak 3 (p0.map az.lv)),(1,.fn dL c4),(7,.I (p0.length:Int)),(8,.I n1),(9,.bool (decide (n1<(p0.length:Int))))] [] R (sN (fi R R (s0 (Wk.to (eQ ⟨R,R,R,R,R,trivial⟩) mN (by simp [aU,LV.refs,LV.bG,LV.cells,cZ,Env.args,Env.of,Env.put,Env.drop,ez]) (a8 R))))) (LH.seq (LH.cond (t:=(decide (n1<(p0.length:Int)))) R (fun fJ=>?_) (fun fJ=>?_)))
  ·replace h:=aB h fJ
   refine LH.skip (av (LH.wk (Wk.to (el:=[(0,.ak 3 (p0.map az.lv)),(1,.fn dL c4),(7,.I (p0.length:Int)),(8,.I n1)]) (ml:=[]) (eQ ⟨R,R,R,R,trivial⟩) mN (by simp [aU,LV.refs,LV.bG,LV.cells,cZ,Env.args,Env.of,Env.put,Env.drop,ez]) (a8 R)) (LH.seq (LH.block (LH.aj [(0,.ak 3 (p0.map az.lv)),(1,.fn dL c4),(5,.I n1),(7,.I (p0.length:Int)),(8,.I n1)] [] R (bl R (bo R (s0 (Wk.to (eQ ⟨R,R,R,R,R,trivial⟩) mN (by simp [aU,LV.refs,LV.bG,LV.cells,cZ,Env.args,Env.of,Env.put,Env.drop,ez]) (a8 R))))) ?_)))))
   obtain ⟨x3,fR,h⟩:=al h
   obtain ⟨r4,CI,h⟩:=al h
   refine LH.aj [(0,.ak 3 (p0.map az.lv)),(1,.fn dL c4),(5,.I n1),(7,.I (p0.length:Int)),(8,.I n1),(16,.bool r4)] [] R ?_ ?_
   ·refine sN (oM (v:=(.fn _ _)) R (eZ R (bl R (sN (eW (f:=az.lv) jt wy nI R R az.ok fR R (sN (bh R wy P7 nI R R (sN (dU (args:=[.agg [.I x3.Version,.I x3.Form,.I x3.Time]]++c4) (gk:=[.agg [.I x3.Version,.I x3.Form,.I x3.Time]]++c4) R Az R fu.rfl (AA _ _ CI) (FW R) ?_)))))))))
    exact s0 (Wk.to (eQ ⟨R,R,R,R,R,R,trivial⟩) mN (by simp [aU,LV.refs,LV.bG,LV.cells,cZ,Env.args,Env.of,Env.put,Env.drop,ez]) (a8 R))
   refine LH.cond (t:=r4) R (fun ky=>?_) (fun ky=>?_)
   ·replace h:=aB h ky
    refine LH.aj [(4,.I n1)] [] R (bl R (bo R (s0 (Wk.to (eQ ⟨R,trivial⟩) mN (by simp [aU,LV.refs,LV.bG,LV.cells,cZ,Env.args,Env.of,Env.put,Env.drop,ez]) (a8 R))))) (LH.ret (bL (aZ (dY (bL (aZ ?_))))))
    obtain rfl:=oI h
    exact aS (aT Tryz.results65) (bR R (bP ⟨aR mN,R,a8 R,Sub.rfl⟩))
   replace h:=aA h ky
   refine LH.skip (aY (av (LH.aQ [(0,.ak 3 (p0.map az.lv)),(1,.fn dL c4),(7,.I (p0.length:Int)),(8,.I (i64 (n1+1)))] [] R (sN (cr R R (bl R (s0 (Wk.to (eQ ⟨R,R,R,R,trivial⟩) mN (by simp [aU,LV.refs,LV.bG,LV.cells,cZ,Env.args,Env.of,Env.put,Env.drop,ez]) (a8 R)))))) ?_)))
   exact bg ⟨(i64 (n1+1)),ba ▸ h,R,R⟩ (Wk.to (eQ ⟨R,R,R,R,trivial⟩) mN (by simp [aU,LV.refs,LV.bG,LV.cells,cZ,Env.args,Env.of,Env.put,Env.drop,ez]) (a8 R))
  replace h:=aA h fJ
  refine LH.exit (cv (bY (bM (av (LH.aj [(4,.I (-1))] [] R (bo R (s0 (Wk.to (eQ ⟨R,trivial⟩) mN (by simp [aU,LV.refs,LV.bG,LV.cells,cZ,Env.args,Env.of,Env.put,Env.drop,ez]) (a8 R)))) (LH.ret ?_))))))
  obtain rfl:=oI h
  exact aS (aT Tryz.results65) (bR R (bP ⟨aR mN,R,a8 R,Sub.rfl⟩))
theorem Jk {F:Nat} {p0:List az} {p1:(az→Option Bool)} {r:Bool} {dL:Nat} {c4:List LV} (Az:eo Tryz.prog dL) (oK:LV.bj c4=true) (AA:∀ (x0:az) (q:Bool),p1 x0=some q→aP Tryz.prog dL ([.agg [.I x0.Version,.I x0.Form,.I x0.Time]]++c4) (Mem.of []) (.bool q) (Mem.of [])) (h:C1 F p0 p1=some r):aP Tryz.prog 36 [.ak 3 (p0.map az.lv),.fn dL c4] (Mem.of []) (.bool r) (Mem.of []):=by
  have FW:∀ {l:List LV},LV.bj l=true→LV.bj (l++c4)=true:=Lz oK
  have ez:LV.bG c4=[]:=fU oK
  unfold C1 at h
  refine bu Tryz.func36 R (nT Tryz.ntmps36 R) (LH.wk (Wk.to (el:=[(0,.ak 3 (p0.map az.lv)),(1,.fn dL c4)]) (ml:=[]) (eQ ⟨R,R,trivial⟩) mN (by simp [aU,LV.refs,LV.bG,LV.cells,cZ,Env.args,Env.of,Env.put,Env.drop,ez]) (a8 R)) (LH.aj [(0,.ak 3 (p0.map az.lv)),(1,.fn dL c4)] [] R (cm R (s0 (Wk.to (eQ ⟨R,R,trivial⟩) mN (by simp [aU,LV.refs,LV.bG,LV.cells,cZ,Env.args,Env.of,Env.put,Env.drop,ez]) (a8 R)))) ?_))
  obtain ⟨r1,ec,h⟩:=al h
  refine LH.aj [(4,.bool (decide (r1 ≥ 0)))] [] R (eZ R (sN (oM (v:=(.fn _ _)) R (sN (dU (args:=[.ak 3 (p0.map az.lv),.fn dL c4]) R Ou R (aK (aK bt)) (O8 Az oK AA ec) (by simp [LV.pure,LV.bj,oK]) (sN (pD R R (cm R (s0 (Wk.to (eQ ⟨R,trivial⟩) mN (by simp [aU,LV.refs,LV.bG,LV.cells,cZ,Env.args,Env.of,Env.put,Env.drop,ez]) (a8 R))))))))))) (LH.ret ?_)
  obtain rfl:=oI h
  exact aS (aT Tryz.results36) (bR R (bP ⟨aR mN,R,a8 R,Sub.rfl⟩))
theorem PS {F:Nat} {p0:aM} {p1:ax} {r:Int × aM} (h:mi F p0 p1=some r):aP Tryz.prog 60 [.ptr 811 0,.agg [.I p1.ar.Time,.I p1.ar.Source,.I p1.ar.Seq,.I p1.Kind,.I p1.Item.ID,.I p1.Item.Version,.str p1.Item.bD,.ak 6 (p1.Item.aI.map ao.lv),.L p1.Item.aD,.I p1.Ref.ID,.I p1.Ref.Version,.I p1.Form]] (Mem.of [(811,.box [.arr 812 p0.aa.length]),(812,.nest 49 5 [(1,54,5),(2,4,1),(3,88,3)] (p0.aa.map aq.lv))]) (.I r.1) (Mem.of [(811,.box [.arr 812 r.2.aa.length]),(812,.nest 49 5 [(1,54,5),(2,4,1),(3,88,3)] (r.2.aa.map aq.lv))]):=by
  unfold mi at h
  refine bu Tryz.func60 R (nT Tryz.ntmps60 R) ?_
  refine LH.wk (Wk.eq (el:=[(0,.ptr 811 0),(1,.agg [.I p1.ar.Time,.I p1.ar.Source,.I p1.ar.Seq,.I p1.Kind,.I p1.Item.ID,.I p1.Item.Version,.str p1.Item.bD,.ak 6 (p1.Item.aI.map ao.lv),.L p1.Item.aD,.I p1.Ref.ID,.I p1.Ref.Version,.I p1.Form])]) (ml:=[(811,.box [.arr 812 p0.aa.length]),(812,.nest 49 5 [(1,54,5),(2,4,1),(3,88,3)] (p0.aa.map aq.lv))]) R R R R) ?_
  refine LH.aj [(0,.ptr 811 0),(3,.ag [.I p1.ar.Time,.I p1.ar.Source,.I p1.ar.Seq,.I p1.Kind,.I p1.Item.ID,.I p1.Item.Version,.str p1.Item.bD,.ak 6 (p1.Item.aI.map ao.lv),.L p1.Item.aD,.I p1.Ref.ID,.I p1.Ref.Version,.I p1.Form])] [(811,.box [.arr 812 p0.aa.length]),(812,.nest 49 5 [(1,54,5),(2,4,1),(3,88,3)] (p0.aa.map aq.lv))] R ?_ ?_
  ·refine sB (dp R R R R ?_)
   refine bo R ?_
   exact zS
  obtain ⟨r1,ec,h⟩:=al h
  refine LH.aj [(3,.ag [.I p1.ar.Time,.I p1.ar.Source,.I p1.ar.Seq,.I p1.Kind,.I p1.Item.ID,.I p1.Item.Version,.str p1.Item.bD,.ak 6 (p1.Item.aI.map ao.lv),.L p1.Item.aD,.I p1.Ref.ID,.I p1.Ref.Version,.I p1.Form]),(5,rk 812 p0.aa.length r1)] [(811,.box [.arr 812 p0.aa.length]),(812,.nest 49 5 [(1,54,5),(2,4,1),(3,88,3)] (p0.aa.map aq.lv))] R ?_ ?_
  ·refine ib R ?_
   refine sN (aw eT fg eJ R R R ?_)
   refine sN (bh R fg qf eJ R R ?_)
   refine sN (fa (args:=[.ptr 811 0,.agg [.I p1.Ref.ID,.I p1.Ref.Version]]) (ml:=[(811,.box [.arr 812 p0.aa.length]),(812,.nest 49 5 [(1,54,5),(2,4,1),(3,88,3)] (p0.aa.map aq.lv))]) (dg:=[(811,.box [.arr 812 p0.aa.length]),(812,.nest 49 5 [(1,54,5),(2,4,1),(3,88,3)] (p0.aa.map aq.lv))]) R I8 R (aK (aK bt)) (Jt ec) ⟨R,R,trivial⟩ (b8 R (b8 R cw)) R ?_)
   refine sN (oA (v:=(rk _ _ _)) R ?_)
   exact s0 (Wk.to (eQ ⟨R,R,trivial⟩) ⟨R,R,trivial⟩ (by rcases r1 with _ | _ <;> exact R) (a8 R))
  rcases r1 with _ | j2
  ·replace h:=FU h
   refine LH.wk (Wk.eq (el:=[(3,.ag [.I p1.ar.Time,.I p1.ar.Source,.I p1.ar.Seq,.I p1.Kind,.I p1.Item.ID,.I p1.Item.Version,.str p1.Item.bD,.ak 6 (p1.Item.aI.map ao.lv),.L p1.Item.aD,.I p1.Ref.ID,.I p1.Ref.Version,.I p1.Form]),(5,.fe)]) (ml:=[(811,.box [.arr 812 p0.aa.length]),(812,.nest 49 5 [(1,54,5),(2,4,1),(3,88,3)] (p0.aa.map aq.lv))]) R R R R) ?_
   refine LH.seq ?_
   refine LH.aj [(3,.ag [.I p1.ar.Time,.I p1.ar.Source,.I p1.ar.Seq,.I p1.Kind,.I p1.Item.ID,.I p1.Item.Version,.str p1.Item.bD,.ak 6 (p1.Item.aI.map ao.lv),.L p1.Item.aD,.I p1.Ref.ID,.I p1.Ref.Version,.I p1.Form]),(5,.fe),(11,.bool true)] [(811,.box [.arr 812 p0.aa.length]),(812,.nest 49 5 [(1,54,5),(2,4,1),(3,88,3)] (p0.aa.map aq.lv))] R ?_ ?_
   ·refine sN (oM (v:=.fe) R ?_)
    refine sX ((tc nU R R).ok) ?_
    exact zS
   refine LH.cond (t:=true) R (fun jW=>?_) (fun jW=>?_)
   ·refine LH.aj [(4,.I 4)] [(811,.box [.arr 812 p0.aa.length]),(812,.nest 49 5 [(1,54,5),(2,4,1),(3,88,3)] (p0.aa.map aq.lv))] R ?_ ?_
    ·refine bo R ?_
     exact zS
    refine LH.ret ?_
    refine aZ ?_
    obtain rfl:=oI h
    exact aS (aT Tryz.results60) (bR R (bP ⟨aR (mC R (mC R mN)),R,a8 R,Sub.rfl⟩))
   ·cases jW
  replace h:=FV h
  obtain ⟨x3,fR,h⟩:=al h
  refine LH.wk (Wk.to (el:=[(3,.ag [.I p1.ar.Time,.I p1.ar.Source,.I p1.ar.Seq,.I p1.Kind,.I p1.Item.ID,.I p1.Item.Version,.str p1.Item.bD,.ak 6 (p1.Item.aI.map ao.lv),.L p1.Item.aD,.I p1.Ref.ID,.I p1.Ref.Version,.I p1.Form]),(5,.bE 812 p0.aa.length (j2).toNat 0)]) (ml:=[(811,.box [.arr 812 p0.aa.length]),(812,.nest 49 5 [(1,54,5),(2,4,1),(3,88,3)] ((p0.aa.map aq.lv).set (j2).toNat (.agg [.I x3.ID,.ak 5 (x3.ae.map ai.lv),.ak 1 (x3.ah.map LV.bool),.ak 3 (x3.Uses.map az.lv),.bool x3.ab])))]) (eQ ⟨R,R,trivial⟩) (mC R (mC (pb fR) mN)) R (a8 R)) ?_
  refine LH.seq ?_
  refine LH.aj [(3,.ag [.I p1.ar.Time,.I p1.ar.Source,.I p1.ar.Seq,.I p1.Kind,.I p1.Item.ID,.I p1.Item.Version,.str p1.Item.bD,.ak 6 (p1.Item.aI.map ao.lv),.L p1.Item.aD,.I p1.Ref.ID,.I p1.Ref.Version,.I p1.Form]),(5,.bE 812 p0.aa.length (j2).toNat 0),(11,.bool false)] [(811,.box [.arr 812 p0.aa.length]),(812,.nest 49 5 [(1,54,5),(2,4,1),(3,88,3)] ((p0.aa.map aq.lv).set (j2).toNat (.agg [.I x3.ID,.ak 5 (x3.ae.map ai.lv),.ak 1 (x3.ah.map LV.bool),.ak 3 (x3.Uses.map az.lv),.bool x3.ab])))] R ?_ ?_
  ·refine sN (oM (v:=(.bE _ _ _ _)) R ?_)
   refine sX ((tb nU R R R (by simp) (b4 fR)).ok) ?_
   exact zS
  refine LH.cond (t:=false) R (fun ky=>?_) (fun ky=>?_)
  ·cases ky
  refine LH.skip ?_
  refine av ?_
  refine LH.wk (Wk.eq (el:=[(3,.ag [.I p1.ar.Time,.I p1.ar.Source,.I p1.ar.Seq,.I p1.Kind,.I p1.Item.ID,.I p1.Item.Version,.str p1.Item.bD,.ak 6 (p1.Item.aI.map ao.lv),.L p1.Item.aD,.I p1.Ref.ID,.I p1.Ref.Version,.I p1.Form]),(5,.bE 812 p0.aa.length (j2).toNat 0)]) (ml:=[(811,.box [.arr 812 p0.aa.length]),(812,.nest 49 5 [(1,54,5),(2,4,1),(3,88,3)] ((p0.aa.map aq.lv).set (j2).toNat (.agg [.I x3.ID,.ak 5 (x3.ae.map ai.lv),.ak 1 (x3.ah.map LV.bool),.ak 3 (x3.Uses.map az.lv),.bool x3.ab])))]) R R R R) ?_
  refine LH.seq ?_
  obtain ⟨w7,hv,h⟩:=al h
  refine LH.c7 mixed [] [0,3,3,3,0,0,3,3,3,0,0,0,0,1,1,0,0] [(3,.ag [.I p1.ar.Time,.I p1.ar.Source,.I p1.ar.Seq,.I p1.Kind,.I p1.Item.ID,.I p1.Item.Version,.str p1.Item.bD,.ak 6 (p1.Item.aI.map ao.lv),.L p1.Item.aD,.I p1.Ref.ID,.I p1.Ref.Version,.I p1.Form]),(5,.bE 812 p0.aa.length (j2).toNat 0),(28,.bool w7)] [(811,.box [.arr 812 p0.aa.length]),(812,.nest 49 5 [(1,54,5),(2,4,1),(3,88,3)] ((p0.aa.map aq.lv).set (j2).toNat (.agg [.I x3.ID,.ak 5 (x3.ae.map ai.lv),.ak 1 (x3.ah.map LV.bool),.ak 3 (x3.Uses.map az.lv),.bool x3.ab])))] R R (by kernel_rfl) ?_ ?_
  ·refine aF (oM (v:=(.bE _ _ _ _)) R ⟨R,?_⟩)
   refine mX (fB R R (by simp) (b4 fR)) ?_
   refine mX (fA ju ka lQ R R (by simp) (b4 fR)) ?_
   refine mX (vO (cs:=[.I x3.ID,.ak 5 (x3.ae.map ai.lv),.ak 1 (x3.ah.map LV.bool),.ak 3 (x3.Uses.map az.lv),.bool x3.ab]) R R (by simp) (b4 fR) R R ka wm) ?_
   refine iF R ?_
   by_cases c6:x3.ab=true
   ·replace hv:=aB hv c6
    refine mF R R c6 ?_
    refine mF R R c6 ?_
    refine mF R R c6 ?_
    refine mF R R c6 ?_
    refine mF R R c6 ?_
    refine mF R R c6 ?_
    refine mF R R c6 ?_
    refine mF R R c6 ?_
    refine mF R R c6 ?_
    refine mF R R c6 ?_
    refine mF R R c6 ?_
    refine aF (aW (cB c6) (v:=(.bool _)) R ⟨R,?_⟩)
    obtain rfl:=oI hv
    exact zM
   ·replace c6:=bF c6
    replace hv:=aA hv c6
    refine mT R (cB c6) (aF (oM (v:=(.bE _ _ _ _)) R ⟨R,?_⟩))
    refine mT R (cB c6) (mX (fB R R (by simp) (b4 fR)) ?_)
    refine mT R (cB c6) (mX (fA eA eX ji R R (by simp) (b4 fR)) ?_)
    refine mT R (cB c6) (mX (nt (g:=LV.bool) (ys:=x3.ah) (ls:=List.map aq.lv p0.aa) (cs:=[.I x3.ID,.ak 5 (x3.ae.map ai.lv),.ak 1 (x3.ah.map LV.bool),.ak 3 (x3.Uses.map az.lv),.bool x3.ab]) (id2:=120) (dr:=[.I x3.ID,.ak 5 (x3.ae.map ai.lv),.eB,.ak 3 (x3.Uses.map az.lv),.bool x3.ab]) R R (by simp) (b4 fR) R R R eX nF R) ?_)
    refine mT R (cB c6) (aF (aw eT fg eJ R R R ⟨R,?_⟩))
    refine mT R (cB c6) (aF (aw eS aE bb R R R ⟨R,?_⟩))
    refine mT R (cB c6) (aF (bf R aE bN ⟨R,?_⟩))
    refine mT R (cB c6) (aF (iG R R ⟨R,?_⟩))
    obtain ⟨x9,zl,hv⟩:=al hv
    refine mT R (cB c6) (OX (gX (f:=LV.bool) j8 ka lQ R R R zl ⟨R,?_⟩))
    refine mT R (cB c6) (OX (vM (f:=LV.bool) R R (dC zl).2 R R R ka wm ⟨R,?_⟩))
    refine mT R (cB c6) (aF (kp R ⟨R,?_⟩))
    refine aF (aV (cB c6) (v:=(.bool _)) R ⟨R,?_⟩)
    obtain rfl:=oI hv
    exact m0 (Wk.trans (Wk.rK (id:=812) (id2:=120) (o0:=2) (i:=(j2).toNat) (n2:=List.length x3.ah) (g:=LV.bool) (ys:=x3.ah) (ls:=List.map aq.lv p0.aa) (cs:=[.I x3.ID,.ak 5 (x3.ae.map ai.lv),.eB,.ak 3 (x3.Uses.map az.lv),.bool x3.ab]) (dr:=[.I x3.ID,.ak 5 (x3.ae.map ai.lv),.ak 1 (x3.ah.map LV.bool),.ak 3 (x3.Uses.map az.lv),.bool x3.ab]) R (b4 fR) R R R R (bO R) R) (Wk.eq R R R R))
  clear hv
  refine LH.cond (t:=w7) R (fun gU=>?_) (fun gU=>?_)
  ·replace h:=aB h gU
   refine LH.aj [(4,.I 8)] [(811,.box [.arr 812 p0.aa.length]),(812,.nest 49 5 [(1,54,5),(2,4,1),(3,88,3)] (p0.aa.map aq.lv))] R ?_ ?_
   ·refine bo R ?_
    exact s0 (Wk.to (eQ ⟨R,trivial⟩) (mC R (mC (pb fR).symm mN)) R (a8 R))
   refine LH.ret ?_
   refine aZ ?_
   obtain rfl:=oI h
   exact aS (aT Tryz.results60) (bR R (bP ⟨aR (mC R (mC R mN)),R,a8 R,Sub.rfl⟩))
  replace h:=aA h gU
  refine LH.skip ?_
  refine av ?_
  refine LH.wk (Wk.eq (el:=[(3,.ag [.I p1.ar.Time,.I p1.ar.Source,.I p1.ar.Seq,.I p1.Kind,.I p1.Item.ID,.I p1.Item.Version,.str p1.Item.bD,.ak 6 (p1.Item.aI.map ao.lv),.L p1.Item.aD,.I p1.Ref.ID,.I p1.Ref.Version,.I p1.Form]),(5,.bE 812 p0.aa.length (j2).toNat 0)]) (ml:=[(811,.box [.arr 812 p0.aa.length]),(812,.nest 49 5 [(1,54,5),(2,4,1),(3,88,3)] ((p0.aa.map aq.lv).set (j2).toNat (.agg [.I x3.ID,.ak 5 (x3.ae.map ai.lv),.ak 1 (x3.ah.map LV.bool),.ak 3 (x3.Uses.map az.lv),.bool x3.ab])))]) R R R R) ?_
  refine LH.seq ?_
  obtain ⟨cJ,lz,h⟩:=al h
  refine LH.aj [(3,.ag [.I p1.ar.Time,.I p1.ar.Source,.I p1.ar.Seq,.I p1.Kind,.I p1.Item.ID,.I p1.Item.Version,.str p1.Item.bD,.ak 6 (p1.Item.aI.map ao.lv),.L p1.Item.aD,.I p1.Ref.ID,.I p1.Ref.Version,.I p1.Form]),(5,.bE 812 p0.aa.length (j2).toNat 0),(34,.bool cJ)] [(811,.box [.arr 812 p0.aa.length]),(812,.nest 49 5 [(1,54,5),(2,4,1),(3,88,3)] ((p0.aa.map aq.lv).set (j2).toNat (.agg [.I x3.ID,.ak 5 (x3.ae.map ai.lv),.ak 1 (x3.ah.map LV.bool),.ak 3 (x3.Uses.map az.lv),.bool x3.ab])))] R ?_ ?_
  ·refine sN (oM (v:=(.bE _ _ _ _)) R ?_)
   refine sX ((fB R R (by simp) (b4 fR)).ok) ?_
   refine sX ((fA ej eu jj R R (by simp) (b4 fR)).ok) ?_
   refine sX ((nt (g:=az.lv) (ys:=x3.Uses) (ls:=List.map aq.lv p0.aa) (cs:=[.I x3.ID,.ak 5 (x3.ae.map ai.lv),.ak 1 (x3.ah.map LV.bool),.ak 3 (x3.Uses.map az.lv),.bool x3.ab]) (id2:=132) (dr:=[.I x3.ID,.ak 5 (x3.ae.map ai.lv),.ak 1 (x3.ah.map LV.bool),.eB,.bool x3.ab]) R R (by simp) (b4 fR) R R R eu lj R).ok) ?_
   refine sN (O4 (vs:=[.ag [.I p1.ar.Time,.I p1.ar.Source,.I p1.ar.Seq,.I p1.Kind,.I p1.Item.ID,.I p1.Item.Version,.str p1.Item.bD,.ak 6 (p1.Item.aI.map ao.lv),.L p1.Item.aD,.I p1.Ref.ID,.I p1.Ref.Version,.I p1.Form]]) R ?_)
   refine sN (fa (args:=[.arr 132 x3.Uses.length,.fn 80 [.ag [.I p1.ar.Time,.I p1.ar.Source,.I p1.ar.Seq,.I p1.Kind,.I p1.Item.ID,.I p1.Item.Version,.str p1.Item.bD,.ak 6 (p1.Item.aI.map ao.lv),.L p1.Item.aD,.I p1.Ref.ID,.I p1.Ref.Version,.I p1.Form]]]) (ml:=[(132,.arr 88 3 (x3.Uses.map az.lv))]) (dg:=[(132,.arr 88 3 (x3.Uses.map az.lv))]) R I1 R (aK (aK bt)) (aP.S6 132 88 3 (xs:=List.map az.lv x3.Uses) (Jk (dL:=80) (c4:=[.ag [.I p1.ar.Time,.I p1.ar.Source,.I p1.ar.Seq,.I p1.Kind,.I p1.Item.ID,.I p1.Item.Version,.str p1.Item.bD,.ak 6 (p1.Item.aI.map ao.lv),.L p1.Item.aD,.I p1.Ref.ID,.I p1.Ref.Version,.I p1.Form]]) OB R (fun _ _ h=>PI h) lz) (.row (by simp) (.jr R .nil)) R R R R R Ur) ⟨R,trivial⟩ (b8 R cw) R ?_)
   exact s0 (Wk.trans (Wk.rK (id:=812) (id2:=132) (o0:=3) (i:=(j2).toNat) (n2:=List.length x3.Uses) (g:=az.lv) (ys:=x3.Uses) (ls:=List.map aq.lv p0.aa) (cs:=[.I x3.ID,.ak 5 (x3.ae.map ai.lv),.ak 1 (x3.ah.map LV.bool),.eB,.bool x3.ab]) (dr:=[.I x3.ID,.ak 5 (x3.ae.map ai.lv),.ak 1 (x3.ah.map LV.bool),.ak 3 (x3.Uses.map az.lv),.bool x3.ab]) R (b4 fR) R R R R (bO R) R) (Wk.eq R R R R))
  refine LH.cond (t:=cJ) R (fun gD=>?_) (fun gD=>?_)
  ·replace h:=aB h gD
   refine LH.aj [(4,.I 5)] [(811,.box [.arr 812 p0.aa.length]),(812,.nest 49 5 [(1,54,5),(2,4,1),(3,88,3)] (p0.aa.map aq.lv))] R ?_ ?_
   ·refine bo R ?_
    exact s0 (Wk.to (eQ ⟨R,trivial⟩) (mC R (mC (pb fR).symm mN)) R (a8 R))
   refine LH.ret ?_
   refine aZ ?_
   obtain rfl:=oI h
   exact aS (aT Tryz.results60) (bR R (bP ⟨aR (mC R (mC R mN)),R,a8 R,Sub.rfl⟩))
  replace h:=aA h gD
  refine LH.skip ?_
  refine av ?_
  refine LH.wk (Wk.eq (el:=[(3,.ag [.I p1.ar.Time,.I p1.ar.Source,.I p1.ar.Seq,.I p1.Kind,.I p1.Item.ID,.I p1.Item.Version,.str p1.Item.bD,.ak 6 (p1.Item.aI.map ao.lv),.L p1.Item.aD,.I p1.Ref.ID,.I p1.Ref.Version,.I p1.Form]),(5,.bE 812 p0.aa.length (j2).toNat 0)]) (ml:=[(811,.box [.arr 812 p0.aa.length]),(812,.nest 49 5 [(1,54,5),(2,4,1),(3,88,3)] ((p0.aa.map aq.lv).set (j2).toNat (.agg [.I x3.ID,.ak 5 (x3.ae.map ai.lv),.ak 1 (x3.ah.map LV.bool),.ak 3 (x3.Uses.map az.lv),.bool x3.ab])))]) R R R R) ?_
  refine LH.seq ?_
  refine LH.aj [(3,.ag [.I p1.ar.Time,.I p1.ar.Source,.I p1.ar.Seq,.I p1.Kind,.I p1.Item.ID,.I p1.Item.Version,.str p1.Item.bD,.ak 6 (p1.Item.aI.map ao.lv),.L p1.Item.aD,.I p1.Ref.ID,.I p1.Ref.Version,.I p1.Form]),(5,.bE 812 p0.aa.length (j2).toNat 0),(40,.bool (decide ((x3.Uses.length:Int) ≥ 300)))] [(811,.box [.arr 812 p0.aa.length]),(812,.nest 49 5 [(1,54,5),(2,4,1),(3,88,3)] ((p0.aa.map aq.lv).set (j2).toNat (.agg [.I x3.ID,.ak 5 (x3.ae.map ai.lv),.ak 1 (x3.ah.map LV.bool),.ak 3 (x3.Uses.map az.lv),.bool x3.ab])))] R ?_ ?_
  ·refine sN (oM (v:=(.bE _ _ _ _)) R ?_)
   refine sX ((fB R R (by simp) (b4 fR)).ok) ?_
   refine sX ((fA ej eu jj R R (by simp) (b4 fR)).ok) ?_
   refine sX ((Ay (g:=az.lv) (ys:=x3.Uses) (cs:=[.I x3.ID,.ak 5 (x3.ae.map ai.lv),.ak 1 (x3.ah.map LV.bool),.ak 3 (x3.Uses.map az.lv),.bool x3.ab]) R R (by simp) (b4 fR) R R eu lj).ok) ?_
   refine sX ((vP jt R).ok) ?_
   refine sN (pD R R ?_)
   exact zS
  refine LH.cond (t:=(decide ((x3.Uses.length:Int) ≥ 300))) R (fun oi=>?_) (fun oi=>?_)
  ·replace h:=aB h oi
   refine LH.aj [(4,.I 3)] [(811,.box [.arr 812 p0.aa.length]),(812,.nest 49 5 [(1,54,5),(2,4,1),(3,88,3)] (p0.aa.map aq.lv))] R ?_ ?_
   ·refine bo R ?_
    exact s0 (Wk.to (eQ ⟨R,trivial⟩) (mC R (mC (pb fR).symm mN)) R (a8 R))
   refine LH.ret ?_
   refine aZ ?_
   obtain rfl:=oI h
   exact aS (aT Tryz.results60) (bR R (bP ⟨aR (mC R (mC R mN)),R,a8 R,Sub.rfl⟩))
  replace h:=aA h oi
  refine LH.skip ?_
  refine av ?_
  obtain ⟨kE,Am,h⟩:=al h
  refine LH.c7 mixed [] [0,0,3,3,3,0,0,0,0,0,0,0,0,0,0,2,3,3,3] [] [(811,.box [.arr 812 (List.length (p0.aa.set (j2).toNat (aq.mk x3.ID x3.ae x3.ah kE x3.ab)))]),(812,.nest 49 5 [(1,54,5),(2,4,1),(3,88,3)] (List.map aq.lv (p0.aa.set (j2).toNat (aq.mk x3.ID x3.ae x3.ah kE x3.ab))))] R R (by kernel_rfl) ?_ ?_
  ·refine aF (oM (v:=(.bE _ _ _ _)) R ⟨R,?_⟩)
   refine aF (oM (v:=(.bE _ _ _ _)) R ⟨R,?_⟩)
   refine mX (fB R R (by simp) (b4 fR)) ?_
   refine mX (fA ej eu jj R R (by simp) (b4 fR)) ?_
   refine mX (td (g:=az.lv) (ys:=x3.Uses) (ls:=List.map aq.lv p0.aa) (cs:=[.I x3.ID,.ak 5 (x3.ae.map ai.lv),.ak 1 (x3.ah.map LV.bool),.ak 3 (x3.Uses.map az.lv),.bool x3.ab]) (id2:=145) (dr:=[.I x3.ID,.ak 5 (x3.ae.map ai.lv),.ak 1 (x3.ah.map LV.bool),.eB,.bool x3.ab]) R R (by simp) (b4 fR) R R R eu lj R) ?_
   refine aF (aw eT fg eJ R R R ⟨R,?_⟩)
   refine aF (aw eS aE bb R R R ⟨R,?_⟩)
   refine aF (bf R aE bN ⟨R,?_⟩)
   refine aF (aw kR aE bb R R R ⟨R,?_⟩)
   refine aF (bf R aE bN ⟨R,?_⟩)
   refine aF (aw db b6 bW R R R ⟨R,?_⟩)
   refine aF (aw e7 aE bb R R R ⟨R,?_⟩)
   refine aF (bf R aE bN ⟨R,?_⟩)
   refine aF (gB (vs:=[(0,.I p1.Ref.Version),(1,.I p1.Form),(2,.I p1.ar.Time)]) LO Ik R (lf oT bb aE R R R (lf wv bb aE R R R (lf wx bb aE R R R gA))) ⟨R,?_⟩)
   refine aF (jI (f:=az.lv) (ys:=[(az.mk p1.Ref.Version p1.Form p1.ar.Time)]) jt A4 nI R R R az.ok ⟨R,?_⟩)
   refine Hg (my (f:=az.lv) jt A4 nI R R (bO R) R Am ?_)
   refine mX (fB R R (by simp) (b4 fR)) ?_
   refine mX (fA ej eu jj R R (by simp) (b4 fR)) ?_
   refine Un (vQ (g:=az.lv) (ys:=kE) (ls:=List.map aq.lv p0.aa) (cs:=[.I x3.ID,.ak 5 (x3.ae.map ai.lv),.ak 1 (x3.ah.map LV.bool),.eB,.bool x3.ab]) (dr:=[.I x3.ID,.ak 5 (x3.ae.map ai.lv),.ak 1 (x3.ah.map LV.bool),.ak 3 (kE.map az.lv),.bool x3.ab]) R R (by simp) (b4 fR) R R R R R (bO R) eu jj R) ?_
   exact m0 (Wk.to eN (mC ((show _=some (LE.box [.arr 812 p0.aa.length]) from R).trans (by simp)) (mC (Il R R) mN)) R (a8 R))
  refine LH.aj [(4,.I 0)] [(811,.box [.arr 812 (List.length (p0.aa.set (j2).toNat (aq.mk x3.ID x3.ae x3.ah kE x3.ab)))]),(812,.nest 49 5 [(1,54,5),(2,4,1),(3,88,3)] (List.map aq.lv (p0.aa.set (j2).toNat (aq.mk x3.ID x3.ae x3.ah kE x3.ab))))] R ?_ ?_
  ·refine bo R ?_
   exact zS
  refine LH.ret ?_
  obtain rfl:=oI h
  exact aS (aT Tryz.results60) (bR R (bP ⟨aR (mC R (mC R mN)),R,a8 R,Sub.rfl⟩))
theorem Jm {F:Nat} {p0:aM} {p1:ax} {c0:Bool} {r:Int × aM} (h:C8 F p0 p1 c0=some r):aP Tryz.prog 81 [.ptr 811 0,.agg [.I p1.ar.Time,.I p1.ar.Source,.I p1.ar.Seq,.I p1.Kind,.I p1.Item.ID,.I p1.Item.Version,.str p1.Item.bD,.ak 6 (p1.Item.aI.map ao.lv),.L p1.Item.aD,.I p1.Ref.ID,.I p1.Ref.Version,.I p1.Form],.ag [.bool c0]] (Mem.of [(811,.box [.arr 812 p0.aa.length]),(812,.nest 49 5 [(1,54,5),(2,4,1),(3,88,3)] (p0.aa.map aq.lv))]) (.I r.1) (Mem.of [(811,.box [.arr 812 r.2.aa.length]),(812,.nest 49 5 [(1,54,5),(2,4,1),(3,88,3)] (r.2.aa.map aq.lv))]):=by
  unfold C8 at h
  refine bu Tryz.func81 R (nT Tryz.ntmps81 R) ?_
  refine LH.wk (Wk.eq (el:=[(0,.ptr 811 0),(1,.agg [.I p1.ar.Time,.I p1.ar.Source,.I p1.ar.Seq,.I p1.Kind,.I p1.Item.ID,.I p1.Item.Version,.str p1.Item.bD,.ak 6 (p1.Item.aI.map ao.lv),.L p1.Item.aD,.I p1.Ref.ID,.I p1.Ref.Version,.I p1.Form]),(2,.ag [.bool c0])]) (ml:=[(811,.box [.arr 812 p0.aa.length]),(812,.nest 49 5 [(1,54,5),(2,4,1),(3,88,3)] (p0.aa.map aq.lv))]) R R R R) ?_
  refine LH.aj [(0,.ptr 811 0),(2,.ag [.bool c0]),(4,.ag [.I p1.ar.Time,.I p1.ar.Source,.I p1.ar.Seq,.I p1.Kind,.I p1.Item.ID,.I p1.Item.Version,.str p1.Item.bD,.ak 6 (p1.Item.aI.map ao.lv),.L p1.Item.aD,.I p1.Ref.ID,.I p1.Ref.Version,.I p1.Form])] [(811,.box [.arr 812 p0.aa.length]),(812,.nest 49 5 [(1,54,5),(2,4,1),(3,88,3)] (p0.aa.map aq.lv))] R ?_ ?_
  ·refine sB (dp R R R R ?_)
   refine bo R ?_
   exact zS
  obtain ⟨r1,ec,h⟩:=al h
  refine LH.aj [(2,.ag [.bool c0]),(6,rk 812 p0.aa.length r1)] [(811,.box [.arr 812 p0.aa.length]),(812,.nest 49 5 [(1,54,5),(2,4,1),(3,88,3)] (p0.aa.map aq.lv))] R ?_ ?_
  ·refine ib R ?_
   refine sN (aw eT fg eJ R R R ?_)
   refine sN (aw iN aE bb R R R ?_)
   refine sN (bf R aE bN ?_)
   refine sN (fa (args:=[.ptr 811 0,.I p1.Ref.ID]) (ml:=[(811,.box [.arr 812 p0.aa.length]),(812,.nest 49 5 [(1,54,5),(2,4,1),(3,88,3)] (p0.aa.map aq.lv))]) (dg:=[(811,.box [.arr 812 p0.aa.length]),(812,.nest 49 5 [(1,54,5),(2,4,1),(3,88,3)] (p0.aa.map aq.lv))]) R Fw R (aK (aK bt)) (F3 ec) ⟨R,R,trivial⟩ (b8 R (b8 R cw)) R ?_)
   refine sN (oA (v:=(rk _ _ _)) R ?_)
   exact s0 (Wk.to (eQ ⟨R,R,trivial⟩) ⟨R,R,trivial⟩ (by rcases r1 with _ | _ <;> exact R) (a8 R))
  rcases r1 with _ | j2
  ·replace h:=FU h
   refine LH.wk (Wk.eq (el:=[(2,.ag [.bool c0]),(6,.fe)]) (ml:=[(811,.box [.arr 812 p0.aa.length]),(812,.nest 49 5 [(1,54,5),(2,4,1),(3,88,3)] (p0.aa.map aq.lv))]) R R R R) ?_
   refine LH.seq ?_
   refine LH.aj [(2,.ag [.bool c0]),(6,.fe),(13,.bool true)] [(811,.box [.arr 812 p0.aa.length]),(812,.nest 49 5 [(1,54,5),(2,4,1),(3,88,3)] (p0.aa.map aq.lv))] R ?_ ?_
   ·refine sN (oM (v:=.fe) R ?_)
    refine sX ((tc nU R R).ok) ?_
    exact zS
   refine LH.cond (t:=true) R (fun jW=>?_) (fun jW=>?_)
   ·refine LH.aj [(5,.I 4)] [(811,.box [.arr 812 p0.aa.length]),(812,.nest 49 5 [(1,54,5),(2,4,1),(3,88,3)] (p0.aa.map aq.lv))] R ?_ ?_
    ·refine bo R ?_
     exact zS
    refine LH.ret ?_
    refine aZ ?_
    obtain rfl:=oI h
    exact aS (aT Tryz.results81) (bR R (bP ⟨aR (mC R (mC R mN)),R,a8 R,Sub.rfl⟩))
   ·cases jW
  replace h:=FV h
  obtain ⟨x3,fR,h⟩:=al h
  refine LH.wk (Wk.to (el:=[(2,.ag [.bool c0]),(6,.bE 812 p0.aa.length (j2).toNat 0)]) (ml:=[(811,.box [.arr 812 p0.aa.length]),(812,.nest 49 5 [(1,54,5),(2,4,1),(3,88,3)] ((p0.aa.map aq.lv).set (j2).toNat (.agg [.I x3.ID,.ak 5 (x3.ae.map ai.lv),.ak 1 (x3.ah.map LV.bool),.ak 3 (x3.Uses.map az.lv),.bool x3.ab])))]) (eQ ⟨R,R,trivial⟩) (mC R (mC (pb fR) mN)) R (a8 R)) ?_
  refine LH.seq ?_
  refine LH.aj [(2,.ag [.bool c0]),(6,.bE 812 p0.aa.length (j2).toNat 0),(13,.bool false)] [(811,.box [.arr 812 p0.aa.length]),(812,.nest 49 5 [(1,54,5),(2,4,1),(3,88,3)] ((p0.aa.map aq.lv).set (j2).toNat (.agg [.I x3.ID,.ak 5 (x3.ae.map ai.lv),.ak 1 (x3.ah.map LV.bool),.ak 3 (x3.Uses.map az.lv),.bool x3.ab])))] R ?_ ?_
  ·refine sN (oM (v:=(.bE _ _ _ _)) R ?_)
   refine sX ((tb nU R R R (by simp) (b4 fR)).ok) ?_
   exact zS
  refine LH.cond (t:=false) R (fun ky=>?_) (fun ky=>?_)
  ·cases ky
  refine LH.skip ?_
  refine av ?_
  refine LH.wk (Wk.eq (el:=[(2,.ag [.bool c0]),(6,.bE 812 p0.aa.length (j2).toNat 0)]) (ml:=[(811,.box [.arr 812 p0.aa.length]),(812,.nest 49 5 [(1,54,5),(2,4,1),(3,88,3)] ((p0.aa.map aq.lv).set (j2).toNat (.agg [.I x3.ID,.ak 5 (x3.ae.map ai.lv),.ak 1 (x3.ah.map LV.bool),.ak 3 (x3.Uses.map az.lv),.bool x3.ab])))]) R R R R) ?_
  refine LH.seq ?_
  refine LH.c7 mixed [] [0,3,3,3,0,0] [(2,.ag [.bool c0]),(6,.bE 812 p0.aa.length (j2).toNat 0),(19,.bool (x3.ab == c0))] [(811,.box [.arr 812 p0.aa.length]),(812,.nest 49 5 [(1,54,5),(2,4,1),(3,88,3)] ((p0.aa.map aq.lv).set (j2).toNat (.agg [.I x3.ID,.ak 5 (x3.ae.map ai.lv),.ak 1 (x3.ah.map LV.bool),.ak 3 (x3.Uses.map az.lv),.bool x3.ab])))] R R (by kernel_rfl) ?_ ?_
  ·refine aF (oM (v:=(.bE _ _ _ _)) R ⟨R,?_⟩)
   refine mX (fB R R (by simp) (b4 fR)) ?_
   refine mX (fA ju ka lQ R R (by simp) (b4 fR)) ?_
   refine mX (vO (cs:=[.I x3.ID,.ak 5 (x3.ae.map ai.lv),.ak 1 (x3.ah.map LV.bool),.ak 3 (x3.Uses.map az.lv),.bool x3.ab]) R R (by simp) (b4 fR) R R ka wm) ?_
   refine aF (bf R ka wm ⟨R,?_⟩)
   refine aF (O3 R R Uv ⟨R,?_⟩)
   exact zM
  refine LH.cond (t:=(x3.ab == c0)) R (fun gb=>?_) (fun gb=>?_)
  ·replace h:=aB h gb
   refine LH.aj [(5,.I 8)] [(811,.box [.arr 812 p0.aa.length]),(812,.nest 49 5 [(1,54,5),(2,4,1),(3,88,3)] (p0.aa.map aq.lv))] R ?_ ?_
   ·refine bo R ?_
    exact s0 (Wk.to (eQ ⟨R,trivial⟩) (mC R (mC (pb fR).symm mN)) R (a8 R))
   refine LH.ret ?_
   refine aZ ?_
   obtain rfl:=oI h
   exact aS (aT Tryz.results81) (bR R (bP ⟨aR (mC R (mC R mN)),R,a8 R,Sub.rfl⟩))
  replace h:=aA h gb
  refine LH.skip ?_
  refine av ?_
  refine LH.aj [] [(811,.box [.arr 812 (List.length (p0.aa.set (j2).toNat (aq.mk x3.ID x3.ae x3.ah x3.Uses c0)))]),(812,.nest 49 5 [(1,54,5),(2,4,1),(3,88,3)] (List.map aq.lv (p0.aa.set (j2).toNat (aq.mk x3.ID x3.ae x3.ah x3.Uses c0))))] R ?_ ?_
  ·refine sN (oM (v:=(.bE _ _ _ _)) R ?_)
   refine sN (bf R ka wm ?_)
   refine sX ((fB R R (by simp) (b4 fR)).ok) ?_
   refine sX ((fA ju ka lQ R R (by simp) (b4 fR)).ok) ?_
   refine Ic ((Lu (ls:=List.map aq.lv p0.aa) (cs:=[.I x3.ID,.ak 5 (x3.ae.map ai.lv),.ak 1 (x3.ah.map LV.bool),.ak 3 (x3.Uses.map az.lv),.bool x3.ab]) (dr:=[.I x3.ID,.ak 5 (x3.ae.map ai.lv),.ak 1 (x3.ah.map LV.bool),.ak 3 (x3.Uses.map az.lv),.bool c0]) R R (by simp) (b4 fR) R R R R R ka lQ R).ok) ?_
   exact s0 (Wk.to eN (mC ((show _=some (LE.box [.arr 812 p0.aa.length]) from R).trans (by simp)) (mC (Il R R) mN)) R (a8 R))
  refine LH.aj [(5,.I 0)] [(811,.box [.arr 812 (List.length (p0.aa.set (j2).toNat (aq.mk x3.ID x3.ae x3.ah x3.Uses c0)))]),(812,.nest 49 5 [(1,54,5),(2,4,1),(3,88,3)] (List.map aq.lv (p0.aa.set (j2).toNat (aq.mk x3.ID x3.ae x3.ah x3.Uses c0))))] R ?_ ?_
  ·refine bo R ?_
   exact zS
  refine LH.ret ?_
  obtain rfl:=oI h
  exact aS (aT Tryz.results81) (bR R (bP ⟨aR (mC R (mC R mN)),R,a8 R,Sub.rfl⟩))
theorem Jn {F:Nat} {p0:Bool} {r:Bool} (h:Jq F p0=some r):aP Tryz.prog 61 [.bool p0] (Mem.of []) (.fn 81 [.ag [.bool r]]) (Mem.of []):=by
  unfold Jq at h
  refine bu Tryz.func61 R (nT Tryz.ntmps61 R) (LH.wk (aX [(0,.bool p0)] []) (LH.aj [(1,.ag [.bool p0])] [] R (sB (dp R R R R (sN (oA (v:=.lZ) R zS)))) (LH.aj [(2,.fn 81 [.ag [.bool p0]])] [] R (sN (O4 (vs:=[.ag [.bool p0]]) R (sN (oA (v:=(.fn _ _)) R zS)))) (LH.ret ?_))))
  obtain rfl:=oI h
  exact aS (aT Tryz.results61) (bR R (bP ⟨aR mN,R,a8 R,Sub.rfl⟩))
def bH:Nat→LV
  | 1=>.fn 57 []
  | 2=>.fn 58 []
  | 3=>.fn 59 []
  | 4=>.fn 60 []
  | 5=>.fn 81 [.ag [.bool true]]
  | 6=>.fn 81 [.ag [.bool false]]
  | _=>.lZ
theorem ix (n:Nat):(bH n).pure=true:=by unfold bH; split <;> rfl
theorem Ps {F:Nat} {r:(List (Int × Nat))} (h:Jw F=some r):aP Tryz.prog 33 [] (Mem.of []) (.mp 10301) (Mem.of [(10301,.map 3 78 (dR LV.I bH r))]):=by
  unfold Jw at h
  refine bu Tryz.func33 R (nT Tryz.ntmps33 R) (LH.wk (aX [] []) (LH.aj [] [] R (sN (oA (v:=.eB) R zS)) (LH.aj [(0,.mp 10301)] [(10301,.map 3 78 (dR LV.I bH (dS (dS (dS (dS (dS (dS ([]:List (Int × Nat)) 1 1) 2 2) 3 3) 4 4) 5 5) 6 6)))] R (sX ((ta (kt:=3) (vt:=78) (id:=10301) R).ok) (Ic ((iI (f:=LV.I) (g:=bH) (xs:=([]:List (Int × Nat))) (key:=1) (val:=1) (.inr R) qj p6 CP ix R R R R).ok) (Ic ((iI (f:=LV.I) (g:=bH) (xs:=(dS ([]:List (Int × Nat)) 1 1)) (key:=2) (val:=2) (.inr R) qj p6 CP ix R R R R).ok) (Ic ((iI (f:=LV.I) (g:=bH) (xs:=(dS (dS ([]:List (Int × Nat)) 1 1) 2 2)) (key:=3) (val:=3) (.inr R) qj p6 CP ix R R R R).ok) (Ic ((iI (f:=LV.I) (g:=bH) (xs:=(dS (dS (dS ([]:List (Int × Nat)) 1 1) 2 2) 3 3)) (key:=4) (val:=4) (.inr R) qj p6 CP ix R R R R).ok) (sN (dU (args:=[.bool true]) R I5 R (aK bt) (Jn (F:=F) (r:=true) R) R (Ic ((iI (f:=LV.I) (g:=bH) (xs:=(dS (dS (dS (dS ([]:List (Int × Nat)) 1 1) 2 2) 3 3) 4 4)) (key:=5) (val:=5) (.inr R) qj p6 CP ix R R R R).ok) (sN (dU (args:=[.bool false]) R I5 R (aK bt) (Jn (F:=F) (r:=false) R) R (Ic ((iI (f:=LV.I) (g:=bH) (xs:=(dS (dS (dS (dS (dS ([]:List (Int × Nat)) 1 1) 2 2) 3 3) 4 4) 5 5)) (key:=6) (val:=6) (.inr R) qj p6 CP ix R R R R).ok) (sN (oM (v:=(.mp _)) R (sN (oA (v:=(.mp _)) R zS))))))))))))))) (LH.ret ?_))))
  obtain rfl:=oI h
  exact aS (aT Tryz.results33) (bR R (bP ⟨aR (mC R mN),R,a8 R,Sub.rfl⟩))
end Go.Proofs.YtmollikhdbaikaaGreat
