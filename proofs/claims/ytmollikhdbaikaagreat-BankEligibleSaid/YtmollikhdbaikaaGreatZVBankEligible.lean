import Derived.Test.YtmollikhdbaikaaGreatZW4
set_option linter.unusedVariables false
set_option linter.unusedSimpArgs false
set_option maxRecDepth 100000
set_option maxHeartbeats 1000000
namespace Go.Proofs.YtmollikhdbaikaaGreat
open Go.L Go.Sh
set_option maxHeartbeats 4000000 in
theorem QZ {F:Nat} {p0:aN} {p1:Int} {r:aM × aN} (h:LY F p0 p1=some r):aP Tryz.prog 15 [.ptr 7 0,.I p1] (Mem.of [(1,.dead),(7,.box [.L p0.L,.I p0.At])]) (.agg [.ak 5 (r.1.aa.map aq.lv)]) (Mem.of [(1,.dead),(7,.box [.L r.2.L,.I r.2.At])]):=by
  unfold LY at h
  refine bu Tryz.func15 R (nT Tryz.ntmps15 R) (LH.wk (aX [(0,.ptr 7 0),(1,.I p1)] [(1,.dead),(7,.box [.L p0.L,.I p0.At])]) (LH.aj [(0,.ptr 7 0),(1,.I p1),(4,.ptr 104 0)] [(1,.dead),(7,.box [.L p0.L,.I p0.At]),(104,.box [.nil])] R (sN (kS (id:=104) R fF R R zS)) ?_))
  obtain ⟨r1,ec,h⟩:=al h
  obtain ⟨r2,fz,h⟩:=al h
  refine LH.aj [(0,.ptr 7 0),(1,.I p1),(4,.ptr 104 0),(5,.ptr 105 0)] [(1,.dead),(7,.box [.L r1.2.L,.I r1.2.At]),(104,.box [.nil]),(105,.box [.aJ true 49 5 (List.map (aq.lt true) r2.1.aa)])] R (ib R (sN (fa (args:=[.ptr 7 0,.I 14,.I 0]) (ml:=[(7,.box [.L p0.L,.I p0.At])]) (dg:=[(7,.box [.L r1.2.L,.I r1.2.At])]) R S0 R (aK (aK (aK bt))) (QX ec) (mC R mN) (b8 R cw) R (sN (dU (args:=[.ak 12 (r1.1.map ax.lv),.I 1000000]) R NX R (aK (aK bt)) (PF (T:=true) fz) R (yH R (sN (iO R R (sN (iO R R (sN (iO R R (sN (kS (id:=105) R fF R R (s_ (cV R R R bA bB R R R (qb R (bo R zS)))))))))))))))))) (LH.seq ?_)
  obtain ⟨w6,hv,h⟩:=al h
  refine LH.aj [(0,.ptr 7 0),(4,.ptr 104 0),(5,.ptr 105 0),(29,.bool w6.1)] [(1,.dead),(7,.box [.L w6.2.1,.I w6.2.2]),(104,.box [.nil]),(105,.box [.aJ true 49 5 (List.map (aq.lt true) r2.1.aa)])] R ?_ ?_
  ·refine bl R (sN (iw R R (bI R ?_)))
   by_cases bT:(decide (p1 > 0))=true
   ·replace hv:=aB hv bT
    refine sT R (cB bT) (oM (v:=(.ptr _ _)) R (sT R (cB bT) (oM (v:=(.int _ _)) R ?_)))
    obtain ⟨r8,KM,hv⟩:=al hv
    refine sT R (cB bT) (fa (args:=[.ptr 7 0,.I p1]) (ml:=[(7,.box [.L r1.2.L,.I r1.2.At])]) (dg:=[(7,.box [.L r8.2.L,.I r8.2.At])]) R sO R (aK (aK bt)) (zB KM) (mC R mN) (b8 R cw) R (sN (aW (cB bT) (v:=(.bool _)) R (bI R ?_))))
    by_cases cP:r8.1=true
    ·replace hv:=aB hv cP
     refine sT R (cB cP) (dK ca cc dA R R (sT R (cB cP) (dW R R R R cc fD (LI R (cB cP) ((s8 (f:=(aq.lt true)) dZ R).ok) (sT R (cB cP) (iw R R (sN (aW (cB cP) (v:=(.bool _)) R ?_))))))))
     obtain rfl:=oI hv
     exact zS
    ·replace cP:=bF cP
     replace hv:=aA hv cP
     refine sF R R cP (sF R R cP (sF R R cP (sF R R cP (sN (aV (cB cP) (v:=(.bool _)) R ?_)))))
     obtain rfl:=oI hv
     exact zS
   ·replace bT:=bF bT
    replace hv:=aA hv bT
    refine sF R R bT (sF R R bT (sF R R bT (sN (aV (cB bT) (v:=(.bool _)) R (bI R (sF R R R (sF R R R (sF R R R (sF R R R (sN (aV R (v:=(.bool _)) R ?_)))))))))))
    obtain rfl:=oI hv
    exact zS
  clear hv
  refine LH.cond (t:=w6.1) R (fun gU=>?_) (fun gU=>?_)
  ·replace h:=aB h gU
   obtain ⟨bc,xq,h⟩:=al h
   refine LH.aj [(0,.ptr 7 0),(4,.ptr 104 0),(5,.ptr 105 0),(8,.ptr 108 0)] [(1,.dead),(7,.box [.L w6.2.1,.I w6.2.2]),(104,.box [.nil]),(105,.box [.aJ true 49 5 (List.map (aq.lt true) r2.1.aa)]),(108,.box [.I bc.ID,.ak 5 (bc.ae.map ai.lv),.aJ true 4 1 (bc.ah.map LV.bool),.aJ true 88 3 (bc.Uses.map az.lv),.bool bc.ab])] R ?_ ?_
   ·refine sN (dK ca cc dA R R (sN (dW R R R R cc fD (sX ((iH (f:=(aq.lt true)) dZ dh cK R R aq.BN xq R).ok) (sX ((nr R dh js cK R R).ok) ?_)))))
    exact sN (kS (id:=108) R tK R R (s_ (cV R R R dh cK R R R zS)))
   refine LH.seq ?_
   obtain ⟨cI,Aj,h⟩:=al h
   refine LH.aj [(0,.ptr 7 0),(4,.ptr 104 0),(5,.ptr 105 0),(8,.ptr 108 0),(35,.I cI.1)] [(1,.dead),(7,.box [.L cI.2.L,.I cI.2.At]),(104,.box [.nil]),(105,.box [.aJ true 49 5 (List.map (aq.lt true) r2.1.aa)]),(108,.box [.I bc.ID,.ak 5 (bc.ae.map ai.lv),.aJ true 4 1 (bc.ah.map LV.bool),.aJ true 88 3 (bc.Uses.map az.lv),.bool bc.ab])] R (ib R (sN (fa (args:=[.ptr 7 0,.I 4]) (ml:=[(7,.box [.L w6.2.1,.I w6.2.2])]) (dg:=[(7,.box [.L cI.2.L,.I cI.2.At])]) R gw R (aK (aK bt)) (kG Aj) (mC R mN) (b8 R cw) R zS))) (LH.block (LH.aj [(0,.ptr 7 0),(4,.ptr 104 0),(5,.ptr 105 0),(8,.ptr 108 0),(35,.I cI.1),(42,.bool (cI.1 == 0))] [(1,.dead),(7,.box [.L cI.2.L,.I cI.2.At]),(104,.box [.nil]),(105,.box [.aJ true 49 5 (List.map (aq.lt true) r2.1.aa)]),(108,.box [.I bc.ID,.ak 5 (bc.ae.map ai.lv),.aJ true 4 1 (bc.ah.map LV.bool),.aJ true 88 3 (bc.Uses.map az.lv),.bool bc.ab])] R (sN (gm R R (cm R zS))) (LH.cond (t:=(cI.1 == 0)) R (fun oi=>?_) (fun oi=>?_))))
   ·replace h:=aB h oi
    obtain ⟨kE,Am,h⟩:=al h
    refine LH.aQ [(4,.ptr 104 0),(5,.ptr 105 0),(8,.ag [.I bc.ID,.ak 5 (bc.ae.map ai.lv),.ak 1 (kE.map LV.bool),.ak 3 (bc.Uses.map az.lv),.bool bc.ab])] [(1,.dead),(7,.box [.L cI.2.L,.I cI.2.At]),(104,.box [.nil]),(105,.box [.ak 5 (r2.1.aa.map aq.lv)])] R (sN (dK eA eX ji R R (sN (dW R R R R eX nF (sN (jI (f:=LV.bool) (ys:=[true]) j8 Hi lQ R R R okB (cS.wk (aX [(4,.ptr 104 0),(5,.ptr 105 0),(8,.ptr 108 0),(45,.aJ true 4 1 (bc.ah.map LV.bool)),(46,.ak 1 (List.map LV.bool [true]))] [(1,.dead),(7,.box [.L cI.2.L,.I cI.2.At]),(104,.box [.nil]),(105,.box [.aJ true 49 5 (List.map (aq.lt true) r2.1.aa)]),(108,.box [.I bc.ID,.ak 5 (bc.ae.map ai.lv),.aJ true 4 1 (bc.ah.map LV.bool),.aJ true 88 3 (bc.Uses.map az.lv),.bool bc.ab])]) (AU (f:=LV.bool) (g:=LV.bool) (es:=[(4,.ptr 104 0),(5,.ptr 105 0),(8,.ptr 108 0),(45,.aJ true 4 1 (bc.ah.map LV.bool)),(46,.ak 1 (List.map LV.bool [true]))]) (ml:=[(1,.dead),(7,.box [.L cI.2.L,.I cI.2.At]),(104,.box [.nil]),(105,.box [.aJ true 49 5 (List.map (aq.lt true) r2.1.aa)]),(108,.box [.I bc.ID,.ak 5 (bc.ae.map ai.lv),.aJ true 4 1 (bc.ah.map LV.bool),.aJ true 88 3 (bc.Uses.map az.lv),.bool bc.ab])]) (jn:=[(4,.ptr 104 0),(5,.ptr 105 0),(8,.ptr 108 0),(45,.ak 1 (bc.ah.map LV.bool)),(46,.ak 1 (List.map LV.bool [true]))]) (dg:=[(1,.dead),(7,.box [.L cI.2.L,.I cI.2.At]),(104,.box [.nil]),(105,.box [.ak 5 (r2.1.aa.map aq.lv)]),(108,.box (aq.lv bc).cells)]) O5 j8 Hi lQ R R Am (fun _=>Rel.bool) (fun _=>R) (wb (Rel.ptr R) (wb (Rel.ptr R) (wb (Rel.ptr R) (wb (Rel.aJ (fun _=>Rel.bool) (fun _=>R)) (wb (Rel.ak (fun _=>Rel.bool) (fun _=>R)) PW))))) (tW gY.dead (tW (gY.box (eR (Rel.ak (fun _=>Rel.int) (fun _=>R)) (eR Rel.int lB))) (tW (gY.box (eR Rel.nil lB)) (tW (gY.box (eR (Rel.aJ aq.pJ (fun _=>R)) lB)) (tW (gY.box (eR Rel.int (eR (Rel.ak ai.rel (fun _=>R)) (eR (Rel.aJ (fun _=>Rel.bool) (fun _=>R)) (eR (Rel.aJ az.rel (fun _=>R)) (eR Rel.bool lB)))))) LD))))) (sN (dK eA eX ji R R (s_ (cV R R R eX ji R R R (s0 ((Wk.trans (aX [(4,.ptr 104 0),(5,.ptr 105 0),(8,.ptr 108 0)] [(1,.dead),(7,.box [.L cI.2.L,.I cI.2.At]),(104,.box [.nil]),(105,.box [.ak 5 (r2.1.aa.map aq.lv)]),(108,.box [.I bc.ID,.ak 5 (bc.ae.map ai.lv),.ak 1 (kE.map LV.bool),.ak 3 (bc.Uses.map az.lv),.bool bc.ab])]) (Wk.trans (Wk.bk 108 [.I bc.ID,.ak 5 (bc.ae.map ai.lv),.ak 1 (kE.map LV.bool),.ak 3 (bc.Uses.map az.lv),.bool bc.ab] R R R (bO R)) (Wk.eq R R R R))))))))))))))))) (aY (av (LH.aj [(4,.ptr 104 0),(5,.ptr 105 0),(8,.ag [.I bc.ID,.ak 5 (bc.ae.map ai.lv),.ak 1 (kE.map LV.bool),.ak 3 (bc.Uses.map az.lv),.bool bc.ab]),(9,.nil)] [(1,.dead),(7,.box [.L cI.2.L,.I cI.2.At]),(104,.box [.nil]),(105,.box [.ak 5 (r2.1.aa.map aq.lv)])] R (kh R zS) ?_)))
    obtain ⟨zt,Sr,h⟩:=al h
    refine LH.aj [(4,.ptr 104 0),(5,.ptr 105 0),(8,.ag [.I bc.ID,.ak 5 (bc.ae.map ai.lv),.ak 1 (kE.map LV.bool),.ak 3 (bc.Uses.map az.lv),.bool bc.ab]),(9,.arr 167 zt.length)] [(1,.dead),(7,.box [.L cI.2.L,.I cI.2.At]),(104,.box [.nil]),(105,.box [.ak 5 (r2.1.aa.map aq.lv)]),(167,.arr 49 5 (zt.map aq.lv))] R (Ib R (sN (dK ca cc dA R R (sN (dW R R R R cc fD (sN (CT (f:=aq.lv) (id:=167) R dZ qk cK R R Sr R (nE R zS)))))))) ?_
    obtain ⟨It,Ao,h⟩:=al h
    refine LH.aj [(4,.ptr 104 0),(5,.ptr 105 0),(9,.ak 5 (List.map aq.lv (zt.set ((0:Int).toNat) (aq.mk bc.ID bc.ae kE bc.Uses bc.ab))))] [(1,.dead),(7,.box [.L cI.2.L,.I cI.2.At]),(104,.box [.nil]),(105,.box [.ak 5 (r2.1.aa.map aq.lv)])] R (j5 R (sN (bh R dh js cK R R (sN (gX (f:=aq.lv) dZ dh cK R R R Ao (s_ (ri (f:=aq.lv) (z':=(aq.mk bc.ID bc.ae kE bc.Uses bc.ab)) R R R R dh cK R (dC Ao).2 R (s0 ((Wk.trans (Wk.to (el:=[(4,.ptr 104 0),(5,.ptr 105 0),(9,.arr 167 (List.length (zt.set ((0:Int).toNat) (aq.mk bc.ID bc.ae kE bc.Uses bc.ab))))]) (ml:=[(1,.dead),(7,.box [.L cI.2.L,.I cI.2.At]),(104,.box [.nil]),(105,.box [.ak 5 (r2.1.aa.map aq.lv)]),(167,.arr 49 5 (List.map aq.lv (zt.set ((0:Int).toNat) (aq.mk bc.ID bc.ae kE bc.Uses bc.ab))))]) (eC R (eC R (eC (congrArg (LV.arr 167) (by simp)) eN))) ⟨R,R,R,R,R,trivial⟩ R (a8 R)) (Wk.trans (Wk.kL (f:=aq.lv) (fk:=[(4,.ptr 104 0),(5,.ptr 105 0),(9,.ak 5 (List.map aq.lv (zt.set ((0:Int).toNat) (aq.mk bc.ID bc.ae kE bc.Uses bc.ab))))]) 167 49 5 (zt.set ((0:Int).toNat) (aq.mk bc.ID bc.ae kE bc.Uses bc.ab)) R R (bO R) (fK R (fK R (fZ fN)))) (Wk.eq R R R R)))))))))))) (LH.aQ [(4,.ptr 104 0),(5,.ag [.ak 5 (List.map aq.lv (zt.set ((0:Int).toNat) (aq.mk bc.ID bc.ae kE bc.Uses bc.ab)))])] [(1,.dead),(7,.box [.L cI.2.L,.I cI.2.At]),(104,.box [.nil])] R (eZ R (sN (dK ca cc dA R R (s_ (cV R R R cc dA R R R (s0 ((Wk.trans (aX [(4,.ptr 104 0),(5,.ptr 105 0)] [(1,.dead),(7,.box [.L cI.2.L,.I cI.2.At]),(104,.box [.nil]),(105,.box [.ak 5 (List.map aq.lv (zt.set ((0:Int).toNat) (aq.mk bc.ID bc.ae kE bc.Uses bc.ab)))])]) (Wk.trans (Wk.bk 105 [.ak 5 (List.map aq.lv (zt.set ((0:Int).toNat) (aq.mk bc.ID bc.ae kE bc.Uses bc.ab)))] R R R (bO R)) (Wk.eq R R R R)))))))))) (av (LH.aj [(4,.ag [.ak 5 (List.map aq.lv (zt.set ((0:Int).toNat) (aq.mk bc.ID bc.ae kE bc.Uses bc.ab)))])] [(1,.dead),(7,.box [.L cI.2.L,.I cI.2.At])] R (sN (bh R bA cD bB R R (s_ (cV R R R bA bB R R R (s0 ((Wk.trans (aX [(4,.ptr 104 0)] [(1,.dead),(7,.box [.L cI.2.L,.I cI.2.At]),(104,.box [.ak 5 (List.map aq.lv (zt.set ((0:Int).toNat) (aq.mk bc.ID bc.ae kE bc.Uses bc.ab)))])]) (Wk.trans (Wk.bk 104 [.ak 5 (List.map aq.lv (zt.set ((0:Int).toNat) (aq.mk bc.ID bc.ae kE bc.Uses bc.ab)))] R R R (bO R)) (Wk.eq R R R R))))))))) (LH.ret ?_))))
    obtain rfl:=oI h
    exact aS (aT Tryz.results15) (df R bA cD bB R R (bP ⟨aR (mC R (mC R mN)),R,a8 R,Sub.rfl⟩))
   replace h:=aA h oi
   refine LH.aj [(0,.ptr 7 0),(4,.ptr 104 0),(5,.ptr 105 0),(8,.ptr 108 0),(35,.I cI.1),(49,.bool (cI.1 == 1))] [(1,.dead),(7,.box [.L cI.2.L,.I cI.2.At]),(104,.box [.nil]),(105,.box [.aJ true 49 5 (List.map (aq.lt true) r2.1.aa)]),(108,.box [.I bc.ID,.ak 5 (bc.ae.map ai.lv),.aJ true 4 1 (bc.ah.map LV.bool),.aJ true 88 3 (bc.Uses.map az.lv),.bool bc.ab])] R (sN (gm R R (cm R zS))) (LH.cond (t:=(cI.1 == 1)) R (fun lr=>?_) (fun lr=>?_))
   ·replace h:=aB h lr
    obtain ⟨jK,RZ,h⟩:=al h
    refine LH.aQ [(4,.ptr 104 0),(5,.ptr 105 0),(8,.ag [.I jK.1,.ak 5 (bc.ae.map ai.lv),.aJ true 4 1 (bc.ah.map LV.bool),.aJ true 88 3 (bc.Uses.map az.lv),.bool bc.ab])] [(1,.dead),(7,.box [.L jK.2.L,.I jK.2.At]),(104,.box [.nil]),(105,.box [.aJ true 49 5 (List.map (aq.lt true) r2.1.aa)])] R (ib R (sN (fa (args:=[.ptr 7 0,.I 5]) (ml:=[(7,.box [.L cI.2.L,.I cI.2.At])]) (dg:=[(7,.box [.L jK.2.L,.I jK.2.At])]) R gw R (aK (aK bt)) (kG RZ) (mC R mN) (b8 R cw) R (sN (dK fY aE bb R R (s_ (cV R R R aE bb R R R (s0 ((Wk.trans (aX [(4,.ptr 104 0),(5,.ptr 105 0),(8,.ptr 108 0)] [(1,.dead),(7,.box [.L jK.2.L,.I jK.2.At]),(104,.box [.nil]),(105,.box [.aJ true 49 5 (List.map (aq.lt true) r2.1.aa)]),(108,.box [.I jK.1,.ak 5 (bc.ae.map ai.lv),.aJ true 4 1 (bc.ah.map LV.bool),.aJ true 88 3 (bc.Uses.map az.lv),.bool bc.ab])]) (Wk.trans (Wk.bk 108 [.I jK.1,.ak 5 (bc.ae.map ai.lv),.aJ true 4 1 (bc.ah.map LV.bool),.aJ true 88 3 (bc.Uses.map az.lv),.bool bc.ab] R R R (bO R)) (Wk.eq R R R R)))))))))))) (aY (av (LH.wk (Wk.loose (el:=[(4,.ptr 104 0),(5,.ptr 105 0),(8,.ag [.I jK.1,.ak 5 (bc.ae.map ai.lv),.aJ true 4 1 (bc.ah.map LV.bool),.aJ true 88 3 (bc.Uses.map az.lv),.bool bc.ab])]) (ml:=[(1,.dead),(7,.box [.L jK.2.L,.I jK.2.At]),(104,.box [.nil]),(105,.box [.aJ true 49 5 (List.map (aq.lt true) r2.1.aa)])]) (fk:=[(4,.ptr 104 0),(5,.ptr 105 0),(8,.ag [.I jK.1,.ak 5 (bc.ae.map ai.lv),.ak 1 (bc.ah.map LV.bool),.ak 3 (bc.Uses.map az.lv),.bool bc.ab])]) (dg:=[(1,.dead),(7,.box [.L jK.2.L,.I jK.2.At]),(104,.box [.nil]),(105,.box [.ak 5 (r2.1.aa.map aq.lv)])]) O5 (wb (Rel.ptr R) (wb (Rel.ptr R) (wb (Rel.ag (eR Rel.int (eR (Rel.ak ai.rel (fun _=>R)) (eR (Rel.aJ (fun _=>Rel.bool) (fun _=>R)) (eR (Rel.aJ az.rel (fun _=>R)) (eR Rel.bool lB)))))) PW))) (tW gY.dead (tW (gY.box (eR (Rel.ak (fun _=>Rel.int) (fun _=>R)) (eR Rel.int lB))) (tW (gY.box (eR Rel.nil lB)) (tW (gY.box (eR (Rel.aJ aq.pJ (fun _=>R)) lB)) LD))))) (LH.aj [(4,.ptr 104 0),(5,.ptr 105 0),(8,.ag [.I jK.1,.ak 5 (bc.ae.map ai.lv),.ak 1 (bc.ah.map LV.bool),.ak 3 (bc.Uses.map az.lv),.bool bc.ab]),(9,.nil)] [(1,.dead),(7,.box [.L jK.2.L,.I jK.2.At]),(104,.box [.nil]),(105,.box [.ak 5 (r2.1.aa.map aq.lv)])] R (kh R zS) ?_))))
    obtain ⟨qQ,Fh,h⟩:=al h
    refine LH.aj [(4,.ptr 104 0),(5,.ptr 105 0),(8,.ag [.I jK.1,.ak 5 (bc.ae.map ai.lv),.ak 1 (bc.ah.map LV.bool),.ak 3 (bc.Uses.map az.lv),.bool bc.ab]),(9,.arr 167 qQ.length)] [(1,.dead),(7,.box [.L jK.2.L,.I jK.2.At]),(104,.box [.nil]),(105,.box [.ak 5 (r2.1.aa.map aq.lv)]),(167,.arr 49 5 (qQ.map aq.lv))] R (Ib R (sN (dK ca cc dA R R (sN (dW R R R R cc fD (sN (CT (f:=aq.lv) (id:=167) R dZ qk cK R R Fh R (nE R zS)))))))) ?_
    obtain ⟨QV,HJ,h⟩:=al h
    refine LH.aj [(4,.ptr 104 0),(5,.ptr 105 0),(9,.ak 5 (List.map aq.lv (qQ.set ((0:Int).toNat) (aq.mk jK.1 bc.ae bc.ah bc.Uses bc.ab))))] [(1,.dead),(7,.box [.L jK.2.L,.I jK.2.At]),(104,.box [.nil]),(105,.box [.ak 5 (r2.1.aa.map aq.lv)])] R (j5 R (sN (bh R dh js cK R R (sN (gX (f:=aq.lv) dZ dh cK R R R HJ (s_ (ri (f:=aq.lv) (z':=(aq.mk jK.1 bc.ae bc.ah bc.Uses bc.ab)) R R R R dh cK R (dC HJ).2 R (s0 ((Wk.trans (Wk.to (el:=[(4,.ptr 104 0),(5,.ptr 105 0),(9,.arr 167 (List.length (qQ.set ((0:Int).toNat) (aq.mk jK.1 bc.ae bc.ah bc.Uses bc.ab))))]) (ml:=[(1,.dead),(7,.box [.L jK.2.L,.I jK.2.At]),(104,.box [.nil]),(105,.box [.ak 5 (r2.1.aa.map aq.lv)]),(167,.arr 49 5 (List.map aq.lv (qQ.set ((0:Int).toNat) (aq.mk jK.1 bc.ae bc.ah bc.Uses bc.ab))))]) (eC R (eC R (eC (congrArg (LV.arr 167) (by simp)) eN))) ⟨R,R,R,R,R,trivial⟩ R (a8 R)) (Wk.trans (Wk.kL (f:=aq.lv) (fk:=[(4,.ptr 104 0),(5,.ptr 105 0),(9,.ak 5 (List.map aq.lv (qQ.set ((0:Int).toNat) (aq.mk jK.1 bc.ae bc.ah bc.Uses bc.ab))))]) 167 49 5 (qQ.set ((0:Int).toNat) (aq.mk jK.1 bc.ae bc.ah bc.Uses bc.ab)) R R (bO R) (fK R (fK R (fZ fN)))) (Wk.eq R R R R)))))))))))) (LH.aQ [(4,.ptr 104 0),(5,.ag [.ak 5 (List.map aq.lv (qQ.set ((0:Int).toNat) (aq.mk jK.1 bc.ae bc.ah bc.Uses bc.ab)))])] [(1,.dead),(7,.box [.L jK.2.L,.I jK.2.At]),(104,.box [.nil])] R (eZ R (sN (dK ca cc dA R R (s_ (cV R R R cc dA R R R (s0 ((Wk.trans (aX [(4,.ptr 104 0),(5,.ptr 105 0)] [(1,.dead),(7,.box [.L jK.2.L,.I jK.2.At]),(104,.box [.nil]),(105,.box [.ak 5 (List.map aq.lv (qQ.set ((0:Int).toNat) (aq.mk jK.1 bc.ae bc.ah bc.Uses bc.ab)))])]) (Wk.trans (Wk.bk 105 [.ak 5 (List.map aq.lv (qQ.set ((0:Int).toNat) (aq.mk jK.1 bc.ae bc.ah bc.Uses bc.ab)))] R R R (bO R)) (Wk.eq R R R R)))))))))) (av (LH.aj [(4,.ag [.ak 5 (List.map aq.lv (qQ.set ((0:Int).toNat) (aq.mk jK.1 bc.ae bc.ah bc.Uses bc.ab)))])] [(1,.dead),(7,.box [.L jK.2.L,.I jK.2.At])] R (sN (bh R bA cD bB R R (s_ (cV R R R bA bB R R R (s0 ((Wk.trans (aX [(4,.ptr 104 0)] [(1,.dead),(7,.box [.L jK.2.L,.I jK.2.At]),(104,.box [.ak 5 (List.map aq.lv (qQ.set ((0:Int).toNat) (aq.mk jK.1 bc.ae bc.ah bc.Uses bc.ab)))])]) (Wk.trans (Wk.bk 104 [.ak 5 (List.map aq.lv (qQ.set ((0:Int).toNat) (aq.mk jK.1 bc.ae bc.ah bc.Uses bc.ab)))] R R R (bO R)) (Wk.eq R R R R))))))))) (LH.ret ?_))))
    obtain rfl:=oI h
    exact aS (aT Tryz.results15) (df R bA cD bB R R (bP ⟨aR (mC R (mC R mN)),R,a8 R,Sub.rfl⟩))
   replace h:=aA h lr
   refine LH.aj [(0,.ptr 7 0),(4,.ptr 104 0),(5,.ptr 105 0),(8,.ptr 108 0),(54,.bool (cI.1 == 2))] [(1,.dead),(7,.box [.L cI.2.L,.I cI.2.At]),(104,.box [.nil]),(105,.box [.aJ true 49 5 (List.map (aq.lt true) r2.1.aa)]),(108,.box [.I bc.ID,.ak 5 (bc.ae.map ai.lv),.aJ true 4 1 (bc.ah.map LV.bool),.aJ true 88 3 (bc.Uses.map az.lv),.bool bc.ab])] R (sN (gm R R (cm R zS))) (LH.cond (t:=(cI.1 == 2)) R (fun oj=>?_) (fun oj=>?_))
   ·replace h:=aB h oj
    obtain ⟨jL,E4,h⟩:=al h
    obtain ⟨v23,An,h⟩:=al h
    refine LH.OU (n:=6) mixed [] [0,1108,0,100007,0,0] [(4,.ptr 104 0),(5,.ptr 105 0),(8,.ptr 108 0),(57,.aJ true 88 3 (bc.Uses.map az.lv)),(61,.ak 3 (List.map az.lv [(az.mk jL.1 0 0)]))] [(1,.dead),(7,.box [.L jL.2.L,.I jL.2.At]),(104,.box [.nil]),(105,.box [.aJ true 49 5 (List.map (aq.lt true) r2.1.aa)]),(108,.box [.I bc.ID,.ak 5 (bc.ae.map ai.lv),.aJ true 4 1 (bc.ah.map LV.bool),.aJ true 88 3 (bc.Uses.map az.lv),.bool bc.ab])] [(4,.ptr 104 0),(5,.ptr 105 0),(8,.ag [.I bc.ID,.ak 5 (bc.ae.map ai.lv),.ak 1 (bc.ah.map LV.bool),.ak 3 (v23.map az.lv),.bool bc.ab])] [(1,.dead),(7,.box [.L jL.2.L,.I jL.2.At]),(104,.box [.nil]),(105,.box [.ak 5 (r2.1.aa.map aq.lv)])] R (Nat.le_of_ble_eq_true R) R (by kernel_rfl) ?_ ?_ ?_
    ·exact aF (dK ej eu jj R R ⟨R,mD R R R (fun _ b _ d=>dW R b R R eu lj d) (BG R (mW R R R (fun _ b _ d=>fa (args:=[.ptr 7 0,.I 0,.I 9]) (ml:=[(7,.box [.L cI.2.L,.I cI.2.At])]) (dg:=[(7,.box [.L jL.2.L,.I jL.2.At])]) R nD R (aK (aK (aK bt))) (nA E4) (mC b mN) (b8 R cw) R d) (aF (gB (vs:=[(0,.I jL.1)]) LO Ik R (lf oT bb aE R R R gA) ⟨R,aF (jI (f:=az.lv) (ys:=[(az.mk jL.1 0 0)]) jt A4 nI R R R az.ok ⟨R,zM⟩)⟩))))⟩)
    ·exact cS.wk (aX [(4,.ptr 104 0),(5,.ptr 105 0),(8,.ptr 108 0),(57,.aJ true 88 3 (bc.Uses.map az.lv)),(61,.ak 3 (List.map az.lv [(az.mk jL.1 0 0)]))] [(1,.dead),(7,.box [.L jL.2.L,.I jL.2.At]),(104,.box [.nil]),(105,.box [.aJ true 49 5 (List.map (aq.lt true) r2.1.aa)]),(108,.box [.I bc.ID,.ak 5 (bc.ae.map ai.lv),.aJ true 4 1 (bc.ah.map LV.bool),.aJ true 88 3 (bc.Uses.map az.lv),.bool bc.ab])]) (AU (f:=az.lv) (g:=az.lv) (es:=[(4,.ptr 104 0),(5,.ptr 105 0),(8,.ptr 108 0),(57,.aJ true 88 3 (bc.Uses.map az.lv)),(61,.ak 3 (List.map az.lv [(az.mk jL.1 0 0)]))]) (ml:=[(1,.dead),(7,.box [.L jL.2.L,.I jL.2.At]),(104,.box [.nil]),(105,.box [.aJ true 49 5 (List.map (aq.lt true) r2.1.aa)]),(108,.box [.I bc.ID,.ak 5 (bc.ae.map ai.lv),.aJ true 4 1 (bc.ah.map LV.bool),.aJ true 88 3 (bc.Uses.map az.lv),.bool bc.ab])]) (jn:=[(4,.ptr 104 0),(5,.ptr 105 0),(8,.ptr 108 0),(57,.ak 3 (bc.Uses.map az.lv)),(61,.ak 3 (List.map az.lv [(az.mk jL.1 0 0)]))]) (dg:=[(1,.dead),(7,.box [.L jL.2.L,.I jL.2.At]),(104,.box [.nil]),(105,.box [.ak 5 (r2.1.aa.map aq.lv)]),(108,.box (aq.lv bc).cells)]) O5 jt A4 nI R R An az.rel (fun _=>R) (wb (Rel.ptr R) (wb (Rel.ptr R) (wb (Rel.ptr R) (wb (Rel.aJ az.rel (fun _=>R)) (wb (Rel.ak az.rel (fun _=>R)) PW))))) (tW gY.dead (tW (gY.box (eR (Rel.ak (fun _=>Rel.int) (fun _=>R)) (eR Rel.int lB))) (tW (gY.box (eR Rel.nil lB)) (tW (gY.box (eR (Rel.aJ aq.pJ (fun _=>R)) lB)) (tW (gY.box (eR Rel.int (eR (Rel.ak ai.rel (fun _=>R)) (eR (Rel.aJ (fun _=>Rel.bool) (fun _=>R)) (eR (Rel.aJ az.rel (fun _=>R)) (eR Rel.bool lB)))))) LD))))) (sN (dK ej eu jj R R (s_ (cV R R R eu jj R R R (s0 ((Wk.trans (aX [(4,.ptr 104 0),(5,.ptr 105 0),(8,.ptr 108 0)] [(1,.dead),(7,.box [.L jL.2.L,.I jL.2.At]),(104,.box [.nil]),(105,.box [.ak 5 (r2.1.aa.map aq.lv)]),(108,.box [.I bc.ID,.ak 5 (bc.ae.map ai.lv),.ak 1 (bc.ah.map LV.bool),.ak 3 (v23.map az.lv),.bool bc.ab])]) (Wk.trans (Wk.bk 108 [.I bc.ID,.ak 5 (bc.ae.map ai.lv),.ak 1 (bc.ah.map LV.bool),.ak 3 (v23.map az.lv),.bool bc.ab] R R R (bO R)) (Wk.eq R R R R))))))))))
    refine aY (av (LH.aj [(4,.ptr 104 0),(5,.ptr 105 0),(8,.ag [.I bc.ID,.ak 5 (bc.ae.map ai.lv),.ak 1 (bc.ah.map LV.bool),.ak 3 (v23.map az.lv),.bool bc.ab]),(9,.nil)] [(1,.dead),(7,.box [.L jL.2.L,.I jL.2.At]),(104,.box [.nil]),(105,.box [.ak 5 (r2.1.aa.map aq.lv)])] R (kh R zS) ?_))
    obtain ⟨v24,Sv,h⟩:=al h
    refine LH.aj [(4,.ptr 104 0),(5,.ptr 105 0),(8,.ag [.I bc.ID,.ak 5 (bc.ae.map ai.lv),.ak 1 (bc.ah.map LV.bool),.ak 3 (v23.map az.lv),.bool bc.ab]),(9,.arr 167 v24.length)] [(1,.dead),(7,.box [.L jL.2.L,.I jL.2.At]),(104,.box [.nil]),(105,.box [.ak 5 (r2.1.aa.map aq.lv)]),(167,.arr 49 5 (v24.map aq.lv))] R (Ib R (sN (dK ca cc dA R R (sN (dW R R R R cc fD (sN (CT (f:=aq.lv) (id:=167) R dZ qk cK R R Sv R (nE R zS)))))))) ?_
    obtain ⟨Mo,HL,h⟩:=al h
    refine LH.aj [(4,.ptr 104 0),(5,.ptr 105 0),(9,.ak 5 (List.map aq.lv (v24.set ((0:Int).toNat) (aq.mk bc.ID bc.ae bc.ah v23 bc.ab))))] [(1,.dead),(7,.box [.L jL.2.L,.I jL.2.At]),(104,.box [.nil]),(105,.box [.ak 5 (r2.1.aa.map aq.lv)])] R (j5 R (sN (bh R dh js cK R R (sN (gX (f:=aq.lv) dZ dh cK R R R HL (s_ (ri (f:=aq.lv) (z':=(aq.mk bc.ID bc.ae bc.ah v23 bc.ab)) R R R R dh cK R (dC HL).2 R (s0 ((Wk.trans (Wk.to (el:=[(4,.ptr 104 0),(5,.ptr 105 0),(9,.arr 167 (List.length (v24.set ((0:Int).toNat) (aq.mk bc.ID bc.ae bc.ah v23 bc.ab))))]) (ml:=[(1,.dead),(7,.box [.L jL.2.L,.I jL.2.At]),(104,.box [.nil]),(105,.box [.ak 5 (r2.1.aa.map aq.lv)]),(167,.arr 49 5 (List.map aq.lv (v24.set ((0:Int).toNat) (aq.mk bc.ID bc.ae bc.ah v23 bc.ab))))]) (eC R (eC R (eC (congrArg (LV.arr 167) (by simp)) eN))) ⟨R,R,R,R,R,trivial⟩ R (a8 R)) (Wk.trans (Wk.kL (f:=aq.lv) (fk:=[(4,.ptr 104 0),(5,.ptr 105 0),(9,.ak 5 (List.map aq.lv (v24.set ((0:Int).toNat) (aq.mk bc.ID bc.ae bc.ah v23 bc.ab))))]) 167 49 5 (v24.set ((0:Int).toNat) (aq.mk bc.ID bc.ae bc.ah v23 bc.ab)) R R (bO R) (fK R (fK R (fZ fN)))) (Wk.eq R R R R)))))))))))) (LH.aQ [(4,.ptr 104 0),(5,.ag [.ak 5 (List.map aq.lv (v24.set ((0:Int).toNat) (aq.mk bc.ID bc.ae bc.ah v23 bc.ab)))])] [(1,.dead),(7,.box [.L jL.2.L,.I jL.2.At]),(104,.box [.nil])] R (eZ R (sN (dK ca cc dA R R (s_ (cV R R R cc dA R R R (s0 ((Wk.trans (aX [(4,.ptr 104 0),(5,.ptr 105 0)] [(1,.dead),(7,.box [.L jL.2.L,.I jL.2.At]),(104,.box [.nil]),(105,.box [.ak 5 (List.map aq.lv (v24.set ((0:Int).toNat) (aq.mk bc.ID bc.ae bc.ah v23 bc.ab)))])]) (Wk.trans (Wk.bk 105 [.ak 5 (List.map aq.lv (v24.set ((0:Int).toNat) (aq.mk bc.ID bc.ae bc.ah v23 bc.ab)))] R R R (bO R)) (Wk.eq R R R R)))))))))) (av (LH.aj [(4,.ag [.ak 5 (List.map aq.lv (v24.set ((0:Int).toNat) (aq.mk bc.ID bc.ae bc.ah v23 bc.ab)))])] [(1,.dead),(7,.box [.L jL.2.L,.I jL.2.At])] R (sN (bh R bA cD bB R R (s_ (cV R R R bA bB R R R (s0 ((Wk.trans (aX [(4,.ptr 104 0)] [(1,.dead),(7,.box [.L jL.2.L,.I jL.2.At]),(104,.box [.ak 5 (List.map aq.lv (v24.set ((0:Int).toNat) (aq.mk bc.ID bc.ae bc.ah v23 bc.ab)))])]) (Wk.trans (Wk.bk 104 [.ak 5 (List.map aq.lv (v24.set ((0:Int).toNat) (aq.mk bc.ID bc.ae bc.ah v23 bc.ab)))] R R R (bO R)) (Wk.eq R R R R))))))))) (LH.ret ?_))))
    obtain rfl:=oI h
    exact aS (aT Tryz.results15) (df R bA cD bB R R (bP ⟨aR (mC R (mC R mN)),R,a8 R,Sub.rfl⟩))
   replace h:=aA h oj
   obtain ⟨v26,Sw,h⟩:=al h
   refine LH.aQ [(4,.ptr 104 0),(5,.ptr 105 0),(8,.ag (aq.lv bc).cells)] [(1,.dead),(7,.box [.L cI.2.L,.I cI.2.At]),(104,.box [.nil]),(105,.box [.ak 5 (v26.map aq.lv)])] R (sN (dK ca cc dA R R (sN (dW R R R R cc fD (sN (uO R R R dh js cK R R (sN (jI (f:=(aq.lt true)) (ys:=[bc]) dZ qk cK R R R aq.BN (cS.wk ((Wk.trans (aX [(4,.ptr 104 0),(5,.ptr 105 0),(8,.ptr 108 0),(37,.aJ true 49 5 (List.map (aq.lt true) r2.1.aa)),(39,.ak 5 (List.map (aq.lt true) [bc]))] [(1,.dead),(7,.box [.L cI.2.L,.I cI.2.At]),(104,.box [.nil]),(105,.box [.aJ true 49 5 (List.map (aq.lt true) r2.1.aa)]),(108,.box [.I bc.ID,.ak 5 (bc.ae.map ai.lv),.aJ true 4 1 (bc.ah.map LV.bool),.aJ true 88 3 (bc.Uses.map az.lv),.bool bc.ab])]) (Wk.trans (Wk.bk 108 [.I bc.ID,.ak 5 (bc.ae.map ai.lv),.aJ true 4 1 (bc.ah.map LV.bool),.aJ true 88 3 (bc.Uses.map az.lv),.bool bc.ab] R R R (bO R)) (aX [(4,.ptr 104 0),(5,.ptr 105 0),(8,.ag [.I bc.ID,.ak 5 (bc.ae.map ai.lv),.aJ true 4 1 (bc.ah.map LV.bool),.aJ true 88 3 (bc.Uses.map az.lv),.bool bc.ab]),(37,.aJ true 49 5 (List.map (aq.lt true) r2.1.aa)),(39,.ak 5 (List.map (aq.lt true) [bc]))] [(1,.dead),(7,.box [.L cI.2.L,.I cI.2.At]),(104,.box [.nil]),(105,.box [.aJ true 49 5 (List.map (aq.lt true) r2.1.aa)])])))) (AU (f:=(aq.lt true)) (g:=aq.lv) (es:=[(4,.ptr 104 0),(5,.ptr 105 0),(8,.ag [.I bc.ID,.ak 5 (bc.ae.map ai.lv),.aJ true 4 1 (bc.ah.map LV.bool),.aJ true 88 3 (bc.Uses.map az.lv),.bool bc.ab]),(37,.aJ true 49 5 (List.map (aq.lt true) r2.1.aa)),(39,.ak 5 (List.map (aq.lt true) [bc]))]) (ml:=[(1,.dead),(7,.box [.L cI.2.L,.I cI.2.At]),(104,.box [.nil]),(105,.box [.aJ true 49 5 (List.map (aq.lt true) r2.1.aa)])]) (jn:=[(4,.ptr 104 0),(5,.ptr 105 0),(8,.ag (aq.lv bc).cells),(37,.ak 5 (r2.1.aa.map aq.lv)),(39,.ak 5 (List.map aq.lv [bc]))]) (dg:=[(1,.dead),(7,.box [.L cI.2.L,.I cI.2.At]),(104,.box [.nil]),(105,.box [.ak 5 (r2.1.aa.map aq.lv)])]) O5 dZ qk cK R R Sw aq.pJ (fun _=>R) (wb (Rel.ptr R) (wb (Rel.ptr R) (wb (Rel.ag (eR Rel.int (eR (Rel.ak ai.rel (fun _=>R)) (eR (Rel.aJ (fun _=>Rel.bool) (fun _=>R)) (eR (Rel.aJ az.rel (fun _=>R)) (eR Rel.bool lB)))))) (wb (Rel.aJ aq.pJ (fun _=>R)) (wb (Rel.ak aq.pJ (fun _=>R)) PW))))) (tW gY.dead (tW (gY.box (eR (Rel.ak (fun _=>Rel.int) (fun _=>R)) (eR Rel.int lB))) (tW (gY.box (eR Rel.nil lB)) (tW (gY.box (eR (Rel.aJ aq.pJ (fun _=>R)) lB)) LD)))) (sN (dK ca cc dA R R (s_ (cV R R R cc dA R R R zS)))))))))))))) (aY (av (LH.aj [(4,.ptr 104 0),(5,.ptr 105 0),(8,.ag (aq.lv bc).cells),(9,.nil)] [(1,.dead),(7,.box [.L cI.2.L,.I cI.2.At]),(104,.box [.nil]),(105,.box [.ak 5 (v26.map aq.lv)])] R (kh R zS) ?_)))
   obtain ⟨zu,Sx,h⟩:=al h
   refine LH.aj [(4,.ptr 104 0),(5,.ptr 105 0),(8,.ag (aq.lv bc).cells),(9,.arr 167 zu.length)] [(1,.dead),(7,.box [.L cI.2.L,.I cI.2.At]),(104,.box [.nil]),(105,.box [.ak 5 (v26.map aq.lv)]),(167,.arr 49 5 (zu.map aq.lv))] R (Ib R (sN (dK ca cc dA R R (sN (dW R R R R cc fD (sN (CT (f:=aq.lv) (id:=167) R dZ qk cK R R Sx R (nE R zS)))))))) ?_
   obtain ⟨LX,CL,h⟩:=al h
   refine LH.aj [(4,.ptr 104 0),(5,.ptr 105 0),(9,.ak 5 (List.map aq.lv (zu.set ((0:Int).toNat) bc)))] [(1,.dead),(7,.box [.L cI.2.L,.I cI.2.At]),(104,.box [.nil]),(105,.box [.ak 5 (v26.map aq.lv)])] R (j5 R (sN (bh R dh js cK R R (sN (gX (f:=aq.lv) dZ dh cK R R R CL (s_ (ri (f:=aq.lv) (z':=bc) R R R R dh cK R (dC CL).2 R (s0 ((Wk.trans (Wk.to (el:=[(4,.ptr 104 0),(5,.ptr 105 0),(9,.arr 167 (List.length (zu.set ((0:Int).toNat) bc)))]) (ml:=[(1,.dead),(7,.box [.L cI.2.L,.I cI.2.At]),(104,.box [.nil]),(105,.box [.ak 5 (v26.map aq.lv)]),(167,.arr 49 5 (List.map aq.lv (zu.set ((0:Int).toNat) bc)))]) (eC R (eC R (eC (congrArg (LV.arr 167) (by simp)) eN))) ⟨R,R,R,R,R,trivial⟩ R (a8 R)) (Wk.trans (Wk.kL (f:=aq.lv) (fk:=[(4,.ptr 104 0),(5,.ptr 105 0),(9,.ak 5 (List.map aq.lv (zu.set ((0:Int).toNat) bc)))]) 167 49 5 (zu.set ((0:Int).toNat) bc) R R (bO R) (fK R (fK R (fZ fN)))) (Wk.eq R R R R)))))))))))) (LH.aQ [(4,.ptr 104 0),(5,.ag [.ak 5 (List.map aq.lv (zu.set ((0:Int).toNat) bc))])] [(1,.dead),(7,.box [.L cI.2.L,.I cI.2.At]),(104,.box [.nil])] R (eZ R (sN (dK ca cc dA R R (s_ (cV R R R cc dA R R R (s0 ((Wk.trans (aX [(4,.ptr 104 0),(5,.ptr 105 0)] [(1,.dead),(7,.box [.L cI.2.L,.I cI.2.At]),(104,.box [.nil]),(105,.box [.ak 5 (List.map aq.lv (zu.set ((0:Int).toNat) bc))])]) (Wk.trans (Wk.bk 105 [.ak 5 (List.map aq.lv (zu.set ((0:Int).toNat) bc))] R R R (bO R)) (Wk.eq R R R R)))))))))) (av (LH.aj [(4,.ag [.ak 5 (List.map aq.lv (zu.set ((0:Int).toNat) bc))])] [(1,.dead),(7,.box [.L cI.2.L,.I cI.2.At])] R (sN (bh R bA cD bB R R (s_ (cV R R R bA bB R R R (s0 ((Wk.trans (aX [(4,.ptr 104 0)] [(1,.dead),(7,.box [.L cI.2.L,.I cI.2.At]),(104,.box [.ak 5 (List.map aq.lv (zu.set ((0:Int).toNat) bc))])]) (Wk.trans (Wk.bk 104 [.ak 5 (List.map aq.lv (zu.set ((0:Int).toNat) bc))] R R R (bO R)) (Wk.eq R R R R))))))))) (LH.ret ?_))))
   obtain rfl:=oI h
   exact aS (aT Tryz.results15) (df R bA cD bB R R (bP ⟨aR (mC R (mC R mN)),R,a8 R,Sub.rfl⟩))
  replace h:=aA h gU
  refine LH.skip (av (LH.wk ((Wk.trans (aX [(4,.ptr 104 0),(5,.ptr 105 0)] [(1,.dead),(7,.box [.L w6.2.1,.I w6.2.2]),(104,.box [.nil]),(105,.box [.aJ true 49 5 (List.map (aq.lt true) r2.1.aa)])]) (Wk.trans (Wk.bk 105 [.aJ true 49 5 (List.map (aq.lt true) r2.1.aa)] R R R (bO R)) (aX [(4,.ptr 104 0),(5,.ag [.aJ true 49 5 (List.map (aq.lt true) r2.1.aa)])] [(1,.dead),(7,.box [.L w6.2.1,.I w6.2.2]),(104,.box [.nil])])))) (LH.aj [(4,.ag [.aJ true 49 5 (List.map (aq.lt true) r2.1.aa)])] [(1,.dead),(7,.box [.L w6.2.1,.I w6.2.2])] R (sN (bh R bA cD bB R R (s_ (cV R R R bA bB R R R (s0 ((Wk.trans (aX [(4,.ptr 104 0)] [(1,.dead),(7,.box [.L w6.2.1,.I w6.2.2]),(104,.box [.aJ true 49 5 (List.map (aq.lt true) r2.1.aa)])]) (Wk.trans (Wk.bk 104 [.aJ true 49 5 (List.map (aq.lt true) r2.1.aa)] R R R (bO R)) (Wk.eq R R R R))))))))) (LH.wk (Wk.loose (el:=[(4,.ag [.aJ true 49 5 (List.map (aq.lt true) r2.1.aa)])]) (ml:=[(1,.dead),(7,.box [.L w6.2.1,.I w6.2.2])]) (fk:=[(4,.ag [.ak 5 (r2.1.aa.map aq.lv)])]) (dg:=[(1,.dead),(7,.box [.L w6.2.1,.I w6.2.2])]) O5 (wb (Rel.ag (eR (Rel.aJ aq.pJ (fun _=>R)) lB)) PW) (tW gY.dead (tW (gY.box (eR (Rel.ak (fun _=>Rel.int) (fun _=>R)) (eR Rel.int lB))) LD))) (LH.wk (aX [(4,.ag [.ak 5 (r2.1.aa.map aq.lv)])] [(1,.dead),(7,.box [.L w6.2.1,.I w6.2.2])]) (LH.ret ?_))))))
  obtain rfl:=oI h
  exact aS (aT Tryz.results15) (df R bA cD bB R R (bP ⟨aR (mC R (mC R mN)),R,a8 R,Sub.rfl⟩))
theorem QY {F:Nat} {p0:aN} {p1:Int} {r:aM × aN} (h:LY F p0 p1=some r):aP Tryz.prog 15 [.ptr 7 0,.I p1] (Mem.of [(7,.box [.L p0.L,.I p0.At])]) (.agg [.ak 5 (r.1.aa.map aq.lv)]) (Mem.of [(7,.box [.L r.2.L,.I r.2.At])]):=aP.Im (QZ h) rfl rfl (eR (Rel.ptr rfl) (eR Rel.int lB)) (tW (gY.box (eR (Rel.ak (fun _=>Rel.int) (fun _=>rfl)) (eR Rel.int lB))) LD) (tW (gY.box (eR (Rel.ak (fun _=>Rel.int) (fun _=>rfl)) (eR Rel.int lB))) LD) (Rel.agg (eR (Rel.ak aq.rel (fun _=>rfl)) lB))
set_option maxHeartbeats 4000000 in
theorem Jr {F:Nat} {p0:aM} {p1:Int} {p2:Int} {p3:Int} {r:List aG} (h:Dl F p0 p1 p2 p3=some r):aP Tryz.prog 17 [.agg [.ak 5 (p0.aa.map aq.lv)],.I p1,.I p2,.I p3] (Mem.of []) (.ak 2 (r.map aG.lv)) (Mem.of []):=by
  unfold Dl at h
  refine bu Tryz.func17 R (nT Tryz.ntmps17 R) (LH.wk (aX [(0,.agg [.ak 5 (p0.aa.map aq.lv)]),(1,.I p1),(2,.I p2),(3,.I p3)] []) (LH.aj [(1,.I p1),(2,.I p2),(3,.I p3),(4,.ag [.ak 5 (p0.aa.map aq.lv)])] [] R (sB (dp R R R R (kh R zS))) (LH.seq ?_)))
  obtain ⟨w2,hv,h⟩:=al h
  refine LH.aj [(1,.I p1),(2,.I p2),(3,.I p3),(4,.ag [.ak 5 (p0.aa.map aq.lv)]),(38,.bool w2)] [] R ?_ ?_
  ·refine sN (bh R bA cD bB R R ?_)
   obtain ⟨r3,nf,hv⟩:=al hv
   refine sN (dU (args:=[.agg [.ak 5 (p0.aa.map aq.lv)]]) R I2 R (aK bt) (Jv nf) R (sN (kp R (bI R ?_))))
   by_cases bJ:(!r3)=true
   ·replace hv:=aB hv bJ
    refine sF R R bJ (sF R R bJ (sN (aW (cB bJ) (v:=(.bool _)) R (bI R (sF R R R (sF R R R (sN (aW R (v:=(.bool _)) R (bI R (sF R R R (sF R R R (sN (aW R (v:=(.bool _)) R (bI R (sF R R R (sF R R R (sN (aW R (v:=(.bool _)) R (bI R (sF R R R (sF R R R (sN (aW R (v:=(.bool _)) R ?_)))))))))))))))))))))))
    obtain rfl:=oI hv
    exact zS
   ·replace bJ:=bF bJ
    replace hv:=aA hv bJ
    refine sT R (cB bJ) (oM (v:=(.int _ _)) R (sT R (cB bJ) (fi R R (sN (aV (cB bJ) (v:=(.bool _)) R (bI R ?_))))))
    by_cases bK:(decide (p1<0))=true
    ·replace hv:=aB hv bK
     refine sF R R bK (sF R R bK (sN (aW (cB bK) (v:=(.bool _)) R (bI R (sF R R R (sF R R R (sN (aW R (v:=(.bool _)) R (bI R (sF R R R (sF R R R (sN (aW R (v:=(.bool _)) R (bI R (sF R R R (sF R R R (sN (aW R (v:=(.bool _)) R ?_))))))))))))))))))
     obtain rfl:=oI hv
     exact zS
    ·replace bK:=bF bK
     replace hv:=aA hv bK
     refine sT R (cB bK) (oM (v:=(.int _ _)) R (sT R (cB bK) (iw R R (sN (aV (cB bK) (v:=(.bool _)) R (bI R ?_))))))
     by_cases b3:(decide (p1 > 1000000))=true
     ·replace hv:=aB hv b3
      refine sF R R b3 (sF R R b3 (sN (aW (cB b3) (v:=(.bool _)) R (bI R (sF R R R (sF R R R (sN (aW R (v:=(.bool _)) R (bI R (sF R R R (sF R R R (sN (aW R (v:=(.bool _)) R ?_)))))))))))))
      obtain rfl:=oI hv
      exact zS
     ·replace b3:=bF b3
      replace hv:=aA hv b3
      refine sT R (cB b3) (oM (v:=(.int _ _)) R (sT R (cB b3) (fi R R (sN (aV (cB b3) (v:=(.bool _)) R (bI R ?_))))))
      by_cases bT:(decide (p2<0))=true
      ·replace hv:=aB hv bT
       refine sF R R bT (sF R R bT (sN (aW (cB bT) (v:=(.bool _)) R (bI R (sF R R R (sF R R R (sN (aW R (v:=(.bool _)) R ?_))))))))
       obtain rfl:=oI hv
       exact zS
      ·replace bT:=bF bT
       replace hv:=aA hv bT
       refine sT R (cB bT) (oM (v:=(.int _ _)) R (sT R (cB bT) (iw R R (sN (aV (cB bT) (v:=(.bool _)) R (bI R ?_))))))
       by_cases c6:(decide (p2 > 1000000))=true
       ·replace hv:=aB hv c6
        refine sF R R c6 (sF R R c6 (sN (aW (cB c6) (v:=(.bool _)) R ?_)))
        obtain rfl:=oI hv
        exact zS
       ·replace c6:=bF c6
        replace hv:=aA hv c6
        refine sT R (cB c6) (oM (v:=(.int _ _)) R (sT R (cB c6) (fi R R (sN (aV (cB c6) (v:=(.bool _)) R ?_)))))
        obtain rfl:=oI hv
        exact zS
  clear hv
  refine LH.cond (t:=w2) R (fun sy=>?_) (fun sy=>?_)
  ·replace h:=aB h sy
   refine LH.aj [(8,.nil)] [] R (kh R zS) (LH.ret (aZ ?_))
   obtain rfl:=oI h
   exact aS (aT Tryz.results17) (bR R (bP ⟨aR mN,R,a8 R,Sub.nil⟩))
  replace h:=aA h sy
  refine LH.skip (av (LH.aj [(1,.I p1),(2,.I p2),(3,.I p3),(4,.ag [.ak 5 (p0.aa.map aq.lv)]),(9,.nil)] [] R (kh R zS) (LH.seq (LH.aj [(1,.I p1),(2,.I p2),(3,.I p3),(4,.ag [.ak 5 (p0.aa.map aq.lv)]),(9,.nil),(10,.I 0)] [] R (bo R zS) (LH.block (LH.wk ((Wk.trans (aX [(1,.I p1),(2,.I p2),(3,.I p3),(4,.ag [.ak 5 (p0.aa.map aq.lv)]),(9,.nil),(10,.I 0)] []) (Wk.trans (aX [(1,.I p1),(2,.I p2),(3,.I p3),(4,.ag [.ak 5 (p0.aa.map aq.lv)]),(9,.nil),(10,.I 0)] []) (Wk.trans (Wk.rl (fk:=[(1,.I p1),(2,.I p2),(3,.I p3),(4,.ag [.ak 5 (p0.aa.map aq.lv)]),(9,.arr 206 (List.length ([]:List aG))),(10,.I 0)]) 206 43 2 R R (wK (wK (wK (wK (wO (wK wN))))))) (aX [(1,.I p1),(2,.I p2),(3,.I p3),(4,.ag [.ak 5 (p0.aa.map aq.lv)]),(9,.arr 206 (List.length ([]:List aG))),(10,.I 0)] [(206,.arr 43 2 (List.map aG.lv ([]:List aG)))]))))) (LH.loop (fun n e m=>∃ (n10:Int) (cF:List aG),vU F p0 p1 p2 p3 n n10 cF=some r∧e=Env.of [(1,.I p1),(2,.I p2),(3,.I p3),(4,.ag [.ak 5 (p0.aa.map aq.lv)]),(9,.arr 206 cF.length),(10,.I n10)]∧m=Mem.of [(206,.arr 43 2 (cF.map aG.lv))]) F ⟨0,([]:List aG),h,R,R⟩ ?_)))))))
  clear h
  rintro n e m ⟨n10,cF,h,rfl,rfl⟩
  rcases n with _ | n
  · cases (show Option.none=some _ from h)
  obtain ⟨aH,ba⟩:∃ f,f=vU F p0 p1 p2 p3 n:=⟨_,rfl⟩
  replace h:Gq F p0 p1 p2 p3 aH n10 cF=some r:=ba ▸ h
  unfold Gq at h
  refine LH.seq (LH.aj [(1,.I p1),(2,.I p2),(3,.I p3),(4,.ag [.ak 5 (p0.aa.map aq.lv)]),(9,.arr 206 cF.length),(10,.I n10),(43,.bool (decide (n10<(p0.aa.length:Int))))] [(206,.arr 43 2 (cF.map aG.lv))] R (bl R (sN (aw ca cc dA R R R (sN (bf R cc fD (sN (bX (f:=aq.lv) dZ R (sN (fi R R zS))))))))) (LH.cond (t:=(decide (n10<(p0.aa.length:Int)))) R (fun gD=>?_) (fun gD=>?_)))
  ·replace h:=aB h gD
   refine LH.skip (av (LH.wk (aX [(1,.I p1),(2,.I p2),(3,.I p3),(4,.ag [.ak 5 (p0.aa.map aq.lv)]),(9,.arr 206 cF.length),(10,.I n10)] [(206,.arr 43 2 (cF.map aG.lv))]) (LH.seq (LH.block ?_))))
   obtain ⟨cT,lY,h⟩:=al h
   refine LH.aj [(1,.I p1),(2,.I p2),(3,.I p3),(4,.ag [.ak 5 (p0.aa.map aq.lv)]),(9,.arr 206 cF.length),(10,.I n10),(11,.ag (aq.lv cT).cells)] [(206,.arr 43 2 (cF.map aG.lv))] R (sN (aw ca cc dA R R R (sN (bf R cc fD (bl R (sN (eW (f:=aq.lv) dZ dh cK R R aq.ok lY R (sN (bh R dh js cK R R (sN (kS (id:=111) R tK R R (s_ (cV R R R dh cK R R R (s0 ((Wk.trans (aX [(1,.I p1),(2,.I p2),(3,.I p3),(4,.ag [.ak 5 (p0.aa.map aq.lv)]),(9,.arr 206 cF.length),(10,.I n10),(11,.ptr 111 0)] [(111,.box (aq.lv cT).cells),(206,.arr 43 2 (cF.map aG.lv))]) (Wk.trans (Wk.bk 111 (aq.lv cT).cells R R R (bO R)) (Wk.eq R R R R)))))))))))))))))) (LH.aj [(1,.I p1),(2,.I p2),(3,.I p3),(4,.ag [.ak 5 (p0.aa.map aq.lv)]),(9,.arr 206 cF.length),(10,.I n10),(11,.ag (aq.lv cT).cells),(12,.I 0)] [(206,.arr 43 2 (cF.map aG.lv))] R (bo R zS) (LH.seq (LH.aj [(1,.I p1),(2,.I p2),(3,.I p3),(4,.ag [.ak 5 (p0.aa.map aq.lv)]),(9,.arr 206 cF.length),(10,.I n10),(11,.ag (aq.lv cT).cells),(12,.I 0),(13,.I 0)] [(206,.arr 43 2 (cF.map aG.lv))] R (bo R zS) (LH.block (LH.loop (fun n e m=>∃ (n14:Int) (n15:Int),AL aH F p1 p2 p3 n10 cF cT n n14 n15=some r∧e=Env.of [(1,.I p1),(2,.I p2),(3,.I p3),(4,.ag [.ak 5 (p0.aa.map aq.lv)]),(9,.arr 206 cF.length),(10,.I n10),(11,.ag (aq.lv cT).cells),(12,.I n14),(13,.I n15)]∧m=Mem.of [(206,.arr 43 2 (cF.map aG.lv))]) F ⟨0,0,h,R,R⟩ ?_)))))
   clear h
   rintro n e m ⟨n14,n15,h,rfl,rfl⟩
   rcases n with _ | n
   · cases (show Option.none=some _ from h)
   obtain ⟨eH,dO⟩:∃ f,f=AL aH F p1 p2 p3 n10 cF cT n:=⟨_,rfl⟩
   replace h:Gr aH F p1 p2 p3 n10 cF cT eH n14 n15=some r:=dO ▸ h
   unfold Gr at h
   refine LH.seq (LH.aj [(1,.I p1),(2,.I p2),(3,.I p3),(4,.ag [.ak 5 (p0.aa.map aq.lv)]),(9,.arr 206 cF.length),(10,.I n10),(11,.ag (aq.lv cT).cells),(12,.I n14),(13,.I n15),(55,.bool (decide (n15<(cT.ah.length:Int))))] [(206,.arr 43 2 (cF.map aG.lv))] R (bl R (sN (aw eA eX ji R R R (sN (bf R eX nF (sN (bX (f:=LV.bool) j8 R (sN (fi R R zS))))))))) (LH.cond (t:=(decide (n15<(cT.ah.length:Int)))) R (fun gE=>?_) (fun gE=>?_)))
   ·replace h:=aB h gE
    refine LH.skip (av (LH.wk (aX [(1,.I p1),(2,.I p2),(3,.I p3),(4,.ag [.ak 5 (p0.aa.map aq.lv)]),(9,.arr 206 cF.length),(10,.I n10),(11,.ag (aq.lv cT).cells),(12,.I n14),(13,.I n15)] [(206,.arr 43 2 (cF.map aG.lv))]) (LH.seq (LH.block ?_))))
    obtain ⟨nK,uc,h⟩:=al h
    refine LH.aj [(1,.I p1),(2,.I p2),(3,.I p3),(4,.ag [.ak 5 (p0.aa.map aq.lv)]),(9,.arr 206 cF.length),(10,.I n10),(11,.ag (aq.lv cT).cells),(12,.I n14),(13,.I n15),(62,.bool nK)] [(206,.arr 43 2 (cF.map aG.lv))] R (sN (aw eA eX ji R R R (sN (bf R eX nF (bl R (sN (eW (f:=LV.bool) j8 ka lQ R R okB uc R (sN (bf R ka wm zS))))))))) (LH.cond (t:=nK) R (fun iB=>?_) (fun iB=>?_))
    ·replace h:=aB h iB
     refine LH.aQ [(1,.I p1),(2,.I p2),(3,.I p3),(4,.ag [.ak 5 (p0.aa.map aq.lv)]),(9,.arr 206 cF.length),(10,.I n10),(11,.ag (aq.lv cT).cells),(12,.I (i64 (n15+1))),(13,.I n15)] [(206,.arr 43 2 (cF.map aG.lv))] R (bl R (sN (cr R R (bo R zS)))) (aY (av (LH.aQ [(1,.I p1),(2,.I p2),(3,.I p3),(4,.ag [.ak 5 (p0.aa.map aq.lv)]),(9,.arr 206 cF.length),(10,.I n10),(11,.ag (aq.lv cT).cells),(12,.I (i64 (n15+1))),(13,.I (i64 (n15+1)))] [(206,.arr 43 2 (cF.map aG.lv))] R (bl R (sN (cr R R (bo R zS)))) ?_)))
     exact bg ⟨(i64 (n15+1)),(i64 (n15+1)),dO ▸ h,R,R⟩ (Wk.eq R R R R)
    replace h:=aA h iB
    refine LH.skip (aY (av (LH.aQ [(1,.I p1),(2,.I p2),(3,.I p3),(4,.ag [.ak 5 (p0.aa.map aq.lv)]),(9,.arr 206 cF.length),(10,.I n10),(11,.ag (aq.lv cT).cells),(12,.I n14),(13,.I (i64 (n15+1)))] [(206,.arr 43 2 (cF.map aG.lv))] R (bl R (sN (cr R R (bo R zS)))) ?_)))
    exact bg ⟨n14,(i64 (n15+1)),dO ▸ h,R,R⟩ (Wk.eq R R R R)
   replace h:=aA h gE
   refine LH.exit (cv (bY (bM (av (LH.aj [(1,.I p1),(2,.I p2),(3,.I p3),(4,.ag [.ak 5 (p0.aa.map aq.lv)]),(9,.arr 206 cF.length),(10,.I n10),(11,.ag (aq.lv cT).cells),(12,.I n14),(14,.bool ((!cT.ab) && ((decide (n14 > 0)) && (decide ((cT.Uses.length:Int)≤p3)))))] [(206,.arr 43 2 (cF.map aG.lv))] R ?_ ?_)))))
   ·refine sN (aw ju ka lQ R R R (sN (bf R ka wm (sN (kp R (bI R ?_))))))
    by_cases kj:(!cT.ab)=true
    ·refine sT R (cB kj) (oM (v:=(.int _ _)) R (sT R (cB kj) (iw R R (sN (aW (cB kj) (v:=(.bool _)) R (bI R ?_))))))
     by_cases nB:(decide (n14 > 0))=true
     ·exact sT R (cB nB) (aw ej eu jj R R R (sT R (cB nB) (bf R eu lj (sT R (cB nB) (bX (f:=az.lv) jt R (sT R (cB nB) (oM (v:=(.int _ _)) R (sT R (cB nB) (FJ R R (sN (aW (cB nB) (v:=(.bool _)) R (cm R (s0 (Wk.to (eC R (eC R (eC R (eC R (eC R (eC R (eC R (eC R (eC (cB (Eq.trans (dv nB) (dv kj))) eN))))))))) ⟨R,trivial⟩ R (a8 R)))))))))))))))
     ·replace nB:=bF nB
      exact sF R R nB (sF R R nB (sF R R nB (sF R R nB (sF R R nB (sN (aV (cB nB) (v:=(.bool _)) R (cm R (s0 (Wk.to (eC R (eC R (eC R (eC R (eC R (eC R (eC R (eC R (eC (cB (Eq.trans (jA nB) (dv kj))) eN))))))))) ⟨R,trivial⟩ R (a8 R))))))))))
    ·replace kj:=bF kj
     exact sF R R kj (sF R R kj (sN (aV (cB kj) (v:=(.bool _)) R (bI R (sF R R R (sF R R R (sF R R R (sF R R R (sF R R R (sN (aV R (v:=(.bool _)) R (cm R (s0 (Wk.to (eC R (eC R (eC R (eC R (eC R (eC R (eC R (eC R (eC (cB (jA kj)) eN))))))))) ⟨R,trivial⟩ R (a8 R)))))))))))))))
   refine LH.seq (LH.aj [(1,.I p1),(2,.I p2),(3,.I p3),(4,.ag [.ak 5 (p0.aa.map aq.lv)]),(9,.arr 206 cF.length),(10,.I n10),(11,.ag (aq.lv cT).cells),(12,.I n14),(14,.bool ((!cT.ab) && ((decide (n14 > 0)) && (decide ((cT.Uses.length:Int)≤p3))))),(15,.I 0)] [(206,.arr 43 2 (cF.map aG.lv))] R (bo R zS) (LH.block (LH.loop (fun n e m=>∃ (DG:Bool) (n23:Int),yu aH p1 p2 n10 cF cT n14 n DG n23=some r∧e=Env.of [(1,.I p1),(2,.I p2),(3,.I p3),(4,.ag [.ak 5 (p0.aa.map aq.lv)]),(9,.arr 206 cF.length),(10,.I n10),(11,.ag (aq.lv cT).cells),(12,.I n14),(14,.bool DG),(15,.I n23)]∧m=Mem.of [(206,.arr 43 2 (cF.map aG.lv))]) F ⟨((!cT.ab) && ((decide (n14 > 0)) && (decide ((cT.Uses.length:Int)≤p3)))),0,h,R,R⟩ ?_)))
   clear h
   rintro n e m ⟨DG,n23,h,rfl,rfl⟩
   rcases n with _ | n
   · cases (show Option.none=some _ from h)
   obtain ⟨oN,mw⟩:∃ f,f=yu aH p1 p2 n10 cF cT n14 n:=⟨_,rfl⟩
   replace h:Gs aH p1 p2 n10 cF cT n14 oN DG n23=some r:=mw ▸ h
   unfold Gs at h
   refine LH.seq (LH.aj [(1,.I p1),(2,.I p2),(3,.I p3),(4,.ag [.ak 5 (p0.aa.map aq.lv)]),(9,.arr 206 cF.length),(10,.I n10),(11,.ag (aq.lv cT).cells),(12,.I n14),(14,.bool DG),(15,.I n23),(83,.bool (decide (n23<(cT.Uses.length:Int))))] [(206,.arr 43 2 (cF.map aG.lv))] R (bl R (sN (aw ej eu jj R R R (sN (bf R eu lj (sN (bX (f:=az.lv) jt R (sN (fi R R zS))))))))) (LH.cond (t:=(decide (n23<(cT.Uses.length:Int)))) R (fun sx=>?_) (fun sx=>?_)))
   ·replace h:=aB h sx
    refine LH.skip (av (LH.wk (aX [(1,.I p1),(2,.I p2),(3,.I p3),(4,.ag [.ak 5 (p0.aa.map aq.lv)]),(9,.arr 206 cF.length),(10,.I n10),(11,.ag (aq.lv cT).cells),(12,.I n14),(14,.bool DG),(15,.I n23)] [(206,.arr 43 2 (cF.map aG.lv))]) (LH.seq (LH.block ?_))))
    obtain ⟨Qh,hv,h⟩:=al h
    refine LH.aQ [(1,.I p1),(2,.I p2),(3,.I p3),(4,.ag [.ak 5 (p0.aa.map aq.lv)]),(9,.arr 206 cF.length),(10,.I n10),(11,.ag (aq.lv cT).cells),(12,.I n14),(14,.bool Qh),(15,.I n23)] [(206,.arr 43 2 (cF.map aG.lv))] R ?_ ?_
    ·refine bI R (bI R ?_)
     by_cases dQ:DG=true
     ·replace hv:=aB hv dQ
      refine sT R (cB dQ) (aw ej eu jj R R R (sT R (cB dQ) (bf R eu lj (sT R (cB dQ) (oM (v:=(.int _ _)) R ?_)))))
      obtain ⟨LX,CL,hv⟩:=al hv
      refine sT R (cB dQ) (eW (f:=az.lv) jt wy nI R R az.ok CL R (sT R (cB dQ) (aw wx aE bb R R R (sT R (cB dQ) (bf R aE bN (sT R (cB dQ) (oM (v:=(.int _ _)) R (sT R (cB dQ) (oM (v:=(.int _ _)) R (sT R (cB dQ) (iG R R (sT R (cB dQ) (FJ R R (sN (aW (cB dQ) (v:=(.bool _)) R (cm R ?_))))))))))))))))
      obtain rfl:=oI hv
      exact zS
     ·replace dQ:=bF dQ
      replace hv:=aA hv dQ
      refine sF R R dQ (sF R R dQ (sF R R dQ (sF R R dQ (sF R R dQ (sF R R dQ (sF R R dQ (sF R R dQ (sF R R dQ (sF R R dQ (sN (aV (cB dQ) (v:=(.bool _)) R (cm R ?_))))))))))))
      obtain rfl:=oI hv
      exact zS
    clear hv
    refine aY (av (LH.aQ [(1,.I p1),(2,.I p2),(3,.I p3),(4,.ag [.ak 5 (p0.aa.map aq.lv)]),(9,.arr 206 cF.length),(10,.I n10),(11,.ag (aq.lv cT).cells),(12,.I n14),(14,.bool Qh),(15,.I (i64 (n23+1)))] [(206,.arr 43 2 (cF.map aG.lv))] R (bl R (sN (cr R R (bo R zS)))) ?_))
    exact bg ⟨Qh,(i64 (n23+1)),mw ▸ h,R,R⟩ (Wk.eq R R R R)
   replace h:=aA h sx
   refine LH.exit (cv (bY (bM (av (LH.aj [(1,.I p1),(2,.I p2),(3,.I p3),(4,.ag [.ak 5 (p0.aa.map aq.lv)]),(9,.arr 206 cF.length),(10,.I n10),(11,.ag (aq.lv cT).cells),(12,.I n14),(99,.bool DG)] [(206,.arr 43 2 (cF.map aG.lv))] R (bI R zS) (LH.cond (t:=DG) R (fun zX=>?_) (fun zX=>?_)))))))
   ·replace h:=aB h zX
    obtain ⟨v30,Sz,h⟩:=al h
    refine LH.aQ [(1,.I p1),(2,.I p2),(3,.I p3),(4,.ag [.ak 5 (p0.aa.map aq.lv)]),(9,.arr 206 v30.length),(10,.I n10)] [(206,.arr 43 2 (v30.map aG.lv))] R (j5 R (sN (aw fY aE bb R R R (sN (bf R aE bN (bl R (sN (gB (vs:=[(0,.I cT.ID),(1,.I n14)]) A5 A6 R (lf iN bb aE R R R (lf eS bb aE R R R gA)) (sN (jI (f:=aG.lv) (ys:=[(aG.mk cT.ID n14)]) mI Ii eJ R R R aG.ok (sN (my (f:=aG.lv) mI Ii eJ R R (bO R) R Sz (nE R zS))))))))))))) (aY (av (LH.aQ [(1,.I p1),(2,.I p2),(3,.I p3),(4,.ag [.ak 5 (p0.aa.map aq.lv)]),(9,.arr 206 v30.length),(10,.I (i64 (n10+1)))] [(206,.arr 43 2 (v30.map aG.lv))] R (bl R (sN (cr R R (bo R zS)))) ?_)))
    exact bg ⟨(i64 (n10+1)),v30,ba ▸ h,R,R⟩ (Wk.eq R R R R)
   replace h:=aA h zX
   refine LH.skip (aY (av (LH.aQ [(1,.I p1),(2,.I p2),(3,.I p3),(4,.ag [.ak 5 (p0.aa.map aq.lv)]),(9,.arr 206 cF.length),(10,.I (i64 (n10+1)))] [(206,.arr 43 2 (cF.map aG.lv))] R (bl R (sN (cr R R (bo R zS)))) ?_)))
   exact bg ⟨(i64 (n10+1)),cF,ba ▸ h,R,R⟩ (Wk.eq R R R R)
  replace h:=aA h gD
  refine LH.exit (cv (bY (bM (av (LH.wk ((Wk.trans (aX [(9,.arr 206 cF.length)] [(206,.arr 43 2 (cF.map aG.lv))]) (Wk.trans (Wk.kL (f:=aG.lv) (fk:=[(9,.ak 2 (cF.map aG.lv))]) 206 43 2 cF R R (bO R) (fZ fN)) (aX [(9,.ak 2 (cF.map aG.lv))] [])))) (LH.aj [(8,.ak 2 (cF.map aG.lv))] [] R (eZ R (qb R zS)) (LH.ret ?_)))))))
  obtain rfl:=oI h
  exact aS (aT Tryz.results17) (bR R (bP ⟨aR mN,R,a8 R,Sub.rfl⟩))
theorem Us {F:Nat} {p0:List Int} {p1:Int} {p2:Int} {p3:Int} {r:Bool} (h:BQ F p0 p1 p2 p3=some r):aP Tryz.prog 4 [.L p0,.I p1,.I p2,.I p3] (Mem.of []) (.bool r) (Mem.of []):=by
  unfold BQ at h
  refine bu Tryz.func4 R (nT Tryz.ntmps4 R) (LH.wk (aX [(0,.L p0),(1,.I p1),(2,.I p2),(3,.I p3)] []) (LH.aj [(0,.L p0),(1,.I p1),(2,.I p2),(3,.I p3)] [] R (cm R zS) ?_))
  obtain ⟨r1,ec,h⟩:=al h
  obtain ⟨r2,fz,h⟩:=al h
  refine LH.aj [(1,.I p1),(2,.I p2),(3,.I p3),(9,.ag [.ak 5 (r2.1.aa.map aq.lv)])] [] R (eZ R (sN (fa (args:=[.L p0]) (ml:=[]) (dg:=[(7,.box [.L r1.L,.I r1.At])]) R SZ R (aK bt) (PT ec) mN (O0 R cw) R (sN (fa (args:=[.ptr 7 0,.I 8]) (ml:=[(7,.box [.L r1.L,.I r1.At])]) (dg:=[(7,.box [.L r2.2.L,.I r2.2.At])]) R NZ R (aK (aK bt)) (QY fz) (mC R mN) (b8 R cw) R (sN (kS (id:=109) R fF R R (s_ (cV R R R bA bB R R R (s0 ((Wk.trans (aX [(1,.I p1),(2,.I p2),(3,.I p3),(9,.ptr 109 0)] [(109,.box [.ak 5 (r2.1.aa.map aq.lv)])]) (Wk.trans (Wk.bk 109 [.ak 5 (r2.1.aa.map aq.lv)] R R R (bO R)) (Wk.eq R R R R)))))))))))))) ?_
  obtain ⟨r3,nf,h⟩:=al h
  obtain ⟨r4,CI,h⟩:=al h
  refine LH.c7 mixed [] [0,0,0,0,0,0,0,0,0,0,0,0] [(1,.I p1),(2,.I p2),(3,.I p3),(9,.ag [.ak 5 (r2.1.aa.map aq.lv)]),(10,.ak 2 (r3.map aG.lv)),(11,.ak 2 (r4.map aG.lv))] [] R R (by kernel_rfl) (aF (bh R bA cD bB R R ⟨R,eV R (eV R (eV R (aF (dU (args:=[.agg [.ak 5 (r2.1.aa.map aq.lv)],.I p1,.I p2,.I p3]) R BC R (aK (aK (aK (aK bt)))) (BS nf) R ⟨R,aF (bh R bA cD bB R R ⟨R,eV R (eV R (eV R (aF (dU (args:=[.agg [.ak 5 (r2.1.aa.map aq.lv)],.I p1,.I p2,.I p3]) R I0 R (aK (aK (aK (aK bt)))) (Jr CI) R ⟨R,QL R (QL R zM)⟩))))⟩)⟩))))⟩)) ?_
  obtain ⟨r5,CJ,h⟩:=al h
  obtain ⟨r6,KK,h⟩:=al h
  obtain ⟨r7,Al,h⟩:=al h
  obtain ⟨r8,KM,h⟩:=al h
  obtain ⟨r9,CK,h⟩:=al h
  obtain ⟨dG,p5,h⟩:=al h
  obtain ⟨cJ,lz,h⟩:=al h
  obtain ⟨cI,Aj,h⟩:=al h
  refine LH.c7 mixed [] [0,0,0,0,0,0,0,0,0,0,0,0,0,0,0,0,0,0] [(10,.ak 2 (r3.map aG.lv)),(11,.ak 2 (r4.map aG.lv)),(12,.ak 2 (r8.map aG.lv)),(13,.ak 2 (cI.map aG.lv))] [] R R (by kernel_rfl) ?_ ?_
  ·exact aF (bh R bA cD bB R R ⟨R,eV R (aF (dU (args:=[.I p1,.I 40]) R sM R (aK (aK bt)) (tm CJ) R ⟨R,eV R (aF (dU (args:=[.I p2,.I 30]) R sM R (aK (aK bt)) (tm KK) R ⟨R,eV R (aF (dU (args:=[.I p3,.I 5]) R sM R (aK (aK bt)) (tm Al) R ⟨R,aF (dU (args:=[.agg [.ak 5 (r2.1.aa.map aq.lv)],.I r5,.I r6,.I r7]) R BC R (aK (aK (aK (aK bt)))) (BS KM) R ⟨R,aF (bh R bA cD bB R R ⟨R,eV R (aF (dU (args:=[.I p1,.I 40]) R sM R (aK (aK bt)) (tm CK) R ⟨R,eV R (aF (dU (args:=[.I p2,.I 30]) R sM R (aK (aK bt)) (tm p5) R ⟨R,eV R (aF (dU (args:=[.I p3,.I 5]) R sM R (aK (aK bt)) (tm lz) R ⟨R,aF (dU (args:=[.agg [.ak 5 (r2.1.aa.map aq.lv)],.I r9,.I dG,.I cJ]) R I0 R (aK (aK (aK (aK bt)))) (Jr Aj) R ⟨R,QL R (QL R zM)⟩)⟩))⟩))⟩))⟩)⟩)⟩))⟩))⟩))⟩)
  refine LH.seq (LH.aj [(10,.ak 2 (r3.map aG.lv)),(11,.ak 2 (r4.map aG.lv)),(12,.ak 2 (r8.map aG.lv)),(13,.ak 2 (cI.map aG.lv)),(56,.bool (((r3.length:Int) != (r4.length:Int)) || ((r8.length:Int) != (cI.length:Int))))] [] R ?_ ?_)
  ·refine eZ R (sN (bX (f:=aG.lv) mI R (eZ R (sN (bX (f:=aG.lv) mI R (sN (kg R R (bI R ?_))))))))
   by_cases cC:((r3.length:Int) != (r4.length:Int))=true
   ·exact sF R R cC (sF R R cC (sF R R cC (sF R R cC (sF R R cC (sN (aW (cB cC) (v:=(.bool _)) R (s0 (Wk.to (eC R (eC R (eC R (eC R (eC (cB (p7 cC)) eN))))) mN R (a8 R)))))))))
   ·replace cC:=bF cC
    exact sT R (cB cC) (oM (v:=(.ak _ _)) R (sT R (cB cC) (bX (f:=aG.lv) mI R (sT R (cB cC) (oM (v:=(.ak _ _)) R (sT R (cB cC) (bX (f:=aG.lv) mI R (sT R (cB cC) (kg R R (sN (aV (cB cC) (v:=(.bool _)) R (s0 (Wk.to (eC R (eC R (eC R (eC R (eC (cB (iJ cC)) eN))))) mN R (a8 R))))))))))))))
  refine LH.cond (t:=(((r3.length:Int) != (r4.length:Int)) || ((r8.length:Int) != (cI.length:Int)))) R (fun ja=>?_) (fun ja=>?_)
  ·replace h:=aB h ja
   refine LH.aj [(8,.bool false)] [] R (cm R zS) (LH.ret (aZ ?_))
   obtain rfl:=oI h
   exact aS (aT Tryz.results4) (bR R (bP ⟨aR mN,R,a8 R,Sub.rfl⟩))
  replace h:=aA h ja
  refine LH.skip (av (LH.wk (aX [(10,.ak 2 (r3.map aG.lv)),(11,.ak 2 (r4.map aG.lv)),(12,.ak 2 (r8.map aG.lv)),(13,.ak 2 (cI.map aG.lv))] []) (LH.seq (LH.aj [(10,.ak 2 (r3.map aG.lv)),(11,.ak 2 (r4.map aG.lv)),(12,.ak 2 (r8.map aG.lv)),(13,.ak 2 (cI.map aG.lv)),(14,.I 0)] [] R (bo R zS) (LH.block (LH.loop (fun n e m=>∃ (n16:Int),C4 F r3 r4 r8 cI n n16=some r∧e=Env.of [(10,.ak 2 (r3.map aG.lv)),(11,.ak 2 (r4.map aG.lv)),(12,.ak 2 (r8.map aG.lv)),(13,.ak 2 (cI.map aG.lv)),(14,.I n16)]∧m=Mem.of []) F ⟨0,h,R,R⟩ ?_))))))
  clear h
  rintro n e m ⟨n16,h,rfl,rfl⟩
  rcases n with _ | n
  · cases (show Option.none=some _ from h)
  obtain ⟨aH,ba⟩:∃ f,f=C4 F r3 r4 r8 cI n:=⟨_,rfl⟩
  replace h:F9 F r3 r4 r8 cI aH n16=some r:=ba ▸ h
  unfold F9 at h
  refine LH.seq (LH.aj [(10,.ak 2 (r3.map aG.lv)),(11,.ak 2 (r4.map aG.lv)),(12,.ak 2 (r8.map aG.lv)),(13,.ak 2 (cI.map aG.lv)),(14,.I n16),(60,.bool (decide (n16<(r3.length:Int))))] [] R (bl R (eZ R (sN (bX (f:=aG.lv) mI R (sN (fi R R zS)))))) (LH.cond (t:=(decide (n16<(r3.length:Int)))) R (fun lr=>?_) (fun lr=>?_)))
  ·replace h:=aB h lr
   refine LH.skip (av (LH.wk (aX [(10,.ak 2 (r3.map aG.lv)),(11,.ak 2 (r4.map aG.lv)),(12,.ak 2 (r8.map aG.lv)),(13,.ak 2 (cI.map aG.lv)),(14,.I n16)] []) (LH.seq (LH.block ?_))))
   obtain ⟨Bc,Fl,h⟩:=al h
   obtain ⟨zx,Fm,h⟩:=al h
   refine LH.c7 mixed [] [0,0,0,0,0,0,0,0,0] [(10,.ak 2 (r3.map aG.lv)),(11,.ak 2 (r4.map aG.lv)),(12,.ak 2 (r8.map aG.lv)),(13,.ak 2 (cI.map aG.lv)),(14,.I n16),(71,.bool (!(decide (Bc=zx))))] [] R R (by kernel_rfl) (pO R (eV R (aF (eW (f:=aG.lv) mI fg eJ R R aG.ok Fl R ⟨R,aF (bh R fg qf eJ R R ⟨R,pO R (eV R (aF (eW (f:=aG.lv) mI fg eJ R R aG.ok Fm R ⟨R,aF (bh R fg qf eJ R R ⟨R,aF (FM R R (Eg Bc zx) ⟨R,zM⟩)⟩)⟩)))⟩)⟩)))) (LH.cond (t:=(!(decide (Bc=zx)))) R (fun jb=>?_) (fun jb=>?_))
   ·replace h:=aB h jb
    refine LH.aj [(8,.bool false)] [] R (cm R zS) (LH.ret (bL (aZ (dY (bL (aZ ?_))))))
    obtain rfl:=oI h
    exact aS (aT Tryz.results4) (bR R (bP ⟨aR mN,R,a8 R,Sub.rfl⟩))
   replace h:=aA h jb
   refine LH.skip (aY (av (LH.aQ [(10,.ak 2 (r3.map aG.lv)),(11,.ak 2 (r4.map aG.lv)),(12,.ak 2 (r8.map aG.lv)),(13,.ak 2 (cI.map aG.lv)),(14,.I (i64 (n16+1)))] [] R (bl R (sN (cr R R (bo R zS)))) ?_)))
   exact bg ⟨(i64 (n16+1)),ba ▸ h,R,R⟩ (Wk.eq R R R R)
  replace h:=aA h lr
  refine LH.exit (cv (bY (bM (av (LH.wk (aX [(12,.ak 2 (r8.map aG.lv)),(13,.ak 2 (cI.map aG.lv))] []) (LH.seq (LH.aj [(12,.ak 2 (r8.map aG.lv)),(13,.ak 2 (cI.map aG.lv)),(15,.I 0)] [] R (bo R zS) (LH.block (LH.loop (fun n e m=>∃ (n21:Int),C5 F r8 cI n n21=some r∧e=Env.of [(12,.ak 2 (r8.map aG.lv)),(13,.ak 2 (cI.map aG.lv)),(15,.I n21)]∧m=Mem.of []) F ⟨0,h,R,R⟩ ?_)))))))))
  clear h
  rintro n e m ⟨n21,h,rfl,rfl⟩
  rcases n with _ | n
  · cases (show Option.none=some _ from h)
  obtain ⟨eH,dO⟩:∃ f,f=C5 F r8 cI n:=⟨_,rfl⟩
  replace h:Ga F r8 cI eH n21=some r:=dO ▸ h
  unfold Ga at h
  refine LH.seq (LH.aj [(12,.ak 2 (r8.map aG.lv)),(13,.ak 2 (cI.map aG.lv)),(15,.I n21),(75,.bool (decide (n21<(r8.length:Int))))] [] R (bl R (eZ R (sN (bX (f:=aG.lv) mI R (sN (fi R R zS)))))) (LH.cond (t:=(decide (n21<(r8.length:Int)))) R (fun lu=>?_) (fun lu=>?_)))
  ·replace h:=aB h lu
   refine LH.skip (av (LH.wk (aX [(12,.ak 2 (r8.map aG.lv)),(13,.ak 2 (cI.map aG.lv)),(15,.I n21)] []) (LH.seq (LH.block ?_))))
   obtain ⟨Qj,SJ,h⟩:=al h
   obtain ⟨Iu,K1,h⟩:=al h
   refine LH.c7 mixed [] [0,0,0,0,0,0,0,0,0] [(12,.ak 2 (r8.map aG.lv)),(13,.ak 2 (cI.map aG.lv)),(15,.I n21),(86,.bool (!(decide (Qj=Iu))))] [] R R (by kernel_rfl) (pO R (eV R (aF (eW (f:=aG.lv) mI fg eJ R R aG.ok SJ R ⟨R,aF (bh R fg qf eJ R R ⟨R,pO R (eV R (aF (eW (f:=aG.lv) mI fg eJ R R aG.ok K1 R ⟨R,aF (bh R fg qf eJ R R ⟨R,aF (FM R R (Eg Qj Iu) ⟨R,zM⟩)⟩)⟩)))⟩)⟩)))) (LH.cond (t:=(!(decide (Qj=Iu)))) R (fun Cs=>?_) (fun Cs=>?_))
   ·replace h:=aB h Cs
    refine LH.aj [(8,.bool false)] [] R (cm R zS) (LH.ret (bL (aZ (dY (bL (aZ ?_))))))
    obtain rfl:=oI h
    exact aS (aT Tryz.results4) (bR R (bP ⟨aR mN,R,a8 R,Sub.rfl⟩))
   replace h:=aA h Cs
   refine LH.skip (aY (av (LH.aQ [(12,.ak 2 (r8.map aG.lv)),(13,.ak 2 (cI.map aG.lv)),(15,.I (i64 (n21+1)))] [] R (bl R (sN (cr R R (bo R zS)))) ?_)))
   exact bg ⟨(i64 (n21+1)),dO ▸ h,R,R⟩ (Wk.eq R R R R)
  replace h:=aA h lu
  refine LH.exit (cv (bY (bM (av ?_))))
  obtain ⟨pH,KG,h⟩:=al h
  refine LH.aj [(8,.bool pH)] [] R (sN (dU (args:=[]) R NY R bt (PE KG) R (cm R zS))) (LH.ret ?_)
  obtain rfl:=oI h
  exact aS (aT Tryz.results4) (bR R (bP ⟨aR mN,R,a8 R,Sub.rfl⟩))
end Go.Proofs.YtmollikhdbaikaaGreat
