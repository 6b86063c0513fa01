import Derived.Test.YtmollikhdbaikaaGreatZW3
set_option linter.unusedVariables false
set_option linter.unusedSimpArgs false
set_option maxRecDepth 100000
set_option maxHeartbeats 1000000
namespace Go.Proofs.YtmollikhdbaikaaGreat
open Go.L Go.Sh
theorem xW {F:Nat} {p0:aM} {p1:Int} {r:Int} (h:vW F p0 p1=some r):aP Tryz.prog 40 [.agg [.ak 5 (p0.aa.map aq.lv)],.I p1] (Mem.of []) (.I r) (Mem.of []):=by
  unfold vW at h
  refine bu Tryz.func40 R (nT Tryz.ntmps40 R) (LH.wk (aX [(0,.agg [.ak 5 (p0.aa.map aq.lv)]),(1,.I p1)] []) (LH.aj [(1,.I p1),(2,.ag [.ak 5 (p0.aa.map aq.lv)])] [] R (sB (dp R R R R (bo R zS))) (LH.seq (LH.aj [(1,.I p1),(2,.ag [.ak 5 (p0.aa.map aq.lv)]),(5,.I 0)] [] R (bo R zS) (LH.block (LH.loop (fun n e m=>∃ (n1:Int),Dm p0 p1 n n1=some r∧e=Env.of [(1,.I p1),(2,.ag [.ak 5 (p0.aa.map aq.lv)]),(5,.I n1)]∧m=Mem.of []) F ⟨0,h,R,R⟩ ?_))))))
  clear h
  rintro n e m ⟨n1,h,rfl,rfl⟩
  rcases n with _ | n
  · cases (show Option.none=some _ from h)
  obtain ⟨aH,ba⟩:∃ f,f=Dm p0 p1 n:=⟨_,rfl⟩
  replace h:xK p0 p1 aH n1=some r:=ba ▸ h
  unfold xK at h
  refine LH.seq (LH.aj [(1,.I p1),(2,.ag [.ak 5 (p0.aa.map aq.lv)]),(5,.I n1),(10,.bool (decide (n1<(p0.aa.length:Int))))] [] R (bl R (sN (aw ca cc dA R R R (sN (bf R cc fD (sN (bX (f:=aq.lv) dZ R (sN (fi R R zS))))))))) (LH.cond (t:=(decide (n1<(p0.aa.length:Int)))) R (fun fJ=>?_) (fun fJ=>?_)))
  ·replace h:=aB h fJ
   refine LH.skip (av (LH.wk (aX [(1,.I p1),(2,.ag [.ak 5 (p0.aa.map aq.lv)]),(5,.I n1)] []) (LH.seq (LH.block ?_))))
   obtain ⟨x3,fR,h⟩:=al h
   refine LH.aj [(1,.I p1),(2,.ag [.ak 5 (p0.aa.map aq.lv)]),(5,.I n1),(20,.bool (x3.ID == p1))] [] R (sN (aw ca cc dA R R R (sN (bf R cc fD (bl R (sN (eW (f:=aq.lv) dZ dh cK R R aq.ok fR R (sN (aw fY aE bb R R R (sN (bf R aE bN (bl R (sN (gm R R zS)))))))))))))) (LH.cond (t:=(x3.ID == p1)) R (fun jW=>?_) (fun jW=>?_))
   ·replace h:=aB h jW
    refine LH.aj [(4,.I n1)] [] R (bl R (bo R zS)) (LH.ret (bL (aZ (dY (bL (aZ ?_))))))
    obtain rfl:=oI h
    exact aS (aT Tryz.results40) (bR R (bP ⟨aR mN,R,a8 R,Sub.rfl⟩))
   replace h:=aA h jW
   refine LH.skip (aY (av (LH.aQ [(1,.I p1),(2,.ag [.ak 5 (p0.aa.map aq.lv)]),(5,.I (i64 (n1+1)))] [] R (bl R (sN (cr R R (bo R zS)))) ?_)))
   exact bg ⟨(i64 (n1+1)),ba ▸ h,R,R⟩ (Wk.eq R R R R)
  replace h:=aA h fJ
  refine LH.exit (cv (bY (bM (av (LH.aj [(4,.I (-1))] [] R (bo R zS) (LH.ret ?_))))))
  obtain rfl:=oI h
  exact aS (aT Tryz.results40) (bR R (bP ⟨aR mN,R,a8 R,Sub.rfl⟩))
theorem ao.rel {q:Bool} (z:ao):Rel q (ao.lv z) (ao.lv z):=Rel.agg (eR Rel.int (eR Rel.int (eR Rel.int (eR Rel.int (eR Rel.int (eR Rel.int lB))))))
theorem ai.rel {q:Bool} (z:ai):Rel q (ai.lv z) (ai.lv z):=Rel.agg (eR Rel.int (eR Rel.int (eR Rel.str (eR (Rel.ak ao.rel (fun _=>rfl)) (eR (Rel.ak (fun _=>Rel.int) (fun _=>rfl)) lB)))))
theorem az.rel {q:Bool} (z:az):Rel q (az.lv z) (az.lv z):=Rel.agg (eR Rel.int (eR Rel.int (eR Rel.int lB)))
theorem aq.rel {q:Bool} (z:aq):Rel q (aq.lv z) (aq.lv z):=Rel.agg (eR Rel.int (eR (Rel.ak ai.rel (fun _=>rfl)) (eR (Rel.ak (fun _=>Rel.bool) (fun _=>rfl)) (eR (Rel.ak az.rel (fun _=>rfl)) (eR Rel.bool lB)))))
def aq.lt (T:Bool) (x:aq):LV:=.agg [.I x.ID,.ak 5 (x.ae.map ai.lv),.aJ T 4 1 (x.ah.map LV.bool),.aJ T 88 3 (x.Uses.map az.lv),.bool x.ab]
theorem aq.BN {T:Bool}:pU 5 (aq.lt T):=fun _=>⟨rfl,rfl,rfl⟩
theorem aq.pJ {T:Bool} (x:aq):Rel true (aq.lt T x) (aq.lv x):=Rel.agg (eR Rel.int (eR (Rel.ak ai.rel (fun _=>rfl)) (eR (Rel.aJ (fun _=>Rel.bool) (fun _=>rfl)) (eR (Rel.aJ az.rel (fun _=>rfl)) (eR Rel.bool lB)))))
theorem xY {T:Bool} {F:Nat} {p0:aM} {p1:aq} {r:aM} (h:ui F p0 p1=some r):aP Tryz.prog 71 [.agg [.aJ T 49 5 (List.map (aq.lt T) p0.aa)],.agg [.I p1.ID,.ak 5 (p1.ae.map ai.lv),.aJ T 4 1 (p1.ah.map LV.bool),.aJ T 88 3 (p1.Uses.map az.lv),.bool p1.ab]] (Mem.of []) (.agg [.aJ T 49 5 (List.map (aq.lt T) r.aa)]) (Mem.of []):=by
  unfold ui at h
  refine bu Tryz.func71 R (nT Tryz.ntmps71 R) (LH.wk (aX [(0,.agg [.aJ T 49 5 (List.map (aq.lt T) p0.aa)]),(1,.agg [.I p1.ID,.ak 5 (p1.ae.map ai.lv),.aJ T 4 1 (p1.ah.map LV.bool),.aJ T 88 3 (p1.Uses.map az.lv),.bool p1.ab])] []) (LH.aj [(2,.ag [.aJ T 49 5 (List.map (aq.lt T) p0.aa)]),(3,.ag [.I p1.ID,.ak 5 (p1.ae.map ai.lv),.aJ T 4 1 (p1.ah.map LV.bool),.aJ T 88 3 (p1.Uses.map az.lv),.bool p1.ab]),(4,.ptr 104 0)] [(104,.box [.nil])] R (sB (dp R R R R (sB (dp R R R R (sN (kS (id:=104) R fF R R zS)))))) (LH.aj [(2,.ag [.aJ T 49 5 (List.map (aq.lt T) p0.aa)]),(3,.ag [.I p1.ID,.ak 5 (p1.ae.map ai.lv),.aJ T 4 1 (p1.ah.map LV.bool),.aJ T 88 3 (p1.Uses.map az.lv),.bool p1.ab]),(4,.ptr 104 0),(5,.ptr 105 0)] [(104,.box [.nil]),(105,.box [.nil])] R (sN (kS (id:=105) R fF R R zS)) (LH.aj [(2,.ag [.aJ T 49 5 (List.map (aq.lt T) p0.aa)]),(3,.ag [.I p1.ID,.ak 5 (p1.ae.map ai.lv),.aJ T 4 1 (p1.ah.map LV.bool),.aJ T 88 3 (p1.Uses.map az.lv),.bool p1.ab]),(4,.ptr 104 0),(5,.ptr 105 0),(6,.bool false)] [(104,.box [.nil]),(105,.box [.nil])] R (cm R zS) (LH.seq (LH.aj [(2,.ag [.aJ T 49 5 (List.map (aq.lt T) p0.aa)]),(3,.ag [.I p1.ID,.ak 5 (p1.ae.map ai.lv),.aJ T 4 1 (p1.ah.map LV.bool),.aJ T 88 3 (p1.Uses.map az.lv),.bool p1.ab]),(4,.ptr 104 0),(5,.ptr 105 0),(6,.bool false),(7,.I 0)] [(104,.box [.nil]),(105,.box [.nil])] R (bo R zS) (LH.block (LH.wk ((Wk.trans (aX [(2,.ag [.aJ T 49 5 (List.map (aq.lt T) p0.aa)]),(3,.ag [.I p1.ID,.ak 5 (p1.ae.map ai.lv),.aJ T 4 1 (p1.ah.map LV.bool),.aJ T 88 3 (p1.Uses.map az.lv),.bool p1.ab]),(4,.ptr 104 0),(5,.ptr 105 0),(6,.bool false),(7,.I 0)] [(104,.box [.nil]),(105,.box [.nil])]) (Wk.trans (aX [(2,.ag [.aJ T 49 5 (List.map (aq.lt T) p0.aa)]),(3,.ag [.I p1.ID,.ak 5 (p1.ae.map ai.lv),.aJ T 4 1 (p1.ah.map LV.bool),.aJ T 88 3 (p1.Uses.map az.lv),.bool p1.ab]),(4,.ptr 104 0),(5,.ptr 105 0),(6,.bool false),(7,.I 0)] [(104,.box [.nil]),(105,.box [.nil])]) (Wk.trans (Wk.uQ 132 49 5 105 0 R R R R R (bO R)) (aX [(2,.ag [.aJ T 49 5 (List.map (aq.lt T) p0.aa)]),(3,.ag [.I p1.ID,.ak 5 (p1.ae.map ai.lv),.aJ T 4 1 (p1.ah.map LV.bool),.aJ T 88 3 (p1.Uses.map az.lv),.bool p1.ab]),(4,.ptr 104 0),(5,.ptr 105 0),(6,.bool false),(7,.I 0)] [(104,.box [.nil]),(105,.box [.arr 132 (List.length ([]:List aq))]),(132,.arr 49 5 (List.map (aq.lt T) ([]:List aq)))]))))) (LH.loop (fun n e m=>∃ (b1:Bool) (n2:Int) (l3:List aq),yA p0 p1 n b1 n2 l3=some r∧e=Env.of [(2,.ag [.aJ T 49 5 (List.map (aq.lt T) p0.aa)]),(3,.ag [.I p1.ID,.ak 5 (p1.ae.map ai.lv),.aJ T 4 1 (p1.ah.map LV.bool),.aJ T 88 3 (p1.Uses.map az.lv),.bool p1.ab]),(4,.ptr 104 0),(5,.ptr 105 0),(6,.bool b1),(7,.I n2)]∧m=Mem.of [(104,.box [.nil]),(105,.box [.arr 132 l3.length]),(132,.arr 49 5 (List.map (aq.lt T) l3))]) F ⟨false,0,([]:List aq),h,R,R⟩ ?_)))))))))
  clear h
  rintro n e m ⟨b1,n2,l3,h,rfl,rfl⟩
  rcases n with _ | n
  · cases (show Option.none=some _ from h)
  obtain ⟨aH,ba⟩:∃ f,f=yA p0 p1 n:=⟨_,rfl⟩
  replace h:xR p0 p1 aH b1 n2 l3=some r:=ba ▸ h
  unfold xR at h
  refine LH.seq (LH.aj [(2,.ag [.aJ T 49 5 (List.map (aq.lt T) p0.aa)]),(3,.ag [.I p1.ID,.ak 5 (p1.ae.map ai.lv),.aJ T 4 1 (p1.ah.map LV.bool),.aJ T 88 3 (p1.Uses.map az.lv),.bool p1.ab]),(4,.ptr 104 0),(5,.ptr 105 0),(6,.bool b1),(7,.I n2),(12,.bool (decide (n2<(p0.aa.length:Int))))] [(104,.box [.nil]),(105,.box [.arr 132 l3.length]),(132,.arr 49 5 (List.map (aq.lt T) l3))] R (bl R (sN (aw ca cc dA R R R (sN (bf R cc fD (sX ((s8 (f:=(aq.lt T)) dZ R).ok) (sN (fi R R zS)))))))) (LH.cond (t:=(decide (n2<(p0.aa.length:Int)))) R (fun jW=>?_) (fun jW=>?_)))
  ·replace h:=aB h jW
   refine LH.skip (av (LH.wk (aX [(2,.ag [.aJ T 49 5 (List.map (aq.lt T) p0.aa)]),(3,.ag [.I p1.ID,.ak 5 (p1.ae.map ai.lv),.aJ T 4 1 (p1.ah.map LV.bool),.aJ T 88 3 (p1.Uses.map az.lv),.bool p1.ab]),(4,.ptr 104 0),(5,.ptr 105 0),(6,.bool b1),(7,.I n2)] [(104,.box [.nil]),(105,.box [.arr 132 l3.length]),(132,.arr 49 5 (List.map (aq.lt T) l3))]) (LH.seq (LH.block (LH.mid (fun e m=>∃ (b5:Bool) (l6:List aq),uY aH p0 p1 n2 b5 l6=some r∧Wk (fun id=>Mem.of [] id ≠ .none) e m (Env.of [(2,.ag [.aJ T 49 5 (List.map (aq.lt T) p0.aa)]),(3,.ag [.I p1.ID,.ak 5 (p1.ae.map ai.lv),.aJ T 4 1 (p1.ah.map LV.bool),.aJ T 88 3 (p1.Uses.map az.lv),.bool p1.ab]),(4,.ptr 104 0),(5,.ptr 105 0),(6,.bool b5),(7,.I n2)]) (Mem.of [(104,.box [.nil]),(105,.box [.arr 132 l6.length]),(132,.arr 49 5 (List.map (aq.lt T) l6))])) ?_ ?_)))))
   ·obtain ⟨Ir,hv,h⟩:=al h
    refine LH.c7 mixed [] [0,0,0,0,0,0,4,4,4,0,0,0,0] [(2,.ag [.aJ T 49 5 (List.map (aq.lt T) p0.aa)]),(3,.ag [.I p1.ID,.ak 5 (p1.ae.map ai.lv),.aJ T 4 1 (p1.ah.map LV.bool),.aJ T 88 3 (p1.Uses.map az.lv),.bool p1.ab]),(4,.ptr 104 0),(5,.ptr 105 0),(6,.bool b1),(7,.I n2),(27,.bool Ir)] [(104,.box [.nil]),(105,.box [.arr 132 l3.length]),(132,.arr 49 5 (List.map (aq.lt T) l3))] R R (by kernel_rfl) ?_ ?_
    ·refine iF R (aF (kp R ⟨R,iF R ?_⟩))
     by_cases bS:(!b1)=true
     ·replace hv:=aB hv bS
      refine mT R (cB bS) (aF (aw ca cc dA R R R ⟨R,mT R (cB bS) (aF (bf R cc fD ⟨R,mT R (cB bS) (eV R ?_)⟩))⟩))
      obtain ⟨nJ,Fk,hv⟩:=al hv
      refine mT R (cB bS) (mM (fun _=>iH (f:=(aq.lt T)) dZ dh cK R R aq.BN Fk R) (mT R (cB bS) (mM (fun _=>s7 fY aE bb R R R) (mT R (cB bS) (mM (fun _=>oG R aE bN) (mT R (cB bS) (aF (aw fY aE bb R R R ⟨R,mT R (cB bS) (aF (bf R aE bN ⟨R,mT R (cB bS) (aF (pD R R ⟨R,aF (aW (cB bS) (v:=(.bool _)) R ⟨R,?_⟩)⟩))⟩))⟩))))))))
      obtain rfl:=oI hv
      exact zM
     ·replace bS:=bF bS
      replace hv:=aA hv bS
      refine mF R R bS (mF R R bS (mF R R bS (mF R R bS (mF R R bS (mF R R bS (mF R R bS (mF R R bS (mF R R bS (aF (aV (cB bS) (v:=(.bool _)) R ⟨R,?_⟩))))))))))
      obtain rfl:=oI hv
      exact zM
    clear hv
    refine LH.cond (t:=Ir) R (fun ja=>?_) (fun ja=>?_)
    ·replace h:=aB h ja
     obtain ⟨DZ,KU,h⟩:=al h
     exact LH.aj [(2,.ag [.aJ T 49 5 (List.map (aq.lt T) p0.aa)]),(3,.ag [.I p1.ID,.ak 5 (p1.ae.map ai.lv),.aJ T 4 1 (p1.ah.map LV.bool),.aJ T 88 3 (p1.Uses.map az.lv),.bool p1.ab]),(4,.ptr 104 0),(5,.ptr 105 0),(7,.I n2)] [(104,.box [.nil]),(105,.box [.arr 132 DZ.length]),(132,.arr 49 5 (List.map (aq.lt T) DZ))] R (sN (dK ca cc dA R R (sN (dW R R R R cc fD (sN (bh R dh js cK R R (sN (jI (f:=(aq.lt T)) (ys:=[p1]) dZ qk cK R R R aq.BN (sN (my (f:=(aq.lt T)) dZ qk cK R R (bO R) R KU (sN (dK ca cc dA R R (s_ (cV R R R cc dA R R R zS)))))))))))))) (LH.aQ [(2,.ag [.aJ T 49 5 (List.map (aq.lt T) p0.aa)]),(3,.ag [.I p1.ID,.ak 5 (p1.ae.map ai.lv),.aJ T 4 1 (p1.ah.map LV.bool),.aJ T 88 3 (p1.Uses.map az.lv),.bool p1.ab]),(4,.ptr 104 0),(5,.ptr 105 0),(6,.bool true),(7,.I n2)] [(104,.box [.nil]),(105,.box [.arr 132 DZ.length]),(132,.arr 49 5 (List.map (aq.lt T) DZ))] R (cm R zS) (av ⟨true,DZ,h,Wk.eq R R R R⟩))
    replace h:=aA h ja
    exact LH.skip (av ⟨b1,l3,h,Wk.eq R R R R⟩)
   clear h
   rintro e m ⟨b5,l6,h,hw⟩
   refine LH.wk hw ?_
   clear hw
   unfold uY at h
   obtain ⟨x7,DQ,h⟩:=al h
   refine LH.c7 mixed [] [0,0,0,4,4,4,0,0,0] [(2,.ag [.aJ T 49 5 (List.map (aq.lt T) p0.aa)]),(3,.ag [.I p1.ID,.ak 5 (p1.ae.map ai.lv),.aJ T 4 1 (p1.ah.map LV.bool),.aJ T 88 3 (p1.Uses.map az.lv),.bool p1.ab]),(4,.ptr 104 0),(5,.ptr 105 0),(6,.bool b5),(7,.I n2),(42,.bool (x7.ID != p1.ID))] [(104,.box [.nil]),(105,.box [.arr 132 l6.length]),(132,.arr 49 5 (List.map (aq.lt T) l6))] R R (by kernel_rfl) (aF (aw ca cc dA R R R ⟨R,aF (bf R cc fD ⟨R,eV R (mM (fun _=>iH (f:=(aq.lt T)) dZ dh cK R R aq.BN DQ R) (mM (fun _=>s7 fY aE bb R R R) (mM (fun _=>oG R aE bN) (aF (aw fY aE bb R R R ⟨R,aF (bf R aE bN ⟨R,aF (kg R R ⟨R,zM⟩)⟩)⟩)))))⟩)⟩)) (LH.cond (t:=(x7.ID != p1.ID)) R (fun ly=>?_) (fun ly=>?_))
   ·replace h:=aB h ly
    obtain ⟨x9,zl,h⟩:=al h
    obtain ⟨v10,Fc,h⟩:=al h
    refine LH.sQ mixed [] [0,1105,0,0,0,4,4,0,2,0,100105] [(2,.ag [.aJ T 49 5 (List.map (aq.lt T) p0.aa)]),(3,.ag [.I p1.ID,.ak 5 (p1.ae.map ai.lv),.aJ T 4 1 (p1.ah.map LV.bool),.aJ T 88 3 (p1.Uses.map az.lv),.bool p1.ab]),(4,.ptr 104 0),(5,.ptr 105 0),(6,.bool b5),(7,.I n2)] [(104,.box [.nil]),(105,.box [.arr 132 v10.length]),(132,.arr 49 5 (List.map (aq.lt T) v10))] R R (by kernel_rfl) ?_ ?_
    ·refine aF (dK ca cc dA R R ⟨R,mD R R R (fun _ b _ d=>dW R b R R cc fD d) (aF (aw ca cc dA R R R ⟨R,aF (bf R cc fD ⟨R,eV R (mM (fun _=>iH (f:=(aq.lt T)) dZ dh cK R R aq.BN zl R) (mM (fun _=>nr R dh js cK R R) ?_))⟩)⟩))⟩)
     exact aF (jI (f:=(aq.lt T)) (ys:=[x9]) dZ qk cK R R R aq.BN ⟨R,Hg (my (f:=(aq.lt T)) dZ qk cK R R (bO R) R Fc (aF (dK ca cc dA R R ⟨R,mS R R R (fun _ b _ d=>cV R R R cc dA b R R d) zM⟩)))⟩)
    refine aY (av (LH.aQ [(2,.ag [.aJ T 49 5 (List.map (aq.lt T) p0.aa)]),(3,.ag [.I p1.ID,.ak 5 (p1.ae.map ai.lv),.aJ T 4 1 (p1.ah.map LV.bool),.aJ T 88 3 (p1.Uses.map az.lv),.bool p1.ab]),(4,.ptr 104 0),(5,.ptr 105 0),(6,.bool b5),(7,.I (i64 (n2+1)))] [(104,.box [.nil]),(105,.box [.arr 132 v10.length]),(132,.arr 49 5 (List.map (aq.lt T) v10))] R (bl R (sN (cr R R (bo R zS)))) ?_))
    exact bg ⟨b5,(i64 (n2+1)),v10,ba ▸ h,R,R⟩ (Wk.eq R R R R)
   replace h:=aA h ly
   refine LH.skip (aY (av (LH.aQ [(2,.ag [.aJ T 49 5 (List.map (aq.lt T) p0.aa)]),(3,.ag [.I p1.ID,.ak 5 (p1.ae.map ai.lv),.aJ T 4 1 (p1.ah.map LV.bool),.aJ T 88 3 (p1.Uses.map az.lv),.bool p1.ab]),(4,.ptr 104 0),(5,.ptr 105 0),(6,.bool b5),(7,.I (i64 (n2+1)))] [(104,.box [.nil]),(105,.box [.arr 132 l6.length]),(132,.arr 49 5 (List.map (aq.lt T) l6))] R (bl R (sN (cr R R (bo R zS)))) ?_)))
   exact bg ⟨b5,(i64 (n2+1)),l6,ba ▸ h,R,R⟩ (Wk.eq R R R R)
  replace h:=aA h jW
  refine LH.exit (cv (bY (bM (av (LH.wk (aX [(3,.ag [.I p1.ID,.ak 5 (p1.ae.map ai.lv),.aJ T 4 1 (p1.ah.map LV.bool),.aJ T 88 3 (p1.Uses.map az.lv),.bool p1.ab]),(4,.ptr 104 0),(5,.ptr 105 0),(6,.bool b1)] [(104,.box [.nil]),(105,.box [.arr 132 l3.length]),(132,.arr 49 5 (List.map (aq.lt T) l3))]) (LH.seq (LH.aj [(3,.ag [.I p1.ID,.ak 5 (p1.ae.map ai.lv),.aJ T 4 1 (p1.ah.map LV.bool),.aJ T 88 3 (p1.Uses.map az.lv),.bool p1.ab]),(4,.ptr 104 0),(5,.ptr 105 0),(54,.bool (!b1))] [(104,.box [.nil]),(105,.box [.arr 132 l3.length]),(132,.arr 49 5 (List.map (aq.lt T) l3))] R (bI R (sN (kp R zS))) (LH.cond (t:=(!b1)) R (fun lr=>?_) (fun lr=>?_)))))))))
  ·replace h:=aB h lr
   obtain ⟨pP,Fg,h⟩:=al h
   refine LH.aQ [(4,.ptr 104 0),(5,.ag [.aJ T 49 5 (List.map (aq.lt T) pP)])] [(104,.box [.nil])] R (sN (dK ca cc dA R R (sN (dW R R R R cc fD (sN (bh R dh js cK R R (sN (jI (f:=(aq.lt T)) (ys:=[p1]) dZ qk cK R R R aq.BN (sN (my (f:=(aq.lt T)) dZ qk cK R R (bO R) R Fg (sN (dK ca cc dA R R (s_ (cV R R R cc dA R R R (s0 ((Wk.trans (aX [(4,.ptr 104 0),(5,.ptr 105 0)] [(104,.box [.nil]),(105,.box [.arr 132 pP.length]),(132,.arr 49 5 (List.map (aq.lt T) pP))]) (Wk.trans (aX [(4,.ptr 104 0),(5,.ptr 105 0)] [(104,.box [.nil]),(105,.box [.arr 132 pP.length]),(132,.arr 49 5 (List.map (aq.lt T) pP))]) (Wk.trans (Wk.trans (Wk.sv (f:=(aq.lt T)) T 132 49 5 pP 105 R R R (MD MC) R R (bO R)) (aX [(4,.ptr 104 0),(5,.ptr 105 0)] [(104,.box [.nil]),(105,.box [.aJ T 49 5 (List.map (aq.lt T) pP)])])) (Wk.trans (Wk.bk 105 [.aJ T 49 5 (List.map (aq.lt T) pP)] R R R (bO R)) (Wk.eq R R R R))))))))))))))))))))) (av (LH.aj [(4,.ag [.aJ T 49 5 (List.map (aq.lt T) pP)])] [] R (sN (bh R bA cD bB R R (s_ (cV R R R bA bB R R R (s0 ((Wk.trans (aX [(4,.ptr 104 0)] [(104,.box [.aJ T 49 5 (List.map (aq.lt T) pP)])]) (Wk.trans (Wk.bk 104 [.aJ T 49 5 (List.map (aq.lt T) pP)] R R R (bO R)) (Wk.eq R R R R))))))))) (LH.ret ?_)))
   obtain rfl:=oI h
   exact aS (aT Tryz.results71) (df R bA cD bB R R (bP ⟨aR mN,R,a8 R,Sub.rfl⟩))
  replace h:=aA h lr
  refine LH.skip (av (LH.wk ((Wk.trans (aX [(4,.ptr 104 0),(5,.ptr 105 0)] [(104,.box [.nil]),(105,.box [.arr 132 l3.length]),(132,.arr 49 5 (List.map (aq.lt T) l3))]) (Wk.trans (aX [(4,.ptr 104 0),(5,.ptr 105 0)] [(104,.box [.nil]),(105,.box [.arr 132 l3.length]),(132,.arr 49 5 (List.map (aq.lt T) l3))]) (Wk.trans (Wk.trans (Wk.sv (f:=(aq.lt T)) T 132 49 5 l3 105 R R R (MD MC) R R (bO R)) (aX [(4,.ptr 104 0),(5,.ptr 105 0)] [(104,.box [.nil]),(105,.box [.aJ T 49 5 (List.map (aq.lt T) l3)])])) (Wk.trans (Wk.bk 105 [.aJ T 49 5 (List.map (aq.lt T) l3)] R R R (bO R)) (aX [(4,.ptr 104 0),(5,.ag [.aJ T 49 5 (List.map (aq.lt T) l3)])] [(104,.box [.nil])])))))) (LH.aj [(4,.ag [.aJ T 49 5 (List.map (aq.lt T) l3)])] [] R (sN (bh R bA cD bB R R (s_ (cV R R R bA bB R R R (s0 ((Wk.trans (aX [(4,.ptr 104 0)] [(104,.box [.aJ T 49 5 (List.map (aq.lt T) l3)])]) (Wk.trans (Wk.bk 104 [.aJ T 49 5 (List.map (aq.lt T) l3)] R R R (bO R)) (Wk.eq R R R R))))))))) (LH.ret ?_))))
  obtain rfl:=oI h
  exact aS (aT Tryz.results71) (df R bA cD bB R R (bP ⟨aR mN,R,a8 R,Sub.rfl⟩))
theorem PB {T:Bool} {F:Nat} {p0:aM} {p1:ai} {r:aM × Int} (h:ym F p0 p1=some r):aP Tryz.prog 45 [.agg [.aJ T 49 5 (List.map (aq.lt T) p0.aa)],ai.lv p1] (Mem.of []) (.de [.agg [.aJ T 49 5 (List.map (aq.lt T) r.1.aa)],.I r.2]) (Mem.of []):=by
  unfold ym at h
  refine bu Tryz.func45 R (nT Tryz.ntmps45 R) (LH.wk (aX [(0,.agg [.aJ T 49 5 (List.map (aq.lt T) p0.aa)]),(1,ai.lv p1)] []) (LH.aj [(2,.ag [.aJ T 49 5 (List.map (aq.lt T) p0.aa)]),(3,.ag (ai.lv p1).cells),(4,.ptr 104 0)] [(104,.box [.nil])] R (sB (dp R R R R (sB (dp R R R R (sN (kS (id:=104) R fF R R (bo R zS))))))) (LH.seq ?_)))
  obtain ⟨r1,ec,h⟩:=al h
  refine LH.aj [(2,.ag [.aJ T 49 5 (List.map (aq.lt T) p0.aa)]),(3,.ag (ai.lv p1).cells),(4,.ptr 104 0),(6,.I r1)] [(104,.box [.nil])] R (sN (bh R cG fo ct R R (sN (dU (args:=[ai.lv p1]) R Fu R (aK bt) (F4 ec) R (bo R zS))))) (LH.aj [(2,.ag [.aJ T 49 5 (List.map (aq.lt T) p0.aa)]),(3,.ag (ai.lv p1).cells),(4,.ptr 104 0),(6,.I r1),(10,.bool (r1 != 0))] [(104,.box [.nil])] R (bl R (sN (kg R R zS))) (LH.cond (t:=(r1 != 0)) R (fun fJ=>?_) (fun fJ=>?_)))
  ·replace h:=aB h fJ
   refine LH.aj [(4,.ag [.nil]),(5,.I r1)] [] R (sN (gB (vs:=[]) lk fF R gA (bl R (s_ (cV R R R bA bB R R R (bo R (s0 ((Wk.trans (aX [(4,.ptr 104 0),(5,.I r1)] [(104,.box [.nil])]) (Wk.trans (Wk.bk 104 [.nil] R R R (bO R)) (Wk.eq R R R R))))))))))) (LH.ret (aZ ?_))
   obtain rfl:=oI h
   exact aS (aT Tryz.results45) (df R bA cD bB R R (bR R (bP ⟨aR mN,R,a8 R,(Sub.de (rq (Sub.agg (u5 R bt)) (aK bt)))⟩)))
  replace h:=aA h fJ
  refine LH.skip (av (LH.wk (aX [(2,.ag [.aJ T 49 5 (List.map (aq.lt T) p0.aa)]),(3,.ag (ai.lv p1).cells),(4,.ptr 104 0)] [(104,.box [.nil])]) (LH.seq (LH.aj [(2,.ag [.aJ T 49 5 (List.map (aq.lt T) p0.aa)]),(3,.ag (ai.lv p1).cells),(4,.ptr 104 0),(15,.bool (p1.Version != 1))] [(104,.box [.nil])] R (sN (aw fE aE bb R R R (sN (bf R aE bN (sN (kg R R zS)))))) (LH.cond (t:=(p1.Version != 1)) R (fun iC=>?_) (fun iC=>?_))))))
  ·replace h:=aB h iC
   refine LH.aj [(4,.ag [.nil]),(5,.I 8)] [] R (sN (gB (vs:=[]) lk fF R gA (s_ (cV R R R bA bB R R R (bo R (s0 ((Wk.trans (aX [(4,.ptr 104 0),(5,.I 8)] [(104,.box [.nil])]) (Wk.trans (Wk.bk 104 [.nil] R R R (bO R)) (Wk.eq R R R R)))))))))) (LH.ret (aZ ?_))
   obtain rfl:=oI h
   exact aS (aT Tryz.results45) (df R bA cD bB R R (bR R (bP ⟨aR mN,R,a8 R,(Sub.de (rq (Sub.agg (u5 R bt)) (aK bt)))⟩)))
  replace h:=aA h iC
  refine LH.skip (av (LH.wk (aX [(2,.ag [.aJ T 49 5 (List.map (aq.lt T) p0.aa)]),(3,.ag (ai.lv p1).cells),(4,.ptr 104 0)] [(104,.box [.nil])]) (LH.seq ?_)))
  obtain ⟨r4,CI,h⟩:=al h
  refine LH.aj [(2,.ag [.aJ T 49 5 (List.map (aq.lt T) p0.aa)]),(3,.ag (ai.lv p1).cells),(4,.ptr 104 0),(21,.bool (decide (r4 ≥ 0)))] [(104,.box [.nil])] R (sN (bh R bA cD bB R R (sN (aw e6 aE bb R R R (sN (bf R aE bN (sN (dU (args:=[.agg [.aJ T 49 5 (List.map (aq.lt T) p0.aa)],.I p1.ID]) R xt R (aK (aK bt)) (aP.view (xW CI) (eR (Rel.agg (eR (Rel.aJ aq.pJ (fun _=>R)) lB)) (eR Rel.int lB)) R R) R (sN (pD R R zS)))))))))) (LH.cond (t:=(decide (r4 ≥ 0))) R (fun ky=>?_) (fun ky=>?_))
  ·replace h:=aB h ky
   refine LH.aj [(4,.ag [.nil]),(5,.I 5)] [] R (sN (gB (vs:=[]) lk fF R gA (s_ (cV R R R bA bB R R R (bo R (s0 ((Wk.trans (aX [(4,.ptr 104 0),(5,.I 5)] [(104,.box [.nil])]) (Wk.trans (Wk.bk 104 [.nil] R R R (bO R)) (Wk.eq R R R R)))))))))) (LH.ret (aZ ?_))
   obtain rfl:=oI h
   exact aS (aT Tryz.results45) (df R bA cD bB R R (bR R (bP ⟨aR mN,R,a8 R,(Sub.de (rq (Sub.agg (u5 R bt)) (aK bt)))⟩)))
  replace h:=aA h ky
  refine LH.skip (av (LH.wk (aX [(2,.ag [.aJ T 49 5 (List.map (aq.lt T) p0.aa)]),(3,.ag (ai.lv p1).cells),(4,.ptr 104 0)] [(104,.box [.nil])]) (LH.seq (LH.aj [(2,.ag [.aJ T 49 5 (List.map (aq.lt T) p0.aa)]),(3,.ag (ai.lv p1).cells),(4,.ptr 104 0),(26,.bool ((p0.aa.length:Int) == 40))] [(104,.box [.nil])] R (sN (aw ca cc dA R R R (sN (bf R cc fD (sX ((s8 (f:=(aq.lt T)) dZ R).ok) (sN (gm R R zS))))))) (LH.cond (t:=((p0.aa.length:Int) == 40)) R (fun gb=>?_) (fun gb=>?_))))))
  ·replace h:=aB h gb
   refine LH.aj [(4,.ag [.nil]),(5,.I 3)] [] R (sN (gB (vs:=[]) lk fF R gA (s_ (cV R R R bA bB R R R (bo R (s0 ((Wk.trans (aX [(4,.ptr 104 0),(5,.I 3)] [(104,.box [.nil])]) (Wk.trans (Wk.bk 104 [.nil] R R R (bO R)) (Wk.eq R R R R)))))))))) (LH.ret (aZ ?_))
   obtain rfl:=oI h
   exact aS (aT Tryz.results45) (df R bA cD bB R R (bR R (bP ⟨aR mN,R,a8 R,(Sub.de (rq (Sub.agg (u5 R bt)) (aK bt)))⟩)))
  replace h:=aA h gb
  refine LH.skip (av ?_)
  obtain ⟨r7,Al,h⟩:=al h
  refine LH.aj [(4,.ag [.aJ T 49 5 (List.map (aq.lt T) r7.aa)]),(5,.I 0)] [] R (sN (bh R bA cD bB R R (sN (aw e6 aE bb R R R (sN (bf R aE bN (sN (bh R cG fo ct R R (sN (jI (f:=ai.lv) (ys:=[p1]) ic A2 ct R R R ai.ok (sX ((bm.JS (T:=T) (id:=133) (xs:=[false]) (by simp [Op.operands,cZ,Env.of,Env.put,LV.pure,DW,ug]) (cd.Tq [] (by simp [Op.operands]) (Ax (g:=LV.bool) (ys:=[false]) (id:=133) j8 Hi lQ R R R okB R)) R _).ok) (sN (gB (vs:=[(0,.I p1.ID),(1,.ak 5 (List.map ai.lv [p1])),(2,.aJ T 4 1 (List.map LV.bool [false]))]) Qb tK R (lf fY bb aE R R R (lf dy ig dM R R R (lf eA ji eX R R R gA))) (sN (dU (args:=[.agg [.aJ T 49 5 (List.map (aq.lt T) p0.aa)],.agg [.I p1.ID,.ak 5 (List.map ai.lv [p1]),.aJ T 4 1 (List.map LV.bool [false]),.nil,.bool false]]) R xu R (aK (rq (Sub.agg (aK (aK (aK (u5 R (aK bt)))))) bt)) (xY (T:=T) Al) R (s_ (cV R R R bA bB R R R (bo R (s0 ((Wk.trans (aX [(4,.ptr 104 0),(5,.I 0)] [(104,.box [.aJ T 49 5 (List.map (aq.lt T) r7.aa)])]) (Wk.trans (Wk.bk 104 [.aJ T 49 5 (List.map (aq.lt T) r7.aa)] R R R (bO R)) (Wk.eq R R R R))))))))))))))))))))))) (LH.ret ?_)
  obtain rfl:=oI h
  exact aS (aT Tryz.results45) (df R bA cD bB R R (bR R (bP ⟨aR mN,R,a8 R,(Sub.de (aK (aK bt)))⟩)))
theorem Pv {T:Bool} {F:Nat} {p0:aM} {p1:ai} {r:aM × Int} (h:yg F p0 p1=some r):aP Tryz.prog 46 [.agg [.aJ T 49 5 (List.map (aq.lt T) p0.aa)],ai.lv p1] (Mem.of []) (.de [.agg [.aJ T 49 5 (List.map (aq.lt T) r.1.aa)],.I r.2]) (Mem.of []):=by
  unfold yg at h
  refine bu Tryz.func46 R (nT Tryz.ntmps46 R) (LH.wk (aX [(0,.agg [.aJ T 49 5 (List.map (aq.lt T) p0.aa)]),(1,ai.lv p1)] []) (LH.aj [(2,.ag [.aJ T 49 5 (List.map (aq.lt T) p0.aa)]),(3,.ag (ai.lv p1).cells),(4,.ptr 104 0)] [(104,.box [.nil])] R (sB (dp R R R R (sB (dp R R R R (sN (kS (id:=104) R fF R R (bo R zS))))))) (LH.seq ?_)))
  obtain ⟨r1,ec,h⟩:=al h
  refine LH.aj [(2,.ag [.aJ T 49 5 (List.map (aq.lt T) p0.aa)]),(3,.ag (ai.lv p1).cells),(4,.ptr 104 0),(6,.I r1)] [(104,.box [.nil])] R (sN (bh R cG fo ct R R (sN (dU (args:=[ai.lv p1]) R Fu R (aK bt) (F4 ec) R (bo R zS))))) (LH.aj [(2,.ag [.aJ T 49 5 (List.map (aq.lt T) p0.aa)]),(3,.ag (ai.lv p1).cells),(4,.ptr 104 0),(6,.I r1),(14,.bool (r1 != 0))] [(104,.box [.nil])] R (bl R (sN (kg R R zS))) (LH.cond (t:=(r1 != 0)) R (fun fJ=>?_) (fun fJ=>?_)))
  ·replace h:=aB h fJ
   refine LH.aj [(4,.ag [.nil]),(5,.I r1)] [] R (sN (gB (vs:=[]) lk fF R gA (bl R (s_ (cV R R R bA bB R R R (bo R (s0 ((Wk.trans (aX [(4,.ptr 104 0),(5,.I r1)] [(104,.box [.nil])]) (Wk.trans (Wk.bk 104 [.nil] R R R (bO R)) (Wk.eq R R R R))))))))))) (LH.ret (aZ ?_))
   obtain rfl:=oI h
   exact aS (aT Tryz.results46) (df R bA cD bB R R (bR R (bP ⟨aR mN,R,a8 R,(Sub.de (rq (Sub.agg (u5 R bt)) (aK bt)))⟩)))
  replace h:=aA h fJ
  refine LH.skip (av ?_)
  obtain ⟨r3,nf,h⟩:=al h
  refine LH.aj [(2,.ag [.aJ T 49 5 (List.map (aq.lt T) p0.aa)]),(3,.ag (ai.lv p1).cells),(4,.ptr 104 0),(7,.I r3)] [(104,.box [.nil])] R (sN (bh R bA cD bB R R (sN (aw e6 aE bb R R R (sN (bf R aE bN (sN (dU (args:=[.agg [.aJ T 49 5 (List.map (aq.lt T) p0.aa)],.I p1.ID]) R xt R (aK (aK bt)) (aP.view (xW nf) (eR (Rel.agg (eR (Rel.aJ aq.pJ (fun _=>R)) lB)) (eR Rel.int lB)) R R) R (bo R zS))))))))) (LH.seq (LH.aj [(2,.ag [.aJ T 49 5 (List.map (aq.lt T) p0.aa)]),(3,.ag (ai.lv p1).cells),(4,.ptr 104 0),(7,.I r3),(22,.bool (decide (r3<0)))] [(104,.box [.nil])] R (bl R (sN (fi R R zS))) (LH.cond (t:=(decide (r3<0))) R (fun jW=>?_) (fun jW=>?_))))
  ·replace h:=aB h jW
   refine LH.aj [(4,.ag [.nil]),(5,.I 4)] [] R (sN (gB (vs:=[]) lk fF R gA (s_ (cV R R R bA bB R R R (bo R (s0 ((Wk.trans (aX [(4,.ptr 104 0),(5,.I 4)] [(104,.box [.nil])]) (Wk.trans (Wk.bk 104 [.nil] R R R (bO R)) (Wk.eq R R R R)))))))))) (LH.ret (aZ ?_))
   obtain rfl:=oI h
   exact aS (aT Tryz.results46) (df R bA cD bB R R (bR R (bP ⟨aR mN,R,a8 R,(Sub.de (rq (Sub.agg (u5 R bt)) (aK bt)))⟩)))
  replace h:=aA h jW
  refine LH.skip (av ?_)
  obtain ⟨x5,oy,h⟩:=al h
  refine LH.aj [(2,.ag [.aJ T 49 5 (List.map (aq.lt T) p0.aa)]),(3,.ag (ai.lv p1).cells),(4,.ptr 104 0),(8,.ptr 108 0)] [(104,.box [.nil]),(108,.box [.I x5.ID,.ak 5 (x5.ae.map ai.lv),.aJ T 4 1 (x5.ah.map LV.bool),.aJ T 88 3 (x5.Uses.map az.lv),.bool x5.ab])] R ?_ ?_
  ·refine sN (aw ca cc dA R R R (sN (bf R cc fD (bl R (sX ((iH (f:=(aq.lt T)) dZ dh cK R R aq.BN oy R).ok) (sX ((nr R dh js cK R R).ok) ?_))))))
   exact sN (kS (id:=108) R tK R R (s_ (cV R R R dh cK R R R zS)))
  refine LH.seq (LH.aj [(2,.ag [.aJ T 49 5 (List.map (aq.lt T) p0.aa)]),(3,.ag (ai.lv p1).cells),(4,.ptr 104 0),(8,.ptr 108 0),(39,.bool (x5.ab || (p1.Version != (i64 ((x5.ae.length:Int)+1)))))] [(104,.box [.nil]),(108,.box [.I x5.ID,.ak 5 (x5.ae.map ai.lv),.aJ T 4 1 (x5.ah.map LV.bool),.aJ T 88 3 (x5.Uses.map az.lv),.bool x5.ab])] R ?_ ?_)
  ·refine sN (dK ju ka lQ R R (sN (dW R R R R ka wm (bI R ?_))))
   by_cases bT:x5.ab=true
   ·exact sF R R bT (sF R R bT (sF R R bT (sF R R bT (sF R R bT (sF R R bT (sF R R bT (sN (aW (cB bT) (v:=(.bool _)) R (s0 (Wk.to (eC R (eC R (eC R (eC R (eC (cB (p7 bT)) eN))))) ⟨R,R,trivial⟩ R (a8 R)))))))))))
   ·replace bT:=bF bT
    exact sT R (cB bT) (aw fE aE bb R R R (sT R (cB bT) (bf R aE bN (sT R (cB bT) (dK dy dM ig R R (sT R (cB bT) (dW R R R R dM j7 (sT R (cB bT) (bX (f:=ai.lv) ic R (sT R (cB bT) (cr R R (sT R (cB bT) (kg R R (sN (aV (cB bT) (v:=(.bool _)) R (s0 (Wk.to (eC R (eC R (eC R (eC R (eC (cB (iJ bT)) eN))))) ⟨R,R,trivial⟩ R (a8 R))))))))))))))))))
  refine LH.cond (t:=(x5.ab || (p1.Version != (i64 ((x5.ae.length:Int)+1))))) R (fun ly=>?_) (fun ly=>?_)
  ·replace h:=aB h ly
   refine LH.aj [(4,.ag [.nil]),(5,.I 8)] [] R (sN (gB (vs:=[]) lk fF R gA (s_ (cV R R R bA bB R R R (bo R (s0 ((Wk.trans (aX [(4,.ptr 104 0),(5,.I 8)] [(104,.box [.nil])]) (Wk.trans (Wk.bk 104 [.nil] R R R (bO R)) (Wk.eq R R R R)))))))))) (LH.ret (aZ ?_))
   obtain rfl:=oI h
   exact aS (aT Tryz.results46) (df R bA cD bB R R (bR R (bP ⟨aR mN,R,a8 R,(Sub.de (rq (Sub.agg (u5 R bt)) (aK bt)))⟩)))
  replace h:=aA h ly
  refine LH.skip (av (LH.aj [(2,.ag [.aJ T 49 5 (List.map (aq.lt T) p0.aa)]),(3,.ag (ai.lv p1).cells),(4,.ptr 104 0),(8,.ptr 108 0),(9,.nil)] [(104,.box [.nil]),(108,.box [.I x5.ID,.ak 5 (x5.ae.map ai.lv),.aJ T 4 1 (x5.ah.map LV.bool),.aJ T 88 3 (x5.Uses.map az.lv),.bool x5.ab])] R (kh R zS) (LH.aj [(2,.ag [.aJ T 49 5 (List.map (aq.lt T) p0.aa)]),(3,.ag (ai.lv p1).cells),(4,.ptr 104 0),(8,.ptr 108 0),(9,.nil),(10,.nil)] [(104,.box [.nil]),(108,.box [.I x5.ID,.ak 5 (x5.ae.map ai.lv),.aJ T 4 1 (x5.ah.map LV.bool),.aJ T 88 3 (x5.Uses.map az.lv),.bool x5.ab])] R (kh R zS) ?_)))
  obtain ⟨v9,VN,h⟩:=al h
  refine LH.aj [(2,.ag [.aJ T 49 5 (List.map (aq.lt T) p0.aa)]),(3,.ag (ai.lv p1).cells),(4,.ptr 104 0),(8,.ptr 108 0),(9,.arr 144 v9.length),(10,.nil)] [(104,.box [.nil]),(108,.box [.I x5.ID,.ak 5 (x5.ae.map ai.lv),.aJ T 4 1 (x5.ah.map LV.bool),.aJ T 88 3 (x5.Uses.map az.lv),.bool x5.ab]),(144,.arr 54 5 (v9.map ai.lv))] R (Ib R (sN (dK dy dM ig R R (sN (dW R R R R dM j7 (sN (CT (f:=ai.lv) (id:=144) R ic A2 ct R R VN R (nE R zS)))))))) ?_
  obtain ⟨v10,Fc,h⟩:=al h
  refine LH.aj [(2,.ag [.aJ T 49 5 (List.map (aq.lt T) p0.aa)]),(3,.ag (ai.lv p1).cells),(4,.ptr 104 0),(8,.ptr 108 0),(9,.arr 144 v9.length),(10,.arr 148 v10.length)] [(104,.box [.nil]),(108,.box [.I x5.ID,.ak 5 (x5.ae.map ai.lv),.aJ T 4 1 (x5.ah.map LV.bool),.aJ T 88 3 (x5.Uses.map az.lv),.bool x5.ab]),(144,.arr 54 5 (v9.map ai.lv)),(148,.arr 4 1 (v10.map LV.bool))] R (Ib R (sN (dK eA eX ji R R (sN (dW R R R R eX nF (sN (FI (f:=LV.bool) (id:=148) R j8 Hi lQ R R Fc R (nE R zS)))))))) ?_
  obtain ⟨v11,KT,h⟩:=al h
  refine LH.aj [(2,.ag [.aJ T 49 5 (List.map (aq.lt T) p0.aa)]),(4,.ptr 104 0),(8,.ptr 108 0),(10,.arr 148 v10.length)] [(104,.box [.nil]),(108,.box [.I x5.ID,.arr 144 v11.length,.aJ T 4 1 (x5.ah.map LV.bool),.aJ T 88 3 (x5.Uses.map az.lv),.bool x5.ab]),(144,.arr 54 5 (v11.map ai.lv)),(148,.arr 4 1 (v10.map LV.bool))] R (j5 R (sN (bh R cG fo ct R R (sN (jI (f:=ai.lv) (ys:=[p1]) ic A2 ct R R R ai.ok (sN (my (f:=ai.lv) ic A2 ct R R (bO R) R KT (sN (dK dy dM ig R R (s_ (cV R R R dM ig R R R zS))))))))))) ?_
  obtain ⟨v12,Fe,h⟩:=al h
  refine LH.aj [(2,.ag [.aJ T 49 5 (List.map (aq.lt T) p0.aa)]),(4,.ptr 104 0),(8,.ag [.I x5.ID,.ak 5 (v11.map ai.lv),.aJ T 4 1 (v12.map LV.bool),.aJ T 88 3 (x5.Uses.map az.lv),.bool x5.ab])] [(104,.box [.nil])] R (j5 R (sN (jI (f:=LV.bool) (ys:=[false]) j8 Hi lQ R R R okB (sN (my (f:=LV.bool) j8 Hi lQ R R (bO R) R Fe (sN (dK eA eX ji R R (s_ (cV R R R eX ji R R R (s0 ((Wk.trans (aX [(2,.ag [.aJ T 49 5 (List.map (aq.lt T) p0.aa)]),(4,.ptr 104 0),(8,.ptr 108 0)] [(104,.box [.nil]),(108,.box [.I x5.ID,.arr 144 v11.length,.arr 148 v12.length,.aJ T 88 3 (x5.Uses.map az.lv),.bool x5.ab]),(144,.arr 54 5 (v11.map ai.lv)),(148,.arr 4 1 (v12.map LV.bool))]) (Wk.trans (aX [(2,.ag [.aJ T 49 5 (List.map (aq.lt T) p0.aa)]),(4,.ptr 104 0),(8,.ptr 108 0)] [(104,.box [.nil]),(108,.box [.I x5.ID,.arr 144 v11.length,.arr 148 v12.length,.aJ T 88 3 (x5.Uses.map az.lv),.bool x5.ab]),(144,.arr 54 5 (v11.map ai.lv)),(148,.arr 4 1 (v12.map LV.bool))]) (Wk.trans (Wk.trans (Wk.gO (f:=ai.lv) 144 54 5 v11 108 R R R (cn R (k5 (cn R (cn R (cn R kZ))))) R R (bO R)) (aX [(2,.ag [.aJ T 49 5 (List.map (aq.lt T) p0.aa)]),(4,.ptr 104 0),(8,.ptr 108 0)] [(104,.box [.nil]),(108,.box [.I x5.ID,.ak 5 (v11.map ai.lv),.arr 148 v12.length,.aJ T 88 3 (x5.Uses.map az.lv),.bool x5.ab]),(148,.arr 4 1 (v12.map LV.bool))])) (Wk.trans (aX [(2,.ag [.aJ T 49 5 (List.map (aq.lt T) p0.aa)]),(4,.ptr 104 0),(8,.ptr 108 0)] [(104,.box [.nil]),(108,.box [.I x5.ID,.ak 5 (v11.map ai.lv),.arr 148 v12.length,.aJ T 88 3 (x5.Uses.map az.lv),.bool x5.ab]),(148,.arr 4 1 (v12.map LV.bool))]) (Wk.trans (Wk.trans (Wk.sv (f:=LV.bool) T 148 4 1 v12 108 R R R (IA R (IA R (MD (IA R (IA R MC))))) R R (bO R)) (aX [(2,.ag [.aJ T 49 5 (List.map (aq.lt T) p0.aa)]),(4,.ptr 104 0),(8,.ptr 108 0)] [(104,.box [.nil]),(108,.box [.I x5.ID,.ak 5 (v11.map ai.lv),.aJ T 4 1 (v12.map LV.bool),.aJ T 88 3 (x5.Uses.map az.lv),.bool x5.ab])])) (Wk.trans (Wk.bk 108 [.I x5.ID,.ak 5 (v11.map ai.lv),.aJ T 4 1 (v12.map LV.bool),.aJ T 88 3 (x5.Uses.map az.lv),.bool x5.ab] R R R (bO R)) (Wk.eq R R R R)))))))))))))))))) ?_
  obtain ⟨rm,KA,h⟩:=al h
  refine LH.aj [(4,.ag [.aJ T 49 5 (List.map (aq.lt T) rm.aa)]),(5,.I 0)] [] R (sN (bh R bA cD bB R R (sN (bh R dh js cK R R (sN (dU (args:=[.agg [.aJ T 49 5 (List.map (aq.lt T) p0.aa)],.agg [.I x5.ID,.ak 5 (v11.map ai.lv),.aJ T 4 1 (v12.map LV.bool),.aJ T 88 3 (x5.Uses.map az.lv),.bool x5.ab]]) R xu R (aK (aK bt)) (xY (T:=T) KA) R (s_ (cV R R R bA bB R R R (bo R (s0 ((Wk.trans (aX [(4,.ptr 104 0),(5,.I 0)] [(104,.box [.aJ T 49 5 (List.map (aq.lt T) rm.aa)])]) (Wk.trans (Wk.bk 104 [.aJ T 49 5 (List.map (aq.lt T) rm.aa)] R R R (bO R)) (Wk.eq R R R R)))))))))))))) (LH.ret ?_)
  obtain rfl:=oI h
  exact aS (aT Tryz.results46) (df R bA cD bB R R (bR R (bP ⟨aR mN,R,a8 R,(Sub.de (aK (aK bt)))⟩)))
theorem Pq {T:Bool} {F:Nat} {p0:aM} {p1:aG} {r:aM × Int} (h:yb F p0 p1=some r):aP Tryz.prog 47 [.agg [.aJ T 49 5 (List.map (aq.lt T) p0.aa)],.agg [.I p1.ID,.I p1.Version]] (Mem.of []) (.de [.agg [.aJ T 49 5 (List.map (aq.lt T) r.1.aa)],.I r.2]) (Mem.of []):=by
  unfold yb at h
  refine bu Tryz.func47 R (nT Tryz.ntmps47 R) (LH.wk (aX [(0,.agg [.aJ T 49 5 (List.map (aq.lt T) p0.aa)]),(1,.agg [.I p1.ID,.I p1.Version])] []) (LH.aj [(2,.ag [.aJ T 49 5 (List.map (aq.lt T) p0.aa)]),(3,.ag [.I p1.ID,.I p1.Version]),(4,.ptr 104 0)] [(104,.box [.nil])] R (sB (dp R R R R (sB (dp R R R R (sN (kS (id:=104) R fF R R (bo R zS))))))) ?_))
  obtain ⟨r1,ec,h⟩:=al h
  refine LH.aj [(2,.ag [.aJ T 49 5 (List.map (aq.lt T) p0.aa)]),(3,.ag [.I p1.ID,.I p1.Version]),(4,.ptr 104 0),(6,.I r1)] [(104,.box [.nil])] R (sN (bh R bA cD bB R R (sN (aw iN aE bb R R R (sN (bf R aE bN (sN (dU (args:=[.agg [.aJ T 49 5 (List.map (aq.lt T) p0.aa)],.I p1.ID]) R xt R (aK (aK bt)) (aP.view (xW ec) (eR (Rel.agg (eR (Rel.aJ aq.pJ (fun _=>R)) lB)) (eR Rel.int lB)) R R) R (bo R zS))))))))) (LH.seq ?_)
  obtain ⟨w3,hv,h⟩:=al h
  refine LH.c7 mixed [] [0,0,0,0,0,0,0,0,0,0,0,0,0,4,4,4,0,0,0] [(2,.ag [.aJ T 49 5 (List.map (aq.lt T) p0.aa)]),(3,.ag [.I p1.ID,.I p1.Version]),(4,.ptr 104 0),(6,.I r1),(31,.bool w3)] [(104,.box [.nil])] R R (by kernel_rfl) ?_ ?_
  ·refine eV R (aF (fi R R ⟨R,iF R ?_⟩))
   by_cases bJ:(decide (r1<0))=true
   ·replace hv:=aB hv bJ
    refine mF R R bJ (mF R R bJ (mF R R bJ (aF (aW (cB bJ) (v:=(.bool _)) R ⟨R,iF R (mF R R R (mF R R R (mF R R R (mF R R R (mF R R R (mF R R R (mF R R R (mF R R R (mF R R R (mF R R R (aF (aW R (v:=(.bool _)) R ⟨R,?_⟩))))))))))))⟩))))
    obtain rfl:=oI hv
    exact zM
   ·replace bJ:=bF bJ
    replace hv:=aA hv bJ
    refine mT R (cB bJ) (aF (aw eS aE bb R R R ⟨R,mT R (cB bJ) (aF (bf R aE bN ⟨R,mT R (cB bJ) (aF (fi R R ⟨R,aF (aV (cB bJ) (v:=(.bool _)) R ⟨R,iF R ?_⟩)⟩))⟩))⟩))
    by_cases bK:(decide (p1.Version<1))=true
    ·replace hv:=aB hv bK
     refine mF R R bK (mF R R bK (mF R R bK (mF R R bK (mF R R bK (mF R R bK (mF R R bK (mF R R bK (mF R R bK (mF R R bK (aF (aW (cB bK) (v:=(.bool _)) R ⟨R,?_⟩)))))))))))
     obtain rfl:=oI hv
     exact zM
    ·replace bK:=bF bK
     replace hv:=aA hv bK
     refine mT R (cB bK) (aF (aw eS aE bb R R R ⟨R,mT R (cB bK) (aF (bf R aE bN ⟨R,mT R (cB bK) (aF (aw ca cc dA R R R ⟨R,mT R (cB bK) (aF (bf R cc fD ⟨R,mT R (cB bK) (eV R ?_)⟩))⟩))⟩))⟩))
     obtain ⟨x6,NM,hv⟩:=al hv
     refine mT R (cB bK) (mM (fun _=>iH (f:=(aq.lt T)) dZ dh cK R R aq.BN NM R) (mT R (cB bK) (mM (fun _=>s7 dy dM ig R R R) (mT R (cB bK) (mM (fun _=>oG R dM j7) (mT R (cB bK) (aF (bX (f:=ai.lv) ic R ⟨R,mT R (cB bK) (aF (iw R R ⟨R,aF (aV (cB bK) (v:=(.bool _)) R ⟨R,?_⟩)⟩))⟩))))))))
     obtain rfl:=oI hv
     exact zM
  clear hv
  refine LH.cond (t:=w3) R (fun ke=>?_) (fun ke=>?_)
  ·replace h:=aB h ke
   refine LH.aj [(4,.ag [.nil]),(5,.I 4)] [] R (sN (gB (vs:=[]) lk fF R gA (s_ (cV R R R bA bB R R R (bo R (s0 ((Wk.trans (aX [(4,.ptr 104 0),(5,.I 4)] [(104,.box [.nil])]) (Wk.trans (Wk.bk 104 [.nil] R R R (bO R)) (Wk.eq R R R R)))))))))) (LH.ret (aZ ?_))
   obtain rfl:=oI h
   exact aS (aT Tryz.results47) (df R bA cD bB R R (bR R (bP ⟨aR mN,R,a8 R,(Sub.de (rq (Sub.agg (u5 R bt)) (aK bt)))⟩)))
  replace h:=aA h ke
  refine LH.skip (av ?_)
  obtain ⟨x8,ud,h⟩:=al h
  refine LH.aj [(2,.ag [.aJ T 49 5 (List.map (aq.lt T) p0.aa)]),(3,.ag [.I p1.ID,.I p1.Version]),(4,.ptr 104 0),(7,.ptr 107 0)] [(104,.box [.nil]),(107,.box [.I x8.ID,.ak 5 (x8.ae.map ai.lv),.aJ T 4 1 (x8.ah.map LV.bool),.aJ T 88 3 (x8.Uses.map az.lv),.bool x8.ab])] R ?_ ?_
  ·refine sN (aw ca cc dA R R R (sN (bf R cc fD (bl R (sX ((iH (f:=(aq.lt T)) dZ dh cK R R aq.BN ud R).ok) (sX ((nr R dh js cK R R).ok) ?_))))))
   exact sN (kS (id:=107) R tK R R (s_ (cV R R R dh cK R R R zS)))
  refine LH.seq (LH.aj [(2,.ag [.aJ T 49 5 (List.map (aq.lt T) p0.aa)]),(3,.ag [.I p1.ID,.I p1.Version]),(4,.ptr 104 0),(7,.ptr 107 0),(39,.bool x8.ab)] [(104,.box [.nil]),(107,.box [.I x8.ID,.ak 5 (x8.ae.map ai.lv),.aJ T 4 1 (x8.ah.map LV.bool),.aJ T 88 3 (x8.Uses.map az.lv),.bool x8.ab])] R (sN (dK ju ka lQ R R (sN (dW R R R R ka wm zS)))) (LH.cond (t:=x8.ab) R (fun sy=>?_) (fun sy=>?_)))
  ·replace h:=aB h sy
   refine LH.aj [(4,.ag [.nil]),(5,.I 8)] [] R (sN (gB (vs:=[]) lk fF R gA (s_ (cV R R R bA bB R R R (bo R (s0 ((Wk.trans (aX [(4,.ptr 104 0),(5,.I 8)] [(104,.box [.nil])]) (Wk.trans (Wk.bk 104 [.nil] R R R (bO R)) (Wk.eq R R R R)))))))))) (LH.ret (aZ ?_))
   obtain rfl:=oI h
   exact aS (aT Tryz.results47) (df R bA cD bB R R (bR R (bP ⟨aR mN,R,a8 R,(Sub.de (rq (Sub.agg (u5 R bt)) (aK bt)))⟩)))
  replace h:=aA h sy
  refine LH.skip (av (LH.wk (aX [(2,.ag [.aJ T 49 5 (List.map (aq.lt T) p0.aa)]),(3,.ag [.I p1.ID,.I p1.Version]),(4,.ptr 104 0),(7,.ptr 107 0)] [(104,.box [.nil]),(107,.box [.I x8.ID,.ak 5 (x8.ae.map ai.lv),.aJ T 4 1 (x8.ah.map LV.bool),.aJ T 88 3 (x8.Uses.map az.lv),.bool x8.ab])]) (LH.seq ?_)))
  obtain ⟨qR,ub,h⟩:=al h
  refine LH.aj [(2,.ag [.aJ T 49 5 (List.map (aq.lt T) p0.aa)]),(3,.ag [.I p1.ID,.I p1.Version]),(4,.ptr 104 0),(7,.ptr 107 0),(47,.bool qR)] [(104,.box [.nil]),(107,.box [.I x8.ID,.ak 5 (x8.ae.map ai.lv),.aJ T 4 1 (x8.ah.map LV.bool),.aJ T 88 3 (x8.Uses.map az.lv),.bool x8.ab])] R (sN (dK eA eX ji R R (sN (dW R R R R eX nF (sN (aw eS aE bb R R R (sN (bf R aE bN (sN (iG R R (sX ((iH (f:=LV.bool) j8 ka lQ R R okB ub R).ok) (sX ((oG R ka wm).ok) zS)))))))))))) (LH.cond (t:=qR) R (fun iA=>?_) (fun iA=>?_))
  ·replace h:=aB h iA
   refine LH.aj [(4,.ag [.nil]),(5,.I 5)] [] R (sN (gB (vs:=[]) lk fF R gA (s_ (cV R R R bA bB R R R (bo R (s0 ((Wk.trans (aX [(4,.ptr 104 0),(5,.I 5)] [(104,.box [.nil])]) (Wk.trans (Wk.bk 104 [.nil] R R R (bO R)) (Wk.eq R R R R)))))))))) (LH.ret (aZ ?_))
   obtain rfl:=oI h
   exact aS (aT Tryz.results47) (df R bA cD bB R R (bR R (bP ⟨aR mN,R,a8 R,(Sub.de (rq (Sub.agg (u5 R bt)) (aK bt)))⟩)))
  replace h:=aA h iA
  refine LH.skip (av (LH.aj [(2,.ag [.aJ T 49 5 (List.map (aq.lt T) p0.aa)]),(3,.ag [.I p1.ID,.I p1.Version]),(4,.ptr 104 0),(7,.ptr 107 0),(8,.nil)] [(104,.box [.nil]),(107,.box [.I x8.ID,.ak 5 (x8.ae.map ai.lv),.aJ T 4 1 (x8.ah.map LV.bool),.aJ T 88 3 (x8.Uses.map az.lv),.bool x8.ab])] R (kh R zS) ?_))
  obtain ⟨v12,Fe,h⟩:=al h
  refine LH.aj [(2,.ag [.aJ T 49 5 (List.map (aq.lt T) p0.aa)]),(3,.ag [.I p1.ID,.I p1.Version]),(4,.ptr 104 0),(7,.ptr 107 0),(8,.arr 152 v12.length)] [(104,.box [.nil]),(107,.box [.I x8.ID,.ak 5 (x8.ae.map ai.lv),.aJ T 4 1 (x8.ah.map LV.bool),.aJ T 88 3 (x8.Uses.map az.lv),.bool x8.ab]),(152,.arr 4 1 (v12.map LV.bool))] R (Ib R (sN (dK eA eX ji R R (sN (dW R R R R eX nF (sN (FI (f:=LV.bool) (id:=152) R j8 Hi lQ R R Fe R (nE R zS)))))))) ?_
  obtain ⟨cT,lY,h⟩:=al h
  refine LH.aj [(2,.ag [.aJ T 49 5 (List.map (aq.lt T) p0.aa)]),(4,.ptr 104 0),(7,.ptr 107 0),(8,.aJ T 4 1 (List.map LV.bool (v12.set ((i64 (p1.Version - 1)).toNat) true)))] [(104,.box [.nil]),(107,.box [.I x8.ID,.ak 5 (x8.ae.map ai.lv),.aJ T 4 1 (x8.ah.map LV.bool),.aJ T 88 3 (x8.Uses.map az.lv),.bool x8.ab])] R (j5 R (sN (aw eS aE bb R R R (sN (bf R aE bN (sN (iG R R (sN (gX (f:=LV.bool) j8 ka lQ R R R lY (s_ (ri (f:=LV.bool) (z':=true) R R R R ka lQ R (dC lY).2 R (s0 ((Wk.trans (Wk.to (el:=[(2,.ag [.aJ T 49 5 (List.map (aq.lt T) p0.aa)]),(4,.ptr 104 0),(7,.ptr 107 0),(8,.arr 152 (List.length (v12.set ((i64 (p1.Version - 1)).toNat) true)))]) (ml:=[(104,.box [.nil]),(107,.box [.I x8.ID,.ak 5 (x8.ae.map ai.lv),.aJ T 4 1 (x8.ah.map LV.bool),.aJ T 88 3 (x8.Uses.map az.lv),.bool x8.ab]),(152,.arr 4 1 (List.map LV.bool (v12.set ((i64 (p1.Version - 1)).toNat) true)))]) (eC R (eC R (eC R (eC (congrArg (LV.arr 152) (by simp)) eN)))) ⟨R,R,R,trivial⟩ R (a8 R)) (Wk.trans (Wk.JS (f:=LV.bool) (fk:=[(2,.ag [.aJ T 49 5 (List.map (aq.lt T) p0.aa)]),(4,.ptr 104 0),(7,.ptr 107 0),(8,.aJ T 4 1 (List.map LV.bool (v12.set ((i64 (p1.Version - 1)).toNat) true)))]) T 152 4 1 (v12.set ((i64 (p1.Version - 1)).toNat) true) R R (bO R) (fK R (fK R (fK R (fZ fN))))) (Wk.eq R R R R)))))))))))))))) (LH.aj [(2,.ag [.aJ T 49 5 (List.map (aq.lt T) p0.aa)]),(4,.ptr 104 0),(7,.ag [.I x8.ID,.ak 5 (x8.ae.map ai.lv),.aJ T 4 1 (List.map LV.bool (v12.set ((i64 (p1.Version - 1)).toNat) true)),.aJ T 88 3 (x8.Uses.map az.lv),.bool x8.ab])] [(104,.box [.nil])] R (sN (oM (v:=(.aJ _ _ _ _)) R (sN (dK eA eX ji R R (s_ (cV R R R eX ji R R R (s0 ((Wk.trans (aX [(2,.ag [.aJ T 49 5 (List.map (aq.lt T) p0.aa)]),(4,.ptr 104 0),(7,.ptr 107 0)] [(104,.box [.nil]),(107,.box [.I x8.ID,.ak 5 (x8.ae.map ai.lv),.aJ T 4 1 (List.map LV.bool (v12.set ((i64 (p1.Version - 1)).toNat) true)),.aJ T 88 3 (x8.Uses.map az.lv),.bool x8.ab])]) (Wk.trans (Wk.bk 107 [.I x8.ID,.ak 5 (x8.ae.map ai.lv),.aJ T 4 1 (List.map LV.bool (v12.set ((i64 (p1.Version - 1)).toNat) true)),.aJ T 88 3 (x8.Uses.map az.lv),.bool x8.ab] R R R (bO R)) (Wk.eq R R R R))))))))))) ?_)
  obtain ⟨fb,vG,h⟩:=al h
  refine LH.aj [(4,.ag [.aJ T 49 5 (List.map (aq.lt T) fb.aa)]),(5,.I 0)] [] R (sN (bh R bA cD bB R R (sN (bh R dh js cK R R (sN (dU (args:=[.agg [.aJ T 49 5 (List.map (aq.lt T) p0.aa)],.agg [.I x8.ID,.ak 5 (x8.ae.map ai.lv),.aJ T 4 1 (List.map LV.bool (v12.set ((i64 (p1.Version - 1)).toNat) true)),.aJ T 88 3 (x8.Uses.map az.lv),.bool x8.ab]]) R xu R (aK (aK bt)) (xY (T:=T) vG) R (s_ (cV R R R bA bB R R R (bo R (s0 ((Wk.trans (aX [(4,.ptr 104 0),(5,.I 0)] [(104,.box [.aJ T 49 5 (List.map (aq.lt T) fb.aa)])]) (Wk.trans (Wk.bk 104 [.aJ T 49 5 (List.map (aq.lt T) fb.aa)] R R R (bO R)) (Wk.eq R R R R)))))))))))))) (LH.ret ?_)
  obtain rfl:=oI h
  exact aS (aT Tryz.results47) (df R bA cD bB R R (bR R (bP ⟨aR mN,R,a8 R,(Sub.de (aK (aK bt)))⟩)))
theorem PN {T:Bool} {F:Nat} {p0:aM} {p1:aG} {p2:Int} {p3:Int} {r:aM × Int} (h:lg F p0 p1 p2 p3=some r):aP Tryz.prog 48 [.agg [.aJ T 49 5 (List.map (aq.lt T) p0.aa)],.agg [.I p1.ID,.I p1.Version],.I p2,.I p3] (Mem.of []) (.de [.agg [.aJ T 49 5 (List.map (aq.lt T) r.1.aa)],.I r.2]) (Mem.of []):=by
  unfold lg at h
  refine bu Tryz.func48 R (nT Tryz.ntmps48 R) (LH.wk (aX [(0,.agg [.aJ T 49 5 (List.map (aq.lt T) p0.aa)]),(1,.agg [.I p1.ID,.I p1.Version]),(2,.I p2),(3,.I p3)] []) (LH.aj [(2,.I p2),(3,.I p3),(4,.ag [.aJ T 49 5 (List.map (aq.lt T) p0.aa)]),(5,.ag [.I p1.ID,.I p1.Version]),(8,.ptr 108 0)] [(108,.box [.nil])] R (sB (dp R R R R (sB (dp R R R R (sN (kS (id:=108) R fF R R (bo R zS))))))) ?_))
  obtain ⟨r1,ec,h⟩:=al h
  refine LH.aj [(2,.I p2),(3,.I p3),(4,.ag [.aJ T 49 5 (List.map (aq.lt T) p0.aa)]),(5,.ag [.I p1.ID,.I p1.Version]),(8,.ptr 108 0),(10,.I r1)] [(108,.box [.nil])] R (sN (bh R bA cD bB R R (sN (aw iN aE bb R R R (sN (bf R aE bN (sN (dU (args:=[.agg [.aJ T 49 5 (List.map (aq.lt T) p0.aa)],.I p1.ID]) R xt R (aK (aK bt)) (aP.view (xW ec) (eR (Rel.agg (eR (Rel.aJ aq.pJ (fun _=>R)) lB)) (eR Rel.int lB)) R R) R (bo R zS))))))))) (LH.seq ?_)
  obtain ⟨w3,hv,h⟩:=al h
  refine LH.c7 mixed [] [0,0,0,0,0,0,0,0,0,0,0,0,0,4,4,4,0,0,0] [(2,.I p2),(3,.I p3),(4,.ag [.aJ T 49 5 (List.map (aq.lt T) p0.aa)]),(5,.ag [.I p1.ID,.I p1.Version]),(8,.ptr 108 0),(10,.I r1),(36,.bool w3)] [(108,.box [.nil])] R R (by kernel_rfl) ?_ ?_
  ·refine eV R (aF (fi R R ⟨R,iF R ?_⟩))
   by_cases bJ:(decide (r1<0))=true
   ·replace hv:=aB hv bJ
    refine mF R R bJ (mF R R bJ (mF R R bJ (aF (aW (cB bJ) (v:=(.bool _)) R ⟨R,iF R (mF R R R (mF R R R (mF R R R (mF R R R (mF R R R (mF R R R (mF R R R (mF R R R (mF R R R (mF R R R (aF (aW R (v:=(.bool _)) R ⟨R,?_⟩))))))))))))⟩))))
    obtain rfl:=oI hv
    exact zM
   ·replace bJ:=bF bJ
    replace hv:=aA hv bJ
    refine mT R (cB bJ) (aF (aw eS aE bb R R R ⟨R,mT R (cB bJ) (aF (bf R aE bN ⟨R,mT R (cB bJ) (aF (fi R R ⟨R,aF (aV (cB bJ) (v:=(.bool _)) R ⟨R,iF R ?_⟩)⟩))⟩))⟩))
    by_cases bK:(decide (p1.Version<1))=true
    ·replace hv:=aB hv bK
     refine mF R R bK (mF R R bK (mF R R bK (mF R R bK (mF R R bK (mF R R bK (mF R R bK (mF R R bK (mF R R bK (mF R R bK (aF (aW (cB bK) (v:=(.bool _)) R ⟨R,?_⟩)))))))))))
     obtain rfl:=oI hv
     exact zM
    ·replace bK:=bF bK
     replace hv:=aA hv bK
     refine mT R (cB bK) (aF (aw eS aE bb R R R ⟨R,mT R (cB bK) (aF (bf R aE bN ⟨R,mT R (cB bK) (aF (aw ca cc dA R R R ⟨R,mT R (cB bK) (aF (bf R cc fD ⟨R,mT R (cB bK) (eV R ?_)⟩))⟩))⟩))⟩))
     obtain ⟨x6,NM,hv⟩:=al hv
     refine mT R (cB bK) (mM (fun _=>iH (f:=(aq.lt T)) dZ dh cK R R aq.BN NM R) (mT R (cB bK) (mM (fun _=>s7 dy dM ig R R R) (mT R (cB bK) (mM (fun _=>oG R dM j7) (mT R (cB bK) (aF (bX (f:=ai.lv) ic R ⟨R,mT R (cB bK) (aF (iw R R ⟨R,aF (aV (cB bK) (v:=(.bool _)) R ⟨R,?_⟩)⟩))⟩))))))))
     obtain rfl:=oI hv
     exact zM
  clear hv
  refine LH.cond (t:=w3) R (fun ke=>?_) (fun ke=>?_)
  ·replace h:=aB h ke
   refine LH.aj [(8,.ag [.nil]),(9,.I 4)] [] R (sN (gB (vs:=[]) lk fF R gA (s_ (cV R R R bA bB R R R (bo R (s0 ((Wk.trans (aX [(8,.ptr 108 0),(9,.I 4)] [(108,.box [.nil])]) (Wk.trans (Wk.bk 108 [.nil] R R R (bO R)) (Wk.eq R R R R)))))))))) (LH.ret (aZ ?_))
   obtain rfl:=oI h
   exact aS (aT Tryz.results48) (df R bA cD bB R R (bR R (bP ⟨aR mN,R,a8 R,(Sub.de (rq (Sub.agg (u5 R bt)) (aK bt)))⟩)))
  replace h:=aA h ke
  refine LH.skip (av ?_)
  obtain ⟨x8,ud,h⟩:=al h
  refine LH.aj [(2,.I p2),(3,.I p3),(4,.ag [.aJ T 49 5 (List.map (aq.lt T) p0.aa)]),(5,.ag [.I p1.ID,.I p1.Version]),(8,.ptr 108 0),(11,.ptr 111 0)] [(108,.box [.nil]),(111,.box [.I x8.ID,.ak 5 (x8.ae.map ai.lv),.aJ T 4 1 (x8.ah.map LV.bool),.aJ T 88 3 (x8.Uses.map az.lv),.bool x8.ab])] R ?_ ?_
  ·refine sN (aw ca cc dA R R R (sN (bf R cc fD (bl R (sX ((iH (f:=(aq.lt T)) dZ dh cK R R aq.BN ud R).ok) (sX ((nr R dh js cK R R).ok) ?_))))))
   exact sN (kS (id:=111) R tK R R (s_ (cV R R R dh cK R R R zS)))
  refine LH.seq ?_
  obtain ⟨Iq,hv,h⟩:=al h
  refine LH.aj [(2,.I p2),(3,.I p3),(4,.ag [.aJ T 49 5 (List.map (aq.lt T) p0.aa)]),(5,.ag [.I p1.ID,.I p1.Version]),(8,.ptr 108 0),(11,.ptr 111 0),(54,.bool Iq)] [(108,.box [.nil]),(111,.box [.I x8.ID,.ak 5 (x8.ae.map ai.lv),.aJ T 4 1 (x8.ah.map LV.bool),.aJ T 88 3 (x8.Uses.map az.lv),.bool x8.ab])] R ?_ ?_
  ·refine sN (dK ju ka lQ R R (sN (dW R R R R ka wm (bI R ?_))))
   by_cases eM:x8.ab=true
   ·replace hv:=aB hv eM
    refine sF R R eM (sF R R eM (sF R R eM (sF R R eM (sF R R eM (sF R R eM (sF R R eM (sF R R eM (sN (aW (cB eM) (v:=(.bool _)) R ?_)))))))))
    obtain rfl:=oI hv
    exact zS
   ·replace eM:=bF eM
    replace hv:=aA hv eM
    refine sT R (cB eM) (dK eA eX ji R R (sT R (cB eM) (dW R R R R eX nF (sT R (cB eM) (aw eS aE bb R R R (sT R (cB eM) (bf R aE bN (sT R (cB eM) (iG R R ?_)))))))))
    obtain ⟨gq,px,hv⟩:=al hv
    refine LI R (cB eM) ((iH (f:=LV.bool) j8 ka lQ R R okB px R).ok) (LI R (cB eM) ((oG R ka wm).ok) (sT R (cB eM) (kp R (sN (aV (cB eM) (v:=(.bool _)) R ?_)))))
    obtain rfl:=oI hv
    exact zS
  clear hv
  refine LH.cond (t:=Iq) R (fun oi=>?_) (fun oi=>?_)
  ·replace h:=aB h oi
   refine LH.aj [(8,.ag [.nil]),(9,.I 8)] [] R (sN (gB (vs:=[]) lk fF R gA (s_ (cV R R R bA bB R R R (bo R (s0 ((Wk.trans (aX [(8,.ptr 108 0),(9,.I 8)] [(108,.box [.nil])]) (Wk.trans (Wk.bk 108 [.nil] R R R (bO R)) (Wk.eq R R R R)))))))))) (LH.ret (aZ ?_))
   obtain rfl:=oI h
   exact aS (aT Tryz.results48) (df R bA cD bB R R (bR R (bP ⟨aR mN,R,a8 R,(Sub.de (rq (Sub.agg (u5 R bt)) (aK bt)))⟩)))
  replace h:=aA h oi
  refine LH.skip (av (LH.wk (aX [(2,.I p2),(3,.I p3),(4,.ag [.aJ T 49 5 (List.map (aq.lt T) p0.aa)]),(5,.ag [.I p1.ID,.I p1.Version]),(8,.ptr 108 0),(11,.ptr 111 0)] [(108,.box [.nil]),(111,.box [.I x8.ID,.ak 5 (x8.ae.map ai.lv),.aJ T 4 1 (x8.ah.map LV.bool),.aJ T 88 3 (x8.Uses.map az.lv),.bool x8.ab])]) (LH.seq (LH.aj [(2,.I p2),(3,.I p3),(4,.ag [.aJ T 49 5 (List.map (aq.lt T) p0.aa)]),(5,.ag [.I p1.ID,.I p1.Version]),(8,.ptr 108 0),(11,.ptr 111 0),(12,.I 0)] [(108,.box [.nil]),(111,.box [.I x8.ID,.ak 5 (x8.ae.map ai.lv),.aJ T 4 1 (x8.ah.map LV.bool),.aJ T 88 3 (x8.Uses.map az.lv),.bool x8.ab])] R (bo R zS) (LH.block (LH.loop (fun n e m=>∃ (n14:Int),tk F p0 p1 p2 p3 x8 n n14=some r∧e=Env.of [(2,.I p2),(3,.I p3),(4,.ag [.aJ T 49 5 (List.map (aq.lt T) p0.aa)]),(5,.ag [.I p1.ID,.I p1.Version]),(8,.ptr 108 0),(11,.ptr 111 0),(12,.I n14)]∧m=Mem.of [(108,.box [.nil]),(111,.box [.I x8.ID,.ak 5 (x8.ae.map ai.lv),.aJ T 4 1 (x8.ah.map LV.bool),.aJ T 88 3 (x8.Uses.map az.lv),.bool x8.ab])]) F ⟨0,h,R,R⟩ ?_))))))
  clear h
  rintro n e m ⟨n14,h,rfl,rfl⟩
  rcases n with _ | n
  · cases (show Option.none=some _ from h)
  obtain ⟨aH,ba⟩:∃ f,f=tk F p0 p1 p2 p3 x8 n:=⟨_,rfl⟩
  replace h:xX F p0 p1 p2 p3 x8 aH n14=some r:=ba ▸ h
  unfold xX at h
  refine LH.seq (LH.aj [(2,.I p2),(3,.I p3),(4,.ag [.aJ T 49 5 (List.map (aq.lt T) p0.aa)]),(5,.ag [.I p1.ID,.I p1.Version]),(8,.ptr 108 0),(11,.ptr 111 0),(12,.I n14),(60,.bool (decide (n14<(x8.Uses.length:Int))))] [(108,.box [.nil]),(111,.box [.I x8.ID,.ak 5 (x8.ae.map ai.lv),.aJ T 4 1 (x8.ah.map LV.bool),.aJ T 88 3 (x8.Uses.map az.lv),.bool x8.ab])] R (bl R (sN (dK ej eu jj R R (sN (dW R R R R eu lj (sX ((s8 (f:=az.lv) jt R).ok) (sN (fi R R zS)))))))) (LH.cond (t:=(decide (n14<(x8.Uses.length:Int)))) R (fun ja=>?_) (fun ja=>?_)))
  ·replace h:=aB h ja
   refine LH.skip (av (LH.wk (aX [(2,.I p2),(3,.I p3),(4,.ag [.aJ T 49 5 (List.map (aq.lt T) p0.aa)]),(5,.ag [.I p1.ID,.I p1.Version]),(8,.ptr 108 0),(11,.ptr 111 0),(12,.I n14)] [(108,.box [.nil]),(111,.box [.I x8.ID,.ak 5 (x8.ae.map ai.lv),.aJ T 4 1 (x8.ah.map LV.bool),.aJ T 88 3 (x8.Uses.map az.lv),.bool x8.ab])]) (LH.seq (LH.block ?_))))
   obtain ⟨It,Ao,h⟩:=al h
   refine LH.aj [(2,.I p2),(3,.I p3),(4,.ag [.aJ T 49 5 (List.map (aq.lt T) p0.aa)]),(5,.ag [.I p1.ID,.I p1.Version]),(8,.ptr 108 0),(11,.ptr 111 0),(12,.I n14),(70,.bool (It.Form == p2))] [(108,.box [.nil]),(111,.box [.I x8.ID,.ak 5 (x8.ae.map ai.lv),.aJ T 4 1 (x8.ah.map LV.bool),.aJ T 88 3 (x8.Uses.map az.lv),.bool x8.ab])] R (sN (dK ej eu jj R R (sN (dW R R R R eu lj (bl R (sX ((iH (f:=az.lv) jt wy nI R R az.ok Ao R).ok) (sX ((s7 wv aE bb R R R).ok) (sX ((oG R aE bN).ok) (bl R (sN (gm R R zS))))))))))) (LH.cond (t:=(It.Form == p2)) R (fun lr=>?_) (fun lr=>?_))
   ·replace h:=aB h lr
    refine LH.aj [(8,.ag [.nil]),(9,.I 5)] [] R (sN (gB (vs:=[]) lk fF R gA (s_ (cV R R R bA bB R R R (bo R (s0 ((Wk.trans (aX [(8,.ptr 108 0),(9,.I 5)] [(108,.box [.nil])]) (Wk.trans (Wk.bk 108 [.nil] R R R (bO R)) (Wk.eq R R R R)))))))))) (LH.ret (bL (aZ (dY (bL (aZ ?_))))))
    obtain rfl:=oI h
    exact aS (aT Tryz.results48) (df R bA cD bB R R (bR R (bP ⟨aR mN,R,a8 R,(Sub.de (rq (Sub.agg (u5 R bt)) (aK bt)))⟩)))
   replace h:=aA h lr
   refine LH.skip (aY (av (LH.aQ [(2,.I p2),(3,.I p3),(4,.ag [.aJ T 49 5 (List.map (aq.lt T) p0.aa)]),(5,.ag [.I p1.ID,.I p1.Version]),(8,.ptr 108 0),(11,.ptr 111 0),(12,.I (i64 (n14+1)))] [(108,.box [.nil]),(111,.box [.I x8.ID,.ak 5 (x8.ae.map ai.lv),.aJ T 4 1 (x8.ah.map LV.bool),.aJ T 88 3 (x8.Uses.map az.lv),.bool x8.ab])] R (bl R (sN (cr R R (bo R zS)))) ?_)))
   exact bg ⟨(i64 (n14+1)),ba ▸ h,R,R⟩ (Wk.eq R R R R)
  replace h:=aA h ja
  refine LH.exit (cv (bY (bM (av (LH.wk (aX [(2,.I p2),(3,.I p3),(4,.ag [.aJ T 49 5 (List.map (aq.lt T) p0.aa)]),(5,.ag [.I p1.ID,.I p1.Version]),(8,.ptr 108 0),(11,.ptr 111 0)] [(108,.box [.nil]),(111,.box [.I x8.ID,.ak 5 (x8.ae.map ai.lv),.aJ T 4 1 (x8.ah.map LV.bool),.aJ T 88 3 (x8.Uses.map az.lv),.bool x8.ab])]) (LH.seq (LH.aj [(2,.I p2),(3,.I p3),(4,.ag [.aJ T 49 5 (List.map (aq.lt T) p0.aa)]),(5,.ag [.I p1.ID,.I p1.Version]),(8,.ptr 108 0),(11,.ptr 111 0),(75,.bool ((x8.Uses.length:Int) == 300))] [(108,.box [.nil]),(111,.box [.I x8.ID,.ak 5 (x8.ae.map ai.lv),.aJ T 4 1 (x8.ah.map LV.bool),.aJ T 88 3 (x8.Uses.map az.lv),.bool x8.ab])] R (sN (dK ej eu jj R R (sN (dW R R R R eu lj (sX ((s8 (f:=az.lv) jt R).ok) (sN (gm R R zS))))))) (LH.cond (t:=((x8.Uses.length:Int) == 300)) R (fun iB=>?_) (fun iB=>?_)))))))))
  ·replace h:=aB h iB
   refine LH.aj [(8,.ag [.nil]),(9,.I 3)] [] R (sN (gB (vs:=[]) lk fF R gA (s_ (cV R R R bA bB R R R (bo R (s0 ((Wk.trans (aX [(8,.ptr 108 0),(9,.I 3)] [(108,.box [.nil])]) (Wk.trans (Wk.bk 108 [.nil] R R R (bO R)) (Wk.eq R R R R)))))))))) (LH.ret (aZ ?_))
   obtain rfl:=oI h
   exact aS (aT Tryz.results48) (df R bA cD bB R R (bR R (bP ⟨aR mN,R,a8 R,(Sub.de (rq (Sub.agg (u5 R bt)) (aK bt)))⟩)))
  replace h:=aA h iB
  refine LH.skip (av (LH.aj [(2,.I p2),(3,.I p3),(4,.ag [.aJ T 49 5 (List.map (aq.lt T) p0.aa)]),(5,.ag [.I p1.ID,.I p1.Version]),(8,.ptr 108 0),(11,.ptr 111 0),(13,.nil)] [(108,.box [.nil]),(111,.box [.I x8.ID,.ak 5 (x8.ae.map ai.lv),.aJ T 4 1 (x8.ah.map LV.bool),.aJ T 88 3 (x8.Uses.map az.lv),.bool x8.ab])] R (kh R zS) ?_))
  obtain ⟨qQ,Fh,h⟩:=al h
  refine LH.aj [(2,.I p2),(3,.I p3),(4,.ag [.aJ T 49 5 (List.map (aq.lt T) p0.aa)]),(5,.ag [.I p1.ID,.I p1.Version]),(8,.ptr 108 0),(11,.ptr 111 0),(13,.arr 180 qQ.length)] [(108,.box [.nil]),(111,.box [.I x8.ID,.ak 5 (x8.ae.map ai.lv),.aJ T 4 1 (x8.ah.map LV.bool),.aJ T 88 3 (x8.Uses.map az.lv),.bool x8.ab]),(180,.arr 88 3 (qQ.map az.lv))] R (Ib R (sN (dK ej eu jj R R (sN (dW R R R R eu lj (sN (FI (f:=az.lv) (id:=180) R jt A4 nI R R Fh R (nE R zS)))))))) ?_
  obtain ⟨v20,KV,h⟩:=al h
  refine LH.aj [(4,.ag [.aJ T 49 5 (List.map (aq.lt T) p0.aa)]),(8,.ptr 108 0),(11,.ag [.I x8.ID,.ak 5 (x8.ae.map ai.lv),.aJ T 4 1 (x8.ah.map LV.bool),.aJ T 88 3 (v20.map az.lv),.bool x8.ab])] [(108,.box [.nil])] R (j5 R (sN (aw eS aE bb R R R (sN (bf R aE bN (bl R (bl R (sN (gB (vs:=[(0,.I p1.Version),(1,.I p2),(2,.I p3)]) LO Ik R (lf oT bb aE R R R (lf wv bb aE R R R (lf wx bb aE R R R gA))) (sN (jI (f:=az.lv) (ys:=[(az.mk p1.Version p2 p3)]) jt A4 nI R R R az.ok (sN (my (f:=az.lv) jt A4 nI R R (bO R) R KV (sN (dK ej eu jj R R (s_ (cV R R R eu jj R R R (s0 ((Wk.trans (aX [(4,.ag [.aJ T 49 5 (List.map (aq.lt T) p0.aa)]),(8,.ptr 108 0),(11,.ptr 111 0)] [(108,.box [.nil]),(111,.box [.I x8.ID,.ak 5 (x8.ae.map ai.lv),.aJ T 4 1 (x8.ah.map LV.bool),.arr 180 v20.length,.bool x8.ab]),(180,.arr 88 3 (v20.map az.lv))]) (Wk.trans (aX [(4,.ag [.aJ T 49 5 (List.map (aq.lt T) p0.aa)]),(8,.ptr 108 0),(11,.ptr 111 0)] [(108,.box [.nil]),(111,.box [.I x8.ID,.ak 5 (x8.ae.map ai.lv),.aJ T 4 1 (x8.ah.map LV.bool),.arr 180 v20.length,.bool x8.ab]),(180,.arr 88 3 (v20.map az.lv))]) (Wk.trans (Wk.trans (Wk.sv (f:=az.lv) T 180 88 3 v20 111 R R R (IA R (IA R (IA R (MD (IA R MC))))) R R (bO R)) (aX [(4,.ag [.aJ T 49 5 (List.map (aq.lt T) p0.aa)]),(8,.ptr 108 0),(11,.ptr 111 0)] [(108,.box [.nil]),(111,.box [.I x8.ID,.ak 5 (x8.ae.map ai.lv),.aJ T 4 1 (x8.ah.map LV.bool),.aJ T 88 3 (v20.map az.lv),.bool x8.ab])])) (Wk.trans (Wk.bk 111 [.I x8.ID,.ak 5 (x8.ae.map ai.lv),.aJ T 4 1 (x8.ah.map LV.bool),.aJ T 88 3 (v20.map az.lv),.bool x8.ab] R R R (bO R)) (Wk.eq R R R R)))))))))))))))))))))))) ?_
  obtain ⟨gS,Ak,h⟩:=al h
  refine LH.aj [(8,.ag [.aJ T 49 5 (List.map (aq.lt T) gS.aa)]),(9,.I 0)] [] R (sN (bh R bA cD bB R R (sN (bh R dh js cK R R (sN (dU (args:=[.agg [.aJ T 49 5 (List.map (aq.lt T) p0.aa)],.agg [.I x8.ID,.ak 5 (x8.ae.map ai.lv),.aJ T 4 1 (x8.ah.map LV.bool),.aJ T 88 3 (v20.map az.lv),.bool x8.ab]]) R xu R (aK (aK bt)) (xY (T:=T) Ak) R (s_ (cV R R R bA bB R R R (bo R (s0 ((Wk.trans (aX [(8,.ptr 108 0),(9,.I 0)] [(108,.box [.aJ T 49 5 (List.map (aq.lt T) gS.aa)])]) (Wk.trans (Wk.bk 108 [.aJ T 49 5 (List.map (aq.lt T) gS.aa)] R R R (bO R)) (Wk.eq R R R R)))))))))))))) (LH.ret ?_)
  obtain rfl:=oI h
  exact aS (aT Tryz.results48) (df R bA cD bB R R (bR R (bP ⟨aR mN,R,a8 R,(Sub.de (aK (aK bt)))⟩)))
theorem Jp {T:Bool} {F:Nat} {p0:aM} {p1:Int} {p2:Bool} {r:aM × Int} (h:Dn F p0 p1 p2=some r):aP Tryz.prog 49 [.agg [.aJ T 49 5 (List.map (aq.lt T) p0.aa)],.I p1,.bool p2] (Mem.of []) (.de [.agg [.aJ T 49 5 (List.map (aq.lt T) r.1.aa)],.I r.2]) (Mem.of []):=by
  unfold Dn at h
  refine bu Tryz.func49 R (nT Tryz.ntmps49 R) (LH.wk (aX [(0,.agg [.aJ T 49 5 (List.map (aq.lt T) p0.aa)]),(1,.I p1),(2,.bool p2)] []) (LH.aj [(1,.I p1),(2,.bool p2),(3,.ag [.aJ T 49 5 (List.map (aq.lt T) p0.aa)]),(6,.ptr 106 0)] [(106,.box [.nil])] R (sB (dp R R R R (sN (kS (id:=106) R fF R R (bo R zS))))) ?_))
  obtain ⟨r1,ec,h⟩:=al h
  refine LH.aj [(2,.bool p2),(3,.ag [.aJ T 49 5 (List.map (aq.lt T) p0.aa)]),(6,.ptr 106 0),(8,.I r1)] [(106,.box [.nil])] R (sN (bh R bA cD bB R R (bl R (sN (dU (args:=[.agg [.aJ T 49 5 (List.map (aq.lt T) p0.aa)],.I p1]) R xt R (aK (aK bt)) (aP.view (xW ec) (eR (Rel.agg (eR (Rel.aJ aq.pJ (fun _=>R)) lB)) (eR Rel.int lB)) R R) R (bo R zS)))))) (LH.seq (LH.aj [(2,.bool p2),(3,.ag [.aJ T 49 5 (List.map (aq.lt T) p0.aa)]),(6,.ptr 106 0),(8,.I r1),(14,.bool (decide (r1<0)))] [(106,.box [.nil])] R (bl R (sN (fi R R zS))) (LH.cond (t:=(decide (r1<0))) R (fun fJ=>?_) (fun fJ=>?_))))
  ·replace h:=aB h fJ
   refine LH.aj [(6,.ag [.nil]),(7,.I 4)] [] R (sN (gB (vs:=[]) lk fF R gA (s_ (cV R R R bA bB R R R (bo R (s0 ((Wk.trans (aX [(6,.ptr 106 0),(7,.I 4)] [(106,.box [.nil])]) (Wk.trans (Wk.bk 106 [.nil] R R R (bO R)) (Wk.eq R R R R)))))))))) (LH.ret (aZ ?_))
   obtain rfl:=oI h
   exact aS (aT Tryz.results49) (df R bA cD bB R R (bR R (bP ⟨aR mN,R,a8 R,(Sub.de (rq (Sub.agg (u5 R bt)) (aK bt)))⟩)))
  replace h:=aA h fJ
  refine LH.skip (av ?_)
  obtain ⟨x3,fR,h⟩:=al h
  refine LH.aj [(2,.bool p2),(3,.ag [.aJ T 49 5 (List.map (aq.lt T) p0.aa)]),(6,.ptr 106 0),(9,.ptr 109 0)] [(106,.box [.nil]),(109,.box [.I x3.ID,.ak 5 (x3.ae.map ai.lv),.aJ T 4 1 (x3.ah.map LV.bool),.aJ T 88 3 (x3.Uses.map az.lv),.bool x3.ab])] R ?_ ?_
  ·refine sN (aw ca cc dA R R R (sN (bf R cc fD (bl R (sX ((iH (f:=(aq.lt T)) dZ dh cK R R aq.BN fR R).ok) (sX ((nr R dh js cK R R).ok) ?_))))))
   exact sN (kS (id:=109) R tK R R (s_ (cV R R R dh cK R R R zS)))
  refine LH.seq (LH.aj [(2,.bool p2),(3,.ag [.aJ T 49 5 (List.map (aq.lt T) p0.aa)]),(6,.ptr 106 0),(9,.ptr 109 0),(24,.bool (x3.ab == p2))] [(106,.box [.nil]),(109,.box [.I x3.ID,.ak 5 (x3.ae.map ai.lv),.aJ T 4 1 (x3.ah.map LV.bool),.aJ T 88 3 (x3.Uses.map az.lv),.bool x3.ab])] R (sN (dK ju ka lQ R R (sN (dW R R R R ka wm (bI R (sN (O3 R R Uv zS))))))) (LH.cond (t:=(x3.ab == p2)) R (fun jW=>?_) (fun jW=>?_)))
  ·replace h:=aB h jW
   refine LH.aj [(6,.ag [.nil]),(7,.I 8)] [] R (sN (gB (vs:=[]) lk fF R gA (s_ (cV R R R bA bB R R R (bo R (s0 ((Wk.trans (aX [(6,.ptr 106 0),(7,.I 8)] [(106,.box [.nil])]) (Wk.trans (Wk.bk 106 [.nil] R R R (bO R)) (Wk.eq R R R R)))))))))) (LH.ret (aZ ?_))
   obtain rfl:=oI h
   exact aS (aT Tryz.results49) (df R bA cD bB R R (bR R (bP ⟨aR mN,R,a8 R,(Sub.de (rq (Sub.agg (u5 R bt)) (aK bt)))⟩)))
  replace h:=aA h jW
  refine LH.skip (av (LH.aj [(3,.ag [.aJ T 49 5 (List.map (aq.lt T) p0.aa)]),(6,.ptr 106 0),(9,.ag [.I x3.ID,.ak 5 (x3.ae.map ai.lv),.aJ T 4 1 (x3.ah.map LV.bool),.aJ T 88 3 (x3.Uses.map az.lv),.bool p2])] [(106,.box [.nil])] R (bI R (sN (dK ju ka lQ R R (s_ (cV R R R ka lQ R R R (s0 ((Wk.trans (aX [(3,.ag [.aJ T 49 5 (List.map (aq.lt T) p0.aa)]),(6,.ptr 106 0),(9,.ptr 109 0)] [(106,.box [.nil]),(109,.box [.I x3.ID,.ak 5 (x3.ae.map ai.lv),.aJ T 4 1 (x3.ah.map LV.bool),.aJ T 88 3 (x3.Uses.map az.lv),.bool p2])]) (Wk.trans (Wk.bk 109 [.I x3.ID,.ak 5 (x3.ae.map ai.lv),.aJ T 4 1 (x3.ah.map LV.bool),.aJ T 88 3 (x3.Uses.map az.lv),.bool p2] R R R (bO R)) (Wk.eq R R R R)))))))))) ?_))
  obtain ⟨r5,CJ,h⟩:=al h
  refine LH.aj [(6,.ag [.aJ T 49 5 (List.map (aq.lt T) r5.aa)]),(7,.I 0)] [] R (sN (bh R bA cD bB R R (sN (bh R dh js cK R R (sN (dU (args:=[.agg [.aJ T 49 5 (List.map (aq.lt T) p0.aa)],.agg [.I x3.ID,.ak 5 (x3.ae.map ai.lv),.aJ T 4 1 (x3.ah.map LV.bool),.aJ T 88 3 (x3.Uses.map az.lv),.bool p2]]) R xu R (aK (aK bt)) (xY (T:=T) CJ) R (s_ (cV R R R bA bB R R R (bo R (s0 ((Wk.trans (aX [(6,.ptr 106 0),(7,.I 0)] [(106,.box [.aJ T 49 5 (List.map (aq.lt T) r5.aa)])]) (Wk.trans (Wk.bk 106 [.aJ T 49 5 (List.map (aq.lt T) r5.aa)] R R R (bO R)) (Wk.eq R R R R)))))))))))))) (LH.ret ?_)
  obtain rfl:=oI h
  exact aS (aT Tryz.results49) (df R bA cD bB R R (bR R (bP ⟨aR mN,R,a8 R,(Sub.de (aK (aK bt)))⟩)))
theorem PA {T:Bool} {F:Nat} {p0:aM} {p1:ax} {r:aM × Int} (h:yl F p0 p1=some r):aP Tryz.prog 26 [.agg [.aJ T 49 5 (List.map (aq.lt T) p0.aa)],ax.lv p1] (Mem.of []) (.de [.agg [.aJ T 49 5 (List.map (aq.lt T) r.1.aa)],.I r.2]) (Mem.of []):=by
  unfold yl at h
  refine bu Tryz.func26 R (nT Tryz.ntmps26 R) (LH.wk (aX [(0,.agg [.aJ T 49 5 (List.map (aq.lt T) p0.aa)]),(1,ax.lv p1)] []) (LH.aj [(2,.ag [.aJ T 49 5 (List.map (aq.lt T) p0.aa)]),(3,.ag (ax.lv p1).cells),(4,.ptr 104 0)] [(104,.box [.nil])] R (sB (dp R R R R (sB (dp R R R R (sN (kS (id:=104) R fF R R (bo R zS))))))) (LH.seq ?_)))
  obtain ⟨r1,ec,h⟩:=al h
  refine LH.aj [(2,.ag [.aJ T 49 5 (List.map (aq.lt T) p0.aa)]),(3,.ag (ax.lv p1).cells),(4,.ptr 104 0),(8,.bool (!r1))] [(104,.box [.nil])] R (sN (bh R bA cD bB R R (sN (dU (args:=[.agg [.aJ T 49 5 (List.map (aq.lt T) p0.aa)]]) R I2 R (aK bt) (aP.view (Jv ec) (eR (Rel.agg (eR (Rel.aJ aq.pJ (fun _=>R)) lB)) lB) R R) R (sN (kp R zS)))))) (LH.cond (t:=(!r1)) R (fun fJ=>?_) (fun fJ=>?_))
  ·replace h:=aB h fJ
   refine LH.aj [(4,.ag [.nil]),(5,.I 1)] [] R (sN (gB (vs:=[]) lk fF R gA (s_ (cV R R R bA bB R R R (bo R (s0 ((Wk.trans (aX [(4,.ptr 104 0),(5,.I 1)] [(104,.box [.nil])]) (Wk.trans (Wk.bk 104 [.nil] R R R (bO R)) (Wk.eq R R R R)))))))))) (LH.ret (aZ ?_))
   obtain rfl:=oI h
   exact aS (aT Tryz.results26) (df R bA cD bB R R (bR R (bP ⟨aR mN,R,a8 R,(Sub.de (rq (Sub.agg (u5 R bt)) (aK bt)))⟩)))
  replace h:=aA h fJ
  refine LH.skip (av (LH.wk (aX [(2,.ag [.aJ T 49 5 (List.map (aq.lt T) p0.aa)]),(3,.ag (ax.lv p1).cells),(4,.ptr 104 0)] [(104,.box [.nil])]) (LH.seq (LH.aj [(2,.ag [.aJ T 49 5 (List.map (aq.lt T) p0.aa)]),(3,.ag (ax.lv p1).cells),(4,.ptr 104 0),(11,.I p1.Kind)] [(104,.box [.nil])] R (sN (aw e8 aE bb R R R (sN (bf R aE bN zS)))) (LH.block (LH.aj [(2,.ag [.aJ T 49 5 (List.map (aq.lt T) p0.aa)]),(3,.ag (ax.lv p1).cells),(4,.ptr 104 0),(11,.I p1.Kind),(12,.bool (p1.Kind == 1))] [(104,.box [.nil])] R (sN (gm R R (cm R zS))) (LH.cond (t:=(p1.Kind == 1)) R (fun iC=>?_) (fun iC=>?_))))))))
  ·replace h:=aB h iC
   obtain ⟨r4,CI,h⟩:=al h
   refine LH.aj [(4,.ag [.aJ T 49 5 (List.map (aq.lt T) r4.1.aa)]),(5,.I r4.2)] [] R (sN (bh R bA cD bB R R (sN (aw e9 cG ct R R R (sN (bh R cG fo ct R R (sN (dU (args:=[.agg [.aJ T 49 5 (List.map (aq.lt T) p0.aa)],ai.lv p1.Item]) R Ob R (aK (aK bt)) (PB (T:=T) CI) R (sN (iO R R (sN (iO R R (s_ (cV R R R bA bB R R R (bo R (s0 ((Wk.trans (aX [(4,.ptr 104 0),(5,.I r4.2)] [(104,.box [.aJ T 49 5 (List.map (aq.lt T) r4.1.aa)])]) (Wk.trans (Wk.bk 104 [.aJ T 49 5 (List.map (aq.lt T) r4.1.aa)] R R R (bO R)) (Wk.eq R R R R)))))))))))))))))))) (LH.ret (bL (aZ ?_)))
   obtain rfl:=oI h
   exact aS (aT Tryz.results26) (df R bA cD bB R R (bR R (bP ⟨aR mN,R,a8 R,(Sub.de (aK (aK bt)))⟩)))
  replace h:=aA h iC
  refine LH.aj [(2,.ag [.aJ T 49 5 (List.map (aq.lt T) p0.aa)]),(3,.ag (ax.lv p1).cells),(4,.ptr 104 0),(11,.I p1.Kind),(20,.bool (p1.Kind == 2))] [(104,.box [.nil])] R (sN (gm R R (cm R zS))) (LH.cond (t:=(p1.Kind == 2)) R (fun ky=>?_) (fun ky=>?_))
  ·replace h:=aB h ky
   obtain ⟨r6,KK,h⟩:=al h
   refine LH.aj [(4,.ag [.aJ T 49 5 (List.map (aq.lt T) r6.1.aa)]),(5,.I r6.2)] [] R (sN (bh R bA cD bB R R (sN (aw e9 cG ct R R R (sN (bh R cG fo ct R R (sN (dU (args:=[.agg [.aJ T 49 5 (List.map (aq.lt T) p0.aa)],ai.lv p1.Item]) R Oc R (aK (aK bt)) (Pv (T:=T) KK) R (sN (iO R R (sN (iO R R (s_ (cV R R R bA bB R R R (bo R (s0 ((Wk.trans (aX [(4,.ptr 104 0),(5,.I r6.2)] [(104,.box [.aJ T 49 5 (List.map (aq.lt T) r6.1.aa)])]) (Wk.trans (Wk.bk 104 [.aJ T 49 5 (List.map (aq.lt T) r6.1.aa)] R R R (bO R)) (Wk.eq R R R R)))))))))))))))))))) (LH.ret (bL (aZ ?_)))
   obtain rfl:=oI h
   exact aS (aT Tryz.results26) (df R bA cD bB R R (bR R (bP ⟨aR mN,R,a8 R,(Sub.de (aK (aK bt)))⟩)))
  replace h:=aA h ky
  refine LH.aj [(2,.ag [.aJ T 49 5 (List.map (aq.lt T) p0.aa)]),(3,.ag (ax.lv p1).cells),(4,.ptr 104 0),(11,.I p1.Kind),(28,.bool (p1.Kind == 3))] [(104,.box [.nil])] R (sN (gm R R (cm R zS))) (LH.cond (t:=(p1.Kind == 3)) R (fun ke=>?_) (fun ke=>?_))
  ·replace h:=aB h ke
   obtain ⟨r8,KM,h⟩:=al h
   refine LH.aj [(4,.ag [.aJ T 49 5 (List.map (aq.lt T) r8.1.aa)]),(5,.I r8.2)] [] R (sN (bh R bA cD bB R R (sN (aw eT fg eJ R R R (sN (bh R fg qf eJ R R (sN (dU (args:=[.agg [.aJ T 49 5 (List.map (aq.lt T) p0.aa)],.agg [.I p1.Ref.ID,.I p1.Ref.Version]]) R Od R (aK (aK bt)) (Pq (T:=T) KM) R (sN (iO R R (sN (iO R R (s_ (cV R R R bA bB R R R (bo R (s0 ((Wk.trans (aX [(4,.ptr 104 0),(5,.I r8.2)] [(104,.box [.aJ T 49 5 (List.map (aq.lt T) r8.1.aa)])]) (Wk.trans (Wk.bk 104 [.aJ T 49 5 (List.map (aq.lt T) r8.1.aa)] R R R (bO R)) (Wk.eq R R R R)))))))))))))))))))) (LH.ret (bL (aZ ?_)))
   obtain rfl:=oI h
   exact aS (aT Tryz.results26) (df R bA cD bB R R (bR R (bP ⟨aR mN,R,a8 R,(Sub.de (aK (aK bt)))⟩)))
  replace h:=aA h ke
  refine LH.aj [(2,.ag [.aJ T 49 5 (List.map (aq.lt T) p0.aa)]),(3,.ag (ax.lv p1).cells),(4,.ptr 104 0),(11,.I p1.Kind),(36,.bool (p1.Kind == 4))] [(104,.box [.nil])] R (sN (gm R R (cm R zS))) (LH.cond (t:=(p1.Kind == 4)) R (fun sy=>?_) (fun sy=>?_))
  ·replace h:=aB h sy
   obtain ⟨dG,p5,h⟩:=al h
   refine LH.aj [(4,.ag [.aJ T 49 5 (List.map (aq.lt T) dG.1.aa)]),(5,.I dG.2)] [] R (sN (bh R bA cD bB R R (sN (aw eT fg eJ R R R (sN (bh R fg qf eJ R R (sN (aw kR aE bb R R R (sN (bf R aE bN (sN (aw db b6 bW R R R (sN (aw e7 aE bb R R R (sN (bf R aE bN (sN (dU (args:=[.agg [.aJ T 49 5 (List.map (aq.lt T) p0.aa)],.agg [.I p1.Ref.ID,.I p1.Ref.Version],.I p1.Form,.I p1.ar.Time]) R Oe R (aK (aK (aK (aK bt)))) (PN (T:=T) p5) R (sN (iO R R (sN (iO R R (s_ (cV R R R bA bB R R R (bo R (s0 ((Wk.trans (aX [(4,.ptr 104 0),(5,.I dG.2)] [(104,.box [.aJ T 49 5 (List.map (aq.lt T) dG.1.aa)])]) (Wk.trans (Wk.bk 104 [.aJ T 49 5 (List.map (aq.lt T) dG.1.aa)] R R R (bO R)) (Wk.eq R R R R)))))))))))))))))))))))))))))) (LH.ret (bL (aZ ?_)))
   obtain rfl:=oI h
   exact aS (aT Tryz.results26) (df R bA cD bB R R (bR R (bP ⟨aR mN,R,a8 R,(Sub.de (aK (aK bt)))⟩)))
  replace h:=aA h sy
  refine LH.aj [(2,.ag [.aJ T 49 5 (List.map (aq.lt T) p0.aa)]),(3,.ag (ax.lv p1).cells),(4,.ptr 104 0),(11,.I p1.Kind),(49,.bool (p1.Kind == 5))] [(104,.box [.nil])] R (sN (gm R R (cm R zS))) (LH.cond (t:=(p1.Kind == 5)) R (fun iA=>?_) (fun iA=>?_))
  ·replace h:=aB h iA
   obtain ⟨cI,Aj,h⟩:=al h
   refine LH.aj [(4,.ag [.aJ T 49 5 (List.map (aq.lt T) cI.1.aa)]),(5,.I cI.2)] [] R (sN (bh R bA cD bB R R (sN (aw eT fg eJ R R R (sN (aw iN aE bb R R R (sN (bf R aE bN (sN (dU (args:=[.agg [.aJ T 49 5 (List.map (aq.lt T) p0.aa)],.I p1.Ref.ID,.bool true]) R I3 R (aK (aK (aK bt))) (Jp (T:=T) Aj) R (sN (iO R R (sN (iO R R (s_ (cV R R R bA bB R R R (bo R (s0 ((Wk.trans (aX [(4,.ptr 104 0),(5,.I cI.2)] [(104,.box [.aJ T 49 5 (List.map (aq.lt T) cI.1.aa)])]) (Wk.trans (Wk.bk 104 [.aJ T 49 5 (List.map (aq.lt T) cI.1.aa)] R R R (bO R)) (Wk.eq R R R R)))))))))))))))))))))) (LH.ret (bL (aZ ?_)))
   obtain rfl:=oI h
   exact aS (aT Tryz.results26) (df R bA cD bB R R (bR R (bP ⟨aR mN,R,a8 R,(Sub.de (aK (aK bt)))⟩)))
  replace h:=aA h iA
  refine LH.aj [(2,.ag [.aJ T 49 5 (List.map (aq.lt T) p0.aa)]),(3,.ag (ax.lv p1).cells),(4,.ptr 104 0),(58,.bool (p1.Kind == 6))] [(104,.box [.nil])] R (sN (gm R R (cm R zS))) (LH.cond (t:=(p1.Kind == 6)) R (fun oi=>?_) (fun oi=>?_))
  ·replace h:=aB h oi
   obtain ⟨fb,vG,h⟩:=al h
   refine LH.aj [(4,.ag [.aJ T 49 5 (List.map (aq.lt T) fb.1.aa)]),(5,.I fb.2)] [] R (sN (bh R bA cD bB R R (sN (aw eT fg eJ R R R (sN (aw iN aE bb R R R (sN (bf R aE bN (sN (dU (args:=[.agg [.aJ T 49 5 (List.map (aq.lt T) p0.aa)],.I p1.Ref.ID,.bool false]) R I3 R (aK (aK (aK bt))) (Jp (T:=T) vG) R (sN (iO R R (sN (iO R R (s_ (cV R R R bA bB R R R (bo R (s0 ((Wk.trans (aX [(4,.ptr 104 0),(5,.I fb.2)] [(104,.box [.aJ T 49 5 (List.map (aq.lt T) fb.1.aa)])]) (Wk.trans (Wk.bk 104 [.aJ T 49 5 (List.map (aq.lt T) fb.1.aa)] R R R (bO R)) (Wk.eq R R R R)))))))))))))))))))))) (LH.ret (bL (aZ ?_)))
   obtain rfl:=oI h
   exact aS (aT Tryz.results26) (df R bA cD bB R R (bR R (bP ⟨aR mN,R,a8 R,(Sub.de (aK (aK bt)))⟩)))
  replace h:=aA h oi
  refine LH.skip (aY (av (LH.aj [(4,.ag [.nil]),(5,.I 2)] [] R (sN (gB (vs:=[]) lk fF R gA (s_ (cV R R R bA bB R R R (bo R (s0 ((Wk.trans (aX [(4,.ptr 104 0),(5,.I 2)] [(104,.box [.nil])]) (Wk.trans (Wk.bk 104 [.nil] R R R (bO R)) (Wk.eq R R R R)))))))))) (LH.ret ?_))))
  obtain rfl:=oI h
  exact aS (aT Tryz.results26) (df R bA cD bB R R (bR R (bP ⟨aR mN,R,a8 R,(Sub.de (rq (Sub.agg (u5 R bt)) (aK bt)))⟩)))
theorem PF {T:Bool} {F:Nat} {p0:List ax} {p1:Int} {r:aM × List b7 × Int} (h:yq F p0 p1=some r):aP Tryz.prog 11 [.ak 12 (p0.map ax.lv),.I p1] (Mem.of []) (.de [.agg [.aJ T 49 5 (List.map (aq.lt T) r.1.aa)],.ak 3 (r.2.1.map b7.lv),.I r.2.2]) (Mem.of []):=by
  unfold yq at h
  refine bu Tryz.func11 R (nT Tryz.ntmps11 R) (LH.wk (aX [(0,.ak 12 (p0.map ax.lv)),(1,.I p1)] []) (LH.aj [(0,.ak 12 (p0.map ax.lv)),(1,.I p1),(4,.ptr 104 0)] [(104,.box [.nil])] R (sN (kS (id:=104) R fF R R (kh R (bo R zS)))) ?_))
  obtain ⟨r1,ec,h⟩:=al h
  refine LH.aj [(1,.I p1),(4,.ptr 104 0),(7,.ak 12 (r1.1.map ax.lv)),(8,.I r1.2)] [(104,.box [.nil])] R (eZ R (sN (dU (args:=[.ak 12 (p0.map ax.lv)]) R N6 R (aK bt) (Pj ec) R (yH R (sN (iO R R (sN (iO R R (qb R (bo R zS)))))))))) (LH.seq (LH.aj [(1,.I p1),(4,.ptr 104 0),(7,.ak 12 (r1.1.map ax.lv)),(8,.I r1.2),(20,.bool (r1.2 != 0))] [(104,.box [.nil])] R (bl R (sN (kg R R zS))) (LH.cond (t:=(r1.2 != 0)) R (fun fJ=>?_) (fun fJ=>?_))))
  ·replace h:=aB h fJ
   refine LH.aj [(4,.ag [.nil]),(5,.nil),(6,.I r1.2)] [] R (sN (gB (vs:=[]) lk fF R gA (bl R (s_ (cV R R R bA bB R R R (kh R (bo R (s0 ((Wk.trans (aX [(4,.ptr 104 0),(5,.nil),(6,.I r1.2)] [(104,.box [.nil])]) (Wk.trans (Wk.bk 104 [.nil] R R R (bO R)) (Wk.eq R R R R)))))))))))) (LH.ret (aZ ?_))
   obtain rfl:=oI h
   exact aS (aT Tryz.results11) (df R bA cD bB R R (bR R (bR R (bP ⟨aR mN,R,a8 R,(Sub.de (rq (Sub.agg (u5 R bt)) (yI (aK bt))))⟩))))
  replace h:=aA h fJ
  refine LH.skip (av (LH.aj [(1,.I p1),(4,.ptr 104 0),(7,.ak 12 (r1.1.map ax.lv)),(9,.ptr 109 0)] [(104,.box [.nil]),(109,.box [.nil])] R (sN (kS (id:=109) R fF R R zS)) (LH.aj [(1,.I p1),(4,.ptr 104 0),(7,.ak 12 (r1.1.map ax.lv)),(9,.ptr 109 0),(10,.nil)] [(104,.box [.nil]),(109,.box [.nil])] R (kh R zS) (LH.seq (LH.aj [(1,.I p1),(4,.ptr 104 0),(7,.ak 12 (r1.1.map ax.lv)),(9,.ptr 109 0),(10,.nil),(11,.I 0)] [(104,.box [.nil]),(109,.box [.nil])] R (bo R zS) (LH.block (LH.wk ((Wk.trans (aX [(1,.I p1),(4,.ptr 104 0),(7,.ak 12 (r1.1.map ax.lv)),(9,.ptr 109 0),(10,.nil),(11,.I 0)] [(104,.box [.nil]),(109,.box [.nil])]) (Wk.trans (aX [(1,.I p1),(4,.ptr 104 0),(7,.ak 12 (r1.1.map ax.lv)),(9,.ptr 109 0),(10,.nil),(11,.I 0)] [(104,.box [.nil]),(109,.box [.nil])]) (Wk.trans (Wk.rl (fk:=[(1,.I p1),(4,.ptr 104 0),(7,.ak 12 (r1.1.map ax.lv)),(9,.ptr 109 0),(10,.arr 165 (List.length ([]:List b7))),(11,.I 0)]) 165 84 3 R R (wK (wK (wK (wK (wO (wK wN))))))) (Wk.trans (aX [(1,.I p1),(4,.ptr 104 0),(7,.ak 12 (r1.1.map ax.lv)),(9,.ptr 109 0),(10,.arr 165 (List.length ([]:List b7))),(11,.I 0)] [(104,.box [.nil]),(109,.box [.nil]),(165,.arr 84 3 (List.map b7.lv ([]:List b7)))]) (Wk.trans (Wk.uQ 10090 49 5 109 0 R R R R R (bO R)) (Wk.trans (aX [(1,.I p1),(4,.ptr 104 0),(7,.ak 12 (r1.1.map ax.lv)),(9,.ptr 109 0),(10,.arr 165 (List.length ([]:List b7))),(11,.I 0)] [(104,.box [.nil]),(109,.box [.arr 10090 (List.length ([]:List aq))]),(165,.arr 84 3 (List.map b7.lv ([]:List b7))),(10090,.arr 49 5 (List.map (aq.lt T) ([]:List aq)))]) (Wk.trans (Wk.trans (Wk.sv (f:=(aq.lt T)) T 10090 49 5 ([]:List aq) 109 R R R (MD MC) R R (bO R)) (aX [(1,.I p1),(4,.ptr 104 0),(7,.ak 12 (r1.1.map ax.lv)),(9,.ptr 109 0),(10,.arr 165 (List.length ([]:List b7))),(11,.I 0)] [(104,.box [.nil]),(109,.box [.aJ T 49 5 (List.map (aq.lt T) ([]:List aq))]),(165,.arr 84 3 (List.map b7.lv ([]:List b7)))])) (aX [(1,.I p1),(4,.ptr 104 0),(7,.ak 12 (r1.1.map ax.lv)),(9,.ptr 109 0),(10,.arr 165 (List.length ([]:List b7))),(11,.I 0)] [(104,.box [.nil]),(109,.box [.aJ T 49 5 (List.map (aq.lt T) ([]:List aq))]),(165,.arr 84 3 (List.map b7.lv ([]:List b7)))]))))))))) (LH.loop (fun n e m=>∃ (n3:Int) (l4:List aq) (l5:List b7),AQ F p1 r1 n n3 l4 l5=some r∧e=Env.of [(1,.I p1),(4,.ptr 104 0),(7,.ak 12 (r1.1.map ax.lv)),(9,.ptr 109 0),(10,.arr 165 l5.length),(11,.I n3)]∧m=Mem.of [(104,.box [.nil]),(109,.box [.aJ T 49 5 (List.map (aq.lt T) l4)]),(165,.arr 84 3 (l5.map b7.lv))]) F ⟨0,([]:List aq),([]:List b7),h,R,R⟩ ?_))))))))
  clear h
  rintro n e m ⟨n3,l4,l5,h,rfl,rfl⟩
  rcases n with _ | n
  · cases (show Option.none=some _ from h)
  obtain ⟨aH,ba⟩:∃ f,f=AQ F p1 r1 n:=⟨_,rfl⟩
  replace h:xQ F p1 r1 aH n3 l4 l5=some r:=ba ▸ h
  unfold xQ at h
  refine LH.seq (LH.aj [(1,.I p1),(4,.ptr 104 0),(7,.ak 12 (r1.1.map ax.lv)),(9,.ptr 109 0),(10,.arr 165 l5.length),(11,.I n3),(26,.bool (decide (n3<(r1.1.length:Int))))] [(104,.box [.nil]),(109,.box [.aJ T 49 5 (List.map (aq.lt T) l4)]),(165,.arr 84 3 (l5.map b7.lv))] R (bl R (eZ R (sN (bX (f:=ax.lv) gn R (sN (fi R R zS)))))) (LH.cond (t:=(decide (n3<(r1.1.length:Int)))) R (fun gb=>?_) (fun gb=>?_)))
  ·replace h:=aB h gb
   refine LH.skip (av (LH.wk (aX [(1,.I p1),(4,.ptr 104 0),(7,.ak 12 (r1.1.map ax.lv)),(9,.ptr 109 0),(10,.arr 165 l5.length),(11,.I n3)] [(104,.box [.nil]),(109,.box [.aJ T 49 5 (List.map (aq.lt T) l4)]),(165,.arr 84 3 (l5.map b7.lv))]) (LH.seq (LH.block (LH.seq ?_)))))
   obtain ⟨x7,DQ,h⟩:=al h
   refine LH.aj [(1,.I p1),(4,.ptr 104 0),(7,.ak 12 (r1.1.map ax.lv)),(9,.ptr 109 0),(10,.arr 165 l5.length),(11,.I n3),(36,.bool (decide (x7.ar.Time > p1)))] [(104,.box [.nil]),(109,.box [.aJ T 49 5 (List.map (aq.lt T) l4)]),(165,.arr 84 3 (l5.map b7.lv))] R (eZ R (bl R (sN (eW (f:=ax.lv) gn fx ew R R ax.ok DQ R (sN (aw db b6 bW R R R (sN (aw e7 aE bb R R R (sN (bf R aE bN (bl R (sN (iw R R zS))))))))))))) (LH.cond (t:=(decide (x7.ar.Time > p1))) R (fun ly=>?_) (fun ly=>?_))
   ·replace h:=aB h ly
    refine LH.exit (cv (bM (av (LH.aQ [(1,.I p1),(4,.ptr 104 0),(7,.ak 12 (r1.1.map ax.lv)),(9,.ptr 109 0),(10,.arr 165 l5.length),(11,.I (i64 (n3+1)))] [(104,.box [.nil]),(109,.box [.aJ T 49 5 (List.map (aq.lt T) l4)]),(165,.arr 84 3 (l5.map b7.lv))] R (bl R (sN (cr R R (bo R zS)))) ?_))))
    exact bg ⟨(i64 (n3+1)),l4,l5,ba ▸ h,R,R⟩ (Wk.eq R R R R)
   replace h:=aA h ly
   refine LH.skip (av ?_)
   obtain ⟨x9,zl,h⟩:=al h
   obtain ⟨dG,p5,h⟩:=al h
   refine LH.c7 mixed [] [1109,0,0,0,0,0,0,0,0,2,100112,0] [(1,.I p1),(4,.ptr 104 0),(7,.ak 12 (r1.1.map ax.lv)),(9,.ptr 109 0),(10,.arr 165 l5.length),(11,.I n3),(12,.ag [.aJ T 49 5 (List.map (aq.lt T) dG.1.aa)]),(13,.I dG.2)] [(104,.box [.nil]),(109,.box [.aJ T 49 5 (List.map (aq.lt T) l4)]),(165,.arr 84 3 (l5.map b7.lv))] R R (by kernel_rfl) (mD R R R (fun _ b _ d=>uO R b R bA cD bB R R d) (pO R (eV R (aF (eW (f:=ax.lv) gn fx ew R R ax.ok zl R ⟨R,aF (bh R fx me ew R R ⟨R,aF (dU (args:=[.agg [.aJ T 49 5 (List.map (aq.lt T) l4)],ax.lv x9]) R N1 R (aK (aK bt)) (PA (T:=T) p5) R ⟨R,V6 R (aF (iO R R ⟨R,aF (iO R R ⟨R,Hg (kS (id:=112) R fF R R (mS R R R (fun _ b _ d=>cV R R R bA bB b R R d) (Mk R (m0 ((Wk.trans (aX [(1,.I p1),(4,.ptr 104 0),(7,.ak 12 (r1.1.map ax.lv)),(9,.ptr 109 0),(10,.arr 165 l5.length),(11,.I n3),(12,.ptr 112 0),(13,.I dG.2)] [(104,.box [.nil]),(109,.box [.aJ T 49 5 (List.map (aq.lt T) l4)]),(112,.box [.aJ T 49 5 (List.map (aq.lt T) dG.1.aa)]),(165,.arr 84 3 (l5.map b7.lv))]) (Wk.trans (Wk.bk 112 [.aJ T 49 5 (List.map (aq.lt T) dG.1.aa)] R R R (bO R)) (Wk.eq R R R R))))))))⟩)⟩))⟩)⟩)⟩))))) (LH.seq (LH.aj [(1,.I p1),(4,.ptr 104 0),(7,.ak 12 (r1.1.map ax.lv)),(9,.ptr 109 0),(10,.arr 165 l5.length),(11,.I n3),(12,.ag [.aJ T 49 5 (List.map (aq.lt T) dG.1.aa)]),(13,.I dG.2),(47,.bool (dG.2 != 0))] [(104,.box [.nil]),(109,.box [.aJ T 49 5 (List.map (aq.lt T) l4)]),(165,.arr 84 3 (l5.map b7.lv))] R (bl R (sN (kg R R zS))) (LH.cond (t:=(dG.2 != 0)) R (fun iA=>?_) (fun iA=>?_))))
   ·replace h:=aB h iA
    obtain ⟨gq,px,h⟩:=al h
    obtain ⟨cT,lY,h⟩:=al h
    obtain ⟨kE,Am,h⟩:=al h
    refine LH.c7 mixed [] [0,0,0,0,0,0,0,0,0,0,0,0,0,0,0,0,0,2,0] [(1,.I p1),(4,.ptr 104 0),(7,.ak 12 (r1.1.map ax.lv)),(9,.ptr 109 0),(10,.arr 165 kE.length),(11,.I n3)] [(104,.box [.nil]),(109,.box [.aJ T 49 5 (List.map (aq.lt T) l4)]),(165,.arr 84 3 (kE.map b7.lv))] R R (by kernel_rfl) ?_ ?_
    ·exact OW R (pO R (eV R (aF (eW (f:=ax.lv) gn fx ew R R ax.ok px R ⟨R,aF (aw db b6 bW R R R ⟨R,aF (aw ek aE bb R R R ⟨R,aF (bf R aE bN ⟨R,pO R (eV R (aF (eW (f:=ax.lv) gn fx ew R R ax.ok lY R ⟨R,aF (aw db b6 bW R R R ⟨R,aF (aw dz aE bb R R R ⟨R,aF (bf R aE bN ⟨R,aF (gB (vs:=[(0,.I gq.ar.Source),(1,.I cT.ar.Seq)]) y5 y8 R (lf mJ bb aE R R R (lf mK bb aE R R R gA)) ⟨R,eV R (aF (gB (vs:=[(0,.agg [.I gq.ar.Source,.I cT.ar.Seq]),(1,.I dG.2)]) y6 y9 R (lf mL y4 yZ R R R (lf mO y3 yY R R R gA)) ⟨R,aF (jI (f:=b7.lv) (ys:=[(b7.mk (rO.mk gq.ar.Source cT.ar.Seq) dG.2)]) mH nG nH R R R b7.ok ⟨R,Hg (my (f:=b7.lv) mH nG nH R R (bO R) R Am (V4 R zM))⟩)⟩))⟩)⟩)⟩)⟩)⟩)))⟩)⟩)⟩)⟩))))
    refine LH.exit (cv (bM (av (LH.aQ [(1,.I p1),(4,.ptr 104 0),(7,.ak 12 (r1.1.map ax.lv)),(9,.ptr 109 0),(10,.arr 165 kE.length),(11,.I (i64 (n3+1)))] [(104,.box [.nil]),(109,.box [.aJ T 49 5 (List.map (aq.lt T) l4)]),(165,.arr 84 3 (kE.map b7.lv))] R (bl R (sN (cr R R (bo R zS)))) ?_))))
    exact bg ⟨(i64 (n3+1)),l4,kE,ba ▸ h,R,R⟩ (Wk.eq R R R R)
   replace h:=aA h iA
   refine LH.skip (av (LH.aQ [(1,.I p1),(4,.ptr 104 0),(7,.ak 12 (r1.1.map ax.lv)),(9,.ptr 109 0),(10,.arr 165 l5.length),(11,.I n3)] [(104,.box [.nil]),(109,.box [.aJ T 49 5 (List.map (aq.lt T) dG.1.aa)]),(165,.arr 84 3 (l5.map b7.lv))] R (sN (bh R bA cD bB R R (s_ (cV R R R bA bB R R R zS)))) (aY (av (LH.aQ [(1,.I p1),(4,.ptr 104 0),(7,.ak 12 (r1.1.map ax.lv)),(9,.ptr 109 0),(10,.arr 165 l5.length),(11,.I (i64 (n3+1)))] [(104,.box [.nil]),(109,.box [.aJ T 49 5 (List.map (aq.lt T) dG.1.aa)]),(165,.arr 84 3 (l5.map b7.lv))] R (bl R (sN (cr R R (bo R zS)))) ?_)))))
   exact bg ⟨(i64 (n3+1)),dG.1.aa,l5,ba ▸ h,R,R⟩ (Wk.eq R R R R)
  replace h:=aA h gb
  refine LH.exit (cv (bY (bM (av (LH.wk ((Wk.trans (aX [(4,.ptr 104 0),(9,.ptr 109 0),(10,.arr 165 l5.length)] [(104,.box [.nil]),(109,.box [.aJ T 49 5 (List.map (aq.lt T) l4)]),(165,.arr 84 3 (l5.map b7.lv))]) (Wk.trans (Wk.kL (f:=b7.lv) (fk:=[(4,.ptr 104 0),(9,.ptr 109 0),(10,.ak 3 (l5.map b7.lv))]) 165 84 3 l5 R R (bO R) (fK R (fK R (fZ fN)))) (Wk.trans (Wk.bk 109 [.aJ T 49 5 (List.map (aq.lt T) l4)] R R R (bO R)) (aX [(4,.ptr 104 0),(9,.ag [.aJ T 49 5 (List.map (aq.lt T) l4)]),(10,.ak 3 (l5.map b7.lv))] [(104,.box [.nil])]))))) (LH.aj [(4,.ag [.aJ T 49 5 (List.map (aq.lt T) l4)]),(5,.ak 3 (l5.map b7.lv)),(6,.I 0)] [] R (sN (bh R bA cD bB R R (eZ R (s_ (cV R R R bA bB R R R (qb R (bo R (s0 ((Wk.trans (aX [(4,.ptr 104 0),(5,.ak 3 (l5.map b7.lv)),(6,.I 0)] [(104,.box [.aJ T 49 5 (List.map (aq.lt T) l4)])]) (Wk.trans (Wk.bk 104 [.aJ T 49 5 (List.map (aq.lt T) l4)] R R R (bO R)) (Wk.eq R R R R)))))))))))) (LH.ret ?_)))))))
  obtain rfl:=oI h
  exact aS (aT Tryz.results11) (df R bA cD bB R R (bR R (bR R (bP ⟨aR mN,R,a8 R,(Sub.de (aK (aK (aK bt))))⟩))))
theorem Jo {F:Nat} {p0:aq} {r:Bool} (h:Df F p0=some r):aP Tryz.prog 64 [aq.lv p0] (Mem.of []) (.bool r) (Mem.of []):=by
  unfold Df at h
  refine bu Tryz.func64 R (nT Tryz.ntmps64 R) (LH.wk (aX [(0,aq.lv p0)] []) (LH.aj [(1,.ag (aq.lv p0).cells)] [] R (sB (dp R R R R (cm R zS))) (LH.seq (LH.aj [(1,.ag (aq.lv p0).cells),(31,.bool ((decide ((p0.ae.length:Int)<1)) || ((decide ((p0.ae.length:Int) > 8)) || (((p0.ah.length:Int) != (p0.ae.length:Int)) || (decide ((p0.Uses.length:Int) > 300))))))] [] R ?_ ?_))))
  ·refine sN (aw dy dM ig R R R (sN (bf R dM j7 (sN (bX (f:=ai.lv) ic R (sN (fi R R (bI R ?_))))))))
   by_cases cL:(decide ((p0.ae.length:Int)<1))=true
   ·exact sF R R cL (sF R R cL (sF R R cL (sF R R cL (sN (aW (cB cL) (v:=(.bool _)) R (bI R (sF R R R (sF R R R (sF R R R (sF R R R (sF R R R (sF R R R (sF R R R (sN (aW R (v:=(.bool _)) R (bI R (sF R R R (sF R R R (sF R R R (sF R R R (sN (aW R (v:=(.bool _)) R (s0 (Wk.to (eC R (eC (cB (p7 cL)) eN)) mN R (a8 R)))))))))))))))))))))))))
   ·replace cL:=bF cL
    refine sT R (cB cL) (aw dy dM ig R R R (sT R (cB cL) (bf R dM j7 (sT R (cB cL) (bX (f:=ai.lv) ic R (sT R (cB cL) (iw R R (sN (aV (cB cL) (v:=(.bool _)) R (bI R ?_))))))))))
    by_cases bZ:(decide ((p0.ae.length:Int) > 8))=true
    ·exact sF R R bZ (sF R R bZ (sF R R bZ (sF R R bZ (sF R R bZ (sF R R bZ (sF R R bZ (sN (aW (cB bZ) (v:=(.bool _)) R (bI R (sF R R R (sF R R R (sF R R R (sF R R R (sN (aW R (v:=(.bool _)) R (s0 (Wk.to (eC R (eC (cB (Eq.trans (p7 bZ) (iJ cL))) eN)) mN R (a8 R))))))))))))))))))
    ·replace bZ:=bF bZ
     refine sT R (cB bZ) (aw eA eX ji R R R (sT R (cB bZ) (bf R eX nF (sT R (cB bZ) (bX (f:=LV.bool) j8 R (sT R (cB bZ) (aw dy dM ig R R R (sT R (cB bZ) (bf R dM j7 (sT R (cB bZ) (bX (f:=ai.lv) ic R (sT R (cB bZ) (kg R R (sN (aV (cB bZ) (v:=(.bool _)) R (bI R ?_))))))))))))))))
     by_cases bJ:((p0.ah.length:Int) != (p0.ae.length:Int))=true
     ·exact sF R R bJ (sF R R bJ (sF R R bJ (sF R R bJ (sN (aW (cB bJ) (v:=(.bool _)) R (s0 (Wk.to (eC R (eC (cB (Eq.trans (Eq.trans (p7 bJ) (iJ bZ)) (iJ cL))) eN)) mN R (a8 R))))))))
     ·replace bJ:=bF bJ
      exact sT R (cB bJ) (aw ej eu jj R R R (sT R (cB bJ) (bf R eu lj (sT R (cB bJ) (bX (f:=az.lv) jt R (sT R (cB bJ) (iw R R (sN (aV (cB bJ) (v:=(.bool _)) R (s0 (Wk.to (eC R (eC (cB (Eq.trans (Eq.trans (iJ bJ) (iJ bZ)) (iJ cL))) eN)) mN R (a8 R))))))))))))
  refine LH.cond (t:=((decide ((p0.ae.length:Int)<1)) || ((decide ((p0.ae.length:Int) > 8)) || (((p0.ah.length:Int) != (p0.ae.length:Int)) || (decide ((p0.Uses.length:Int) > 300)))))) R (fun ky=>?_) (fun ky=>?_)
  ·replace h:=aB h ky
   refine LH.aj [(2,.bool false)] [] R (cm R zS) (LH.ret (aZ ?_))
   obtain rfl:=oI h
   exact aS (aT Tryz.results64) (bR R (bP ⟨aR mN,R,a8 R,Sub.rfl⟩))
  replace h:=aA h ky
  refine LH.skip (av (LH.wk (aX [(1,.ag (aq.lv p0).cells)] []) (LH.seq (LH.aj [(1,.ag (aq.lv p0).cells),(33,.ak 5 (p0.ae.map ai.lv)),(34,.I (p0.ae.length:Int)),(35,.I 0)] [] R (sN (aw dy dM ig R R R (sN (bf R dM j7 (sN (bX (f:=ai.lv) ic R (bl R zS))))))) (LH.block (LH.loop (fun n e m=>∃ (n6:Int),C9 F p0 n n6=some r∧e=Env.of [(1,.ag (aq.lv p0).cells),(33,.ak 5 (p0.ae.map ai.lv)),(34,.I (p0.ae.length:Int)),(35,.I n6)]∧m=Mem.of []) F ⟨0,h,R,R⟩ ?_))))))
  clear h
  rintro n e m ⟨n6,h,rfl,rfl⟩
  rcases n with _ | n
  · cases (show Option.none=some _ from h)
  obtain ⟨aH,ba⟩:∃ f,f=C9 F p0 n:=⟨_,rfl⟩
  replace h:Ge F p0 aH n6=some r:=ba ▸ h
  unfold Ge at h
  refine LH.aj [(1,.ag (aq.lv p0).cells),(33,.ak 5 (p0.ae.map ai.lv)),(34,.I (p0.ae.length:Int)),(35,.I n6),(36,.bool (decide (n6<(p0.ae.length:Int))))] [] R (sN (fi R R zS)) (LH.seq (LH.cond (t:=(decide (n6<(p0.ae.length:Int)))) R (fun ke=>?_) (fun ke=>?_)))
  ·replace h:=aB h ke
   refine LH.skip (av (LH.wk (aX [(1,.ag (aq.lv p0).cells),(33,.ak 5 (p0.ae.map ai.lv)),(34,.I (p0.ae.length:Int)),(35,.I n6)] []) (LH.seq (LH.block ?_))))
   obtain ⟨x8,ud,h⟩:=al h
   refine LH.aj [(1,.ag (aq.lv p0).cells),(3,.I n6),(4,.ag (ai.lv x8).cells),(33,.ak 5 (p0.ae.map ai.lv)),(34,.I (p0.ae.length:Int)),(35,.I n6)] [] R (bl R (sN (eW (f:=ai.lv) ic cG ct R R ai.ok ud R (sN (bh R cG fo ct R R (sN (kS (id:=104) R A7 R R (bo R (s_ (cV R R R cG ct R R R (s0 ((Wk.trans (aX [(1,.ag (aq.lv p0).cells),(3,.I n6),(4,.ptr 104 0),(33,.ak 5 (p0.ae.map ai.lv)),(34,.I (p0.ae.length:Int)),(35,.I n6)] [(104,.box (ai.lv x8).cells)]) (Wk.trans (Wk.bk 104 (ai.lv x8).cells R R R (bO R)) (Wk.eq R R R R))))))))))))))) ?_
   obtain ⟨Iq,hv,h⟩:=al h
   refine LH.aj [(1,.ag (aq.lv p0).cells),(33,.ak 5 (p0.ae.map ai.lv)),(34,.I (p0.ae.length:Int)),(35,.I n6),(56,.bool Iq)] [] R ?_ ?_
   ·refine sN (bh R cG fo ct R R ?_)
    obtain ⟨cJ,lz,hv⟩:=al hv
    refine sN (dU (args:=[ai.lv x8]) R Fv R (aK bt) (F5 lz) R (sN (kg R R (bI R ?_))))
    by_cases eh:(cJ != 0)=true
    ·replace hv:=aB hv eh
     refine sF R R eh (sF R R eh (sF R R eh (sF R R eh (sF R R eh (sN (aW (cB eh) (v:=(.bool _)) R (bI R (sF R R R (sF R R R (sF R R R (sF R R R (sF R R R (sN (aW R (v:=(.bool _)) R ?_))))))))))))))
     obtain rfl:=oI hv
     exact zS
    ·replace eh:=bF eh
     replace hv:=aA hv eh
     refine sT R (cB eh) (aw e6 aE bb R R R (sT R (cB eh) (bf R aE bN (sT R (cB eh) (aw fY aE bb R R R (sT R (cB eh) (bf R aE bN (sT R (cB eh) (kg R R (sN (aV (cB eh) (v:=(.bool _)) R (bI R ?_))))))))))))
     by_cases bS:(x8.ID != p0.ID)=true
     ·replace hv:=aB hv bS
      refine sF R R bS (sF R R bS (sF R R bS (sF R R bS (sF R R bS (sN (aW (cB bS) (v:=(.bool _)) R ?_))))))
      obtain rfl:=oI hv
      exact zS
     ·replace bS:=bF bS
      replace hv:=aA hv bS
      refine sT R (cB bS) (aw fE aE bb R R R (sT R (cB bS) (bf R aE bN (sT R (cB bS) (oM (v:=(.int _ _)) R (sT R (cB bS) (cr R R (sT R (cB bS) (kg R R (sN (aV (cB bS) (v:=(.bool _)) R ?_)))))))))))
      obtain rfl:=oI hv
      exact zS
   clear hv
   refine LH.cond (t:=Iq) R (fun zT=>?_) (fun zT=>?_)
   ·replace h:=aB h zT
    refine LH.aj [(2,.bool false)] [] R (cm R zS) (LH.ret (bL (aZ (dY (bL (aZ ?_))))))
    obtain rfl:=oI h
    exact aS (aT Tryz.results64) (bR R (bP ⟨aR mN,R,a8 R,Sub.rfl⟩))
   replace h:=aA h zT
   refine LH.skip (aY (av (LH.aQ [(1,.ag (aq.lv p0).cells),(33,.ak 5 (p0.ae.map ai.lv)),(34,.I (p0.ae.length:Int)),(35,.I (i64 (n6+1)))] [] R (sN (cr R R (bl R zS))) ?_)))
   exact bg ⟨(i64 (n6+1)),ba ▸ h,R,R⟩ (Wk.eq R R R R)
  replace h:=aA h ke
  refine LH.exit (cv (bY (bM (av (LH.wk (aX [(1,.ag (aq.lv p0).cells)] []) (LH.seq (LH.aj [(1,.ag (aq.lv p0).cells),(59,.ak 3 (p0.Uses.map az.lv)),(60,.I (p0.Uses.length:Int)),(61,.I 0)] [] R (sN (aw ej eu jj R R R (sN (bf R eu lj (sN (bX (f:=az.lv) jt R (bl R zS))))))) (LH.block (LH.loop (fun n e m=>∃ (n15:Int),AF p0 n n15=some r∧e=Env.of [(1,.ag (aq.lv p0).cells),(59,.ak 3 (p0.Uses.map az.lv)),(60,.I (p0.Uses.length:Int)),(61,.I n15)]∧m=Mem.of []) F ⟨0,h,R,R⟩ ?_)))))))))
  clear h
  rintro n e m ⟨n15,h,rfl,rfl⟩
  rcases n with _ | n
  · cases (show Option.none=some _ from h)
  obtain ⟨eH,dO⟩:∃ f,f=AF p0 n:=⟨_,rfl⟩
  replace h:Gf p0 eH n15=some r:=dO ▸ h
  unfold Gf at h
  refine LH.aj [(1,.ag (aq.lv p0).cells),(59,.ak 3 (p0.Uses.map az.lv)),(60,.I (p0.Uses.length:Int)),(61,.I n15),(62,.bool (decide (n15<(p0.Uses.length:Int))))] [] R (sN (fi R R zS)) (LH.seq (LH.cond (t:=(decide (n15<(p0.Uses.length:Int)))) R (fun gE=>?_) (fun gE=>?_)))
  ·replace h:=aB h gE
   refine LH.skip (av (LH.wk (aX [(1,.ag (aq.lv p0).cells),(59,.ak 3 (p0.Uses.map az.lv)),(60,.I (p0.Uses.length:Int)),(61,.I n15)] []) (LH.seq (LH.block ?_))))
   obtain ⟨nK,uc,h⟩:=al h
   refine LH.aj [(1,.ag (aq.lv p0).cells),(6,.ag [.I nK.Version,.I nK.Form,.I nK.Time]),(59,.ak 3 (p0.Uses.map az.lv)),(60,.I (p0.Uses.length:Int)),(61,.I n15)] [] R (sN (eW (f:=az.lv) jt wy nI R R az.ok uc R (sN (bh R wy P7 nI R R (sN (kS (id:=106) R Ik R R (s_ (cV R R R wy nI R R R (s0 ((Wk.trans (aX [(1,.ag (aq.lv p0).cells),(6,.ptr 106 0),(59,.ak 3 (p0.Uses.map az.lv)),(60,.I (p0.Uses.length:Int)),(61,.I n15)] [(106,.box [.I nK.Version,.I nK.Form,.I nK.Time])]) (Wk.trans (Wk.bk 106 [.I nK.Version,.I nK.Form,.I nK.Time] R R R (bO R)) (Wk.eq R R R R))))))))))))) (LH.aj [(1,.ag (aq.lv p0).cells),(59,.ak 3 (p0.Uses.map az.lv)),(60,.I (p0.Uses.length:Int)),(61,.I n15),(75,.bool ((decide (nK.Version<1)) || (decide (nK.Version > (p0.ae.length:Int)))))] [] R ?_ ?_)
   ·refine sN (aw oT aE bb R R R (sN (bf R aE bN (sN (fi R R (bI R ?_))))))
    by_cases lU:(decide (nK.Version<1))=true
    ·exact sF R R lU (sF R R lU (sF R R lU (sF R R lU (sF R R lU (sF R R lU (sN (aW (cB lU) (v:=(.bool _)) R (s0 (Wk.to (eC R (eC R (eC R (eC R (eC (cB (p7 lU)) eN))))) mN R (a8 R))))))))))
    ·replace lU:=bF lU
     exact sT R (cB lU) (aw oT aE bb R R R (sT R (cB lU) (bf R aE bN (sT R (cB lU) (aw dy dM ig R R R (sT R (cB lU) (bf R dM j7 (sT R (cB lU) (bX (f:=ai.lv) ic R (sT R (cB lU) (iw R R (sN (aV (cB lU) (v:=(.bool _)) R (s0 (Wk.to (eC R (eC R (eC R (eC R (eC (cB (iJ lU)) eN))))) mN R (a8 R))))))))))))))))
   refine LH.cond (t:=((decide (nK.Version<1)) || (decide (nK.Version > (p0.ae.length:Int))))) R (fun jb=>?_) (fun jb=>?_)
   ·replace h:=aB h jb
    refine LH.aj [(2,.bool false)] [] R (cm R zS) (LH.ret (bL (aZ (dY (bL (aZ ?_))))))
    obtain rfl:=oI h
    exact aS (aT Tryz.results64) (bR R (bP ⟨aR mN,R,a8 R,Sub.rfl⟩))
   replace h:=aA h jb
   refine LH.skip (aY (av (LH.aQ [(1,.ag (aq.lv p0).cells),(59,.ak 3 (p0.Uses.map az.lv)),(60,.I (p0.Uses.length:Int)),(61,.I (i64 (n15+1)))] [] R (sN (cr R R (bl R zS))) ?_)))
   exact bg ⟨(i64 (n15+1)),dO ▸ h,R,R⟩ (Wk.eq R R R R)
  replace h:=aA h gE
  refine LH.exit (cv (bY (bM (av (LH.aj [(2,.bool true)] [] R (cm R zS) (LH.ret ?_))))))
  obtain rfl:=oI h
  exact aS (aT Tryz.results64) (bR R (bP ⟨aR mN,R,a8 R,Sub.rfl⟩))
theorem PJ {F:Nat} {p0:aM} {r:Bool} (h:yo F p0=some r):aP Tryz.prog 35 [.agg [.ak 5 (p0.aa.map aq.lv)]] (Mem.of []) (.bool r) (Mem.of []):=by
  unfold yo at h
  refine bu Tryz.func35 R (nT Tryz.ntmps35 R) (LH.wk (aX [(0,.agg [.ak 5 (p0.aa.map aq.lv)])] []) (LH.aj [(1,.ag [.ak 5 (p0.aa.map aq.lv)])] [] R (sB (dp R R R R (cm R zS))) (LH.seq (LH.aj [(1,.ag [.ak 5 (p0.aa.map aq.lv)]),(8,.bool (decide ((p0.aa.length:Int) > 40)))] [] R (sN (aw ca cc dA R R R (sN (bf R cc fD (sN (bX (f:=aq.lv) dZ R (sN (iw R R zS)))))))) (LH.cond (t:=(decide ((p0.aa.length:Int) > 40))) R (fun jw=>?_) (fun jw=>?_))))))
  ·replace h:=aB h jw
   refine LH.aj [(2,.bool false)] [] R (cm R zS) (LH.ret (aZ ?_))
   obtain rfl:=oI h
   exact aS (aT Tryz.results35) (bR R (bP ⟨aR mN,R,a8 R,Sub.rfl⟩))
  replace h:=aA h jw
  refine LH.skip (av (LH.wk (aX [(1,.ag [.ak 5 (p0.aa.map aq.lv)])] []) (LH.seq (LH.aj [(1,.ag [.ak 5 (p0.aa.map aq.lv)]),(10,.ak 5 (p0.aa.map aq.lv)),(11,.I (p0.aa.length:Int)),(12,.I 0)] [] R (sN (aw ca cc dA R R R (sN (bf R cc fD (sN (bX (f:=aq.lv) dZ R (bl R zS))))))) (LH.block (LH.loop (fun n e m=>∃ (n2:Int),uU F p0 n n2=some r∧e=Env.of [(1,.ag [.ak 5 (p0.aa.map aq.lv)]),(10,.ak 5 (p0.aa.map aq.lv)),(11,.I (p0.aa.length:Int)),(12,.I n2)]∧m=Mem.of []) F ⟨0,h,R,R⟩ ?_))))))
  clear h
  rintro n e m ⟨n2,h,rfl,rfl⟩
  rcases n with _ | n
  · cases (show Option.none=some _ from h)
  obtain ⟨aH,ba⟩:∃ f,f=uU F p0 n:=⟨_,rfl⟩
  replace h:xN F p0 aH n2=some r:=ba ▸ h
  unfold xN at h
  refine LH.aj [(1,.ag [.ak 5 (p0.aa.map aq.lv)]),(10,.ak 5 (p0.aa.map aq.lv)),(11,.I (p0.aa.length:Int)),(12,.I n2),(13,.bool (decide (n2<(p0.aa.length:Int))))] [] R (sN (fi R R zS)) (LH.seq (LH.cond (t:=(decide (n2<(p0.aa.length:Int)))) R (fun iC=>?_) (fun iC=>?_)))
  ·replace h:=aB h iC
   refine LH.skip (av (LH.wk (aX [(1,.ag [.ak 5 (p0.aa.map aq.lv)]),(10,.ak 5 (p0.aa.map aq.lv)),(11,.I (p0.aa.length:Int)),(12,.I n2)] []) (LH.seq (LH.block ?_))))
   obtain ⟨x4,CM,h⟩:=al h
   refine LH.aj [(1,.ag [.ak 5 (p0.aa.map aq.lv)]),(3,.I n2),(4,.ag (aq.lv x4).cells),(10,.ak 5 (p0.aa.map aq.lv)),(11,.I (p0.aa.length:Int)),(12,.I n2)] [] R (bl R (sN (eW (f:=aq.lv) dZ dh cK R R aq.ok CM R (sN (bh R dh js cK R R (sN (kS (id:=104) R tK R R (bo R (s_ (cV R R R dh cK R R R (s0 ((Wk.trans (aX [(1,.ag [.ak 5 (p0.aa.map aq.lv)]),(3,.I n2),(4,.ptr 104 0),(10,.ak 5 (p0.aa.map aq.lv)),(11,.I (p0.aa.length:Int)),(12,.I n2)] [(104,.box (aq.lv x4).cells)]) (Wk.trans (Wk.bk 104 (aq.lv x4).cells R R R (bO R)) (Wk.eq R R R R))))))))))))))) ?_
   obtain ⟨w6,hv,h⟩:=al h
   refine LH.c7 mixed [] [0,0,0,0,0,0,0,0,0,0,0,0,0,0,0,0,0,0,0] [(1,.ag [.ak 5 (p0.aa.map aq.lv)]),(10,.ak 5 (p0.aa.map aq.lv)),(11,.I (p0.aa.length:Int)),(12,.I n2),(35,.bool w6)] [] R R (by kernel_rfl) ?_ ?_
   ·refine eV R (aF (iw R R ⟨R,iF R ?_⟩))
    by_cases bT:(decide (n2 > 0))=true
    ·replace hv:=aB hv bT
     refine mT R (cB bT) (aF (aw ca cc dA R R R ⟨R,mT R (cB bT) (aF (bf R cc fD ⟨R,mT R (cB bT) (eV R (mT R (cB bT) (aF (iG R R ⟨R,?_⟩))))⟩))⟩))
     obtain ⟨x8,ud,hv⟩:=al hv
     refine mT R (cB bT) (aF (eW (f:=aq.lv) dZ dh cK R R aq.ok ud R ⟨R,mT R (cB bT) (aF (aw fY aE bb R R R ⟨R,mT R (cB bT) (aF (bf R aE bN ⟨R,mT R (cB bT) (aF (aw fY aE bb R R R ⟨R,mT R (cB bT) (aF (bf R aE bN ⟨R,mT R (cB bT) (aF (pD R R ⟨R,aF (aW (cB bT) (v:=(.bool _)) R ⟨R,iF R ?_⟩)⟩))⟩))⟩))⟩))⟩))⟩))
     by_cases cP:(decide (x8.ID ≥ x4.ID))=true
     ·replace hv:=aB hv cP
      refine mF R R cP (mF R R cP (mF R R cP (aF (aW (cB cP) (v:=(.bool _)) R ⟨R,?_⟩))))
      obtain rfl:=oI hv
      exact zM
     ·replace cP:=bF cP
      replace hv:=aA hv cP
      refine mT R (cB cP) (aF (bh R dh js cK R R ⟨R,?_⟩))
      obtain ⟨dG,p5,hv⟩:=al hv
      refine mT R (cB cP) (aF (dU (args:=[aq.lv x4]) R I6 R (aK bt) (Jo p5) R ⟨R,mT R (cB cP) (aF (kp R ⟨R,aF (aV (cB cP) (v:=(.bool _)) R ⟨R,?_⟩)⟩))⟩))
      obtain rfl:=oI hv
      exact zM
    ·replace bT:=bF bT
     replace hv:=aA hv bT
     refine mF R R bT (mF R R bT (mF R R bT (mF R R bT (mF R R bT (mF R R bT (mF R R bT (mF R R bT (mF R R bT (mF R R bT (aF (aV (cB bT) (v:=(.bool _)) R ⟨R,iF R (mT R R (aF (bh R dh js cK R R ⟨R,?_⟩)))⟩)))))))))))
     obtain ⟨cJ,lz,hv⟩:=al hv
     refine mT R R (aF (dU (args:=[aq.lv x4]) R I6 R (aK bt) (Jo lz) R ⟨R,mT R R (aF (kp R ⟨R,aF (aV R (v:=(.bool _)) R ⟨R,?_⟩)⟩))⟩))
     obtain rfl:=oI hv
     exact zM
   clear hv
   refine LH.cond (t:=w6) R (fun gD=>?_) (fun gD=>?_)
   ·replace h:=aB h gD
    refine LH.aj [(2,.bool false)] [] R (cm R zS) (LH.ret (bL (aZ (dY (bL (aZ ?_))))))
    obtain rfl:=oI h
    exact aS (aT Tryz.results35) (bR R (bP ⟨aR mN,R,a8 R,Sub.rfl⟩))
   replace h:=aA h gD
   refine LH.skip (aY (av (LH.aQ [(1,.ag [.ak 5 (p0.aa.map aq.lv)]),(10,.ak 5 (p0.aa.map aq.lv)),(11,.I (p0.aa.length:Int)),(12,.I (i64 (n2+1)))] [] R (sN (cr R R (bl R zS))) ?_)))
   exact bg ⟨(i64 (n2+1)),ba ▸ h,R,R⟩ (Wk.eq R R R R)
  replace h:=aA h iC
  refine LH.exit (cv (bY (bM (av (LH.aj [(2,.bool true)] [] R (cm R zS) (LH.ret ?_))))))
  obtain rfl:=oI h
  exact aS (aT Tryz.results35) (bR R (bP ⟨aR mN,R,a8 R,Sub.rfl⟩))
theorem Pf {p0:az} {c0:Int} {c1:Int} {r:Bool} (h:xM p0 c0 c1=some r):aP Tryz.prog 37 [.agg [.I p0.Version,.I p0.Form,.I p0.Time],.ag [.I c0],.ag [.I c1]] (Mem.of []) (.bool r) (Mem.of []):=by
  unfold xM at h
  refine bu Tryz.func37 R (nT Tryz.ntmps37 R) (LH.wk (aX [(0,.agg [.I p0.Version,.I p0.Form,.I p0.Time]),(1,.ag [.I c0]),(2,.ag [.I c1])] []) (LH.aj [(1,.ag [.I c0]),(2,.ag [.I c1]),(3,.ag [.I p0.Version,.I p0.Form,.I p0.Time])] [] R (sB (dp R R R R (cm R zS))) (LH.aj [(4,.bool (decide (p0.Time > (i64 (c0 - c1)))))] [] R (sN (aw wx aE bb R R R (sN (bf R aE bN (sN (bf R aE bN (sN (bf R aE bN (sN (iG R R (sN (iw R R (cm R zS))))))))))))) (LH.ret ?_))))
  obtain rfl:=oI h
  exact aS (aT Tryz.results37) (bR R (bP ⟨aR mN,R,a8 R,Sub.rfl⟩))
theorem BS {F:Nat} {p0:aM} {p1:Int} {p2:Int} {p3:Int} {r:List aG} (h:yz F p0 p1 p2 p3=some r):aP Tryz.prog 16 [.agg [.ak 5 (p0.aa.map aq.lv)],.I p1,.I p2,.I p3] (Mem.of []) (.ak 2 (r.map aG.lv)) (Mem.of []):=by
  unfold yz at h
  refine bu Tryz.func16 R (nT Tryz.ntmps16 R) (LH.wk (aX [(0,.agg [.ak 5 (p0.aa.map aq.lv)]),(1,.I p1),(2,.I p2),(3,.I p3)] []) (LH.aj [(3,.I p3),(4,.ag [.ak 5 (p0.aa.map aq.lv)]),(5,.ag [.I p1]),(6,.ag [.I p2])] [] R (sB (dp R R R R (sB (dp R R R R (sB (dp R R R R (kh R zS))))))) (LH.seq ?_)))
  obtain ⟨w2,hv,h⟩:=al h
  refine LH.aj [(3,.I p3),(4,.ag [.ak 5 (p0.aa.map aq.lv)]),(5,.ag [.I p1]),(6,.ag [.I p2]),(35,.bool w2)] [] R ?_ ?_
  ·refine sN (bh R bA cD bB R R ?_)
   obtain ⟨r3,nf,hv⟩:=al hv
   refine sN (dU (args:=[.agg [.ak 5 (p0.aa.map aq.lv)]]) R N7 R (aK bt) (PJ nf) R (sN (kp R (bI R ?_))))
   by_cases bJ:(!r3)=true
   ·replace hv:=aB hv bJ
    refine sF R R bJ (sF R R bJ (sN (aW (cB bJ) (v:=(.bool _)) R (bI R (sF R R R (sF R R R (sN (aW R (v:=(.bool _)) R (bI R (sF R R R (sF R R R (sN (aW R (v:=(.bool _)) R (bI R (sF R R R (sF R R R (sN (aW R (v:=(.bool _)) R (bI R (sF R R R (sF R R R (sN (aW R (v:=(.bool _)) R ?_)))))))))))))))))))))))
    obtain rfl:=oI hv
    exact zS
   ·replace bJ:=bF bJ
    replace hv:=aA hv bJ
    refine sT R (cB bJ) (bf R aE bN (sT R (cB bJ) (fi R R (sN (aV (cB bJ) (v:=(.bool _)) R (bI R ?_))))))
    by_cases bK:(decide (p1<0))=true
    ·replace hv:=aB hv bK
     refine sF R R bK (sF R R bK (sN (aW (cB bK) (v:=(.bool _)) R (bI R (sF R R R (sF R R R (sN (aW R (v:=(.bool _)) R (bI R (sF R R R (sF R R R (sN (aW R (v:=(.bool _)) R (bI R (sF R R R (sF R R R (sN (aW R (v:=(.bool _)) R ?_))))))))))))))))))
     obtain rfl:=oI hv
     exact zS
    ·replace bK:=bF bK
     replace hv:=aA hv bK
     refine sT R (cB bK) (bf R aE bN (sT R (cB bK) (iw R R (sN (aV (cB bK) (v:=(.bool _)) R (bI R ?_))))))
     by_cases b3:(decide (p1 > 1000000))=true
     ·replace hv:=aB hv b3
      refine sF R R b3 (sF R R b3 (sN (aW (cB b3) (v:=(.bool _)) R (bI R (sF R R R (sF R R R (sN (aW R (v:=(.bool _)) R (bI R (sF R R R (sF R R R (sN (aW R (v:=(.bool _)) R ?_)))))))))))))
      obtain rfl:=oI hv
      exact zS
     ·replace b3:=bF b3
      replace hv:=aA hv b3
      refine sT R (cB b3) (bf R aE bN (sT R (cB b3) (fi R R (sN (aV (cB b3) (v:=(.bool _)) R (bI R ?_))))))
      by_cases bT:(decide (p2<0))=true
      ·replace hv:=aB hv bT
       refine sF R R bT (sF R R bT (sN (aW (cB bT) (v:=(.bool _)) R (bI R (sF R R R (sF R R R (sN (aW R (v:=(.bool _)) R ?_))))))))
       obtain rfl:=oI hv
       exact zS
      ·replace bT:=bF bT
       replace hv:=aA hv bT
       refine sT R (cB bT) (bf R aE bN (sT R (cB bT) (iw R R (sN (aV (cB bT) (v:=(.bool _)) R (bI R ?_))))))
       by_cases c6:(decide (p2 > 1000000))=true
       ·replace hv:=aB hv c6
        refine sF R R c6 (sF R R c6 (sN (aW (cB c6) (v:=(.bool _)) R ?_)))
        obtain rfl:=oI hv
        exact zS
       ·replace c6:=bF c6
        replace hv:=aA hv c6
        refine sT R (cB c6) (oM (v:=(.int _ _)) R (sT R (cB c6) (fi R R (sN (aV (cB c6) (v:=(.bool _)) R ?_)))))
        obtain rfl:=oI hv
        exact zS
  clear hv
  refine LH.cond (t:=w2) R (fun sy=>?_) (fun sy=>?_)
  ·replace h:=aB h sy
   refine LH.aj [(8,.nil)] [] R (kh R zS) (LH.ret (aZ ?_))
   obtain rfl:=oI h
   exact aS (aT Tryz.results16) (bR R (bP ⟨aR mN,R,a8 R,Sub.nil⟩))
  replace h:=aA h sy
  refine LH.skip (av (LH.aj [(3,.I p3),(4,.ag [.ak 5 (p0.aa.map aq.lv)]),(5,.ag [.I p1]),(6,.ag [.I p2]),(9,.nil)] [] R (kh R zS) (LH.seq (LH.aj [(3,.I p3),(5,.ag [.I p1]),(6,.ag [.I p2]),(9,.nil),(37,.ak 5 (p0.aa.map aq.lv)),(38,.I (p0.aa.length:Int)),(39,.I 0)] [] R (sN (aw ca cc dA R R R (sN (bf R cc fD (sN (bX (f:=aq.lv) dZ R (bl R zS))))))) (LH.block (LH.wk ((Wk.trans (aX [(3,.I p3),(5,.ag [.I p1]),(6,.ag [.I p2]),(9,.nil),(37,.ak 5 (p0.aa.map aq.lv)),(38,.I (p0.aa.length:Int)),(39,.I 0)] []) (Wk.trans (aX [(3,.I p3),(5,.ag [.I p1]),(6,.ag [.I p2]),(9,.nil),(37,.ak 5 (p0.aa.map aq.lv)),(38,.I (p0.aa.length:Int)),(39,.I 0)] []) (Wk.trans (Wk.rl (fk:=[(3,.I p3),(5,.ag [.I p1]),(6,.ag [.I p2]),(9,.arr 176 (List.length ([]:List aG))),(37,.ak 5 (p0.aa.map aq.lv)),(38,.I (p0.aa.length:Int)),(39,.I 0)]) 176 43 2 R R (wK (wK (wK (wO (wK (wK (wK wN)))))))) (aX [(3,.I p3),(5,.ag [.I p1]),(6,.ag [.I p2]),(9,.arr 176 (List.length ([]:List aG))),(37,.ak 5 (p0.aa.map aq.lv)),(38,.I (p0.aa.length:Int)),(39,.I 0)] [(176,.arr 43 2 (List.map aG.lv ([]:List aG)))]))))) (LH.loop (fun n e m=>∃ (n10:Int) (cF:List aG),AM F p0 p1 p2 p3 n n10 cF=some r∧e=Env.of [(3,.I p3),(5,.ag [.I p1]),(6,.ag [.I p2]),(9,.arr 176 cF.length),(37,.ak 5 (p0.aa.map aq.lv)),(38,.I (p0.aa.length:Int)),(39,.I n10)]∧m=Mem.of [(176,.arr 43 2 (cF.map aG.lv))]) F ⟨0,([]:List aG),h,R,R⟩ ?_)))))))
  clear h
  rintro n e m ⟨n10,cF,h,rfl,rfl⟩
  rcases n with _ | n
  · cases (show Option.none=some _ from h)
  obtain ⟨aH,ba⟩:∃ f,f=AM F p0 p1 p2 p3 n:=⟨_,rfl⟩
  replace h:Gt F p0 p1 p2 p3 aH n10 cF=some r:=ba ▸ h
  unfold Gt at h
  refine LH.aj [(3,.I p3),(5,.ag [.I p1]),(6,.ag [.I p2]),(9,.arr 176 cF.length),(37,.ak 5 (p0.aa.map aq.lv)),(38,.I (p0.aa.length:Int)),(39,.I n10),(40,.bool (decide (n10<(p0.aa.length:Int))))] [(176,.arr 43 2 (cF.map aG.lv))] R (sN (fi R R zS)) (LH.seq (LH.cond (t:=(decide (n10<(p0.aa.length:Int)))) R (fun gD=>?_) (fun gD=>?_)))
  ·replace h:=aB h gD
   refine LH.skip (av (LH.wk (aX [(3,.I p3),(5,.ag [.I p1]),(6,.ag [.I p2]),(9,.arr 176 cF.length),(37,.ak 5 (p0.aa.map aq.lv)),(38,.I (p0.aa.length:Int)),(39,.I n10)] [(176,.arr 43 2 (cF.map aG.lv))]) (LH.seq (LH.block ?_))))
   obtain ⟨cT,lY,h⟩:=al h
   refine LH.aj [(3,.I p3),(5,.ag [.I p1]),(6,.ag [.I p2]),(9,.arr 176 cF.length),(11,.ag (aq.lv cT).cells),(37,.ak 5 (p0.aa.map aq.lv)),(38,.I (p0.aa.length:Int)),(39,.I n10)] [(176,.arr 43 2 (cF.map aG.lv))] R (sN (eW (f:=aq.lv) dZ dh cK R R aq.ok lY R (sN (bh R dh js cK R R (sN (kS (id:=111) R tK R R (s_ (cV R R R dh cK R R R (s0 ((Wk.trans (aX [(3,.I p3),(5,.ag [.I p1]),(6,.ag [.I p2]),(9,.arr 176 cF.length),(11,.ptr 111 0),(37,.ak 5 (p0.aa.map aq.lv)),(38,.I (p0.aa.length:Int)),(39,.I n10)] [(111,.box (aq.lv cT).cells),(176,.arr 43 2 (cF.map aG.lv))]) (Wk.trans (Wk.bk 111 (aq.lv cT).cells R R R (bO R)) (Wk.eq R R R R))))))))))))) (LH.seq (LH.aj [(3,.I p3),(5,.ag [.I p1]),(6,.ag [.I p2]),(9,.arr 176 cF.length),(11,.ag (aq.lv cT).cells),(37,.ak 5 (p0.aa.map aq.lv)),(38,.I (p0.aa.length:Int)),(39,.I n10),(51,.bool (cT.ab || (decide ((cT.Uses.length:Int) > p3))))] [(176,.arr 43 2 (cF.map aG.lv))] R ?_ ?_))
   ·refine sN (aw ju ka lQ R R R (sN (bf R ka wm (bI R ?_))))
    by_cases bV:cT.ab=true
    ·exact sF R R bV (sF R R bV (sF R R bV (sF R R bV (sF R R bV (sN (aW (cB bV) (v:=(.bool _)) R (s0 (Wk.to (eC R (eC R (eC R (eC R (eC R (eC R (eC R (eC R (eC (cB (p7 bV)) eN))))))))) ⟨R,trivial⟩ R (a8 R)))))))))
    ·replace bV:=bF bV
     exact sT R (cB bV) (aw ej eu jj R R R (sT R (cB bV) (bf R eu lj (sT R (cB bV) (bX (f:=az.lv) jt R (sT R (cB bV) (oM (v:=(.int _ _)) R (sT R (cB bV) (iw R R (sN (aV (cB bV) (v:=(.bool _)) R (s0 (Wk.to (eC R (eC R (eC R (eC R (eC R (eC R (eC R (eC R (eC (cB (iJ bV)) eN))))))))) ⟨R,trivial⟩ R (a8 R))))))))))))))
   refine LH.cond (t:=(cT.ab || (decide ((cT.Uses.length:Int) > p3)))) R (fun gE=>?_) (fun gE=>?_)
   ·replace h:=aB h gE
    refine LH.exit (cv (bM (av (LH.aQ [(3,.I p3),(5,.ag [.I p1]),(6,.ag [.I p2]),(9,.arr 176 cF.length),(37,.ak 5 (p0.aa.map aq.lv)),(38,.I (p0.aa.length:Int)),(39,.I (i64 (n10+1)))] [(176,.arr 43 2 (cF.map aG.lv))] R (sN (cr R R (bl R zS))) ?_))))
    exact bg ⟨(i64 (n10+1)),cF,ba ▸ h,R,R⟩ (Wk.eq R R R R)
   replace h:=aA h gE
   refine LH.skip (av (LH.wk (aX [(3,.I p3),(5,.ag [.I p1]),(6,.ag [.I p2]),(9,.arr 176 cF.length),(11,.ag (aq.lv cT).cells),(37,.ak 5 (p0.aa.map aq.lv)),(38,.I (p0.aa.length:Int)),(39,.I n10)] [(176,.arr 43 2 (cF.map aG.lv))]) (LH.seq ?_)))
   obtain ⟨ij,KC,h⟩:=al h
   refine LH.aj [(3,.I p3),(5,.ag [.I p1]),(6,.ag [.I p2]),(9,.arr 176 cF.length),(11,.ag (aq.lv cT).cells),(37,.ak 5 (p0.aa.map aq.lv)),(38,.I (p0.aa.length:Int)),(39,.I n10),(55,.bool ij)] [(176,.arr 43 2 (cF.map aG.lv))] R (sN (aw ej eu jj R R R (sN (bf R eu lj (sN (O4 (vs:=[.ag [.I p1],.ag [.I p2]]) R (sN (dU (args:=[.ak 3 (cT.Uses.map az.lv),.fn 37 [.ag [.I p1],.ag [.I p2]]]) R I1 R (aK (aK bt)) (Jk (dL:=37) (c4:=[.ag [.I p1],.ag [.I p2]]) N8 R (fun _ _ h=>Pf h) KC) R zS)))))))) (LH.cond (t:=ij) R (fun iB=>?_) (fun iB=>?_))
   ·replace h:=aB h iB
    refine LH.exit (cv (bM (av (LH.aQ [(3,.I p3),(5,.ag [.I p1]),(6,.ag [.I p2]),(9,.arr 176 cF.length),(37,.ak 5 (p0.aa.map aq.lv)),(38,.I (p0.aa.length:Int)),(39,.I (i64 (n10+1)))] [(176,.arr 43 2 (cF.map aG.lv))] R (sN (cr R R (bl R zS))) ?_))))
    exact bg ⟨(i64 (n10+1)),cF,ba ▸ h,R,R⟩ (Wk.eq R R R R)
   replace h:=aA h iB
   refine LH.skip (av (LH.aj [(3,.I p3),(5,.ag [.I p1]),(6,.ag [.I p2]),(9,.arr 176 cF.length),(11,.ag (aq.lv cT).cells),(12,.I (i64 ((cT.ah.length:Int) - 1))),(37,.ak 5 (p0.aa.map aq.lv)),(38,.I (p0.aa.length:Int)),(39,.I n10)] [(176,.arr 43 2 (cF.map aG.lv))] R (sN (aw eA eX ji R R R (sN (bf R eX nF (sN (bX (f:=LV.bool) j8 R (sN (iG R R (bo R zS))))))))) (LH.block (LH.loop (fun n e m=>∃ (n19:Int),AN aH n10 cF cT n n19=some r∧e=Env.of [(3,.I p3),(5,.ag [.I p1]),(6,.ag [.I p2]),(9,.arr 176 cF.length),(11,.ag (aq.lv cT).cells),(12,.I n19),(37,.ak 5 (p0.aa.map aq.lv)),(38,.I (p0.aa.length:Int)),(39,.I n10)]∧m=Mem.of [(176,.arr 43 2 (cF.map aG.lv))]) F ⟨(i64 ((cT.ah.length:Int) - 1)),h,R,R⟩ ?_))))
   clear h
   rintro n e m ⟨n19,h,rfl,rfl⟩
   rcases n with _ | n
   · cases (show Option.none=some _ from h)
   obtain ⟨eH,dO⟩:∃ f,f=AN aH n10 cF cT n:=⟨_,rfl⟩
   replace h:Gu aH n10 cF cT eH n19=some r:=dO ▸ h
   unfold Gu at h
   refine LH.seq (LH.aj [(3,.I p3),(5,.ag [.I p1]),(6,.ag [.I p2]),(9,.arr 176 cF.length),(11,.ag (aq.lv cT).cells),(12,.I n19),(37,.ak 5 (p0.aa.map aq.lv)),(38,.I (p0.aa.length:Int)),(39,.I n10),(61,.bool (decide (n19 ≥ 0)))] [(176,.arr 43 2 (cF.map aG.lv))] R (bl R (sN (pD R R zS))) (LH.cond (t:=(decide (n19 ≥ 0))) R (fun jb=>?_) (fun jb=>?_)))
   ·replace h:=aB h jb
    refine LH.skip (av (LH.wk (aX [(3,.I p3),(5,.ag [.I p1]),(6,.ag [.I p2]),(9,.arr 176 cF.length),(11,.ag (aq.lv cT).cells),(12,.I n19),(37,.ak 5 (p0.aa.map aq.lv)),(38,.I (p0.aa.length:Int)),(39,.I n10)] [(176,.arr 43 2 (cF.map aG.lv))]) (LH.seq (LH.block ?_))))
    obtain ⟨D1,Fo,h⟩:=al h
    refine LH.aj [(3,.I p3),(5,.ag [.I p1]),(6,.ag [.I p2]),(9,.arr 176 cF.length),(11,.ag (aq.lv cT).cells),(12,.I n19),(37,.ak 5 (p0.aa.map aq.lv)),(38,.I (p0.aa.length:Int)),(39,.I n10),(68,.bool D1)] [(176,.arr 43 2 (cF.map aG.lv))] R (sN (aw eA eX ji R R R (sN (bf R eX nF (bl R (sN (eW (f:=LV.bool) j8 ka lQ R R okB Fo R (sN (bf R ka wm zS))))))))) (LH.cond (t:=D1) R (fun lu=>?_) (fun lu=>?_))
    ·replace h:=aB h lu
     obtain ⟨v23,An,h⟩:=al h
     refine LH.aj [(3,.I p3),(5,.ag [.I p1]),(6,.ag [.I p2]),(9,.arr 176 v23.length),(37,.ak 5 (p0.aa.map aq.lv)),(38,.I (p0.aa.length:Int)),(39,.I n10)] [(176,.arr 43 2 (v23.map aG.lv))] R (j5 R (sN (aw fY aE bb R R R (sN (bf R aE bN (bl R (sN (cr R R (sN (gB (vs:=[(0,.I cT.ID),(1,.I (i64 (n19+1)))]) A5 A6 R (lf iN bb aE R R R (lf eS bb aE R R R gA)) (sN (jI (f:=aG.lv) (ys:=[(aG.mk cT.ID (i64 (n19+1)))]) mI Ii eJ R R R aG.ok (sN (my (f:=aG.lv) mI Ii eJ R R (bO R) R An (nE R zS))))))))))))))) (LH.exit (Ek R (cv (bY (bM (aY (av (LH.aQ [(3,.I p3),(5,.ag [.I p1]),(6,.ag [.I p2]),(9,.arr 176 v23.length),(37,.ak 5 (p0.aa.map aq.lv)),(38,.I (p0.aa.length:Int)),(39,.I (i64 (n10+1)))] [(176,.arr 43 2 (v23.map aG.lv))] R (sN (cr R R (bl R zS))) ?_))))))))
     exact bg ⟨(i64 (n10+1)),v23,ba ▸ h,R,R⟩ (Wk.eq R R R R)
    replace h:=aA h lu
    refine LH.skip (aY (av (LH.aQ [(3,.I p3),(5,.ag [.I p1]),(6,.ag [.I p2]),(9,.arr 176 cF.length),(11,.ag (aq.lv cT).cells),(12,.I (i64 (n19 - 1))),(37,.ak 5 (p0.aa.map aq.lv)),(38,.I (p0.aa.length:Int)),(39,.I n10)] [(176,.arr 43 2 (cF.map aG.lv))] R (bl R (sN (iG R R (bo R zS)))) ?_)))
    exact bg ⟨(i64 (n19 - 1)),dO ▸ h,R,R⟩ (Wk.eq R R R R)
   replace h:=aA h jb
   refine LH.exit (cv (bY (bM (aY (av (LH.aQ [(3,.I p3),(5,.ag [.I p1]),(6,.ag [.I p2]),(9,.arr 176 cF.length),(37,.ak 5 (p0.aa.map aq.lv)),(38,.I (p0.aa.length:Int)),(39,.I (i64 (n10+1)))] [(176,.arr 43 2 (cF.map aG.lv))] R (sN (cr R R (bl R zS))) ?_))))))
   exact bg ⟨(i64 (n10+1)),cF,ba ▸ h,R,R⟩ (Wk.eq R R R R)
  replace h:=aA h gD
  refine LH.exit (cv (bY (bM (av (LH.wk ((Wk.trans (aX [(9,.arr 176 cF.length)] [(176,.arr 43 2 (cF.map aG.lv))]) (Wk.trans (Wk.kL (f:=aG.lv) (fk:=[(9,.ak 2 (cF.map aG.lv))]) 176 43 2 cF R R (bO R) (fZ fN)) (aX [(9,.ak 2 (cF.map aG.lv))] [])))) (LH.aj [(8,.ak 2 (cF.map aG.lv))] [] R (eZ R (qb R zS)) (LH.ret ?_)))))))
  obtain rfl:=oI h
  exact aS (aT Tryz.results16) (bR R (bP ⟨aR mN,R,a8 R,Sub.rfl⟩))
theorem PE {F:Nat} {r:Bool} (h:yi F=some r):aP Tryz.prog 14 [] (Mem.of []) (.bool r) (Mem.of []):=by
  unfold yi at h
  refine bu Tryz.func14 R (nT Tryz.ntmps14 R) (LH.wk (aX [] []) (LH.aj [] [] R (cm R zS) (LH.aj [(1,.ag [.I 5,.I 1,.str (ByteArray.mk #[113]),.ak 6 (List.map ao.lv [(ao.mk 1 3 0 0 0 0)]),.nil])] [] R (sN (gB (vs:=[(0,.I 1),(1,.I 3)]) Qe GV R (lf oS bb aE R R R (lf mP bb aE R R R gA)) (sN (jI (f:=ao.lv) (ys:=[(ao.mk 1 3 0 0 0 0)]) gj A3 dB R R R ao.ok (sN (gB (vs:=[(0,.I 5),(1,.I 1),(2,.str (ByteArray.mk #[113])),(3,.ak 6 (List.map ao.lv [(ao.mk 1 3 0 0 0 0)]))]) Qc A7 R (lf e6 bb aE R R R (lf fE bb aE R R R (lf gJ wH oY R R R (lf cX fy cY R R R gA)))) (sN (kS (id:=101) R A7 R R (s_ (cV R R R cG ct R R R (s0 ((Wk.trans (aX [(1,.ptr 101 0)] [(101,.box [.I 5,.I 1,.str (ByteArray.mk #[113]),.ak 6 (List.map ao.lv [(ao.mk 1 3 0 0 0 0)]),.nil])]) (Wk.trans (Wk.bk 101 [.I 5,.I 1,.str (ByteArray.mk #[113]),.ak 6 (List.map ao.lv [(ao.mk 1 3 0 0 0 0)]),.nil] R R R (bO R)) (Wk.eq R R R R))))))))))))))) (LH.aj [(2,.ak 12 (List.map ax.lv ([(ax.mk (aL.mk 3 0 2) 4 (ai.mk 0 0 (ByteArray.mk #[]) [] []) (aG.mk 5 1) 9),(ax.mk (aL.mk 1 0 0) 1 (ai.mk 5 1 (ByteArray.mk #[113]) [(ao.mk 1 3 0 0 0 0)] []) (aG.mk 0 0) 0),(ax.mk (aL.mk 2 0 1) 3 (ai.mk 0 0 (ByteArray.mk #[]) [] []) (aG.mk 5 1) 0)])))] [] R (sN (gB (vs:=[(0,.I 3),(2,.I 2)]) GU uo R (lf e7 bb aE R R R (lf dz bb aE R R R gA)) (sN (gB (vs:=[(0,.I 5),(1,.I 1)]) A5 A6 R (lf iN bb aE R R R (lf eS bb aE R R R gA)) (sN (gB (vs:=[(0,.agg [.I 3,.I 0,.I 2]),(1,.I 4),(3,.agg [.I 5,.I 1]),(4,.I 9)]) Ij y7 R (lf db bW b6 R R R (lf e8 bb aE R R R (lf eT eJ fg R R R (lf kR bb aE R R R gA)))) (sN (gB (vs:=[(0,.I 1)]) GU uo R (lf e7 bb aE R R R gA) (sN (bh R cG fo ct R R (sN (gB (vs:=[(0,.agg [.I 1,.I 0,.I 0]),(1,.I 1),(2,.agg [.I 5,.I 1,.str (ByteArray.mk #[113]),.ak 6 (List.map ao.lv [(ao.mk 1 3 0 0 0 0)]),.nil])]) Ij y7 R (lf db bW b6 R R R (lf e8 bb aE R R R (lf e9 ct cG R R R gA))) (sN (gB (vs:=[(0,.I 2),(2,.I 1)]) GU uo R (lf e7 bb aE R R R (lf dz bb aE R R R gA)) (sN (gB (vs:=[(0,.I 5),(1,.I 1)]) A5 A6 R (lf iN bb aE R R R (lf eS bb aE R R R gA)) (sN (gB (vs:=[(0,.agg [.I 2,.I 0,.I 1]),(1,.I 3),(3,.agg [.I 5,.I 1])]) Ij y7 R (lf db bW b6 R R R (lf e8 bb aE R R R (lf eT eJ fg R R R gA))) (sX (Lo (f:=ax.lv) (ys:=[(ax.mk (aL.mk 3 0 2) 4 (ai.mk 0 0 (ByteArray.mk #[]) [] []) (aG.mk 5 1) 9),(ax.mk (aL.mk 1 0 0) 1 (ai.mk 5 1 (ByteArray.mk #[113]) [(ao.mk 1 3 0 0 0 0)] []) (aG.mk 0 0) 0),(ax.mk (aL.mk 2 0 1) 3 (ai.mk 0 0 (ByteArray.mk #[]) [] []) (aG.mk 5 1) 0)]) gn y2 ew R R R (Th R R R (Th R R R (Th R R R V8))) (rq (Sub.agg (aK (aK (aK (aK (aK (aK (aK (yI (yI (aK (aK (aK bt))))))))))))) (rq (Sub.agg (aK (aK (aK (aK (aK (aK (aK (aK (yI (aK (aK (aK bt))))))))))))) (rq (Sub.agg (aK (aK (aK (aK (aK (aK (aK (yI (yI (aK (aK (aK bt))))))))))))) bt))) ax.ok) (qb R zS)))))))))))))))))))) ?_))))
  obtain ⟨r1,ec,h⟩:=al h
  refine LH.aj [(3,.ag [.ak 5 (r1.1.aa.map aq.lv)]),(4,.ak 3 (r1.2.1.map b7.lv)),(5,.I r1.2.2)] [] R (eZ R (sN (dU (args:=[.ak 12 (List.map ax.lv ([(ax.mk (aL.mk 3 0 2) 4 (ai.mk 0 0 (ByteArray.mk #[]) [] []) (aG.mk 5 1) 9),(ax.mk (aL.mk 1 0 0) 1 (ai.mk 5 1 (ByteArray.mk #[113]) [(ao.mk 1 3 0 0 0 0)] []) (aG.mk 0 0) 0),(ax.mk (aL.mk 2 0 1) 3 (ai.mk 0 0 (ByteArray.mk #[]) [] []) (aG.mk 5 1) 0)])),.I 100]) R NW R (aK (aK bt)) (PO ec) R (yH R (sN (iO R R (sN (iO R R (sN (iO R R (sN (kS (id:=103) R fF R R (s_ (cV R R R bA bB R R R (qb R (bo R (s0 ((Wk.trans (aX [(3,.ptr 103 0),(4,.ak 3 (r1.2.1.map b7.lv)),(5,.I r1.2.2)] [(103,.box [.ak 5 (r1.1.aa.map aq.lv)])]) (Wk.trans (Wk.bk 103 [.ak 5 (r1.1.aa.map aq.lv)] R R R (bO R)) (Wk.eq R R R R))))))))))))))))))))) ?_
  obtain ⟨r2,fz,h⟩:=al h
  refine LH.aj [(3,.ag [.ak 5 (r1.1.aa.map aq.lv)]),(4,.ak 3 (r1.2.1.map b7.lv)),(5,.I r1.2.2),(6,.ak 2 (r2.map aG.lv))] [] R (sN (bh R bA cD bB R R (sN (dU (args:=[.agg [.ak 5 (r1.1.aa.map aq.lv)],.I 10,.I 7,.I 1]) R BC R (aK (aK (aK (aK bt)))) (BS fz) R (qb R zS))))) ?_
  obtain ⟨w4,hv,h⟩:=al h
  refine LH.aj [(0,.bool w4)] [] R ?_ ?_
  ·refine bl R (sN (gm R R (bI R ?_)))
   by_cases bK:(r1.2.2 == 0)=true
   ·replace hv:=aB hv bK
    refine sT R (cB bK) (oM (v:=(.ak _ _)) R (sT R (cB bK) (bX (f:=b7.lv) mH R (sT R (cB bK) (gm R R (sN (aW (cB bK) (v:=(.bool _)) R (bI R ?_))))))))
    by_cases b3:((r1.2.1.length:Int) == 0)=true
    ·replace hv:=aB hv b3
     refine sT R (cB b3) (oM (v:=(.ak _ _)) R (sT R (cB b3) (bX (f:=aG.lv) mI R (sT R (cB b3) (gm R R (sN (aW (cB b3) (v:=(.bool _)) R (bI R ?_))))))))
     by_cases bT:((r2.length:Int) == 1)=true
     ·replace hv:=aB hv bT
      refine sT R (cB bT) (oM (v:=(.ak _ _)) R ?_)
      obtain ⟨x8,ud,hv⟩:=al hv
      refine sT R (cB bT) (eW (f:=aG.lv) mI fg eJ R R aG.ok ud R (sT R (cB bT) (bh R fg qf eJ R R (sT R (cB bT) (gB (vs:=[(0,.I 5),(1,.I 1)]) A5 A6 R (lf iN bb aE R R R (lf eS bb aE R R R gA)) (sT R (cB bT) (CU R R (Eg x8 (aG.mk 5 1)) (sN (aW (cB bT) (v:=(.bool _)) R (bI R ?_))))))))))
      by_cases cP:(decide (x8=(aG.mk 5 1)))=true
      ·replace hv:=aB hv cP
       refine sT R (cB cP) (bh R bA cD bB R R ?_)
       obtain ⟨dG,p5,hv⟩:=al hv
       refine sT R (cB cP) (dU (args:=[.agg [.ak 5 (r1.1.aa.map aq.lv)],.I 10,.I 8,.I 1]) R BC R (aK (aK (aK (aK bt)))) (BS p5) R (sT R (cB cP) (bX (f:=aG.lv) mI R (sT R (cB cP) (gm R R (sN (aW (cB cP) (v:=(.bool _)) R (cm R ?_))))))))
       obtain rfl:=oI hv
       exact zS
      ·replace cP:=bF cP
       replace hv:=aA hv cP
       refine sF R R cP (sF R R cP (sF R R cP (sF R R cP (sN (aV (cB cP) (v:=(.bool _)) R (cm R ?_))))))
       obtain rfl:=oI hv
       exact zS
     ·replace bT:=bF bT
      replace hv:=aA hv bT
      refine sF R R bT (sF R R bT (sF R R bT (sF R R bT (sF R R bT (sN (aV (cB bT) (v:=(.bool _)) R (bI R (sF R R R (sF R R R (sF R R R (sF R R R (sN (aV R (v:=(.bool _)) R (cm R ?_))))))))))))))
      obtain rfl:=oI hv
      exact zS
    ·replace b3:=bF b3
     replace hv:=aA hv b3
     refine sF R R b3 (sF R R b3 (sF R R b3 (sN (aV (cB b3) (v:=(.bool _)) R (bI R (sF R R R (sF R R R (sF R R R (sF R R R (sF R R R (sN (aV R (v:=(.bool _)) R (bI R (sF R R R (sF R R R (sF R R R (sF R R R (sN (aV R (v:=(.bool _)) R (cm R ?_))))))))))))))))))))
     obtain rfl:=oI hv
     exact zS
   ·replace bK:=bF bK
    replace hv:=aA hv bK
    refine sF R R bK (sF R R bK (sF R R bK (sN (aV (cB bK) (v:=(.bool _)) R (bI R (sF R R R (sF R R R (sF R R R (sN (aV R (v:=(.bool _)) R (bI R (sF R R R (sF R R R (sF R R R (sF R R R (sF R R R (sN (aV R (v:=(.bool _)) R (bI R (sF R R R (sF R R R (sF R R R (sF R R R (sN (aV R (v:=(.bool _)) R (cm R ?_))))))))))))))))))))))))))
    obtain rfl:=oI hv
    exact zS
  clear hv
  refine LH.ret ?_
  obtain rfl:=oI h
  exact aS (aT Tryz.results14) (bR R (bP ⟨aR mN,R,a8 R,Sub.rfl⟩))
end Go.Proofs.YtmollikhdbaikaaGreat
